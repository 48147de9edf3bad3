import Derived.Test.YthmcbcofipehhaaB0
import Derived.Outline
import Derived.IntWalk
import Derived.BigQuiet
/-! Regions that draw their order and whose calls make memory: one walk serves every order, the class of worlds being 'what lies above w'. -/
namespace Go.Proofs.Ythmcbcofipehhaa.B
open Go.RowKit Go.Proofs.YthmcbcofipehhaaW.PrintWords Go.Proofs.YthmcbcofipehhaaW.PrintLast Go.Proofs.YthmcbcofipehhaaW.PrintMore
def Up (w : World) : Type := {W : World // Below w.heap.size w W}
def Up.val {w : World} (s : Up w) : World := Subtype.val s
instance upSome (w : World) : Nonempty (Up w) := ⟨⟨w, Below.refl _ _⟩⟩
theorem Up.below {w : World} (s : Up w) : Below w.heap.size w s.val := Subtype.property s
theorem up_cell {w : World} {a : Addr} {v : Value} (h : w.cell? a = some v) : ∀ s : Up w, s.val.cell? a = some v := fun s => (s.below.cell (World.block_lt_of_cell? w a h)).trans h
theorem wp_region_up {P : Program} {id : Nat} {Q : Exit → Act → World → Prop} {a : Act} {w : World} {l : List Oper} (hm : P.follows .mixedOrders = true) (hB : Region.lexB .any l.toArray = true)
    (h : wpQuiet P l.toArray (fun w' => ∃ s : Up w, w' = s.val) (fun a' => ∀ w', (∃ s : Up w, w' = s.val) → Q .normal a' w') l a) : (Code.region id l.toArray true).wp P Q a w :=
  wp_region_quiet (C := fun w' => ∃ s : Up w, w' = s.val) hm hB ⟨⟨w.drew, below_drew1 (Below.refl _ _)⟩, rfl⟩ (by simpa using h)
theorem up_of {P : Program} {f : FuncId} {args : Array Value} {w : World} {s : Up w} {v : Value} (h : Calls P f args s.val fun e w' => e = .returned v ∧ Below s.val.heap.size s.val w') :
    Calls P f args s.val fun e w'' => e = .returned v ∧ ∃ s' : Up w, w'' = s'.val :=
  h.mono fun _ w' ⟨he, hb⟩ => ⟨he, ⟨w', below_then s.below s.below.size hb⟩, rfl⟩
theorem up_same {P : Program} {f : FuncId} {args : Array Value} {w : World} {s : Up w} {v : Value} (h : Calls P f args s.val fun e w' => e = .returned v ∧ w' = s.val) :
    Calls P f args s.val fun e w'' => e = .returned v ∧ ∃ s' : Up w, w'' = s'.val :=
  h.mono fun _ _ ⟨he, hb⟩ => ⟨he, s, hb⟩
end Go.Proofs.Ythmcbcofipehhaa.B
