/-
  NARROWER THAN 'FOR EVERY INPUT', by the rows' own cells (each row's printed sentence says how): ValueMakes: loops · ValueSames: loops · WriteRows: loops · WriteVaries: loops · WriteOwn: loops.
  DERIVED. THE GIVEN ROWS OF THIS SEAT. 6 by the template 'for every input the law returns true; each argument reads behind the call as it read before'; 0 by the template 'total and deterministic' (their statements: YthmcbcofipehhaaTotals.lean).
  GIVEN WITH THE SEED: the statements are not yours to turn. If you find one false, say at which input.
  Laid BY PROGRAM, IN A SANDBOX (cutbox-rows.mjs): the forced cells as the released guide's own fill.sh prints them over the translation 91e3a08bf5c4f74b… (all of the seat's roots in one cut). By AI agents, Wed Nov 11 2026. No macro, syntax, notation, axiom, sorry.
-/
import Derived.Test.YthmcbcofipehhaaChecked
import GoSem.Claim
import GoSem.ClaimJoined
import GoSem.ClaimMapViews
import Derived.JoinedTies
import Derived.KernelRfl
namespace Go.Proofs.Ythmcbcofipehhaa
/- THE CELL 'sum', in the pinned program and in every row, IS THE sha256 OF THE DUMP (.gsa) THAT YthmcbcofipehhaaProg.lean LOADS. Nothing in Lean hashes anything: it is a label: what it is worth is what the hold of that sum in a sandbox is worth. -/
noncomputable def Try.pinned : Pinned := { name := "ythmcbcofipehhaa", sum := "91e3a08bf5c4f74be95aceba8db443dba17e17dcec8b6967901a118097d099c1", checked := Try.checked }
namespace Rows
def none {H : Type} : Left H := { results := [], args := [] }

/-- 'passepartoutlaw05.ValueMakes': WHATEVER THE INPUT: true; the input reads as it did. -/
def valueMakesSpec : ChangeSpec := { name := "valueMakes", fn := fun _ => fun
  | [d1, d2, d3] => { results := [.lit (.bool true)], args := [d1, d2, d3] }
  | _ => none }
def valueMakesRow : OpenClaim := { program := "ythmcbcofipehhaa", sum := "91e3a08bf5c4f74be95aceba8db443dba17e17dcec8b6967901a118097d099c1", func := "passepartout/passepartoutlaw05.ValueMakes", spec := "valueMakes", unfollowed := true, recurses := true, loops := true, apart := false }
def ValueMakesSaid : Prop := valueMakesRow.holds Try.pinned (OpenSpec.ofChange valueMakesSpec)

/-- ITS FALSE NEIGHBOUR: 'it returns false'. Refute it at one input. -/
def valueMakesWrong : ChangeSpec := { name := "valueMakes", fn := fun _ => fun
  | [d1, d2, d3] => { results := [.lit (.bool false)], args := [d1, d2, d3] }
  | _ => none }
def ValueMakesWrongFalsely : Prop := valueMakesRow.holds Try.pinned (OpenSpec.ofChange valueMakesWrong)

/-- 'passepartoutlaw05.ValueNumbers': WHATEVER THE INPUT: true; the input reads as it did. -/
def valueNumbersSpec : ChangeSpec := { name := "valueNumbers", fn := fun _ => fun
  | [d1, d2, d3] => { results := [.lit (.bool true)], args := [d1, d2, d3] }
  | _ => none }
def valueNumbersRow : OpenClaim := { program := "ythmcbcofipehhaa", sum := "91e3a08bf5c4f74be95aceba8db443dba17e17dcec8b6967901a118097d099c1", func := "passepartout/passepartoutlaw05.ValueNumbers", spec := "valueNumbers", unfollowed := true, recurses := true, apart := false }
def ValueNumbersSaid : Prop := valueNumbersRow.holds Try.pinned (OpenSpec.ofChange valueNumbersSpec)

/-- ITS FALSE NEIGHBOUR: 'it returns false'. Refute it at one input. -/
def valueNumbersWrong : ChangeSpec := { name := "valueNumbers", fn := fun _ => fun
  | [d1, d2, d3] => { results := [.lit (.bool false)], args := [d1, d2, d3] }
  | _ => none }
def ValueNumbersWrongFalsely : Prop := valueNumbersRow.holds Try.pinned (OpenSpec.ofChange valueNumbersWrong)

/-- 'passepartoutlaw05.ValueSames': WHATEVER THE INPUT: true; the input reads as it did. -/
def valueSamesSpec : ChangeSpec := { name := "valueSames", fn := fun _ => fun
  | [d1, d2] => { results := [.lit (.bool true)], args := [d1, d2] }
  | _ => none }
def valueSamesRow : OpenClaim := { program := "ythmcbcofipehhaa", sum := "91e3a08bf5c4f74be95aceba8db443dba17e17dcec8b6967901a118097d099c1", func := "passepartout/passepartoutlaw05.ValueSames", spec := "valueSames", unfollowed := true, recurses := true, loops := true, apart := false }
def ValueSamesSaid : Prop := valueSamesRow.holds Try.pinned (OpenSpec.ofChange valueSamesSpec)

/-- ITS FALSE NEIGHBOUR: 'it returns false'. Refute it at one input. -/
def valueSamesWrong : ChangeSpec := { name := "valueSames", fn := fun _ => fun
  | [d1, d2] => { results := [.lit (.bool false)], args := [d1, d2] }
  | _ => none }
def ValueSamesWrongFalsely : Prop := valueSamesRow.holds Try.pinned (OpenSpec.ofChange valueSamesWrong)

/-- 'passepartoutlaw07.WriteRows': WHATEVER THE INPUT: true; the input reads as it did. -/
def writeRowsSpec : ChangeSpec := { name := "writeRows", fn := fun _ => fun
  | [d1, d2, d3] => { results := [.lit (.bool true)], args := [d1, d2, d3] }
  | _ => none }
def writeRowsRow : OpenClaim := { program := "ythmcbcofipehhaa", sum := "91e3a08bf5c4f74be95aceba8db443dba17e17dcec8b6967901a118097d099c1", func := "passepartout/passepartoutlaw07.WriteRows", spec := "writeRows", unfollowed := true, recurses := true, loops := true, apart := false }
def WriteRowsSaid : Prop := writeRowsRow.holds Try.pinned (OpenSpec.ofChange writeRowsSpec)

/-- ITS FALSE NEIGHBOUR: 'it returns false'. Refute it at one input. -/
def writeRowsWrong : ChangeSpec := { name := "writeRows", fn := fun _ => fun
  | [d1, d2, d3] => { results := [.lit (.bool false)], args := [d1, d2, d3] }
  | _ => none }
def WriteRowsWrongFalsely : Prop := writeRowsRow.holds Try.pinned (OpenSpec.ofChange writeRowsWrong)

/-- 'passepartoutlaw07.WriteVaries': WHATEVER THE INPUT: true; the input reads as it did. -/
def writeVariesSpec : ChangeSpec := { name := "writeVaries", fn := fun _ => fun
  | [d1, d2, d3] => { results := [.lit (.bool true)], args := [d1, d2, d3] }
  | _ => none }
def writeVariesRow : OpenClaim := { program := "ythmcbcofipehhaa", sum := "91e3a08bf5c4f74be95aceba8db443dba17e17dcec8b6967901a118097d099c1", func := "passepartout/passepartoutlaw07.WriteVaries", spec := "writeVaries", unfollowed := true, recurses := true, loops := true, apart := false }
def WriteVariesSaid : Prop := writeVariesRow.holds Try.pinned (OpenSpec.ofChange writeVariesSpec)

/-- ITS FALSE NEIGHBOUR: 'it returns false'. Refute it at one input. -/
def writeVariesWrong : ChangeSpec := { name := "writeVaries", fn := fun _ => fun
  | [d1, d2, d3] => { results := [.lit (.bool false)], args := [d1, d2, d3] }
  | _ => none }
def WriteVariesWrongFalsely : Prop := writeVariesRow.holds Try.pinned (OpenSpec.ofChange writeVariesWrong)

/-- 'passepartoutlaw07.WriteOwn': WHATEVER THE INPUT: true; the input reads as it did. -/
def writeOwnSpec : ChangeSpec := { name := "writeOwn", fn := fun _ => fun
  | [d1, d2] => { results := [.lit (.bool true)], args := [d1, d2] }
  | _ => none }
def writeOwnRow : OpenClaim := { program := "ythmcbcofipehhaa", sum := "91e3a08bf5c4f74be95aceba8db443dba17e17dcec8b6967901a118097d099c1", func := "passepartout/passepartoutlaw07.WriteOwn", spec := "writeOwn", unfollowed := true, recurses := true, loops := true, apart := false }
def WriteOwnSaid : Prop := writeOwnRow.holds Try.pinned (OpenSpec.ofChange writeOwnSpec)

/-- ITS FALSE NEIGHBOUR: 'it returns false'. Refute it at one input. -/
def writeOwnWrong : ChangeSpec := { name := "writeOwn", fn := fun _ => fun
  | [d1, d2] => { results := [.lit (.bool false)], args := [d1, d2] }
  | _ => none }
def WriteOwnWrongFalsely : Prop := writeOwnRow.holds Try.pinned (OpenSpec.ofChange writeOwnWrong)

/- THE SECOND FORM. 'bulk': how many values and letters a reading holds, each counted each time it is reached (what is shared counts as often as it is met; a slice's spare places count too). A statement '..UptoSaid' is the law's where the arguments, and the package variables that the reading takes, are together of bulk at most 1048576: NARROWER than '..Said'. Prove '..Said' where nothing that the law and all that it calls make is longer than what came in: it says more and counts as full. Else prove '..UptoSaid'. A law counts once. -/
mutual
def uptoBulk {H : Type} : DataW H → Nat
  | .lit (.string bytes) => bytes.length + 1
  | .lit _ => 1
  | .nil => 1
  | .ptr d => uptoBulk d + 1
  | .slice elems spare => uptoBulkAll elems + uptoBulkAll spare + 1
  | .agg parts => uptoBulkAll parts + 1
  | .iface _ d => uptoBulk d + 1
  | .map entries => uptoBulkEntries entries + 1
  | .held _ => 1
def uptoBulkAll {H : Type} : List (DataW H) → Nat
  | [] => 0
  | d :: r => uptoBulk d + uptoBulkAll r
def uptoBulkEntries {H : Type} : List (Lit × DataW H) → Nat
  | [] => 0
  | x :: r => uptoBulkEntry x + uptoBulkEntries r
def uptoBulkEntry {H : Type} : Lit × DataW H → Nat
  | (.string bytes, d) => bytes.length + uptoBulk d + 1
  | (_, d) => uptoBulk d + 1
 end
def uptoSmall : (H : Type) → List (DataW H) → Bool := fun _ ds => decide (uptoBulkAll ds ≤ 1048576)
def OpenSpec.upto (s : _root_.Go.ChangeSpec) : _root_.Go.OpenSpec := { _root_.Go.OpenSpec.ofChange s with cond := some uptoSmall }

/-- 'passepartoutlaw05.ValueMakes', WHERE WHAT IT READS IS OF BULK AT MOST 1048576: true; the input reads as it did. -/
def valueMakesUptoRow : OpenClaim := { program := "ythmcbcofipehhaa", sum := "91e3a08bf5c4f74be95aceba8db443dba17e17dcec8b6967901a118097d099c1", func := "passepartout/passepartoutlaw05.ValueMakes", spec := "valueMakes", unfollowed := true, recurses := true, loops := true, apart := false, narrowed := true }
def ValueMakesUptoSaid : Prop := valueMakesUptoRow.holds Try.pinned (OpenSpec.upto valueMakesSpec)

/-- 'passepartoutlaw05.ValueNumbers', WHERE WHAT IT READS IS OF BULK AT MOST 1048576: true; the input reads as it did. -/
def valueNumbersUptoRow : OpenClaim := { program := "ythmcbcofipehhaa", sum := "91e3a08bf5c4f74be95aceba8db443dba17e17dcec8b6967901a118097d099c1", func := "passepartout/passepartoutlaw05.ValueNumbers", spec := "valueNumbers", unfollowed := true, recurses := true, apart := false, narrowed := true }
def ValueNumbersUptoSaid : Prop := valueNumbersUptoRow.holds Try.pinned (OpenSpec.upto valueNumbersSpec)

/-- 'passepartoutlaw05.ValueSames', WHERE WHAT IT READS IS OF BULK AT MOST 1048576: true; the input reads as it did. -/
def valueSamesUptoRow : OpenClaim := { program := "ythmcbcofipehhaa", sum := "91e3a08bf5c4f74be95aceba8db443dba17e17dcec8b6967901a118097d099c1", func := "passepartout/passepartoutlaw05.ValueSames", spec := "valueSames", unfollowed := true, recurses := true, loops := true, apart := false, narrowed := true }
def ValueSamesUptoSaid : Prop := valueSamesUptoRow.holds Try.pinned (OpenSpec.upto valueSamesSpec)

/-- 'passepartoutlaw07.WriteRows', WHERE WHAT IT READS IS OF BULK AT MOST 1048576: true; the input reads as it did. -/
def writeRowsUptoRow : OpenClaim := { program := "ythmcbcofipehhaa", sum := "91e3a08bf5c4f74be95aceba8db443dba17e17dcec8b6967901a118097d099c1", func := "passepartout/passepartoutlaw07.WriteRows", spec := "writeRows", unfollowed := true, recurses := true, loops := true, apart := false, narrowed := true }
def WriteRowsUptoSaid : Prop := writeRowsUptoRow.holds Try.pinned (OpenSpec.upto writeRowsSpec)

/-- 'passepartoutlaw07.WriteVaries', WHERE WHAT IT READS IS OF BULK AT MOST 1048576: true; the input reads as it did. -/
def writeVariesUptoRow : OpenClaim := { program := "ythmcbcofipehhaa", sum := "91e3a08bf5c4f74be95aceba8db443dba17e17dcec8b6967901a118097d099c1", func := "passepartout/passepartoutlaw07.WriteVaries", spec := "writeVaries", unfollowed := true, recurses := true, loops := true, apart := false, narrowed := true }
def WriteVariesUptoSaid : Prop := writeVariesUptoRow.holds Try.pinned (OpenSpec.upto writeVariesSpec)

/-- 'passepartoutlaw07.WriteOwn', WHERE WHAT IT READS IS OF BULK AT MOST 1048576: true; the input reads as it did. -/
def writeOwnUptoRow : OpenClaim := { program := "ythmcbcofipehhaa", sum := "91e3a08bf5c4f74be95aceba8db443dba17e17dcec8b6967901a118097d099c1", func := "passepartout/passepartoutlaw07.WriteOwn", spec := "writeOwn", unfollowed := true, recurses := true, loops := true, apart := false, narrowed := true }
def WriteOwnUptoSaid : Prop := writeOwnUptoRow.holds Try.pinned (OpenSpec.upto writeOwnSpec)

end Rows
end Go.Proofs.Ythmcbcofipehhaa
