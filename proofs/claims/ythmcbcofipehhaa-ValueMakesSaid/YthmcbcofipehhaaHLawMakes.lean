import Derived.Test.YthmcbcofipehhaaHPure5
import Derived.Test.YthmcbcofipehhaaHAlive
import Derived.Test.YthmcbcofipehhaaHOpen
import Derived.Test.YthmcbcofipehhaaHLawSames
namespace Go.Proofs.Ythmcbcofipehhaa.B
open Go.RowKit Go.Proofs.YthmcbcofipehhaaW.PrintWords Go.Proofs.YthmcbcofipehhaaW.PrintLast Go.Proofs.YthmcbcofipehhaaW.PrintMore
set_option linter.unusedVariables false
set_option linter.unusedSimpArgs false
set_option maxHeartbeats 4000000 in
set_option maxRecDepth 100000 in
theorem ValueMakes_any (x : Int) (A : Option Addr) (c : Nat) (b : List Int) (B : Option Addr) (d : Nat) (l : List S32) (w : World)
  (hr : Kd.C (Kd.int .u8) w A b.length b) (hc : b.length ≤ c) (hr2 : Kd.C k32 w B l.length l) (hd : l.length ≤ d) :
    Calls Try.prog 3 #[.int .u64 x, .slice A b.length c, .slice B l.length d] w fun e w' => e = .returned (.bool true) ∧ Below w.heap.size w w' := by
  have hu32 := Try.underlying32
  have hu29 := Try.underlying29
  have R1 := Aside0.mk hr
  have R2 := Aside0.mk hr2
  have C1 := Aside0.mk hc
  have C2 := Aside0.mk hd
  clear hr hr2 hc hd
  have HB := Aside0.mk (Below.refl w.heap.size w)
  go_enter Try.func3, Try.ntmps3
  go_wp2_with fail
  refine (alive_any _).mono ?_
  rintro e w1 ⟨rfl, hb⟩
  have HB1 := Aside0.mk (below_step HB.out hb)
  clear hb HB
  go_wp2_with fail
  refine (Great_any f00 l none 0 _ _ _ (Kd.C_nil _ _) (Nat.le_refl 0) (Kd.C_below R2.out HB1.out) C2.out).mono ?_
  rintro e w2 ⟨rfl, hb⟩
  have HB2 := Aside0.mk (below_step HB1.out hb)
  clear hb HB1
  have late : ∀ W : World, Below w.heap.size w W → Calls Try.prog 9 #[] W fun e w' => e = .returned (.bool true) ∧ Below w.heap.size w w' := fun W hW => (alive_any _).mono fun e w' ⟨h1, h2⟩ => ⟨h1, below_step hW h2⟩
  have LATE := Aside0.mk late
  clear late
  by_cases hg : 0 < greatT f00 l
  case pos =>
    have gb : decide (0 < greatT f00 l) = true := decide_eq_true hg
    clear hg
    go_wp2_with fail
    refine (LATE.out _ HB2.out).mono ?_
    rintro e w3 ⟨rfl, HB3⟩
    have HB3 := Aside0.mk HB3
    go_wp2
    go_ret
    exact ⟨rfl, HB3.out⟩
  case neg =>
  have gb : decide (0 < greatT f00 l) = false := decide_eq_false hg
  clear hg
  by_cases hl : (50 : Int) < (l.length : Int)
  case pos =>
    have gl : decide ((50 : Int) < (l.length : Int)) = true := decide_eq_true hl
    clear hl
    go_wp2_with fail
    refine (LATE.out _ HB2.out).mono ?_
    rintro e w3 ⟨rfl, HB3⟩
    have HB3 := Aside0.mk HB3
    go_wp2
    go_ret
    exact ⟨rfl, HB3.out⟩
  case neg =>
  have gl : decide ((50 : Int) < (l.length : Int)) = false := decide_eq_false hl
  have LM := Aside0.mk (show l.length ≤ 1000000000 by omega)
  clear hl
  by_cases hl : (1000 : Int) < (b.length : Int)
  case pos =>
    have gk : decide ((1000 : Int) < (b.length : Int)) = true := decide_eq_true hl
    clear hl
    go_wp2_with fail
    refine (LATE.out _ HB2.out).mono ?_
    rintro e w3 ⟨rfl, HB3⟩
    have HB3 := Aside0.mk HB3
    go_wp2
    go_ret
    exact ⟨rfl, HB3.out⟩
  case neg =>
  have gk : decide ((1000 : Int) < (b.length : Int)) = false := decide_eq_false hl
  have BM := Aside0.mk (show b.length ≤ 1000000000 by omega)
  clear hl
  go_wp2_with fail
  refine (Number_any x _).mono ?_
  rintro e w3 ⟨rfl, hb⟩
  have HB3 := Aside0.mk (below_step HB2.out hb)
  clear hb HB2
  go_wp2_with fail
  refine (Same5_any _ ⟨x, [], []⟩ (Nat.lt_succ_self _) ⟨x, [], []⟩ none 0 none 0 none 0 none 0 _ (Kd.C_nil _ _) (Nat.le_refl 0) (Kd.C_nil _ _) (Nat.le_refl 0) (Kd.C_nil _ _) (Nat.le_refl 0) (Kd.C_nil _ _) (Nat.le_refl 0)).mono ?_
  rw [sameT_refl]
  rintro e w4 ⟨rfl, hb⟩
  have HB4 := Aside0.mk (below_step HB3.out hb)
  clear hb HB3
  go_wp2_with fail
  refine (Bytes_any b BM.out A c _ (Kd.C_below R1.out HB4.out) C1.out).mono ?_
  rintro e w5 ⟨A', c', rfl, hc', hrb, hb⟩
  have HB5 := Aside0.mk (below_step HB4.out hb)
  have RB := Aside0.mk hrb
  have CB := Aside0.mk hc'
  clear hb HB4 hrb hc'
  go_wp2_with fail
  refine (Same5_any _ ⟨0, b, []⟩ (Nat.lt_succ_self _) ⟨0, b, []⟩ A' c' none 0 A c none 0 _ RB.out CB.out (Kd.C_nil _ _) (Nat.le_refl 0) (Kd.C_below R1.out HB5.out) C1.out (Kd.C_nil _ _) (Nat.le_refl 0)).mono ?_
  rw [sameT_refl]
  rintro e w6 ⟨rfl, hb⟩
  have HB6 := Aside0.mk (below_step HB5.out hb)
  clear hb HB5 RB CB
  go_wp2_with fail
  refine (List_any l LM.out B d _ (Kd.C_below R2.out HB6.out) C2.out).mono ?_
  rintro e w7 ⟨A7, c7, rfl, hc', hrb, hb⟩
  have HB7 := Aside0.mk (below_step HB6.out hb)
  have RB := Aside0.mk hrb
  have CB := Aside0.mk hc'
  clear hb HB6 hrb hc'
  go_wp2_with fail
  refine (Same5_any _ ⟨0, [], l⟩ (Nat.lt_succ_self _) ⟨0, [], l⟩ none 0 A7 c7 none 0 B d _ (Kd.C_nil _ _) (Nat.le_refl 0) RB.out CB.out (Kd.C_nil _ _) (Nat.le_refl 0) (Kd.C_below R2.out HB7.out) C2.out).mono ?_
  rw [sameT_refl]
  rintro e w8 ⟨rfl, hb⟩
  have HB8 := Aside0.mk (below_step HB7.out hb)
  clear hb HB7 RB CB
  go_wp2
  go_ret
  exact ⟨rfl, HB8.out⟩
theorem ValueMakes_row (x : Int) (A : Option Addr) (c : Nat) (b : List Int) (B : Option Addr) (d : Nat) (l : List S32) (w : World)
  (hr : Kd.C (Kd.int .u8) w A b.length b) (hc : b.length ≤ c) (hr2 : Kd.C k32 w B l.length l) (hd : l.length ≤ d) {p q r : Prop} (_ : p) (_ : q) (_ : r) :
    Calls Try.prog 3 #[.int .u64 x, .slice A b.length c, .slice B l.length d] w fun e w' => e = .returned (.bool true) ∧ Below w.heap.size w w' :=
  ValueMakes_any x A c b B d l w hr hc hr2 hd
end Go.Proofs.Ythmcbcofipehhaa.B
