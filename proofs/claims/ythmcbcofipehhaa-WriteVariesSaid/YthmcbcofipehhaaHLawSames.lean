import Derived.Test.YthmcbcofipehhaaHPure5
import Derived.Test.YthmcbcofipehhaaHAlive
import Derived.Test.YthmcbcofipehhaaHOpen
namespace Go.Proofs.Ythmcbcofipehhaa.B
open Go.RowKit Go.Proofs.YthmcbcofipehhaaW.PrintWords Go.Proofs.YthmcbcofipehhaaW.PrintLast Go.Proofs.YthmcbcofipehhaaW.PrintMore
set_option linter.unusedVariables false
set_option linter.unusedSimpArgs false
/-- Two values, laid side by side by the text, read as a row. -/
theorem twoC {w : World} {g : Nat} {x y : S32} {A1 A2 B1 B2 : Option Addr} {c1 c2 d1 d2 : Nat} (h : w.heap[g]? = some (.cells #[.int .u64 x.f0, .slice A1 x.f1.length c1, .slice A2 x.f2.length c2, .int .u64 y.f0, .slice B1 y.f1.length d1, .slice B2 y.f2.length d2] 32 (0, 0)))
    (hr1 : Kd.C (Kd.int .u8) w A1 x.f1.length x.f1) (hc1 : x.f1.length ≤ c1) (hr2 : Kd.C k32 w A2 x.f2.length x.f2) (hc2 : x.f2.length ≤ c2) (hs1 : Kd.C (Kd.int .u8) w B1 y.f1.length y.f1) (hd1 : y.f1.length ≤ d1) (hs2 : Kd.C k32 w B2 y.f2.length y.f2) (hd2 : y.f2.length ≤ d2) :
    Kd.C k32 w (some ⟨g, 0, none⟩) 2 [x, y] := by
  refine ⟨rfl, by decide, fun _ => ⟨_, rfl, fun j p hj => ?_⟩⟩
  rcases j with _ | _ | j
  · have : p = x := by simpa using hj.symm
    subst this
    refine ⟨_, rfl, k32_mk w p hc1 hr1 hc2 hr2, fun i u hi => ?_⟩
    have hi3 : i < 3 := by have := (List.getElem?_eq_some_iff.1 hi).1; simpa using this
    rw [add_plain]
    show w.cell? ⟨g, 0 * 3 + i, none⟩ = some u
    rw [blk_cell h, ← hi]
    rcases i with _ | _ | _ | i
    · rfl
    · rfl
    · rfl
    · omega
  · have : p = y := by simpa using hj.symm
    subst this
    refine ⟨_, rfl, k32_mk w p hd1 hs1 hd2 hs2, fun i u hi => ?_⟩
    have hi3 : i < 3 := by have := (List.getElem?_eq_some_iff.1 hi).1; simpa using this
    rw [add_plain]
    show w.cell? ⟨g, 1 * 3 + i, none⟩ = some u
    rw [blk_cell h, ← hi]
    rcases i with _ | _ | _ | i
    · rfl
    · rfl
    · rfl
    · omega
  · simp at hj
def f00 : S29 := ⟨0, 0, 0, 0, 0, []⟩
set_option maxHeartbeats 4000000 in
set_option maxRecDepth 100000 in
theorem ValueSames_any (x y : S32) (A1 : Option Addr) (c1 : Nat) (A2 : Option Addr) (c2 : Nat) (B1 : Option Addr) (d1 : Nat) (B2 : Option Addr) (d2 : Nat) (w : World)
  (hr1 : Kd.C (Kd.int .u8) w A1 x.f1.length x.f1) (hc1 : x.f1.length ≤ c1) (hr2 : Kd.C k32 w A2 x.f2.length x.f2) (hc2 : x.f2.length ≤ c2) (hs1 : Kd.C (Kd.int .u8) w B1 y.f1.length y.f1) (hd1 : y.f1.length ≤ d1) (hs2 : Kd.C k32 w B2 y.f2.length y.f2) (hd2 : y.f2.length ≤ d2) :
    Calls Try.prog 5 #[.agg #[.int .u64 x.f0, .slice A1 x.f1.length c1, .slice A2 x.f2.length c2], .agg #[.int .u64 y.f0, .slice B1 y.f1.length d1, .slice B2 y.f2.length d2]] w fun e w' => e = .returned (.bool true) ∧ Below w.heap.size w w' := by
  have hu32 := Try.underlying32
  have hu29 := Try.underlying29
  have R1 := Aside0.mk hr1
  have R2 := Aside0.mk hr2
  have S1 := Aside0.mk hs1
  have S2 := Aside0.mk hs2
  have C1 := Aside0.mk hc1
  have C2 := Aside0.mk hc2
  have D1 := Aside0.mk hd1
  have D2 := Aside0.mk hd2
  clear hr1 hc1 hr2 hc2 hs1 hd1 hs2 hd2
  have HB := Aside0.mk (Below.refl w.heap.size w)
  go_enter Try.func5, Try.ntmps5
  go_wp2_with fail
  refine (alive_any _).mono ?_
  rintro e w1 ⟨rfl, hb⟩
  have h' := heap_alloc_new (w.alloc (.cells #[.int .u64 x.f0, .slice A1 x.f1.length c1, .slice A2 x.f2.length c2] 32)) (.cells #[.int .u64 y.f0, .slice B1 y.f1.length d1, .slice B2 y.f2.length d2] 32)
  rw [World.size_alloc] at h'
  have BX := Aside0.mk (blk_below (blk_alloc (heap_alloc_new w _) _) hb)
  have BY := Aside0.mk (blk_below h' hb)
  have HB1 := Aside0.mk (below_step (below_alloc (below_alloc HB.out _) _) hb)
  clear hb h' HB
  have hx0 : w1.cell? ⟨w.heap.size, 0, none⟩ = some (.int .u64 x.f0) := (blk_cell BX.out 0).trans rfl
  have hx1 : w1.cell? ⟨w.heap.size, 1, none⟩ = some (.slice A1 x.f1.length c1) := (blk_cell BX.out 1).trans rfl
  have hx2 : w1.cell? ⟨w.heap.size, 2, none⟩ = some (.slice A2 x.f2.length c2) := (blk_cell BX.out 2).trans rfl
  have hy0 : w1.cell? ⟨w.heap.size + 1, 0, none⟩ = some (.int .u64 y.f0) := (blk_cell BY.out 0).trans rfl
  have hy1 : w1.cell? ⟨w.heap.size + 1, 1, none⟩ = some (.slice B1 y.f1.length d1) := (blk_cell BY.out 1).trans rfl
  have hy2 : w1.cell? ⟨w.heap.size + 1, 2, none⟩ = some (.slice B2 y.f2.length d2) := (blk_cell BY.out 2).trans rfl
  go_wp2_with fail
  have HBa := Aside0.mk (below_alloc HB1.out (.cells #[.int .u64 x.f0, .slice A1 x.f1.length c1, .slice A2 x.f2.length c2, .int .u64 y.f0, .slice B1 y.f1.length d1, .slice B2 y.f2.length d2] 32))
  refine (Great_any f00 [x, y] none 0 _ _ _ (Kd.C_nil _ _) (Nat.le_refl 0) (twoC (heap_alloc_new _ _) (Kd.C_below R1.out HBa.out) C1.out (Kd.C_below R2.out HBa.out) C2.out (Kd.C_below S1.out HBa.out) D1.out (Kd.C_below S2.out HBa.out) D2.out) (Nat.le_refl _)).mono ?_
  rintro e w2 ⟨rfl, hb⟩
  have BX2 := Aside0.mk (blk_below (blk_alloc BX.out _) hb)
  have BY2 := Aside0.mk (blk_below (blk_alloc BY.out _) hb)
  have HB2 := Aside0.mk (below_step HBa.out hb)
  clear hb HBa HB1 BX BY hx0 hx1 hx2 hy0 hy1 hy2
  by_cases hg : 0 < greatT f00 [x, y]
  case pos =>
    have gb : decide (0 < greatT f00 [x, y]) = true := decide_eq_true hg
    clear hg
    go_wp2_with fail
    refine (alive_any _).mono ?_
    rintro e w3 ⟨rfl, hb⟩
    have HB3 := Aside0.mk (below_step HB2.out hb)
    clear hb
    go_wp2
    go_ret
    exact ⟨rfl, HB3.out⟩
  case neg =>
    have gb : decide (0 < greatT f00 [x, y]) = false := decide_eq_false hg
    have CE := Aside0.mk (count_cnt (great_count hg x (by simp)).1)
    clear hg
    have u0 := up_cell ((blk_cell BX2.out 0).trans rfl)
    have u1 := up_cell ((blk_cell BX2.out 1).trans rfl)
    have u2 := up_cell ((blk_cell BX2.out 2).trans rfl)
    have v0 := up_cell ((blk_cell BY2.out 0).trans rfl)
    have v1 := up_cell ((blk_cell BY2.out 1).trans rfl)
    have v2 := up_cell ((blk_cell BY2.out 2).trans rfl)
    have X1 := Aside0.mk (Kd.C_below R1.out HB2.out)
    have X2 := Aside0.mk (Kd.C_below R2.out HB2.out)
    have Y1 := Aside0.mk (Kd.C_below S1.out HB2.out)
    have Y2 := Aside0.mk (Kd.C_below S2.out HB2.out)
    have sxy : ∀ s : Up w2, Calls Try.prog 17 #[.agg #[.int .u64 x.f0, .slice A1 x.f1.length c1, .slice A2 x.f2.length c2], .agg #[.int .u64 y.f0, .slice B1 y.f1.length d1, .slice B2 y.f2.length d2]] s.val fun e w' => e = .returned (.bool (sameT x y)) ∧ Below s.val.heap.size s.val w' := fun s =>
      Same_any _ x (Nat.lt_succ_self _) y _ _ _ _ _ _ _ _ _ (Kd.C_below X1.out s.below) C1.out (Kd.C_below X2.out s.below) C2.out (Kd.C_below Y1.out s.below) D1.out (Kd.C_below Y2.out s.below) D2.out
    have syx : ∀ s : Up w2, Calls Try.prog 17 #[.agg #[.int .u64 y.f0, .slice B1 y.f1.length d1, .slice B2 y.f2.length d2], .agg #[.int .u64 x.f0, .slice A1 x.f1.length c1, .slice A2 x.f2.length c2]] s.val fun e w' => e = .returned (.bool (sameT x y)) ∧ Below s.val.heap.size s.val w' := fun s => by
      rw [sameT_symm x y]
      exact Same_any _ y (Nat.lt_succ_self _) x _ _ _ _ _ _ _ _ _ (Kd.C_below Y1.out s.below) D1.out (Kd.C_below Y2.out s.below) D2.out (Kd.C_below X1.out s.below) C1.out (Kd.C_below X2.out s.below) C2.out
    have sxx : ∀ s : Up w2, Calls Try.prog 17 #[.agg #[.int .u64 x.f0, .slice A1 x.f1.length c1, .slice A2 x.f2.length c2], .agg #[.int .u64 x.f0, .slice A1 x.f1.length c1, .slice A2 x.f2.length c2]] s.val fun e w' => e = .returned (.bool true) ∧ Below s.val.heap.size s.val w' := fun s => by
      rw [← sameT_refl x]
      exact Same_any _ x (Nat.lt_succ_self _) x _ _ _ _ _ _ _ _ _ (Kd.C_below X1.out s.below) C1.out (Kd.C_below X2.out s.below) C2.out (Kd.C_below X1.out s.below) C1.out (Kd.C_below X2.out s.below) C2.out
    have s5 : ∀ s : Up w2, Calls Try.prog 11 #[.agg #[.int .u64 x.f0, .slice A1 x.f1.length c1, .slice A2 x.f2.length c2], .agg #[.int .u64 y.f0, .slice B1 y.f1.length d1, .slice B2 y.f2.length d2]] s.val fun e w' => e = .returned (.bool (sameT x y)) ∧ Below s.val.heap.size s.val w' := fun s =>
      Same5_any _ x (Nat.lt_succ_self _) y _ _ _ _ _ _ _ _ _ (Kd.C_below X1.out s.below) C1.out (Kd.C_below X2.out s.below) C2.out (Kd.C_below Y1.out s.below) D1.out (Kd.C_below Y2.out s.below) D2.out
    have cn : ∀ s : Up w2, Calls Try.prog 18 #[.agg #[.int .u64 x.f0, .slice A1 x.f1.length c1, .slice A2 x.f2.length c2]] s.val fun e w' => e = .returned (.int .i64 (countT x 1099511627776)) ∧ Below s.val.heap.size s.val w' := fun s => by
      rw [← CE.out]
      exact VCount_any _ x (Nat.lt_succ_self _) _ _ _ _ _ (Kd.C_below X1.out s.below) C1.out (Kd.C_below X2.out s.below) C2.out
    have c5 : ∀ s : Up w2, Calls Try.prog 19 #[.agg #[.int .u64 x.f0, .slice A1 x.f1.length c1, .slice A2 x.f2.length c2], .int .i64 1099511627776] s.val fun e w' => e = .returned (.int .i64 (countT x 1099511627776)) ∧ Below s.val.heap.size s.val w' := fun s =>
      Count5_any _ x (Nat.lt_succ_self _) _ _ _ _ _ _ (Kd.C_below X1.out s.below) C1.out (Kd.C_below X2.out s.below) C2.out
    have SXY := Aside0.mk sxy
    have SYX := Aside0.mk syx
    have SXX := Aside0.mk sxx
    have S5 := Aside0.mk s5
    have CN := Aside0.mk cn
    have C5 := Aside0.mk c5
    clear sxy syx sxx s5 cn c5
    obtain ⟨b, hb⟩ : ∃ b, b = sameT x y := ⟨_, rfl⟩
    obtain ⟨n, hn⟩ : ∃ n, n = countT x 1099511627776 := ⟨_, rfl⟩
    rw [← hb] at SXY SYX S5
    rw [← hn] at CN C5
    clear hb hn CE
    go_wp2
    cases b <;> (refine wp_region_up (by kernel_rfl) (by kernel_rfl) ?_; repeat (go_big_quiet_step (first | ((go_at_call 17; first | (with_reducible exact up_of (SXX.out _)) | (with_reducible exact up_of (SXY.out _)) | (with_reducible exact up_of (SYX.out _)))) | ((go_at_call 11; exact up_of (S5.out _))) | ((go_at_call 18; exact up_of (CN.out _))) | ((go_at_call 19; exact up_of (C5.out _))))))
    all_goals
      refine wpQuiet_nil ?_
      rintro _ ⟨s, rfl⟩
      have hb6 := s.below
      obtain ⟨w6, hw6⟩ : ∃ w6, w6 = s.val := ⟨_, rfl⟩
      rw [← hw6] at hb6 ⊢
      clear hw6 s u0 u1 u2 v0 v1 v2
      have HB3 := Aside0.mk (below_step HB2.out hb6)
      clear hb6
      go_wp2
      go_ret
      exact ⟨rfl, HB3.out⟩
theorem ValueSames_row (x : S32) (A1 : Option Addr) (c1 : Nat) (A2 : Option Addr) (c2 : Nat) (y : S32) (B1 : Option Addr) (d1 : Nat) (B2 : Option Addr) (d2 : Nat) (w : World)
  (hr1 : Kd.C (Kd.int .u8) w A1 x.f1.length x.f1) (hc1 : x.f1.length ≤ c1) (hr2 : Kd.C k32 w A2 x.f2.length x.f2) (hc2 : x.f2.length ≤ c2) (hs1 : Kd.C (Kd.int .u8) w B1 y.f1.length y.f1) (hd1 : y.f1.length ≤ d1) (hs2 : Kd.C k32 w B2 y.f2.length y.f2) (hd2 : y.f2.length ≤ d2) (ok1 : OkV x) (ok2 : OkV y) :
    Calls Try.prog 5 #[.agg #[.int .u64 x.f0, .slice A1 x.f1.length c1, .slice A2 x.f2.length c2], .agg #[.int .u64 y.f0, .slice B1 y.f1.length d1, .slice B2 y.f2.length d2]] w fun e w' => e = .returned (.bool true) ∧ Below w.heap.size w w' :=
  ValueSames_any x y A1 c1 A2 c2 B1 d1 B2 d2 w hr1 hc1 hr2 hc2 hs1 hd1 hs2 hd2
end Go.Proofs.Ythmcbcofipehhaa.B
