import Derived.Test.YthmcbcofipehhaaHRef4
namespace Go.Proofs.Ythmcbcofipehhaa.B
open Go.RowKit Go.Proofs.YthmcbcofipehhaaW.PrintWords Go.Proofs.YthmcbcofipehhaaW.PrintLast Go.Proofs.YthmcbcofipehhaaW.PrintMore
set_option linter.unusedVariables false
set_option linter.unusedSimpArgs false
/-! ### passepartoutref04.own -/
set_option maxHeartbeats 4000000 in
set_option maxRecDepth 100000 in
theorem own4_bad (k s : Int) (lo hi st : Int) (l : List S29) (A : Option Addr) (c : Nat) (w : World) (hk : k < 0 ∨ 5 < k) :
    Calls Try.prog 48 #[.agg #[.int .i64 k, .int .i64 s, .int .i64 lo, .int .i64 hi, .int .i64 st, .slice A l.length c]] w fun e w' => e = .returned (.int .i64 (ownT ⟨k, s, lo, hi, st, l⟩)) ∧ Below w.heap.size w w' := by
  have hu29 := Try.underlying29
  have HB := Aside0.mk (Below.refl w.heap.size w)
  have E := Aside0.mk (show ownT ⟨k, s, lo, hi, st, l⟩ = 2 by
    simp only [ownT]
    rw [if_neg (by omega), if_neg (by omega), if_neg (by omega), if_neg (by omega), if_neg (by omega)])
  by_cases h0 : k < 0
  · have b0 : decide (k < 0) = true := decide_eq_true h0
    clear hk h0
    go_enter Try.func48, Try.ntmps48
    go_wp2
    go_ret
    exact ⟨by rw [E.out]; try rfl, below_alloc HB.out _⟩
  · have b0 : decide (k < 0) = false := decide_eq_false h0
    have b5 : decide (5 < k) = true := decide_eq_true (by omega)
    clear hk h0
    go_enter Try.func48, Try.ntmps48
    go_wp2
    go_ret
    exact ⟨by rw [E.out]; try rfl, below_alloc HB.out _⟩
set_option maxHeartbeats 4000000 in
set_option maxRecDepth 100000 in
theorem own4_0 (s : Int) (lo hi st : Int) (l : List S29) (A : Option Addr) (c : Nat) (w : World) :
    Calls Try.prog 48 #[.agg #[.int .i64 0, .int .i64 s, .int .i64 lo, .int .i64 hi, .int .i64 st, .slice A l.length c]] w fun e w' => e = .returned (.int .i64 (ownT ⟨0, s, lo, hi, st, l⟩)) ∧ Below w.heap.size w w' := by
  have hu29 := Try.underlying29
  have HB := Aside0.mk (Below.refl w.heap.size w)
  by_cases hs : s = 1 ∨ s = 2 ∨ s = 3 ∨ s = 4 ∨ s = 8
  · have E := Aside0.mk (show ownT ⟨0, s, lo, hi, st, l⟩ = 0 by simp only [ownT]; rw [if_pos trivial, if_pos hs])
    rcases hs with rfl | rfl | rfl | rfl | rfl
    all_goals
      go_enter Try.func48, Try.ntmps48
      go_wp2
      go_ret
      exact ⟨by rw [E.out]; try rfl, below_alloc HB.out _⟩
  · have E := Aside0.mk (show ownT ⟨0, s, lo, hi, st, l⟩ = 3 by simp only [ownT]; rw [if_pos trivial, if_neg hs])
    have n1 : (s != 1) = true := by simp; omega
    have n2 : (s != 2) = true := by simp; omega
    have n3 : (s != 3) = true := by simp; omega
    have n4 : (s != 4) = true := by simp; omega
    have n8 : (s != 8) = true := by simp; omega
    clear hs
    go_enter Try.func48, Try.ntmps48
    go_wp2
    go_ret
    exact ⟨by rw [E.out]; try rfl, below_alloc HB.out _⟩
set_option maxHeartbeats 4000000 in
set_option maxRecDepth 100000 in
theorem own4_1 (s : Int) (lo hi st : Int) (l : List S29) (A : Option Addr) (c : Nat) (w : World) :
    Calls Try.prog 48 #[.agg #[.int .i64 1, .int .i64 s, .int .i64 lo, .int .i64 hi, .int .i64 st, .slice A l.length c]] w fun e w' => e = .returned (.int .i64 (ownT ⟨1, s, lo, hi, st, l⟩)) ∧ Below w.heap.size w w' := by
  have hu29 := Try.underlying29
  have HB := Aside0.mk (Below.refl w.heap.size w)
  have E0 : ownT ⟨1, s, lo, hi, st, l⟩ = if s < 1 ∨ s > 3 then 3 else if bndT lo hi (topT s) ≠ 0 ∨ st < 1 ∨ st > 65536 then 5 else if (1 : Int) = 2 ∧ l.length ≠ 1 then 15 else 0 := by simp only [ownT]; rw [if_neg (by decide), if_pos (by decide)]
  by_cases s1 : s < 1
  · have E := Aside0.mk (show ownT ⟨1, s, lo, hi, st, l⟩ = 3 by rw [E0, if_pos (.inl s1)])
    have b1 : decide (s < 1) = true := decide_eq_true s1
    clear E0 s1
    go_enter Try.func48, Try.ntmps48
    go_wp2
    go_ret
    exact ⟨by rw [E.out]; try rfl, below_alloc HB.out _⟩
  have b1 : decide (s < 1) = false := decide_eq_false s1
  by_cases s3 : 3 < s
  · have E := Aside0.mk (show ownT ⟨1, s, lo, hi, st, l⟩ = 3 by rw [E0, if_pos (.inr s3)])
    have b3 : decide (3 < s) = true := decide_eq_true s3
    clear E0 s1 s3
    go_enter Try.func48, Try.ntmps48
    go_wp2
    go_ret
    exact ⟨by rw [E.out]; try rfl, below_alloc HB.out _⟩
  have b3 : decide (3 < s) = false := decide_eq_false s3
  have HS := Aside0.mk (show s = 1 ∨ s = 2 ∨ s = 3 by omega)
  rw [if_neg (by omega)] at E0
  by_cases h1 : lo < 0
  · have E := Aside0.mk (show ownT ⟨1, s, lo, hi, st, l⟩ = 5 by rw [E0, if_pos (.inl (by unfold bndT; rw [if_pos h1]; decide))])
    have ch1 : decide (lo < 0) = true := decide_eq_true h1
    clear E0 s1 s3  h1
    go_enter Try.func48, Try.ntmps48
    go_wp2
    go_quiet ((go_at_call 66; exact Calls.quiet_of_same (top_any s HS.out _)))
    go_wp2
    go_ret
    exact ⟨by rw [E.out]; try rfl, pw_below_drewN (below_alloc HB.out _) _⟩
  have ch1 : decide (lo < 0) = false := decide_eq_false h1
  by_cases h2 : hi < lo
  · have E := Aside0.mk (show ownT ⟨1, s, lo, hi, st, l⟩ = 5 by rw [E0, if_pos (.inl (by unfold bndT; rw [if_neg h1, if_pos h2]; decide))])
    have ch2 : decide (hi < lo) = true := decide_eq_true h2
    clear E0 s1 s3 h1 h2
    go_enter Try.func48, Try.ntmps48
    go_wp2
    go_quiet ((go_at_call 66; exact Calls.quiet_of_same (top_any s HS.out _)))
    go_wp2
    go_ret
    exact ⟨by rw [E.out]; try rfl, pw_below_drewN (below_alloc HB.out _) _⟩
  have ch2 : decide (hi < lo) = false := decide_eq_false h2
  by_cases h3 : topT s < hi
  · have E := Aside0.mk (show ownT ⟨1, s, lo, hi, st, l⟩ = 5 by rw [E0, if_pos (.inl (by unfold bndT; rw [if_neg h1, if_neg h2, if_pos h3]; decide))])
    have ch3 : decide (topT s < hi) = true := decide_eq_true h3
    clear E0 s1 s3 h1 h2 h3
    go_enter Try.func48, Try.ntmps48
    go_wp2
    go_quiet ((go_at_call 66; exact Calls.quiet_of_same (top_any s HS.out _)))
    go_wp2
    go_ret
    exact ⟨by rw [E.out]; try rfl, pw_below_drewN (below_alloc HB.out _) _⟩
  have ch3 : decide (topT s < hi) = false := decide_eq_false h3
  by_cases h4 : st < 1
  · have E := Aside0.mk (show ownT ⟨1, s, lo, hi, st, l⟩ = 5 by rw [E0, if_pos (.inr (.inl h4))])
    have ch4 : decide (st < 1) = true := decide_eq_true h4
    clear E0 s1 s3 h1 h2 h3 h4
    go_enter Try.func48, Try.ntmps48
    go_wp2
    go_quiet ((go_at_call 66; exact Calls.quiet_of_same (top_any s HS.out _)))
    go_wp2
    go_ret
    exact ⟨by rw [E.out]; try rfl, pw_below_drewN (below_alloc HB.out _) _⟩
  have ch4 : decide (st < 1) = false := decide_eq_false h4
  by_cases h5 : 65536 < st
  · have E := Aside0.mk (show ownT ⟨1, s, lo, hi, st, l⟩ = 5 by rw [E0, if_pos (.inr (.inr h5))])
    have ch5 : decide (65536 < st) = true := decide_eq_true h5
    clear E0 s1 s3 h1 h2 h3 h4 h5
    go_enter Try.func48, Try.ntmps48
    go_wp2
    go_quiet ((go_at_call 66; exact Calls.quiet_of_same (top_any s HS.out _)))
    go_wp2
    go_ret
    exact ⟨by rw [E.out]; try rfl, pw_below_drewN (below_alloc HB.out _) _⟩
  have ch5 : decide (65536 < st) = false := decide_eq_false h5
  have hbn : bndT lo hi (topT s) = 0 := by unfold bndT; rw [if_neg h1, if_neg h2, if_neg h3]
  rw [if_neg (by rintro (h | h | h) <;> first | exact h hbn | exact h4 h | exact h5 h)] at E0
  have E := Aside0.mk (show ownT ⟨1, s, lo, hi, st, l⟩ = 0 by rw [E0]; rfl)
  clear E0 s1 s3 h1 h2 h3 h4 h5 hbn
  go_enter Try.func48, Try.ntmps48
  go_wp2
  go_quiet ((go_at_call 66; exact Calls.quiet_of_same (top_any s HS.out _)))
  go_wp2
  go_ret
  exact ⟨by rw [E.out]; try rfl, pw_below_drewN (below_alloc HB.out _) _⟩
set_option maxHeartbeats 4000000 in
set_option maxRecDepth 100000 in
theorem own4_2 (s : Int) (lo hi st : Int) (l : List S29) (A : Option Addr) (c : Nat) (w : World) :
    Calls Try.prog 48 #[.agg #[.int .i64 2, .int .i64 s, .int .i64 lo, .int .i64 hi, .int .i64 st, .slice A l.length c]] w fun e w' => e = .returned (.int .i64 (ownT ⟨2, s, lo, hi, st, l⟩)) ∧ Below w.heap.size w w' := by
  have hu29 := Try.underlying29
  have HB := Aside0.mk (Below.refl w.heap.size w)
  have E0 : ownT ⟨2, s, lo, hi, st, l⟩ = if s < 1 ∨ s > 3 then 3 else if bndT lo hi (topT s) ≠ 0 ∨ st < 1 ∨ st > 65536 then 5 else if (2 : Int) = 2 ∧ l.length ≠ 1 then 15 else 0 := by simp only [ownT]; rw [if_neg (by decide), if_pos (by decide)]
  by_cases s1 : s < 1
  · have E := Aside0.mk (show ownT ⟨2, s, lo, hi, st, l⟩ = 3 by rw [E0, if_pos (.inl s1)])
    have b1 : decide (s < 1) = true := decide_eq_true s1
    clear E0 s1
    go_enter Try.func48, Try.ntmps48
    go_wp2
    go_ret
    exact ⟨by rw [E.out]; try rfl, below_alloc HB.out _⟩
  have b1 : decide (s < 1) = false := decide_eq_false s1
  by_cases s3 : 3 < s
  · have E := Aside0.mk (show ownT ⟨2, s, lo, hi, st, l⟩ = 3 by rw [E0, if_pos (.inr s3)])
    have b3 : decide (3 < s) = true := decide_eq_true s3
    clear E0 s1 s3
    go_enter Try.func48, Try.ntmps48
    go_wp2
    go_ret
    exact ⟨by rw [E.out]; try rfl, below_alloc HB.out _⟩
  have b3 : decide (3 < s) = false := decide_eq_false s3
  have HS := Aside0.mk (show s = 1 ∨ s = 2 ∨ s = 3 by omega)
  rw [if_neg (by omega)] at E0
  by_cases h1 : lo < 0
  · have E := Aside0.mk (show ownT ⟨2, s, lo, hi, st, l⟩ = 5 by rw [E0, if_pos (.inl (by unfold bndT; rw [if_pos h1]; decide))])
    have ch1 : decide (lo < 0) = true := decide_eq_true h1
    clear E0 s1 s3  h1
    go_enter Try.func48, Try.ntmps48
    go_wp2
    go_quiet ((go_at_call 66; exact Calls.quiet_of_same (top_any s HS.out _)))
    go_wp2
    go_ret
    exact ⟨by rw [E.out]; try rfl, pw_below_drewN (below_alloc HB.out _) _⟩
  have ch1 : decide (lo < 0) = false := decide_eq_false h1
  by_cases h2 : hi < lo
  · have E := Aside0.mk (show ownT ⟨2, s, lo, hi, st, l⟩ = 5 by rw [E0, if_pos (.inl (by unfold bndT; rw [if_neg h1, if_pos h2]; decide))])
    have ch2 : decide (hi < lo) = true := decide_eq_true h2
    clear E0 s1 s3 h1 h2
    go_enter Try.func48, Try.ntmps48
    go_wp2
    go_quiet ((go_at_call 66; exact Calls.quiet_of_same (top_any s HS.out _)))
    go_wp2
    go_ret
    exact ⟨by rw [E.out]; try rfl, pw_below_drewN (below_alloc HB.out _) _⟩
  have ch2 : decide (hi < lo) = false := decide_eq_false h2
  by_cases h3 : topT s < hi
  · have E := Aside0.mk (show ownT ⟨2, s, lo, hi, st, l⟩ = 5 by rw [E0, if_pos (.inl (by unfold bndT; rw [if_neg h1, if_neg h2, if_pos h3]; decide))])
    have ch3 : decide (topT s < hi) = true := decide_eq_true h3
    clear E0 s1 s3 h1 h2 h3
    go_enter Try.func48, Try.ntmps48
    go_wp2
    go_quiet ((go_at_call 66; exact Calls.quiet_of_same (top_any s HS.out _)))
    go_wp2
    go_ret
    exact ⟨by rw [E.out]; try rfl, pw_below_drewN (below_alloc HB.out _) _⟩
  have ch3 : decide (topT s < hi) = false := decide_eq_false h3
  by_cases h4 : st < 1
  · have E := Aside0.mk (show ownT ⟨2, s, lo, hi, st, l⟩ = 5 by rw [E0, if_pos (.inr (.inl h4))])
    have ch4 : decide (st < 1) = true := decide_eq_true h4
    clear E0 s1 s3 h1 h2 h3 h4
    go_enter Try.func48, Try.ntmps48
    go_wp2
    go_quiet ((go_at_call 66; exact Calls.quiet_of_same (top_any s HS.out _)))
    go_wp2
    go_ret
    exact ⟨by rw [E.out]; try rfl, pw_below_drewN (below_alloc HB.out _) _⟩
  have ch4 : decide (st < 1) = false := decide_eq_false h4
  by_cases h5 : 65536 < st
  · have E := Aside0.mk (show ownT ⟨2, s, lo, hi, st, l⟩ = 5 by rw [E0, if_pos (.inr (.inr h5))])
    have ch5 : decide (65536 < st) = true := decide_eq_true h5
    clear E0 s1 s3 h1 h2 h3 h4 h5
    go_enter Try.func48, Try.ntmps48
    go_wp2
    go_quiet ((go_at_call 66; exact Calls.quiet_of_same (top_any s HS.out _)))
    go_wp2
    go_ret
    exact ⟨by rw [E.out]; try rfl, pw_below_drewN (below_alloc HB.out _) _⟩
  have ch5 : decide (65536 < st) = false := decide_eq_false h5
  have hbn : bndT lo hi (topT s) = 0 := by unfold bndT; rw [if_neg h1, if_neg h2, if_neg h3]
  rw [if_neg (by rintro (h | h | h) <;> first | exact h hbn | exact h4 h | exact h5 h)] at E0
  by_cases hl : l.length = 1
  · have E := Aside0.mk (show ownT ⟨2, s, lo, hi, st, l⟩ = 0 by rw [E0, if_neg (fun h => h.2 hl)])
    have l1 : (l.length != 1) = false := by simpa using hl
    have l2 : ((l.length : Int) != 1) = false := by simp; omega
    clear E0 s1 s3 h1 h2 h3 h4 h5 hbn hl
    go_enter Try.func48, Try.ntmps48
    go_wp2
    go_quiet ((go_at_call 66; exact Calls.quiet_of_same (top_any s HS.out _)))
    go_wp2
    go_ret
    exact ⟨by rw [E.out]; try rfl, pw_below_drewN (below_alloc HB.out _) _⟩
  · have E := Aside0.mk (show ownT ⟨2, s, lo, hi, st, l⟩ = 15 by rw [E0, if_pos ⟨rfl, hl⟩])
    have l1 : (l.length != 1) = true := by simpa using hl
    have l2 : ((l.length : Int) != 1) = true := by simp; omega
    clear E0 s1 s3 h1 h2 h3 h4 h5 hbn hl
    go_enter Try.func48, Try.ntmps48
    go_wp2
    go_quiet ((go_at_call 66; exact Calls.quiet_of_same (top_any s HS.out _)))
    go_wp2
    go_ret
    exact ⟨by rw [E.out]; try rfl, pw_below_drewN (below_alloc HB.out _) _⟩
set_option maxHeartbeats 4000000 in
set_option maxRecDepth 100000 in
theorem own4_3 (s : Int) (lo hi st : Int) (l : List S29) (A : Option Addr) (c : Nat) (w : World) :
    Calls Try.prog 48 #[.agg #[.int .i64 3, .int .i64 s, .int .i64 lo, .int .i64 hi, .int .i64 st, .slice A l.length c]] w fun e w' => e = .returned (.int .i64 (ownT ⟨3, s, lo, hi, st, l⟩)) ∧ Below w.heap.size w w' := by
  have hu29 := Try.underlying29
  have HB := Aside0.mk (Below.refl w.heap.size w)
  have E0 : ownT ⟨3, s, lo, hi, st, l⟩ = if l.length > 32 then 15 else 0 := by simp only [ownT]; rw [if_neg (by decide), if_neg (by decide), if_pos (by decide)]
  by_cases hl : 32 < l.length
  · have E := Aside0.mk (show ownT ⟨3, s, lo, hi, st, l⟩ = 15 by rw [E0, if_pos hl])
    have l1 : decide (32 < l.length) = true := decide_eq_true hl
    have l2 : decide ((32 : Int) < (l.length : Int)) = true := decide_eq_true (by omega)
    clear E0 hl
    go_enter Try.func48, Try.ntmps48
    go_wp2
    go_ret
    exact ⟨by rw [E.out]; try rfl, below_alloc HB.out _⟩
  · have E := Aside0.mk (show ownT ⟨3, s, lo, hi, st, l⟩ = 0 by rw [E0, if_neg hl])
    have l1 : decide (32 < l.length) = false := decide_eq_false hl
    have l2 : decide ((32 : Int) < (l.length : Int)) = false := decide_eq_false (by omega)
    clear E0 hl
    go_enter Try.func48, Try.ntmps48
    go_wp2
    go_ret
    exact ⟨by rw [E.out]; try rfl, below_alloc HB.out _⟩
set_option maxHeartbeats 4000000 in
set_option maxRecDepth 100000 in
theorem own4_4 (s : Int) (lo hi st : Int) (l : List S29) (A : Option Addr) (c : Nat) (w : World) :
    Calls Try.prog 48 #[.agg #[.int .i64 4, .int .i64 s, .int .i64 lo, .int .i64 hi, .int .i64 st, .slice A l.length c]] w fun e w' => e = .returned (.int .i64 (ownT ⟨4, s, lo, hi, st, l⟩)) ∧ Below w.heap.size w w' := by
  have hu29 := Try.underlying29
  have HB := Aside0.mk (Below.refl w.heap.size w)
  have E0 : ownT ⟨4, s, lo, hi, st, l⟩ = bndT lo hi 16777215 := by simp only [ownT]; rw [if_neg (by decide), if_neg (by decide), if_neg (by decide), if_pos (by decide)]
  by_cases h1 : lo < 0
  · have E := Aside0.mk (show ownT ⟨4, s, lo, hi, st, l⟩ = 5 by rw [E0]; unfold bndT; rw [if_pos h1])
    have b1 : decide (lo < 0) = true := decide_eq_true h1
    clear E0 h1
    go_enter Try.func48, Try.ntmps48
    go_wp2
    go_ret
    exact ⟨by rw [E.out]; try rfl, below_alloc HB.out _⟩
  have b1 : decide (lo < 0) = false := decide_eq_false h1
  by_cases h2 : hi < lo
  · have E := Aside0.mk (show ownT ⟨4, s, lo, hi, st, l⟩ = 5 by rw [E0]; unfold bndT; rw [if_neg h1, if_pos h2])
    have b2 : decide (hi < lo) = true := decide_eq_true h2
    clear E0 h1 h2
    go_enter Try.func48, Try.ntmps48
    go_wp2
    go_ret
    exact ⟨by rw [E.out]; try rfl, below_alloc HB.out _⟩
  have b2 : decide (hi < lo) = false := decide_eq_false h2
  by_cases h3 : 16777215 < hi
  · have E := Aside0.mk (show ownT ⟨4, s, lo, hi, st, l⟩ = 5 by rw [E0]; unfold bndT; rw [if_neg h1, if_neg h2, if_pos h3])
    have b3 : decide (16777215 < hi) = true := decide_eq_true h3
    clear E0 h1 h2 h3
    go_enter Try.func48, Try.ntmps48
    go_wp2
    go_ret
    exact ⟨by rw [E.out]; try rfl, below_alloc HB.out _⟩
  have b3 : decide (16777215 < hi) = false := decide_eq_false h3
  have E := Aside0.mk (show ownT ⟨4, s, lo, hi, st, l⟩ = 0 by rw [E0]; unfold bndT; rw [if_neg h1, if_neg h2, if_neg h3])
  clear E0 h1 h2 h3
  go_enter Try.func48, Try.ntmps48
  go_wp2
  go_ret
  exact ⟨by rw [E.out]; try rfl, below_alloc HB.out _⟩
set_option maxHeartbeats 4000000 in
set_option maxRecDepth 100000 in
theorem own4_5 (s : Int) (lo hi st : Int) (l : List S29) (A : Option Addr) (c : Nat) (w : World) :
    Calls Try.prog 48 #[.agg #[.int .i64 5, .int .i64 s, .int .i64 lo, .int .i64 hi, .int .i64 st, .slice A l.length c]] w fun e w' => e = .returned (.int .i64 (ownT ⟨5, s, lo, hi, st, l⟩)) ∧ Below w.heap.size w w' := by
  have hu29 := Try.underlying29
  have HB := Aside0.mk (Below.refl w.heap.size w)
  have E0 : ownT ⟨5, s, lo, hi, st, l⟩ = bndT lo lo 16777215 := by simp only [ownT]; rw [if_neg (by decide), if_neg (by decide), if_neg (by decide), if_neg (by decide), if_pos (by decide)]
  by_cases h1 : lo < 0
  · have E := Aside0.mk (show ownT ⟨5, s, lo, hi, st, l⟩ = 5 by rw [E0]; unfold bndT; rw [if_pos h1])
    have b1 : decide (lo < 0) = true := decide_eq_true h1
    clear E0 h1
    go_enter Try.func48, Try.ntmps48
    go_wp2
    go_ret
    exact ⟨by rw [E.out]; try rfl, below_alloc HB.out _⟩
  have b1 : decide (lo < 0) = false := decide_eq_false h1
  have h2 : ¬ lo < lo := by omega
  by_cases h3 : 16777215 < lo
  · have E := Aside0.mk (show ownT ⟨5, s, lo, hi, st, l⟩ = 5 by rw [E0]; unfold bndT; rw [if_neg h1, if_neg h2, if_pos h3])
    have b3 : decide (16777215 < lo) = true := decide_eq_true h3
    clear E0 h1 h2 h3
    go_enter Try.func48, Try.ntmps48
    go_wp2
    go_ret
    exact ⟨by rw [E.out]; try rfl, below_alloc HB.out _⟩
  have b3 : decide (16777215 < lo) = false := decide_eq_false h3
  have E := Aside0.mk (show ownT ⟨5, s, lo, hi, st, l⟩ = 0 by rw [E0]; unfold bndT; rw [if_neg h1, if_neg h2, if_neg h3])
  clear E0 h1 h2 h3
  go_enter Try.func48, Try.ntmps48
  go_wp2
  go_ret
  exact ⟨by rw [E.out]; try rfl, below_alloc HB.out _⟩
theorem own4_any (x : S29) (A : Option Addr) (c : Nat) (w : World) :
    Calls Try.prog 48 #[.agg #[.int .i64 x.f0, .int .i64 x.f1, .int .i64 x.f2, .int .i64 x.f3, .int .i64 x.f4, .slice A x.f5.length c]] w fun e w' => e = .returned (.int .i64 (ownT x)) ∧ Below w.heap.size w w' := by
  obtain ⟨k, s, lo, hi, st, l⟩ := x
  by_cases hk : k < 0 ∨ 5 < k
  · exact own4_bad k s lo hi st l A c w hk
  have : k = 0 ∨ k = 1 ∨ k = 2 ∨ k = 3 ∨ k = 4 ∨ k = 5 := by omega
  rcases this with rfl | rfl | rfl | rfl | rfl | rfl
  · exact own4_0 s lo hi st l A c w
  · exact own4_1 s lo hi st l A c w
  · exact own4_2 s lo hi st l A c w
  · exact own4_3 s lo hi st l A c w
  · exact own4_4 s lo hi st l A c w
  · exact own4_5 s lo hi st l A c w
end Go.Proofs.Ythmcbcofipehhaa.B
