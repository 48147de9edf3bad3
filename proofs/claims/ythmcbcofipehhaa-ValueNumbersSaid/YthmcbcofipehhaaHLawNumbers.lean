import Derived.Test.YthmcbcofipehhaaHPure5
import Derived.Test.YthmcbcofipehhaaHAlive
namespace Go.Proofs.Ythmcbcofipehhaa.B
open Go.RowKit Go.Proofs.YthmcbcofipehhaaW.PrintWords Go.Proofs.YthmcbcofipehhaaW.PrintLast Go.Proofs.YthmcbcofipehhaaW.PrintMore
set_option linter.unusedVariables false
set_option linter.unusedSimpArgs false
theorem deep_nil (k s lo hi st : Int) : deepT ⟨k, s, lo, hi, st, []⟩ 8 = false := by
  simp [deepT, deepL]
theorem numS (s x : Int) (hs : s = 1 ∨ s = 2 ∨ s = 3 ∨ s = 4 ∨ s = 8) : sizeT ⟨0, s, 0, 0, 0, []⟩ ⟨x, [], []⟩ = if s < 8 then (if shr .u64 x (8 * s) ≠ 0 then (0, 3) else (s, 0)) else (s, 0) := by
  have c : CheckT ⟨0, s, 0, 0, 0, []⟩ = 0 := by
    rw [CheckT, if_neg (by simp [deep_nil]), checkT]
    simp [ownT, hs]
  have f : fitT ⟨0, s, 0, 0, 0, []⟩ ⟨x, [], []⟩ = if s < 8 then (if shr .u64 x (8 * s) ≠ 0 then (0, 3) else (s, 0)) else (s, 0) := by
    rw [fitT, if_neg (by simp [aloneT, ownK]), if_pos rfl]
  rw [sizeT, if_neg (by simp [c]), f]
  repeat' split
  all_goals simp_all
theorem may_same (b k : Int) (h : 0 ≤ k) : (mayT b k k 1 == 0) = (b == k) := by
  unfold mayT
  by_cases h1 : b < k
  · have : b ≠ k := by omega
    simp [h1, this]
  · by_cases h2 : b > k
    · have : b ≠ k := by omega
      simp [h1, h2, this]
    · have : b = k := by omega
      subst this
      simp
theorem may_ge (b k m : Int) (h : b ≤ m) : (mayT b k m 1 == 0) = decide (k ≤ b) := by
  unfold mayT
  by_cases h1 : b < k
  · have : ¬ k ≤ b := by omega
    simp [h1, this]
  · have h2 : ¬ b > m := by omega
    have : k ≤ b := by omega
    simp [h1, h2, this]
theorem may_le (b k : Int) (h : 0 ≤ b) : (mayT b 0 k 1 == 0) = decide (b ≤ k) := by
  unfold mayT
  have h0 : ¬ b < 0 := by omega
  by_cases h1 : b > k
  · have : ¬ b ≤ k := by omega
    simp [h1, h0, this]
  · have : b ≤ k := by omega
    simp [h1, h0, this]
theorem fixS (b : List Int) (k : Int) (h0 : 0 ≤ k) (h1 : k < 3000) : ((sizeT ⟨5, 0, k, 0, 0, []⟩ ⟨0, b, []⟩).2 == 0) = ((b.length : Int) == k) := by
  have c : CheckT ⟨5, 0, k, 0, 0, []⟩ = 0 := by
    have a1 : ¬ k < 0 := by omega
    have a2 : ¬ 16777215 < k := by omega
    rw [CheckT, if_neg (by simp [deep_nil]), checkT]
    simp [ownT, bndT, a1, a2]
  have f : fitT ⟨5, 0, k, 0, 0, []⟩ ⟨0, b, []⟩ = (k, mayT b.length k k 1) := by
    rw [fitT, if_neg (by simp [aloneT, ownK])]; simp
  rw [← may_same _ _ h0, sizeT, if_neg (by simp [c]), f]
  split <;> simp_all
theorem restS (b : List Int) (k : Int) (h0 : 0 ≤ k) (h1 : k < 3000) (hb : b.length ≤ 2000) : ((sizeT ⟨4, 0, k, 16777215, 0, []⟩ ⟨0, b, []⟩).2 == 0) = decide (k ≤ (b.length : Int)) := by
  have c : CheckT ⟨4, 0, k, 16777215, 0, []⟩ = 0 := by
    have a1 : ¬ k < 0 := by omega
    have a2 : ¬ 16777215 < k := by omega
    rw [CheckT, if_neg (by simp [deep_nil]), checkT]
    simp [ownT, bndT, a1, a2]
  have f : fitT ⟨4, 0, k, 16777215, 0, []⟩ ⟨0, b, []⟩ = ((b.length : Int), mayT b.length k 16777215 1) := by
    rw [fitT, if_neg (by simp [aloneT, ownK])]; simp
  rw [← may_ge _ _ 16777215 (by omega), sizeT, if_neg (by simp [c]), f]
  split <;> simp_all
theorem opaS (b : List Int) (k : Int) (h0 : 0 ≤ k) (h1 : k < 3000) : ((sizeT ⟨1, 3, 0, k, 1, []⟩ ⟨0, b, []⟩).2 == 0) = decide ((b.length : Int) ≤ k) := by
  have c : CheckT ⟨1, 3, 0, k, 1, []⟩ = 0 := by
    have a1 : ¬ k < 0 := by omega
    have a2 : ¬ 16777215 < k := by omega
    rw [CheckT, if_neg (by simp [deep_nil]), checkT]
    simp [ownT, bndT, topT, a1, a2]
  have f : fitT ⟨1, 3, 0, k, 1, []⟩ ⟨0, b, []⟩ = (wrap64 (3 + b.length), mayT b.length 0 k 1) := by
    rw [fitT, if_neg (by simp [aloneT, ownK])]; simp
  rw [← may_le _ _ (by omega), sizeT, if_neg (by simp [c]), f]
  split <;> simp_all
set_option maxHeartbeats 16000000 in
set_option maxRecDepth 100000 in
theorem ValueNumbers_any (x : Int) (x0 : 0 ≤ x) (x1 : x ≤ 18446744073709551615) (A : Option Addr) (c : Nat) (b : List Int) (n : Int) (w : World)
  (hr : Kd.C (Kd.int .u8) w A b.length b) (hc : b.length ≤ c) :
    Calls Try.prog 4 #[.int .u64 x, .slice A b.length c, .int .i64 n] w fun e w' => e = .returned (.bool true) ∧ Below w.heap.size w w' := by
  have hu32 := Try.underlying32
  have hu29 := Try.underlying29
  have R1 := Aside0.mk hr
  have C1 := Aside0.mk hc
  clear hr hc
  have X0 := Aside0.mk x0
  have X1 := Aside0.mk x1
  clear x0 x1
  have HB := Aside0.mk (Below.refl w.heap.size w)
  go_enter Try.func4, Try.ntmps4
  go_wp2_with fail
  refine (alive_any _).mono ?_
  rintro e w1 ⟨rfl, hb⟩
  have HB1 := Aside0.mk (below_step HB.out hb)
  clear hb HB
  by_cases hl : (2000 : Int) < (b.length : Int)
  case pos =>
    have gl : decide ((2000 : Int) < (b.length : Int)) = true := decide_eq_true hl
    clear hl
    go_wp2_with fail
    refine (alive_any _).mono ?_
    rintro e w3 ⟨rfl, hb⟩
    have HB3 := Aside0.mk (below_step HB1.out hb)
    clear hb
    go_wp2
    go_ret
    exact ⟨rfl, HB3.out⟩
  case neg =>
  have gl : decide ((2000 : Int) < (b.length : Int)) = false := decide_eq_false hl
  have BM := Aside0.mk (show b.length ≤ 2000 by omega)
  clear hl
  go_wp2
  have BL := Aside0.mk (heap_alloc_new w1 (.cells #[.int .i64 1, .int .i64 2, .int .i64 3, .int .i64 4, .int .i64 8] 3))
  go_loopg [26] (5 + 1) (fun kq vi w' => ∃ (i : Int), vi = .int .i64 i ∧ 0 ≤ i ∧ i ≤ 5 ∧ Aside0 ((kq : Int) + i = 6) ∧ Aside0 (Below w.heap.size w w') ∧ Aside0 (w'.heap[w1.heap.size]? = some (.cells #[.int .i64 1, .int .i64 2, .int .i64 3, .int .i64 4, .int .i64 8] 3 (0, 0))))
  case atStart => exact ⟨0, rfl, by omega, by omega, ⟨by omega⟩, ⟨below_alloc HB1.out _⟩, BL⟩
  case round =>
    clear HB1 BL
    obtain ⟨i, rfl, i0, i1, HK, HB, BL⟩ := hrel
    by_cases hlt : i < 5
    case neg =>
      have cq : decide (i < 5) = false := decide_eq_false hlt
      clear hlt BL
      go_wp2_with fail
      · have K0 : (0 : Int) ≤ n % 3000 := by omega
        have K1 : n % 3000 < 3000 := by omega
        obtain ⟨k, hk⟩ : ∃ k, k = n % 3000 := ⟨_, rfl⟩
        rw [← hk] at K0 K1 ⊢
        clear hk
        have e1 := fixS b k K0 K1
        have e2 := restS b k K0 K1 BM.out
        have e3 := opaS b k K0 K1
        obtain ⟨f1, hf1⟩ : ∃ f, f = (sizeT ⟨5, 0, k, 0, 0, []⟩ ⟨0, b, []⟩).2 := ⟨_, rfl⟩
        rw [← hf1] at e1
        have G1 := Aside0.mk hf1
        clear hf1
        obtain ⟨f2, hf2⟩ : ∃ f, f = (sizeT ⟨4, 0, k, 16777215, 0, []⟩ ⟨0, b, []⟩).2 := ⟨_, rfl⟩
        rw [← hf2] at e2
        have G2 := Aside0.mk hf2
        clear hf2
        obtain ⟨f3, hf3⟩ : ∃ f, f = (sizeT ⟨1, 3, 0, k, 1, []⟩ ⟨0, b, []⟩).2 := ⟨_, rfl⟩
        rw [← hf3] at e3
        have G3 := Aside0.mk hf3
        clear hf3
        refine (Bytes_any b (by have := BM.out; omega) A c _ (Kd.C_below R1.out HB.out) C1.out).mono ?_
        rintro e w3 ⟨A3, c3, rfl, hc3, hr3, hb⟩
        have HC0 := Aside0.mk (below_step HB.out hb)
        have RB := Aside0.mk hr3
        have CB := Aside0.mk hc3
        clear hb hr3 hc3 HB
        go_wp2_with fail
        have fE : Calls Try.prog 15 #[.agg #[.int .i64 5, .int .i64 0, .int .i64 k, .int .i64 0, .int .i64 0, .slice none 0 0], .agg #[.int .u64 0, .slice A3 b.length c3, .slice none 0 0]] w3 fun e w' => e = .returned (.int .i64 f1) ∧ Below w3.heap.size w3 w' := (Fits_any ⟨5, 0, k, 0, 0, []⟩ ⟨0, b, []⟩ none 0 A3 c3 none 0 _ (Kd.C_nil _ _) (Nat.le_refl 0) RB.out CB.out (Kd.C_nil _ _) (Nat.le_refl 0)).mono fun e w' ⟨h1, h2⟩ => ⟨by rw [h1, G1.out], h2⟩
        refine fE.mono ?_
        rintro e w4 ⟨rfl, hb⟩
        have HD0 := Aside0.mk (below_step HC0.out hb)
        clear hb fE RB CB HC0
        go_wp2_with fail
        refine (Bytes_any b (by have := BM.out; omega) A c _ (Kd.C_below R1.out HD0.out) C1.out).mono ?_
        rintro e w3 ⟨A3, c3, rfl, hc3, hr3, hb⟩
        have HC1 := Aside0.mk (below_step HD0.out hb)
        have RB := Aside0.mk hr3
        have CB := Aside0.mk hc3
        clear hb hr3 hc3 HD0
        go_wp2_with fail
        have fE : Calls Try.prog 15 #[.agg #[.int .i64 4, .int .i64 0, .int .i64 k, .int .i64 16777215, .int .i64 0, .slice none 0 0], .agg #[.int .u64 0, .slice A3 b.length c3, .slice none 0 0]] w3 fun e w' => e = .returned (.int .i64 f2) ∧ Below w3.heap.size w3 w' := (Fits_any ⟨4, 0, k, 16777215, 0, []⟩ ⟨0, b, []⟩ none 0 A3 c3 none 0 _ (Kd.C_nil _ _) (Nat.le_refl 0) RB.out CB.out (Kd.C_nil _ _) (Nat.le_refl 0)).mono fun e w' ⟨h1, h2⟩ => ⟨by rw [h1, G2.out], h2⟩
        refine fE.mono ?_
        rintro e w4 ⟨rfl, hb⟩
        have HD1 := Aside0.mk (below_step HC1.out hb)
        clear hb fE RB CB HC1
        go_wp2_with fail
        refine (Bytes_any b (by have := BM.out; omega) A c _ (Kd.C_below R1.out HD1.out) C1.out).mono ?_
        rintro e w3 ⟨A3, c3, rfl, hc3, hr3, hb⟩
        have HC2 := Aside0.mk (below_step HD1.out hb)
        have RB := Aside0.mk hr3
        have CB := Aside0.mk hc3
        clear hb hr3 hc3 HD1
        go_wp2_with fail
        have fE : Calls Try.prog 15 #[.agg #[.int .i64 1, .int .i64 3, .int .i64 0, .int .i64 k, .int .i64 1, .slice none 0 0], .agg #[.int .u64 0, .slice A3 b.length c3, .slice none 0 0]] w3 fun e w' => e = .returned (.int .i64 f3) ∧ Below w3.heap.size w3 w' := (Fits_any ⟨1, 3, 0, k, 1, []⟩ ⟨0, b, []⟩ none 0 A3 c3 none 0 _ (Kd.C_nil _ _) (Nat.le_refl 0) RB.out CB.out (Kd.C_nil _ _) (Nat.le_refl 0)).mono fun e w' ⟨h1, h2⟩ => ⟨by rw [h1, G3.out], h2⟩
        refine fE.mono ?_
        rintro e w4 ⟨rfl, hb⟩
        have HD2 := Aside0.mk (below_step HC2.out hb)
        clear hb fE RB CB HC2
        obtain ⟨q1, hq1⟩ : ∃ q, ((b.length : Int) == k) = q := ⟨_, rfl⟩
        rw [hq1] at e1
        obtain ⟨q2, hq2⟩ : ∃ q, decide (k ≤ (b.length : Int)) = q := ⟨_, rfl⟩
        rw [hq2] at e2
        obtain ⟨q3, hq3⟩ : ∃ q, decide ((b.length : Int) ≤ k) = q := ⟨_, rfl⟩
        rw [hq3] at e3
        cases q1 <;> cases q2 <;> cases q3
        all_goals (go_wp2; go_ret; exact ⟨rfl, HD2.out⟩)
      · have K0 : (0 : Int) ≤ 0 := by omega
        have K1 : (0 : Int) < 3000 := by omega
        have e1 := fixS b 0 K0 K1
        have e2 := restS b 0 K0 K1 BM.out
        have e3 := opaS b 0 K0 K1
        obtain ⟨f1, hf1⟩ : ∃ f, f = (sizeT ⟨5, 0, 0, 0, 0, []⟩ ⟨0, b, []⟩).2 := ⟨_, rfl⟩
        rw [← hf1] at e1
        have G1 := Aside0.mk hf1
        clear hf1
        obtain ⟨f2, hf2⟩ : ∃ f, f = (sizeT ⟨4, 0, 0, 16777215, 0, []⟩ ⟨0, b, []⟩).2 := ⟨_, rfl⟩
        rw [← hf2] at e2
        have G2 := Aside0.mk hf2
        clear hf2
        obtain ⟨f3, hf3⟩ : ∃ f, f = (sizeT ⟨1, 3, 0, 0, 1, []⟩ ⟨0, b, []⟩).2 := ⟨_, rfl⟩
        rw [← hf3] at e3
        have G3 := Aside0.mk hf3
        clear hf3
        refine (Bytes_any b (by have := BM.out; omega) A c _ (Kd.C_below R1.out HB.out) C1.out).mono ?_
        rintro e w3 ⟨A3, c3, rfl, hc3, hr3, hb⟩
        have HC0 := Aside0.mk (below_step HB.out hb)
        have RB := Aside0.mk hr3
        have CB := Aside0.mk hc3
        clear hb hr3 hc3 HB
        go_wp2_with fail
        have fE : Calls Try.prog 15 #[.agg #[.int .i64 5, .int .i64 0, .int .i64 0, .int .i64 0, .int .i64 0, .slice none 0 0], .agg #[.int .u64 0, .slice A3 b.length c3, .slice none 0 0]] w3 fun e w' => e = .returned (.int .i64 f1) ∧ Below w3.heap.size w3 w' := (Fits_any ⟨5, 0, 0, 0, 0, []⟩ ⟨0, b, []⟩ none 0 A3 c3 none 0 _ (Kd.C_nil _ _) (Nat.le_refl 0) RB.out CB.out (Kd.C_nil _ _) (Nat.le_refl 0)).mono fun e w' ⟨h1, h2⟩ => ⟨by rw [h1, G1.out], h2⟩
        refine fE.mono ?_
        rintro e w4 ⟨rfl, hb⟩
        have HD0 := Aside0.mk (below_step HC0.out hb)
        clear hb fE RB CB HC0
        go_wp2_with fail
        refine (Bytes_any b (by have := BM.out; omega) A c _ (Kd.C_below R1.out HD0.out) C1.out).mono ?_
        rintro e w3 ⟨A3, c3, rfl, hc3, hr3, hb⟩
        have HC1 := Aside0.mk (below_step HD0.out hb)
        have RB := Aside0.mk hr3
        have CB := Aside0.mk hc3
        clear hb hr3 hc3 HD0
        go_wp2_with fail
        have fE : Calls Try.prog 15 #[.agg #[.int .i64 4, .int .i64 0, .int .i64 0, .int .i64 16777215, .int .i64 0, .slice none 0 0], .agg #[.int .u64 0, .slice A3 b.length c3, .slice none 0 0]] w3 fun e w' => e = .returned (.int .i64 f2) ∧ Below w3.heap.size w3 w' := (Fits_any ⟨4, 0, 0, 16777215, 0, []⟩ ⟨0, b, []⟩ none 0 A3 c3 none 0 _ (Kd.C_nil _ _) (Nat.le_refl 0) RB.out CB.out (Kd.C_nil _ _) (Nat.le_refl 0)).mono fun e w' ⟨h1, h2⟩ => ⟨by rw [h1, G2.out], h2⟩
        refine fE.mono ?_
        rintro e w4 ⟨rfl, hb⟩
        have HD1 := Aside0.mk (below_step HC1.out hb)
        clear hb fE RB CB HC1
        go_wp2_with fail
        refine (Bytes_any b (by have := BM.out; omega) A c _ (Kd.C_below R1.out HD1.out) C1.out).mono ?_
        rintro e w3 ⟨A3, c3, rfl, hc3, hr3, hb⟩
        have HC2 := Aside0.mk (below_step HD1.out hb)
        have RB := Aside0.mk hr3
        have CB := Aside0.mk hc3
        clear hb hr3 hc3 HD1
        go_wp2_with fail
        have fE : Calls Try.prog 15 #[.agg #[.int .i64 1, .int .i64 3, .int .i64 0, .int .i64 0, .int .i64 1, .slice none 0 0], .agg #[.int .u64 0, .slice A3 b.length c3, .slice none 0 0]] w3 fun e w' => e = .returned (.int .i64 f3) ∧ Below w3.heap.size w3 w' := (Fits_any ⟨1, 3, 0, 0, 1, []⟩ ⟨0, b, []⟩ none 0 A3 c3 none 0 _ (Kd.C_nil _ _) (Nat.le_refl 0) RB.out CB.out (Kd.C_nil _ _) (Nat.le_refl 0)).mono fun e w' ⟨h1, h2⟩ => ⟨by rw [h1, G3.out], h2⟩
        refine fE.mono ?_
        rintro e w4 ⟨rfl, hb⟩
        have HD2 := Aside0.mk (below_step HC2.out hb)
        clear hb fE RB CB HC2
        have e2 : (f2 == 0) = true := by rw [e2]; simp
        have hq2' : decide ((0 : Int) ≤ b.length) = true := by simp
        by_cases hb : b = []
        · have hdb : decide (b = []) = true := decide_eq_true hb
          have e1 : (f1 == 0) = true := by rw [e1, hb]; rfl
          have e3 : (f3 == 0) = true := by rw [e3, hb]; rfl
          clear hb
          go_wp2
          go_ret
          exact ⟨rfl, HD2.out⟩
        · have hdb : decide (b = []) = false := decide_eq_false hb
          have hb1 : 0 < b.length := List.length_pos_iff.2 hb
          have e1 : (f1 == 0) = false := by rw [e1]; simpa using hb
          have e3 : (f3 == 0) = false := by rw [e3]; simpa using hb
          clear hb hb1
          go_wp2
          go_ret
          exact ⟨rfl, HD2.out⟩
    case pos =>
      obtain ⟨k1, rfl⟩ : ∃ m, gk = m + 1 := ⟨gk - 1, by have := HK.out; omega⟩
      have hl0 : wr.cell? ⟨w1.heap.size, 0, none⟩ = some (.int .i64 1) := (blk_cell BL.out 0).trans rfl
      have hl1 : wr.cell? ⟨w1.heap.size, 1, none⟩ = some (.int .i64 2) := (blk_cell BL.out 1).trans rfl
      have hl2 : wr.cell? ⟨w1.heap.size, 2, none⟩ = some (.int .i64 3) := (blk_cell BL.out 2).trans rfl
      have hl3 : wr.cell? ⟨w1.heap.size, 3, none⟩ = some (.int .i64 4) := (blk_cell BL.out 3).trans rfl
      have hl4 : wr.cell? ⟨w1.heap.size, 4, none⟩ = some (.int .i64 8) := (blk_cell BL.out 4).trans rfl
      have hi : i = 0 ∨ i = 1 ∨ i = 2 ∨ i = 3 ∨ i = 4 := by omega
      clear i0 i1 hlt
      rcases hi with rfl | rfl | rfl | rfl | rfl
      · by_cases hx : x < 256
        · have E := Aside0.mk (show sizeT ⟨0, 1, 0, 0, 0, []⟩ ⟨x, [], []⟩ = (1, 0) by rw [numS 1 x (by omega), if_pos (by decide), if_neg (by rw [show shr .u64 x (8 * 1) = x / 256 from rfl]; have := X0.out; omega)])
          have hxb : decide (x < 256) = true := decide_eq_true hx
          clear hx
          go_wp2
          have BF := Aside0.mk (heap_alloc_new wr (.cells #[.int .i64 0, .int .i64 1, .int .i64 0, .int .i64 0, .int .i64 0, .slice none 0 0] 29))
          have BL1 := Aside0.mk (blk_alloc BL.out (.cells #[.int .i64 0, .int .i64 1, .int .i64 0, .int .i64 0, .int .i64 0, .slice none 0 0] 29))
          have HBa := Aside0.mk (below_alloc HB.out (.cells #[.int .i64 0, .int .i64 1, .int .i64 0, .int .i64 0, .int .i64 0, .slice none 0 0] 29))
          have u0 := up_cell ((blk_cell BF.out 0).trans rfl)
          have u1 := up_cell ((blk_cell BF.out 1).trans rfl)
          have u2 := up_cell ((blk_cell BF.out 2).trans rfl)
          have u3 := up_cell ((blk_cell BF.out 3).trans rfl)
          have u4 := up_cell ((blk_cell BF.out 4).trans rfl)
          have u5 := up_cell ((blk_cell BF.out 5).trans rfl)
          have n12 := Aside0.mk (fun s : Up (wr.alloc (.cells #[.int .i64 0, .int .i64 1, .int .i64 0, .int .i64 0, .int .i64 0, .slice none 0 0] 29)) => Number_any x s.val)
          have f15 : ∀ s : Up (wr.alloc (.cells #[.int .i64 0, .int .i64 1, .int .i64 0, .int .i64 0, .int .i64 0, .slice none 0 0] 29)), Calls Try.prog 15 #[.agg #[.int .i64 0, .int .i64 1, .int .i64 0, .int .i64 0, .int .i64 0, .slice none 0 0], .agg #[.int .u64 x, .slice none 0 0, .slice none 0 0]] s.val fun e w' => e = .returned (.int .i64 0) ∧ Below s.val.heap.size s.val w' := fun s => (Fits_any ⟨0, 1, 0, 0, 0, []⟩ ⟨x, [], []⟩ none 0 none 0 none 0 s.val (Kd.C_nil _ _) (Nat.le_refl 0) (Kd.C_nil _ _) (Nat.le_refl 0) (Kd.C_nil _ _) (Nat.le_refl 0)).mono fun e w' ⟨h1, h2⟩ => ⟨by rw [h1, E.out], h2⟩
          have F15 := Aside0.mk f15
          clear f15
          refine wp_region_up (by kernel_rfl) (by kernel_rfl) ?_
          repeat (go_big_quiet_step (first | ((go_at_call 12; exact up_of (n12.out _))) | ((go_at_call 15; exact up_of (F15.out _)))))
          refine wpQuiet_nil ?_
          rintro _ ⟨s6, rfl⟩
          have hb6 := s6.below
          obtain ⟨w6, hw6⟩ : ∃ w6, w6 = s6.val := ⟨_, rfl⟩
          rw [← hw6] at hb6 ⊢
          clear hw6 s6 u0 u1 u2 u3 u4 u5 n12 F15
          have B6 := Aside0.mk (blk_below BF.out hb6)
          have L6 := Aside0.mk (blk_below BL1.out hb6)
          have HB6 := Aside0.mk (below_step HBa.out hb6)
          clear hb6 HBa BL1 BF BL HB hl0 hl1 hl2 hl3 hl4
          go_wp2
          have u0 := up_cell ((blk_cell B6.out 0).trans rfl)
          have u1 := up_cell ((blk_cell B6.out 1).trans rfl)
          have u2 := up_cell ((blk_cell B6.out 2).trans rfl)
          have u3 := up_cell ((blk_cell B6.out 3).trans rfl)
          have u4 := up_cell ((blk_cell B6.out 4).trans rfl)
          have u5 := up_cell ((blk_cell B6.out 5).trans rfl)
          have n12 := Aside0.mk (fun s : Up (w6) => Number_any x s.val)
          have f16 : ∀ s : Up (w6), Calls Try.prog 16 #[.agg #[.int .i64 0, .int .i64 1, .int .i64 0, .int .i64 0, .int .i64 0, .slice none 0 0], .agg #[.int .u64 x, .slice none 0 0, .slice none 0 0]] s.val fun e w' => e = .returned (.int .i64 1) ∧ Below s.val.heap.size s.val w' := fun s => (Size_any ⟨0, 1, 0, 0, 0, []⟩ ⟨x, [], []⟩ none 0 none 0 none 0 s.val (Kd.C_nil _ _) (Nat.le_refl 0) (Kd.C_nil _ _) (Nat.le_refl 0) (Kd.C_nil _ _) (Nat.le_refl 0)).mono fun e w' ⟨h1, h2⟩ => ⟨by rw [h1, E.out], h2⟩
          have F16 := Aside0.mk f16
          clear f16
          refine wp_region_up (by kernel_rfl) (by kernel_rfl) ?_
          repeat (go_big_quiet_step (first | ((go_at_call 12; exact up_of (n12.out _))) | ((go_at_call 16; exact up_of (F16.out _)))))
          refine wpQuiet_nil ?_
          rintro _ ⟨s7, rfl⟩
          have hb7 := s7.below
          obtain ⟨w7, hw7⟩ : ∃ w7, w7 = s7.val := ⟨_, rfl⟩
          rw [← hw7] at hb7 ⊢
          clear hw7 s7 u0 u1 u2 u3 u4 u5 n12 F16
          have L7 := Aside0.mk (blk_below L6.out hb7)
          have HB7 := Aside0.mk (below_step HB6.out hb7)
          clear hb7 HB6 L6 B6
          go_wp2
          go_roundg (k1)
          case measure => have := HK.out; omega
          case rel => exact ⟨1, rfl, by omega, by omega, ⟨by have := HK.out; omega⟩, HB7, L7⟩
        · have E := Aside0.mk (show sizeT ⟨0, 1, 0, 0, 0, []⟩ ⟨x, [], []⟩ = (0, 3) by rw [numS 1 x (by omega), if_pos (by decide), if_pos (by rw [show shr .u64 x (8 * 1) = x / 256 from rfl]; have := X0.out; omega)])
          have hxb : decide (x < 256) = false := decide_eq_false hx
          clear hx
          go_wp2
          have BF := Aside0.mk (heap_alloc_new wr (.cells #[.int .i64 0, .int .i64 1, .int .i64 0, .int .i64 0, .int .i64 0, .slice none 0 0] 29))
          have BL1 := Aside0.mk (blk_alloc BL.out (.cells #[.int .i64 0, .int .i64 1, .int .i64 0, .int .i64 0, .int .i64 0, .slice none 0 0] 29))
          have HBa := Aside0.mk (below_alloc HB.out (.cells #[.int .i64 0, .int .i64 1, .int .i64 0, .int .i64 0, .int .i64 0, .slice none 0 0] 29))
          have u0 := up_cell ((blk_cell BF.out 0).trans rfl)
          have u1 := up_cell ((blk_cell BF.out 1).trans rfl)
          have u2 := up_cell ((blk_cell BF.out 2).trans rfl)
          have u3 := up_cell ((blk_cell BF.out 3).trans rfl)
          have u4 := up_cell ((blk_cell BF.out 4).trans rfl)
          have u5 := up_cell ((blk_cell BF.out 5).trans rfl)
          have n12 := Aside0.mk (fun s : Up (wr.alloc (.cells #[.int .i64 0, .int .i64 1, .int .i64 0, .int .i64 0, .int .i64 0, .slice none 0 0] 29)) => Number_any x s.val)
          have f15 : ∀ s : Up (wr.alloc (.cells #[.int .i64 0, .int .i64 1, .int .i64 0, .int .i64 0, .int .i64 0, .slice none 0 0] 29)), Calls Try.prog 15 #[.agg #[.int .i64 0, .int .i64 1, .int .i64 0, .int .i64 0, .int .i64 0, .slice none 0 0], .agg #[.int .u64 x, .slice none 0 0, .slice none 0 0]] s.val fun e w' => e = .returned (.int .i64 3) ∧ Below s.val.heap.size s.val w' := fun s => (Fits_any ⟨0, 1, 0, 0, 0, []⟩ ⟨x, [], []⟩ none 0 none 0 none 0 s.val (Kd.C_nil _ _) (Nat.le_refl 0) (Kd.C_nil _ _) (Nat.le_refl 0) (Kd.C_nil _ _) (Nat.le_refl 0)).mono fun e w' ⟨h1, h2⟩ => ⟨by rw [h1, E.out], h2⟩
          have F15 := Aside0.mk f15
          clear f15
          refine wp_region_up (by kernel_rfl) (by kernel_rfl) ?_
          repeat (go_big_quiet_step (first | ((go_at_call 12; exact up_of (n12.out _))) | ((go_at_call 15; exact up_of (F15.out _)))))
          refine wpQuiet_nil ?_
          rintro _ ⟨s6, rfl⟩
          have hb6 := s6.below
          obtain ⟨w6, hw6⟩ : ∃ w6, w6 = s6.val := ⟨_, rfl⟩
          rw [← hw6] at hb6 ⊢
          clear hw6 s6 u0 u1 u2 u3 u4 u5 n12 F15
          have B6 := Aside0.mk (blk_below BF.out hb6)
          have L6 := Aside0.mk (blk_below BL1.out hb6)
          have HB6 := Aside0.mk (below_step HBa.out hb6)
          clear hb6 HBa BL1 BF BL HB hl0 hl1 hl2 hl3 hl4
          go_wp2
          have u0 := up_cell ((blk_cell B6.out 0).trans rfl)
          have u1 := up_cell ((blk_cell B6.out 1).trans rfl)
          have u2 := up_cell ((blk_cell B6.out 2).trans rfl)
          have u3 := up_cell ((blk_cell B6.out 3).trans rfl)
          have u4 := up_cell ((blk_cell B6.out 4).trans rfl)
          have u5 := up_cell ((blk_cell B6.out 5).trans rfl)
          have n12 := Aside0.mk (fun s : Up (w6) => Number_any x s.val)
          have f16 : ∀ s : Up (w6), Calls Try.prog 16 #[.agg #[.int .i64 0, .int .i64 1, .int .i64 0, .int .i64 0, .int .i64 0, .slice none 0 0], .agg #[.int .u64 x, .slice none 0 0, .slice none 0 0]] s.val fun e w' => e = .returned (.int .i64 0) ∧ Below s.val.heap.size s.val w' := fun s => (Size_any ⟨0, 1, 0, 0, 0, []⟩ ⟨x, [], []⟩ none 0 none 0 none 0 s.val (Kd.C_nil _ _) (Nat.le_refl 0) (Kd.C_nil _ _) (Nat.le_refl 0) (Kd.C_nil _ _) (Nat.le_refl 0)).mono fun e w' ⟨h1, h2⟩ => ⟨by rw [h1, E.out], h2⟩
          have F16 := Aside0.mk f16
          clear f16
          refine wp_region_up (by kernel_rfl) (by kernel_rfl) ?_
          repeat (go_big_quiet_step (first | ((go_at_call 12; exact up_of (n12.out _))) | ((go_at_call 16; exact up_of (F16.out _)))))
          refine wpQuiet_nil ?_
          rintro _ ⟨s7, rfl⟩
          have hb7 := s7.below
          obtain ⟨w7, hw7⟩ : ∃ w7, w7 = s7.val := ⟨_, rfl⟩
          rw [← hw7] at hb7 ⊢
          clear hw7 s7 u0 u1 u2 u3 u4 u5 n12 F16
          have L7 := Aside0.mk (blk_below L6.out hb7)
          have HB7 := Aside0.mk (below_step HB6.out hb7)
          clear hb7 HB6 L6 B6
          go_wp2
          go_roundg (k1)
          case measure => have := HK.out; omega
          case rel => exact ⟨1, rfl, by omega, by omega, ⟨by have := HK.out; omega⟩, HB7, L7⟩
      · by_cases hx : x < 65536
        · have E := Aside0.mk (show sizeT ⟨0, 2, 0, 0, 0, []⟩ ⟨x, [], []⟩ = (2, 0) by rw [numS 2 x (by omega), if_pos (by decide), if_neg (by rw [show shr .u64 x (8 * 2) = x / 65536 from rfl]; have := X0.out; omega)])
          have hxb : decide (x < 65536) = true := decide_eq_true hx
          clear hx
          go_wp2
          have BF := Aside0.mk (heap_alloc_new wr (.cells #[.int .i64 0, .int .i64 2, .int .i64 0, .int .i64 0, .int .i64 0, .slice none 0 0] 29))
          have BL1 := Aside0.mk (blk_alloc BL.out (.cells #[.int .i64 0, .int .i64 2, .int .i64 0, .int .i64 0, .int .i64 0, .slice none 0 0] 29))
          have HBa := Aside0.mk (below_alloc HB.out (.cells #[.int .i64 0, .int .i64 2, .int .i64 0, .int .i64 0, .int .i64 0, .slice none 0 0] 29))
          have u0 := up_cell ((blk_cell BF.out 0).trans rfl)
          have u1 := up_cell ((blk_cell BF.out 1).trans rfl)
          have u2 := up_cell ((blk_cell BF.out 2).trans rfl)
          have u3 := up_cell ((blk_cell BF.out 3).trans rfl)
          have u4 := up_cell ((blk_cell BF.out 4).trans rfl)
          have u5 := up_cell ((blk_cell BF.out 5).trans rfl)
          have n12 := Aside0.mk (fun s : Up (wr.alloc (.cells #[.int .i64 0, .int .i64 2, .int .i64 0, .int .i64 0, .int .i64 0, .slice none 0 0] 29)) => Number_any x s.val)
          have f15 : ∀ s : Up (wr.alloc (.cells #[.int .i64 0, .int .i64 2, .int .i64 0, .int .i64 0, .int .i64 0, .slice none 0 0] 29)), Calls Try.prog 15 #[.agg #[.int .i64 0, .int .i64 2, .int .i64 0, .int .i64 0, .int .i64 0, .slice none 0 0], .agg #[.int .u64 x, .slice none 0 0, .slice none 0 0]] s.val fun e w' => e = .returned (.int .i64 0) ∧ Below s.val.heap.size s.val w' := fun s => (Fits_any ⟨0, 2, 0, 0, 0, []⟩ ⟨x, [], []⟩ none 0 none 0 none 0 s.val (Kd.C_nil _ _) (Nat.le_refl 0) (Kd.C_nil _ _) (Nat.le_refl 0) (Kd.C_nil _ _) (Nat.le_refl 0)).mono fun e w' ⟨h1, h2⟩ => ⟨by rw [h1, E.out], h2⟩
          have F15 := Aside0.mk f15
          clear f15
          refine wp_region_up (by kernel_rfl) (by kernel_rfl) ?_
          repeat (go_big_quiet_step (first | ((go_at_call 12; exact up_of (n12.out _))) | ((go_at_call 15; exact up_of (F15.out _)))))
          refine wpQuiet_nil ?_
          rintro _ ⟨s6, rfl⟩
          have hb6 := s6.below
          obtain ⟨w6, hw6⟩ : ∃ w6, w6 = s6.val := ⟨_, rfl⟩
          rw [← hw6] at hb6 ⊢
          clear hw6 s6 u0 u1 u2 u3 u4 u5 n12 F15
          have B6 := Aside0.mk (blk_below BF.out hb6)
          have L6 := Aside0.mk (blk_below BL1.out hb6)
          have HB6 := Aside0.mk (below_step HBa.out hb6)
          clear hb6 HBa BL1 BF BL HB hl0 hl1 hl2 hl3 hl4
          go_wp2
          have u0 := up_cell ((blk_cell B6.out 0).trans rfl)
          have u1 := up_cell ((blk_cell B6.out 1).trans rfl)
          have u2 := up_cell ((blk_cell B6.out 2).trans rfl)
          have u3 := up_cell ((blk_cell B6.out 3).trans rfl)
          have u4 := up_cell ((blk_cell B6.out 4).trans rfl)
          have u5 := up_cell ((blk_cell B6.out 5).trans rfl)
          have n12 := Aside0.mk (fun s : Up (w6) => Number_any x s.val)
          have f16 : ∀ s : Up (w6), Calls Try.prog 16 #[.agg #[.int .i64 0, .int .i64 2, .int .i64 0, .int .i64 0, .int .i64 0, .slice none 0 0], .agg #[.int .u64 x, .slice none 0 0, .slice none 0 0]] s.val fun e w' => e = .returned (.int .i64 2) ∧ Below s.val.heap.size s.val w' := fun s => (Size_any ⟨0, 2, 0, 0, 0, []⟩ ⟨x, [], []⟩ none 0 none 0 none 0 s.val (Kd.C_nil _ _) (Nat.le_refl 0) (Kd.C_nil _ _) (Nat.le_refl 0) (Kd.C_nil _ _) (Nat.le_refl 0)).mono fun e w' ⟨h1, h2⟩ => ⟨by rw [h1, E.out], h2⟩
          have F16 := Aside0.mk f16
          clear f16
          refine wp_region_up (by kernel_rfl) (by kernel_rfl) ?_
          repeat (go_big_quiet_step (first | ((go_at_call 12; exact up_of (n12.out _))) | ((go_at_call 16; exact up_of (F16.out _)))))
          refine wpQuiet_nil ?_
          rintro _ ⟨s7, rfl⟩
          have hb7 := s7.below
          obtain ⟨w7, hw7⟩ : ∃ w7, w7 = s7.val := ⟨_, rfl⟩
          rw [← hw7] at hb7 ⊢
          clear hw7 s7 u0 u1 u2 u3 u4 u5 n12 F16
          have L7 := Aside0.mk (blk_below L6.out hb7)
          have HB7 := Aside0.mk (below_step HB6.out hb7)
          clear hb7 HB6 L6 B6
          go_wp2
          go_roundg (k1)
          case measure => have := HK.out; omega
          case rel => exact ⟨2, rfl, by omega, by omega, ⟨by have := HK.out; omega⟩, HB7, L7⟩
        · have E := Aside0.mk (show sizeT ⟨0, 2, 0, 0, 0, []⟩ ⟨x, [], []⟩ = (0, 3) by rw [numS 2 x (by omega), if_pos (by decide), if_pos (by rw [show shr .u64 x (8 * 2) = x / 65536 from rfl]; have := X0.out; omega)])
          have hxb : decide (x < 65536) = false := decide_eq_false hx
          clear hx
          go_wp2
          have BF := Aside0.mk (heap_alloc_new wr (.cells #[.int .i64 0, .int .i64 2, .int .i64 0, .int .i64 0, .int .i64 0, .slice none 0 0] 29))
          have BL1 := Aside0.mk (blk_alloc BL.out (.cells #[.int .i64 0, .int .i64 2, .int .i64 0, .int .i64 0, .int .i64 0, .slice none 0 0] 29))
          have HBa := Aside0.mk (below_alloc HB.out (.cells #[.int .i64 0, .int .i64 2, .int .i64 0, .int .i64 0, .int .i64 0, .slice none 0 0] 29))
          have u0 := up_cell ((blk_cell BF.out 0).trans rfl)
          have u1 := up_cell ((blk_cell BF.out 1).trans rfl)
          have u2 := up_cell ((blk_cell BF.out 2).trans rfl)
          have u3 := up_cell ((blk_cell BF.out 3).trans rfl)
          have u4 := up_cell ((blk_cell BF.out 4).trans rfl)
          have u5 := up_cell ((blk_cell BF.out 5).trans rfl)
          have n12 := Aside0.mk (fun s : Up (wr.alloc (.cells #[.int .i64 0, .int .i64 2, .int .i64 0, .int .i64 0, .int .i64 0, .slice none 0 0] 29)) => Number_any x s.val)
          have f15 : ∀ s : Up (wr.alloc (.cells #[.int .i64 0, .int .i64 2, .int .i64 0, .int .i64 0, .int .i64 0, .slice none 0 0] 29)), Calls Try.prog 15 #[.agg #[.int .i64 0, .int .i64 2, .int .i64 0, .int .i64 0, .int .i64 0, .slice none 0 0], .agg #[.int .u64 x, .slice none 0 0, .slice none 0 0]] s.val fun e w' => e = .returned (.int .i64 3) ∧ Below s.val.heap.size s.val w' := fun s => (Fits_any ⟨0, 2, 0, 0, 0, []⟩ ⟨x, [], []⟩ none 0 none 0 none 0 s.val (Kd.C_nil _ _) (Nat.le_refl 0) (Kd.C_nil _ _) (Nat.le_refl 0) (Kd.C_nil _ _) (Nat.le_refl 0)).mono fun e w' ⟨h1, h2⟩ => ⟨by rw [h1, E.out], h2⟩
          have F15 := Aside0.mk f15
          clear f15
          refine wp_region_up (by kernel_rfl) (by kernel_rfl) ?_
          repeat (go_big_quiet_step (first | ((go_at_call 12; exact up_of (n12.out _))) | ((go_at_call 15; exact up_of (F15.out _)))))
          refine wpQuiet_nil ?_
          rintro _ ⟨s6, rfl⟩
          have hb6 := s6.below
          obtain ⟨w6, hw6⟩ : ∃ w6, w6 = s6.val := ⟨_, rfl⟩
          rw [← hw6] at hb6 ⊢
          clear hw6 s6 u0 u1 u2 u3 u4 u5 n12 F15
          have B6 := Aside0.mk (blk_below BF.out hb6)
          have L6 := Aside0.mk (blk_below BL1.out hb6)
          have HB6 := Aside0.mk (below_step HBa.out hb6)
          clear hb6 HBa BL1 BF BL HB hl0 hl1 hl2 hl3 hl4
          go_wp2
          have u0 := up_cell ((blk_cell B6.out 0).trans rfl)
          have u1 := up_cell ((blk_cell B6.out 1).trans rfl)
          have u2 := up_cell ((blk_cell B6.out 2).trans rfl)
          have u3 := up_cell ((blk_cell B6.out 3).trans rfl)
          have u4 := up_cell ((blk_cell B6.out 4).trans rfl)
          have u5 := up_cell ((blk_cell B6.out 5).trans rfl)
          have n12 := Aside0.mk (fun s : Up (w6) => Number_any x s.val)
          have f16 : ∀ s : Up (w6), Calls Try.prog 16 #[.agg #[.int .i64 0, .int .i64 2, .int .i64 0, .int .i64 0, .int .i64 0, .slice none 0 0], .agg #[.int .u64 x, .slice none 0 0, .slice none 0 0]] s.val fun e w' => e = .returned (.int .i64 0) ∧ Below s.val.heap.size s.val w' := fun s => (Size_any ⟨0, 2, 0, 0, 0, []⟩ ⟨x, [], []⟩ none 0 none 0 none 0 s.val (Kd.C_nil _ _) (Nat.le_refl 0) (Kd.C_nil _ _) (Nat.le_refl 0) (Kd.C_nil _ _) (Nat.le_refl 0)).mono fun e w' ⟨h1, h2⟩ => ⟨by rw [h1, E.out], h2⟩
          have F16 := Aside0.mk f16
          clear f16
          refine wp_region_up (by kernel_rfl) (by kernel_rfl) ?_
          repeat (go_big_quiet_step (first | ((go_at_call 12; exact up_of (n12.out _))) | ((go_at_call 16; exact up_of (F16.out _)))))
          refine wpQuiet_nil ?_
          rintro _ ⟨s7, rfl⟩
          have hb7 := s7.below
          obtain ⟨w7, hw7⟩ : ∃ w7, w7 = s7.val := ⟨_, rfl⟩
          rw [← hw7] at hb7 ⊢
          clear hw7 s7 u0 u1 u2 u3 u4 u5 n12 F16
          have L7 := Aside0.mk (blk_below L6.out hb7)
          have HB7 := Aside0.mk (below_step HB6.out hb7)
          clear hb7 HB6 L6 B6
          go_wp2
          go_roundg (k1)
          case measure => have := HK.out; omega
          case rel => exact ⟨2, rfl, by omega, by omega, ⟨by have := HK.out; omega⟩, HB7, L7⟩
      · by_cases hx : x < 16777216
        · have E := Aside0.mk (show sizeT ⟨0, 3, 0, 0, 0, []⟩ ⟨x, [], []⟩ = (3, 0) by rw [numS 3 x (by omega), if_pos (by decide), if_neg (by rw [show shr .u64 x (8 * 3) = x / 16777216 from rfl]; have := X0.out; omega)])
          have hxb : decide (x < 16777216) = true := decide_eq_true hx
          clear hx
          go_wp2
          have BF := Aside0.mk (heap_alloc_new wr (.cells #[.int .i64 0, .int .i64 3, .int .i64 0, .int .i64 0, .int .i64 0, .slice none 0 0] 29))
          have BL1 := Aside0.mk (blk_alloc BL.out (.cells #[.int .i64 0, .int .i64 3, .int .i64 0, .int .i64 0, .int .i64 0, .slice none 0 0] 29))
          have HBa := Aside0.mk (below_alloc HB.out (.cells #[.int .i64 0, .int .i64 3, .int .i64 0, .int .i64 0, .int .i64 0, .slice none 0 0] 29))
          have u0 := up_cell ((blk_cell BF.out 0).trans rfl)
          have u1 := up_cell ((blk_cell BF.out 1).trans rfl)
          have u2 := up_cell ((blk_cell BF.out 2).trans rfl)
          have u3 := up_cell ((blk_cell BF.out 3).trans rfl)
          have u4 := up_cell ((blk_cell BF.out 4).trans rfl)
          have u5 := up_cell ((blk_cell BF.out 5).trans rfl)
          have n12 := Aside0.mk (fun s : Up (wr.alloc (.cells #[.int .i64 0, .int .i64 3, .int .i64 0, .int .i64 0, .int .i64 0, .slice none 0 0] 29)) => Number_any x s.val)
          have f15 : ∀ s : Up (wr.alloc (.cells #[.int .i64 0, .int .i64 3, .int .i64 0, .int .i64 0, .int .i64 0, .slice none 0 0] 29)), Calls Try.prog 15 #[.agg #[.int .i64 0, .int .i64 3, .int .i64 0, .int .i64 0, .int .i64 0, .slice none 0 0], .agg #[.int .u64 x, .slice none 0 0, .slice none 0 0]] s.val fun e w' => e = .returned (.int .i64 0) ∧ Below s.val.heap.size s.val w' := fun s => (Fits_any ⟨0, 3, 0, 0, 0, []⟩ ⟨x, [], []⟩ none 0 none 0 none 0 s.val (Kd.C_nil _ _) (Nat.le_refl 0) (Kd.C_nil _ _) (Nat.le_refl 0) (Kd.C_nil _ _) (Nat.le_refl 0)).mono fun e w' ⟨h1, h2⟩ => ⟨by rw [h1, E.out], h2⟩
          have F15 := Aside0.mk f15
          clear f15
          refine wp_region_up (by kernel_rfl) (by kernel_rfl) ?_
          repeat (go_big_quiet_step (first | ((go_at_call 12; exact up_of (n12.out _))) | ((go_at_call 15; exact up_of (F15.out _)))))
          refine wpQuiet_nil ?_
          rintro _ ⟨s6, rfl⟩
          have hb6 := s6.below
          obtain ⟨w6, hw6⟩ : ∃ w6, w6 = s6.val := ⟨_, rfl⟩
          rw [← hw6] at hb6 ⊢
          clear hw6 s6 u0 u1 u2 u3 u4 u5 n12 F15
          have B6 := Aside0.mk (blk_below BF.out hb6)
          have L6 := Aside0.mk (blk_below BL1.out hb6)
          have HB6 := Aside0.mk (below_step HBa.out hb6)
          clear hb6 HBa BL1 BF BL HB hl0 hl1 hl2 hl3 hl4
          go_wp2
          have u0 := up_cell ((blk_cell B6.out 0).trans rfl)
          have u1 := up_cell ((blk_cell B6.out 1).trans rfl)
          have u2 := up_cell ((blk_cell B6.out 2).trans rfl)
          have u3 := up_cell ((blk_cell B6.out 3).trans rfl)
          have u4 := up_cell ((blk_cell B6.out 4).trans rfl)
          have u5 := up_cell ((blk_cell B6.out 5).trans rfl)
          have n12 := Aside0.mk (fun s : Up (w6) => Number_any x s.val)
          have f16 : ∀ s : Up (w6), Calls Try.prog 16 #[.agg #[.int .i64 0, .int .i64 3, .int .i64 0, .int .i64 0, .int .i64 0, .slice none 0 0], .agg #[.int .u64 x, .slice none 0 0, .slice none 0 0]] s.val fun e w' => e = .returned (.int .i64 3) ∧ Below s.val.heap.size s.val w' := fun s => (Size_any ⟨0, 3, 0, 0, 0, []⟩ ⟨x, [], []⟩ none 0 none 0 none 0 s.val (Kd.C_nil _ _) (Nat.le_refl 0) (Kd.C_nil _ _) (Nat.le_refl 0) (Kd.C_nil _ _) (Nat.le_refl 0)).mono fun e w' ⟨h1, h2⟩ => ⟨by rw [h1, E.out], h2⟩
          have F16 := Aside0.mk f16
          clear f16
          refine wp_region_up (by kernel_rfl) (by kernel_rfl) ?_
          repeat (go_big_quiet_step (first | ((go_at_call 12; exact up_of (n12.out _))) | ((go_at_call 16; exact up_of (F16.out _)))))
          refine wpQuiet_nil ?_
          rintro _ ⟨s7, rfl⟩
          have hb7 := s7.below
          obtain ⟨w7, hw7⟩ : ∃ w7, w7 = s7.val := ⟨_, rfl⟩
          rw [← hw7] at hb7 ⊢
          clear hw7 s7 u0 u1 u2 u3 u4 u5 n12 F16
          have L7 := Aside0.mk (blk_below L6.out hb7)
          have HB7 := Aside0.mk (below_step HB6.out hb7)
          clear hb7 HB6 L6 B6
          go_wp2
          go_roundg (k1)
          case measure => have := HK.out; omega
          case rel => exact ⟨3, rfl, by omega, by omega, ⟨by have := HK.out; omega⟩, HB7, L7⟩
        · have E := Aside0.mk (show sizeT ⟨0, 3, 0, 0, 0, []⟩ ⟨x, [], []⟩ = (0, 3) by rw [numS 3 x (by omega), if_pos (by decide), if_pos (by rw [show shr .u64 x (8 * 3) = x / 16777216 from rfl]; have := X0.out; omega)])
          have hxb : decide (x < 16777216) = false := decide_eq_false hx
          clear hx
          go_wp2
          have BF := Aside0.mk (heap_alloc_new wr (.cells #[.int .i64 0, .int .i64 3, .int .i64 0, .int .i64 0, .int .i64 0, .slice none 0 0] 29))
          have BL1 := Aside0.mk (blk_alloc BL.out (.cells #[.int .i64 0, .int .i64 3, .int .i64 0, .int .i64 0, .int .i64 0, .slice none 0 0] 29))
          have HBa := Aside0.mk (below_alloc HB.out (.cells #[.int .i64 0, .int .i64 3, .int .i64 0, .int .i64 0, .int .i64 0, .slice none 0 0] 29))
          have u0 := up_cell ((blk_cell BF.out 0).trans rfl)
          have u1 := up_cell ((blk_cell BF.out 1).trans rfl)
          have u2 := up_cell ((blk_cell BF.out 2).trans rfl)
          have u3 := up_cell ((blk_cell BF.out 3).trans rfl)
          have u4 := up_cell ((blk_cell BF.out 4).trans rfl)
          have u5 := up_cell ((blk_cell BF.out 5).trans rfl)
          have n12 := Aside0.mk (fun s : Up (wr.alloc (.cells #[.int .i64 0, .int .i64 3, .int .i64 0, .int .i64 0, .int .i64 0, .slice none 0 0] 29)) => Number_any x s.val)
          have f15 : ∀ s : Up (wr.alloc (.cells #[.int .i64 0, .int .i64 3, .int .i64 0, .int .i64 0, .int .i64 0, .slice none 0 0] 29)), Calls Try.prog 15 #[.agg #[.int .i64 0, .int .i64 3, .int .i64 0, .int .i64 0, .int .i64 0, .slice none 0 0], .agg #[.int .u64 x, .slice none 0 0, .slice none 0 0]] s.val fun e w' => e = .returned (.int .i64 3) ∧ Below s.val.heap.size s.val w' := fun s => (Fits_any ⟨0, 3, 0, 0, 0, []⟩ ⟨x, [], []⟩ none 0 none 0 none 0 s.val (Kd.C_nil _ _) (Nat.le_refl 0) (Kd.C_nil _ _) (Nat.le_refl 0) (Kd.C_nil _ _) (Nat.le_refl 0)).mono fun e w' ⟨h1, h2⟩ => ⟨by rw [h1, E.out], h2⟩
          have F15 := Aside0.mk f15
          clear f15
          refine wp_region_up (by kernel_rfl) (by kernel_rfl) ?_
          repeat (go_big_quiet_step (first | ((go_at_call 12; exact up_of (n12.out _))) | ((go_at_call 15; exact up_of (F15.out _)))))
          refine wpQuiet_nil ?_
          rintro _ ⟨s6, rfl⟩
          have hb6 := s6.below
          obtain ⟨w6, hw6⟩ : ∃ w6, w6 = s6.val := ⟨_, rfl⟩
          rw [← hw6] at hb6 ⊢
          clear hw6 s6 u0 u1 u2 u3 u4 u5 n12 F15
          have B6 := Aside0.mk (blk_below BF.out hb6)
          have L6 := Aside0.mk (blk_below BL1.out hb6)
          have HB6 := Aside0.mk (below_step HBa.out hb6)
          clear hb6 HBa BL1 BF BL HB hl0 hl1 hl2 hl3 hl4
          go_wp2
          have u0 := up_cell ((blk_cell B6.out 0).trans rfl)
          have u1 := up_cell ((blk_cell B6.out 1).trans rfl)
          have u2 := up_cell ((blk_cell B6.out 2).trans rfl)
          have u3 := up_cell ((blk_cell B6.out 3).trans rfl)
          have u4 := up_cell ((blk_cell B6.out 4).trans rfl)
          have u5 := up_cell ((blk_cell B6.out 5).trans rfl)
          have n12 := Aside0.mk (fun s : Up (w6) => Number_any x s.val)
          have f16 : ∀ s : Up (w6), Calls Try.prog 16 #[.agg #[.int .i64 0, .int .i64 3, .int .i64 0, .int .i64 0, .int .i64 0, .slice none 0 0], .agg #[.int .u64 x, .slice none 0 0, .slice none 0 0]] s.val fun e w' => e = .returned (.int .i64 0) ∧ Below s.val.heap.size s.val w' := fun s => (Size_any ⟨0, 3, 0, 0, 0, []⟩ ⟨x, [], []⟩ none 0 none 0 none 0 s.val (Kd.C_nil _ _) (Nat.le_refl 0) (Kd.C_nil _ _) (Nat.le_refl 0) (Kd.C_nil _ _) (Nat.le_refl 0)).mono fun e w' ⟨h1, h2⟩ => ⟨by rw [h1, E.out], h2⟩
          have F16 := Aside0.mk f16
          clear f16
          refine wp_region_up (by kernel_rfl) (by kernel_rfl) ?_
          repeat (go_big_quiet_step (first | ((go_at_call 12; exact up_of (n12.out _))) | ((go_at_call 16; exact up_of (F16.out _)))))
          refine wpQuiet_nil ?_
          rintro _ ⟨s7, rfl⟩
          have hb7 := s7.below
          obtain ⟨w7, hw7⟩ : ∃ w7, w7 = s7.val := ⟨_, rfl⟩
          rw [← hw7] at hb7 ⊢
          clear hw7 s7 u0 u1 u2 u3 u4 u5 n12 F16
          have L7 := Aside0.mk (blk_below L6.out hb7)
          have HB7 := Aside0.mk (below_step HB6.out hb7)
          clear hb7 HB6 L6 B6
          go_wp2
          go_roundg (k1)
          case measure => have := HK.out; omega
          case rel => exact ⟨3, rfl, by omega, by omega, ⟨by have := HK.out; omega⟩, HB7, L7⟩
      · by_cases hx : x < 4294967296
        · have E := Aside0.mk (show sizeT ⟨0, 4, 0, 0, 0, []⟩ ⟨x, [], []⟩ = (4, 0) by rw [numS 4 x (by omega), if_pos (by decide), if_neg (by rw [show shr .u64 x (8 * 4) = x / 4294967296 from rfl]; have := X0.out; omega)])
          have hxb : decide (x < 4294967296) = true := decide_eq_true hx
          clear hx
          go_wp2
          have BF := Aside0.mk (heap_alloc_new wr (.cells #[.int .i64 0, .int .i64 4, .int .i64 0, .int .i64 0, .int .i64 0, .slice none 0 0] 29))
          have BL1 := Aside0.mk (blk_alloc BL.out (.cells #[.int .i64 0, .int .i64 4, .int .i64 0, .int .i64 0, .int .i64 0, .slice none 0 0] 29))
          have HBa := Aside0.mk (below_alloc HB.out (.cells #[.int .i64 0, .int .i64 4, .int .i64 0, .int .i64 0, .int .i64 0, .slice none 0 0] 29))
          have u0 := up_cell ((blk_cell BF.out 0).trans rfl)
          have u1 := up_cell ((blk_cell BF.out 1).trans rfl)
          have u2 := up_cell ((blk_cell BF.out 2).trans rfl)
          have u3 := up_cell ((blk_cell BF.out 3).trans rfl)
          have u4 := up_cell ((blk_cell BF.out 4).trans rfl)
          have u5 := up_cell ((blk_cell BF.out 5).trans rfl)
          have n12 := Aside0.mk (fun s : Up (wr.alloc (.cells #[.int .i64 0, .int .i64 4, .int .i64 0, .int .i64 0, .int .i64 0, .slice none 0 0] 29)) => Number_any x s.val)
          have f15 : ∀ s : Up (wr.alloc (.cells #[.int .i64 0, .int .i64 4, .int .i64 0, .int .i64 0, .int .i64 0, .slice none 0 0] 29)), Calls Try.prog 15 #[.agg #[.int .i64 0, .int .i64 4, .int .i64 0, .int .i64 0, .int .i64 0, .slice none 0 0], .agg #[.int .u64 x, .slice none 0 0, .slice none 0 0]] s.val fun e w' => e = .returned (.int .i64 0) ∧ Below s.val.heap.size s.val w' := fun s => (Fits_any ⟨0, 4, 0, 0, 0, []⟩ ⟨x, [], []⟩ none 0 none 0 none 0 s.val (Kd.C_nil _ _) (Nat.le_refl 0) (Kd.C_nil _ _) (Nat.le_refl 0) (Kd.C_nil _ _) (Nat.le_refl 0)).mono fun e w' ⟨h1, h2⟩ => ⟨by rw [h1, E.out], h2⟩
          have F15 := Aside0.mk f15
          clear f15
          refine wp_region_up (by kernel_rfl) (by kernel_rfl) ?_
          repeat (go_big_quiet_step (first | ((go_at_call 12; exact up_of (n12.out _))) | ((go_at_call 15; exact up_of (F15.out _)))))
          refine wpQuiet_nil ?_
          rintro _ ⟨s6, rfl⟩
          have hb6 := s6.below
          obtain ⟨w6, hw6⟩ : ∃ w6, w6 = s6.val := ⟨_, rfl⟩
          rw [← hw6] at hb6 ⊢
          clear hw6 s6 u0 u1 u2 u3 u4 u5 n12 F15
          have B6 := Aside0.mk (blk_below BF.out hb6)
          have L6 := Aside0.mk (blk_below BL1.out hb6)
          have HB6 := Aside0.mk (below_step HBa.out hb6)
          clear hb6 HBa BL1 BF BL HB hl0 hl1 hl2 hl3 hl4
          go_wp2
          have u0 := up_cell ((blk_cell B6.out 0).trans rfl)
          have u1 := up_cell ((blk_cell B6.out 1).trans rfl)
          have u2 := up_cell ((blk_cell B6.out 2).trans rfl)
          have u3 := up_cell ((blk_cell B6.out 3).trans rfl)
          have u4 := up_cell ((blk_cell B6.out 4).trans rfl)
          have u5 := up_cell ((blk_cell B6.out 5).trans rfl)
          have n12 := Aside0.mk (fun s : Up (w6) => Number_any x s.val)
          have f16 : ∀ s : Up (w6), Calls Try.prog 16 #[.agg #[.int .i64 0, .int .i64 4, .int .i64 0, .int .i64 0, .int .i64 0, .slice none 0 0], .agg #[.int .u64 x, .slice none 0 0, .slice none 0 0]] s.val fun e w' => e = .returned (.int .i64 4) ∧ Below s.val.heap.size s.val w' := fun s => (Size_any ⟨0, 4, 0, 0, 0, []⟩ ⟨x, [], []⟩ none 0 none 0 none 0 s.val (Kd.C_nil _ _) (Nat.le_refl 0) (Kd.C_nil _ _) (Nat.le_refl 0) (Kd.C_nil _ _) (Nat.le_refl 0)).mono fun e w' ⟨h1, h2⟩ => ⟨by rw [h1, E.out], h2⟩
          have F16 := Aside0.mk f16
          clear f16
          refine wp_region_up (by kernel_rfl) (by kernel_rfl) ?_
          repeat (go_big_quiet_step (first | ((go_at_call 12; exact up_of (n12.out _))) | ((go_at_call 16; exact up_of (F16.out _)))))
          refine wpQuiet_nil ?_
          rintro _ ⟨s7, rfl⟩
          have hb7 := s7.below
          obtain ⟨w7, hw7⟩ : ∃ w7, w7 = s7.val := ⟨_, rfl⟩
          rw [← hw7] at hb7 ⊢
          clear hw7 s7 u0 u1 u2 u3 u4 u5 n12 F16
          have L7 := Aside0.mk (blk_below L6.out hb7)
          have HB7 := Aside0.mk (below_step HB6.out hb7)
          clear hb7 HB6 L6 B6
          go_wp2
          go_roundg (k1)
          case measure => have := HK.out; omega
          case rel => exact ⟨4, rfl, by omega, by omega, ⟨by have := HK.out; omega⟩, HB7, L7⟩
        · have E := Aside0.mk (show sizeT ⟨0, 4, 0, 0, 0, []⟩ ⟨x, [], []⟩ = (0, 3) by rw [numS 4 x (by omega), if_pos (by decide), if_pos (by rw [show shr .u64 x (8 * 4) = x / 4294967296 from rfl]; have := X0.out; omega)])
          have hxb : decide (x < 4294967296) = false := decide_eq_false hx
          clear hx
          go_wp2
          have BF := Aside0.mk (heap_alloc_new wr (.cells #[.int .i64 0, .int .i64 4, .int .i64 0, .int .i64 0, .int .i64 0, .slice none 0 0] 29))
          have BL1 := Aside0.mk (blk_alloc BL.out (.cells #[.int .i64 0, .int .i64 4, .int .i64 0, .int .i64 0, .int .i64 0, .slice none 0 0] 29))
          have HBa := Aside0.mk (below_alloc HB.out (.cells #[.int .i64 0, .int .i64 4, .int .i64 0, .int .i64 0, .int .i64 0, .slice none 0 0] 29))
          have u0 := up_cell ((blk_cell BF.out 0).trans rfl)
          have u1 := up_cell ((blk_cell BF.out 1).trans rfl)
          have u2 := up_cell ((blk_cell BF.out 2).trans rfl)
          have u3 := up_cell ((blk_cell BF.out 3).trans rfl)
          have u4 := up_cell ((blk_cell BF.out 4).trans rfl)
          have u5 := up_cell ((blk_cell BF.out 5).trans rfl)
          have n12 := Aside0.mk (fun s : Up (wr.alloc (.cells #[.int .i64 0, .int .i64 4, .int .i64 0, .int .i64 0, .int .i64 0, .slice none 0 0] 29)) => Number_any x s.val)
          have f15 : ∀ s : Up (wr.alloc (.cells #[.int .i64 0, .int .i64 4, .int .i64 0, .int .i64 0, .int .i64 0, .slice none 0 0] 29)), Calls Try.prog 15 #[.agg #[.int .i64 0, .int .i64 4, .int .i64 0, .int .i64 0, .int .i64 0, .slice none 0 0], .agg #[.int .u64 x, .slice none 0 0, .slice none 0 0]] s.val fun e w' => e = .returned (.int .i64 3) ∧ Below s.val.heap.size s.val w' := fun s => (Fits_any ⟨0, 4, 0, 0, 0, []⟩ ⟨x, [], []⟩ none 0 none 0 none 0 s.val (Kd.C_nil _ _) (Nat.le_refl 0) (Kd.C_nil _ _) (Nat.le_refl 0) (Kd.C_nil _ _) (Nat.le_refl 0)).mono fun e w' ⟨h1, h2⟩ => ⟨by rw [h1, E.out], h2⟩
          have F15 := Aside0.mk f15
          clear f15
          refine wp_region_up (by kernel_rfl) (by kernel_rfl) ?_
          repeat (go_big_quiet_step (first | ((go_at_call 12; exact up_of (n12.out _))) | ((go_at_call 15; exact up_of (F15.out _)))))
          refine wpQuiet_nil ?_
          rintro _ ⟨s6, rfl⟩
          have hb6 := s6.below
          obtain ⟨w6, hw6⟩ : ∃ w6, w6 = s6.val := ⟨_, rfl⟩
          rw [← hw6] at hb6 ⊢
          clear hw6 s6 u0 u1 u2 u3 u4 u5 n12 F15
          have B6 := Aside0.mk (blk_below BF.out hb6)
          have L6 := Aside0.mk (blk_below BL1.out hb6)
          have HB6 := Aside0.mk (below_step HBa.out hb6)
          clear hb6 HBa BL1 BF BL HB hl0 hl1 hl2 hl3 hl4
          go_wp2
          have u0 := up_cell ((blk_cell B6.out 0).trans rfl)
          have u1 := up_cell ((blk_cell B6.out 1).trans rfl)
          have u2 := up_cell ((blk_cell B6.out 2).trans rfl)
          have u3 := up_cell ((blk_cell B6.out 3).trans rfl)
          have u4 := up_cell ((blk_cell B6.out 4).trans rfl)
          have u5 := up_cell ((blk_cell B6.out 5).trans rfl)
          have n12 := Aside0.mk (fun s : Up (w6) => Number_any x s.val)
          have f16 : ∀ s : Up (w6), Calls Try.prog 16 #[.agg #[.int .i64 0, .int .i64 4, .int .i64 0, .int .i64 0, .int .i64 0, .slice none 0 0], .agg #[.int .u64 x, .slice none 0 0, .slice none 0 0]] s.val fun e w' => e = .returned (.int .i64 0) ∧ Below s.val.heap.size s.val w' := fun s => (Size_any ⟨0, 4, 0, 0, 0, []⟩ ⟨x, [], []⟩ none 0 none 0 none 0 s.val (Kd.C_nil _ _) (Nat.le_refl 0) (Kd.C_nil _ _) (Nat.le_refl 0) (Kd.C_nil _ _) (Nat.le_refl 0)).mono fun e w' ⟨h1, h2⟩ => ⟨by rw [h1, E.out], h2⟩
          have F16 := Aside0.mk f16
          clear f16
          refine wp_region_up (by kernel_rfl) (by kernel_rfl) ?_
          repeat (go_big_quiet_step (first | ((go_at_call 12; exact up_of (n12.out _))) | ((go_at_call 16; exact up_of (F16.out _)))))
          refine wpQuiet_nil ?_
          rintro _ ⟨s7, rfl⟩
          have hb7 := s7.below
          obtain ⟨w7, hw7⟩ : ∃ w7, w7 = s7.val := ⟨_, rfl⟩
          rw [← hw7] at hb7 ⊢
          clear hw7 s7 u0 u1 u2 u3 u4 u5 n12 F16
          have L7 := Aside0.mk (blk_below L6.out hb7)
          have HB7 := Aside0.mk (below_step HB6.out hb7)
          clear hb7 HB6 L6 B6
          go_wp2
          go_roundg (k1)
          case measure => have := HK.out; omega
          case rel => exact ⟨4, rfl, by omega, by omega, ⟨by have := HK.out; omega⟩, HB7, L7⟩
      · have E := Aside0.mk (show sizeT ⟨0, 8, 0, 0, 0, []⟩ ⟨x, [], []⟩ = (8, 0) by rw [numS 8 x (by omega), if_neg (by decide)])
        go_wp2
        have BF := Aside0.mk (heap_alloc_new wr (.cells #[.int .i64 0, .int .i64 8, .int .i64 0, .int .i64 0, .int .i64 0, .slice none 0 0] 29))
        have BL1 := Aside0.mk (blk_alloc BL.out (.cells #[.int .i64 0, .int .i64 8, .int .i64 0, .int .i64 0, .int .i64 0, .slice none 0 0] 29))
        have HBa := Aside0.mk (below_alloc HB.out (.cells #[.int .i64 0, .int .i64 8, .int .i64 0, .int .i64 0, .int .i64 0, .slice none 0 0] 29))
        have u0 := up_cell ((blk_cell BF.out 0).trans rfl)
        have u1 := up_cell ((blk_cell BF.out 1).trans rfl)
        have u2 := up_cell ((blk_cell BF.out 2).trans rfl)
        have u3 := up_cell ((blk_cell BF.out 3).trans rfl)
        have u4 := up_cell ((blk_cell BF.out 4).trans rfl)
        have u5 := up_cell ((blk_cell BF.out 5).trans rfl)
        have n12 := Aside0.mk (fun s : Up (wr.alloc (.cells #[.int .i64 0, .int .i64 8, .int .i64 0, .int .i64 0, .int .i64 0, .slice none 0 0] 29)) => Number_any x s.val)
        have f15 : ∀ s : Up (wr.alloc (.cells #[.int .i64 0, .int .i64 8, .int .i64 0, .int .i64 0, .int .i64 0, .slice none 0 0] 29)), Calls Try.prog 15 #[.agg #[.int .i64 0, .int .i64 8, .int .i64 0, .int .i64 0, .int .i64 0, .slice none 0 0], .agg #[.int .u64 x, .slice none 0 0, .slice none 0 0]] s.val fun e w' => e = .returned (.int .i64 0) ∧ Below s.val.heap.size s.val w' := fun s => (Fits_any ⟨0, 8, 0, 0, 0, []⟩ ⟨x, [], []⟩ none 0 none 0 none 0 s.val (Kd.C_nil _ _) (Nat.le_refl 0) (Kd.C_nil _ _) (Nat.le_refl 0) (Kd.C_nil _ _) (Nat.le_refl 0)).mono fun e w' ⟨h1, h2⟩ => ⟨by rw [h1, E.out], h2⟩
        have F15 := Aside0.mk f15
        clear f15
        refine wp_region_up (by kernel_rfl) (by kernel_rfl) ?_
        repeat (go_big_quiet_step (first | ((go_at_call 12; exact up_of (n12.out _))) | ((go_at_call 15; exact up_of (F15.out _)))))
        refine wpQuiet_nil ?_
        rintro _ ⟨s6, rfl⟩
        have hb6 := s6.below
        obtain ⟨w6, hw6⟩ : ∃ w6, w6 = s6.val := ⟨_, rfl⟩
        rw [← hw6] at hb6 ⊢
        clear hw6 s6 u0 u1 u2 u3 u4 u5 n12 F15
        have B6 := Aside0.mk (blk_below BF.out hb6)
        have L6 := Aside0.mk (blk_below BL1.out hb6)
        have HB6 := Aside0.mk (below_step HBa.out hb6)
        clear hb6 HBa BL1 BF BL HB hl0 hl1 hl2 hl3 hl4
        go_wp2
        have u0 := up_cell ((blk_cell B6.out 0).trans rfl)
        have u1 := up_cell ((blk_cell B6.out 1).trans rfl)
        have u2 := up_cell ((blk_cell B6.out 2).trans rfl)
        have u3 := up_cell ((blk_cell B6.out 3).trans rfl)
        have u4 := up_cell ((blk_cell B6.out 4).trans rfl)
        have u5 := up_cell ((blk_cell B6.out 5).trans rfl)
        have n12 := Aside0.mk (fun s : Up (w6) => Number_any x s.val)
        have f16 : ∀ s : Up (w6), Calls Try.prog 16 #[.agg #[.int .i64 0, .int .i64 8, .int .i64 0, .int .i64 0, .int .i64 0, .slice none 0 0], .agg #[.int .u64 x, .slice none 0 0, .slice none 0 0]] s.val fun e w' => e = .returned (.int .i64 8) ∧ Below s.val.heap.size s.val w' := fun s => (Size_any ⟨0, 8, 0, 0, 0, []⟩ ⟨x, [], []⟩ none 0 none 0 none 0 s.val (Kd.C_nil _ _) (Nat.le_refl 0) (Kd.C_nil _ _) (Nat.le_refl 0) (Kd.C_nil _ _) (Nat.le_refl 0)).mono fun e w' ⟨h1, h2⟩ => ⟨by rw [h1, E.out], h2⟩
        have F16 := Aside0.mk f16
        clear f16
        refine wp_region_up (by kernel_rfl) (by kernel_rfl) ?_
        repeat (go_big_quiet_step (first | ((go_at_call 12; exact up_of (n12.out _))) | ((go_at_call 16; exact up_of (F16.out _)))))
        refine wpQuiet_nil ?_
        rintro _ ⟨s7, rfl⟩
        have hb7 := s7.below
        obtain ⟨w7, hw7⟩ : ∃ w7, w7 = s7.val := ⟨_, rfl⟩
        rw [← hw7] at hb7 ⊢
        clear hw7 s7 u0 u1 u2 u3 u4 u5 n12 F16
        have L7 := Aside0.mk (blk_below L6.out hb7)
        have HB7 := Aside0.mk (below_step HB6.out hb7)
        clear hb7 HB6 L6 B6
        go_wp2
        go_roundg (k1)
        case measure => have := HK.out; omega
        case rel => exact ⟨5, rfl, by omega, by omega, ⟨by have := HK.out; omega⟩, HB7, L7⟩

theorem ValueNumbers_row (x : Int) (A : Option Addr) (c : Nat) (b : List Int) (n : Int) (w : World)
  (hr : Kd.C (Kd.int .u8) w A b.length b) (hc : b.length ≤ c) (h0 : (Lit.int .u64 x).wf = true) {q r : Prop} (_ : q) (_ : r) :
    Calls Try.prog 4 #[.int .u64 x, .slice A b.length c, .int .i64 n] w fun e w' => e = .returned (.bool true) ∧ Below w.heap.size w w' := by
  simp [Lit.wf] at h0
  exact ValueNumbers_any x h0.1 h0.2 A c b n w hr hc
end Go.Proofs.Ythmcbcofipehhaa.B
