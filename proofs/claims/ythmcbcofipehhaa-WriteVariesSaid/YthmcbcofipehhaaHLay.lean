import Derived.Test.YthmcbcofipehhaaB0
import Derived.Outline
import Derived.IntWalk
namespace Go.Proofs.Ythmcbcofipehhaa.B
open Go.RowKit Go.Proofs.YthmcbcofipehhaaW.PrintWords Go.Proofs.YthmcbcofipehhaaW.PrintLast Go.Proofs.YthmcbcofipehhaaW.PrintMore
set_option linter.unusedVariables false
set_option linter.unusedSimpArgs false

/-! ### layout.Least$1 -/
set_option maxHeartbeats 400000 in
theorem Least1_any (a0 a1 a2 a3 a4 : Int) (v : Value) (w : World) :
    Calls Try.prog 80 #[.agg #[.int .i64 a0, .int .i64 a1, .int .i64 a2, .int .i64 a3, .int .i64 a4, v]] w fun e w' => e = .returned (.int .i64 a2) ∧ w' = w.alloc (.cells #[.int .i64 a0, .int .i64 a1, .int .i64 a2, .int .i64 a3, .int .i64 a4, v] 29) := by
  have hu29 := Try.underlying29
  go_enter Try.func80, Try.ntmps80
  go_wp2
  go_ret
  exact ⟨rfl, rfl⟩

theorem wrapEq (x : Int) : IntKind.i64.wrap x = wrap64 x := IntWalk.i64_left x
theorem ret_wrap {x y : Int} (h : y = wrap64 x) : Ending.returned (.int .i64 (IntKind.i64.wrap x)) = .returned (.int .i64 y) := by rw [wrapEq, h]
/-! ### layout.span with Least$1 -/
mutual
def leastT : S29 → Int
  | ⟨k, s, lo, _, _, ps⟩ => if k = 0 then s else if k = 1 then wrap64 (s + lo) else if k = 2 then wrap64 (s + lo) else if k = 4 then lo else if k = 5 then lo else leastL ps 0
def leastL : List S29 → Int → Int
  | [], n => n
  | g :: l, n => leastL l (wrap64 (n + leastT g))
end
def FN80 : Value := .func (.func 80) #[] #[]
theorem size_rd29 {xs : List S29} {i : Int} (h0 : 0 ≤ i) (h1 : i < xs.length) : SizeOf.sizeOf (rd_T29 xs i) < SizeOf.sizeOf xs := by
  unfold rd_T29
  have h : i.toNat < xs.length := by omega
  rw [List.getD_eq_getElem?_getD, List.getElem?_eq_getElem h]
  exact List.sizeOf_lt_of_mem (List.getElem_mem h)
theorem drop29 {xs : List S29} {i : Int} (h0 : 0 ≤ i) (h1 : i < xs.length) : xs.drop i.toNat = rd_T29 xs i :: xs.drop (i + 1).toNat := by
  have h : i.toNat < xs.length := by omega
  have e : (i + 1).toNat = i.toNat + 1 := by omega
  unfold rd_T29
  simp [List.getD_eq_getElem?_getD, List.getElem?_eq_getElem h, e]
theorem leastL_step {xs : List S29} {i : Int} (h0 : 0 ≤ i) (h1 : i < xs.length) (n : Int) : leastL (xs.drop i.toNat) n = leastL (xs.drop (i + 1).toNat) (wrap64 (n + leastT (rd_T29 xs i))) := by
  rw [drop29 h0 h1, leastL]
theorem leastL_end {xs : List S29} {i : Int} (h1 : (xs.length : Int) ≤ i) (n : Int) : leastL (xs.drop i.toNat) n = n := by
  rw [List.drop_eq_nil_of_le (by omega), leastL]
set_option maxHeartbeats 4000000 in
set_option maxRecDepth 100000 in
theorem span_any (N : Nat) : ∀ (x : S29) (_ : SizeOf.sizeOf x < N) (A : Option Addr) (c : Nat) (w : World) (hr : Kd.C k29 w A x.f5.length x.f5) (hc : x.f5.length ≤ c),
    Calls Try.prog 79 #[.agg #[.int .i64 x.f0, .int .i64 x.f1, .int .i64 x.f2, .int .i64 x.f3, .int .i64 x.f4, .slice A x.f5.length c], .func (.func 80) #[] #[]] w fun e w' => e = .returned (.int .i64 (leastT x)) ∧ Below w.heap.size w w' := by
  induction N with
  | zero => intro x h; omega
  | succ N ih =>
  rintro ⟨k, s, lo, hi, st, ps⟩ hN A c w hr hc
  dsimp only at hr hc ⊢
  have hu29 := Try.underlying29
  have HR := Aside0.mk hr
  have HC := Aside0.mk hc
  clear hr hc
  have HB := Aside0.mk (Below.refl w.heap.size w)
  by_cases k0 : k = 0
  · have k0b : (k == 0) = true := by simpa using k0
    have H : leastT ⟨k, s, lo, hi, st, ps⟩ = s := by simp [leastT, k0]
    have H' := Aside0.mk H
    clear H k0
    go_enter Try.func79, Try.ntmps79
    go_wp2
    go_ret
    exact ⟨by rw [H'.out]; try rfl, below_alloc HB.out _⟩
  have k0b : (k == 0) = false := by simpa using k0
  by_cases k1 : k = 1 ∨ k = 2
  · have H : leastT ⟨k, s, lo, hi, st, ps⟩ = wrap64 (s + lo) := by
      rcases k1 with rfl | rfl <;> simp [leastT]
    have H' := Aside0.mk H
    clear H k0
    rcases k1 with rfl | rfl
    all_goals
      go_enter Try.func79, Try.ntmps79
      go_wp2
      go_region_with (first | (go_at_call 80; refine (Least1_any _ _ _ _ _ _ _).mono ?_; rintro e w' ⟨rfl, rfl⟩))
      all_goals
        go_wp2
        go_ret
        refine ⟨ret_wrap H'.out, ?_⟩
        repeat (first | (with_reducible first | exact HB.out | apply below_alloc | apply pw_below_drewN | apply below_drew1) | exact HB.out)
  have k1b : (k == 1) = false := by simp only [beq_eq_false_iff_ne]; omega
  have k2b : (k == 2) = false := by simp only [beq_eq_false_iff_ne]; omega
  by_cases k4 : k = 4
  · have H : leastT ⟨k, s, lo, hi, st, ps⟩ = lo := by simp [leastT, k4]
    have H' := Aside0.mk H
    subst k4
    clear H k0 k1 k0b k1b k2b
    go_enter Try.func79, Try.ntmps79
    go_wp2_with (first | (go_at_call 80; refine (Least1_any _ _ _ _ _ _ _).mono ?_; rintro e w' ⟨rfl, rfl⟩))
    go_ret
    refine ⟨by rw [H'.out]; try rfl, ?_⟩
    repeat (first | (with_reducible first | exact HB.out | apply below_alloc | apply pw_below_drewN | apply below_drew1) | exact HB.out)
  have k4b : (k == 4) = false := by simpa using k4
  by_cases k5 : k = 5
  · have H : leastT ⟨k, s, lo, hi, st, ps⟩ = lo := by simp [leastT, k5]
    have H' := Aside0.mk H
    subst k5
    clear H k0 k1 k0b k1b k2b k4 k4b
    go_enter Try.func79, Try.ntmps79
    go_wp2
    go_ret
    refine ⟨by rw [H'.out]; try rfl, ?_⟩
    repeat (first | (with_reducible first | exact HB.out | apply below_alloc | apply pw_below_drewN | apply below_drew1) | exact HB.out)
  have k5b : (k == 5) = false := by simpa using k5
  have H : leastT ⟨k, s, lo, hi, st, ps⟩ = leastL ps 0 := by
    have a1 : ¬ k = 1 := by omega
    have a2 : ¬ k = 2 := by omega
    simp [leastT, k0, a1, a2, k4, k5]
  have H' := Aside0.mk H
  clear H k0 k1 k4 k5
  go_enter Try.func79, Try.ntmps79
  have hmx := Kd.C_max HR.out
  go_wp2
  go_loopg [5, 35] (ps.length + 1) (fun kq v5 v35 w' => ∃ (x5 i : Int), v5 = .int .i64 x5 ∧ v35 = .int .i64 i ∧ 0 ≤ i ∧ i ≤ ps.length ∧ Aside0 (leastL (ps.drop i.toNat) x5 = leastL ps 0) ∧ Aside0 ((kq : Int) + i = ps.length + 1) ∧ Aside0 (w'.heap[w.heap.size]? = some (.cells #[.int .i64 k, .int .i64 s, .int .i64 lo, .int .i64 hi, .int .i64 st, .slice A ps.length c] 29 (0, 0))) ∧ Aside0 (Below w.heap.size w w'))
  case atStart => exact ⟨0, 0, rfl, rfl, by omega, by omega, ⟨rfl⟩, ⟨by omega⟩, ⟨heap_alloc_new w _⟩, ⟨below_alloc HB.out _⟩⟩
  case round =>
    clear HB
    obtain ⟨x5, i, rfl, rfl, i0, i1, HA, HK, BK, HB⟩ := hrel
    have hcz0 : wr.cell? ⟨w.heap.size, 0, none⟩ = some (.int .i64 k) := (blk_cell BK.out 0).trans rfl
    have hcz5 : wr.cell? ⟨w.heap.size, 5, none⟩ = some (.slice A ps.length c) := (blk_cell BK.out 5).trans rfl
    by_cases hlt : i < (ps.length : Int)
    case neg =>
      have c1 : decide (i < (ps.length : Int)) = false := decide_eq_false hlt
      have E : leastT ⟨k, s, lo, hi, st, ps⟩ = x5 := by rw [H'.out, ← HA.out, leastL_end (by omega)]
      have E' := Aside0.mk E
      clear E hlt
      go_wp2
      go_ret
      exact ⟨by rw [E'.out]; try rfl, HB.out⟩
    case pos =>
      obtain ⟨k1, rfl⟩ : ∃ m, gk = m + 1 := ⟨gk - 1, by have := HK.out; omega⟩
      have c1 : decide (i < (ps.length : Int)) = true := decide_eq_true hlt
      have hM : SizeOf.sizeOf (rd_T29 ps i) < N := by have := size_rd29 i0 hlt; simp at hN; omega
      have hst := leastL_step i0 hlt x5
      rw [HA.out] at hst
      have HST := Aside0.mk hst.symm
      have HM := Aside0.mk hM
      clear hst hM
      obtain ⟨ad, A5, c5, e, hx0, hx1, hx2, hx3, hx4, hx5, hl5, hi5⟩ := at_T29 HR.out i i0 hlt
      cases e
      replace hx0 := (HB.out.cell (World.block_lt_of_cell? w _ hx0)).trans hx0
      replace hx1 := (HB.out.cell (World.block_lt_of_cell? w _ hx1)).trans hx1
      replace hx2 := (HB.out.cell (World.block_lt_of_cell? w _ hx2)).trans hx2
      replace hx3 := (HB.out.cell (World.block_lt_of_cell? w _ hx3)).trans hx3
      replace hx4 := (HB.out.cell (World.block_lt_of_cell? w _ hx4)).trans hx4
      replace hx5 := (HB.out.cell (World.block_lt_of_cell? w _ hx5)).trans hx5
      have HR5 := Aside0.mk hi5
      have HC5 := Aside0.mk hl5
      clear hi5 hl5
      go_wp2_with fail
      refine (ih (rd_T29 ps i) HM.out _ _ _ (Kd.C_alloc (Kd.C_below HR5.out HB.out) _) HC5.out).mono ?_
      rintro e w9 ⟨rfl, hb⟩
      have BK2 := Aside0.mk (blk_below (blk_alloc BK.out _) hb)
      have HB2 := Aside0.mk (below_step (below_alloc HB.out _) hb)
      clear hb HB BK hcz0 hcz5
      go_wp2
      go_roundg (k1)
      case measure => have := HK.out; omega
      case rel => exact ⟨_, _, rfl, rfl, by omega, by omega, HST, ⟨by have := HK.out; omega⟩, BK2, HB2⟩

set_option maxHeartbeats 4000000 in
theorem Least_any (x : S29) (A : Option Addr) (c : Nat) (w : World) (hr : Kd.C k29 w A x.f5.length x.f5) (hc : x.f5.length ≤ c) :
    Calls Try.prog 75 #[.agg #[.int .i64 x.f0, .int .i64 x.f1, .int .i64 x.f2, .int .i64 x.f3, .int .i64 x.f4, .slice A x.f5.length c]] w fun e w' => e = .returned (.int .i64 (leastT x)) ∧ Below w.heap.size w w' := by
  have hu29 := Try.underlying29
  have HR := Aside0.mk hr
  have HC := Aside0.mk hc
  clear hr hc
  have HB := Aside0.mk (Below.refl w.heap.size w)
  go_enter Try.func75, Try.ntmps75
  go_wp2_with fail
  refine (span_any _ x (Nat.lt_succ_self _) A c _ (Kd.C_alloc HR.out _) HC.out).mono ?_
  rintro e w1 ⟨rfl, hb⟩
  have HB2 := Aside0.mk (below_step (below_alloc HB.out _) hb)
  clear hb
  go_wp2
  go_ret
  exact ⟨rfl, HB2.out⟩

/-! ### slices.IndexFunc, slices.ContainsFunc, over Form with layout.deep$1; layout.deep -/
def idxT (p : S29 → Bool) : List S29 → Int → Int
  | [], _ => -1
  | x :: l, i => if p x = true then i else idxT p l (i + 1)
theorem idxT_any (p : S29 → Bool) : ∀ (l : List S29) (i : Int), 0 ≤ i → (decide (0 ≤ idxT p l i) = l.any p)
  | [], i, h => by simp [idxT]
  | x :: l, i, h => by
    by_cases hp : p x = true
    · simp [idxT, hp, h]
    · have e : p x = false := by simpa using hp
      simp only [idxT, e, List.any_cons, Bool.false_or]
      exact idxT_any p l (i + 1) (by omega)
theorem idxT_step (p : S29 → Bool) {xs : List S29} {i : Int} (h0 : 0 ≤ i) (h1 : i < xs.length) : idxT p (xs.drop i.toNat) i = if p (rd_T29 xs i) = true then i else idxT p (xs.drop (i + 1).toNat) (i + 1) := by
  rw [drop29 h0 h1, idxT]
theorem idxT_end (p : S29 → Bool) {xs : List S29} {i : Int} (h1 : (xs.length : Int) ≤ i) : idxT p (xs.drop i.toNat) i = -1 := by
  rw [List.drop_eq_nil_of_le (by omega), idxT]
theorem mem_rd29 {xs : List S29} {i : Int} (h0 : 0 ≤ i) (h1 : i < xs.length) : rd_T29 xs i ∈ xs := by
  unfold rd_T29
  have h : i.toNat < xs.length := by omega
  rw [List.getD_eq_getElem?_getD, List.getElem?_eq_getElem h]
  exact List.getElem_mem h
def Says72 (w : World) (g : Addr) (p : S29 → Bool) (l : List S29) : Prop := ∀ x, x ∈ l → ∀ (W : World) (A : Option Addr) (c : Nat), Below w.heap.size w W → Kd.C k29 W A x.f5.length x.f5 → x.f5.length ≤ c →
  Calls Try.prog 72 #[.agg #[.int .i64 x.f0, .int .i64 x.f1, .int .i64 x.f2, .int .i64 x.f3, .int .i64 x.f4, .slice A x.f5.length c], .pointer (some g)] W fun e w' => e = .returned (.bool (p x)) ∧ Below W.heap.size W w'
set_option maxHeartbeats 4000000 in
set_option maxRecDepth 100000 in
theorem IndexFunc_any (g : Addr) (p : S29 → Bool) (l : List S29) (A : Option Addr) (c : Nat) (w : World) (hr : Kd.C k29 w A l.length l) (hc : l.length ≤ c) (hp : Says72 w g p l) :
    Calls Try.prog 77 #[.slice A l.length c, .func (.func 72) #[] #[.pointer (some g)]] w fun e w' => e = .returned (.int .i64 (idxT p l 0)) ∧ Below w.heap.size w w' := by
  have hu29 := Try.underlying29
  have hmx := Kd.C_max hr
  have HR := Aside0.mk hr
  have HC := Aside0.mk hc
  have HP := Aside0.mk hp
  clear hr hc hp
  have HB := Aside0.mk (Below.refl w.heap.size w)
  go_enter Try.func77, Try.ntmps77
  go_wp2
  go_loopg [8] (l.length + 1) (fun kq v8 w' => ∃ (i : Int), v8 = .int .i64 i ∧ 0 ≤ i ∧ i ≤ l.length ∧ Aside0 (idxT p (l.drop i.toNat) i = idxT p l 0) ∧ Aside0 ((kq : Int) + i = l.length + 1) ∧ Aside0 (Below w.heap.size w w'))
  case atStart => exact ⟨0, rfl, by omega, by omega, ⟨rfl⟩, ⟨by omega⟩, HB⟩
  case round =>
    clear HB
    obtain ⟨i, rfl, i0, i1, HA, HK, HB⟩ := hrel
    by_cases hlt : i < (l.length : Int)
    case neg =>
      have c1 : decide (i < (l.length : Int)) = false := decide_eq_false hlt
      have E : idxT p l 0 = -1 := by rw [← HA.out, idxT_end p (by omega)]
      have E' := Aside0.mk E
      clear E hlt
      go_wp2
      go_ret
      exact ⟨by rw [E'.out]; try rfl, HB.out⟩
    case pos =>
      obtain ⟨k1, rfl⟩ : ∃ m, gk = m + 1 := ⟨gk - 1, by have := HK.out; omega⟩
      have c1 : decide (i < (l.length : Int)) = true := decide_eq_true hlt
      have HST := Aside0.mk (idxT_step p i0 hlt)
      have HM := Aside0.mk (mem_rd29 i0 hlt)
      obtain ⟨ad, A5, c5, e, hx0, hx1, hx2, hx3, hx4, hx5, hl5, hi5⟩ := at_T29 HR.out i i0 hlt
      cases e
      replace hx0 := (HB.out.cell (World.block_lt_of_cell? w _ hx0)).trans hx0
      replace hx1 := (HB.out.cell (World.block_lt_of_cell? w _ hx1)).trans hx1
      replace hx2 := (HB.out.cell (World.block_lt_of_cell? w _ hx2)).trans hx2
      replace hx3 := (HB.out.cell (World.block_lt_of_cell? w _ hx3)).trans hx3
      replace hx4 := (HB.out.cell (World.block_lt_of_cell? w _ hx4)).trans hx4
      replace hx5 := (HB.out.cell (World.block_lt_of_cell? w _ hx5)).trans hx5
      have HR5 := Aside0.mk hi5
      have HC5 := Aside0.mk hl5
      clear hi5 hl5
      go_wp2_with fail
      refine (HP.out (rd_T29 l i) HM.out _ _ _ HB.out (Kd.C_below HR5.out HB.out) HC5.out).mono ?_
      rintro e w9 ⟨rfl, hb⟩
      have HB2 := Aside0.mk (below_step HB.out hb)
      clear hb HB
      cases hq : p (rd_T29 l i) with
      | true =>
        have E : idxT p l 0 = i := by rw [← HA.out, HST.out, hq]; rfl
        have E' := Aside0.mk E
        clear E hq
        go_wp2
        go_ret
        exact ⟨by rw [E'.out]; try rfl, HB2.out⟩
      | false =>
        have E : idxT p (l.drop (i + 1).toNat) (i + 1) = idxT p l 0 := by rw [← HA.out, HST.out, hq]; rfl
        have E' := Aside0.mk E
        clear E hq
        go_wp2
        go_roundg (k1)
        case measure => have := HK.out; omega
        case rel => exact ⟨_, rfl, by omega, by omega, E', ⟨by have := HK.out; omega⟩, HB2⟩

set_option maxHeartbeats 4000000 in
theorem ContainsFunc_any (g : Addr) (p : S29 → Bool) (l : List S29) (A : Option Addr) (c : Nat) (w : World) (hr : Kd.C k29 w A l.length l) (hc : l.length ≤ c) (hp : Says72 w g p l) :
    Calls Try.prog 70 #[.slice A l.length c, .func (.func 72) #[] #[.pointer (some g)]] w fun e w' => e = .returned (.bool (l.any p)) ∧ Below w.heap.size w w' := by
  have HR := Aside0.mk hr
  have HC := Aside0.mk hc
  have HP := Aside0.mk hp
  clear hr hc hp
  have E := Aside0.mk (idxT_any p l 0 (by omega))
  go_enter Try.func70, Try.ntmps70
  go_wp2_with fail
  refine (IndexFunc_any g p l A c _ HR.out HC.out HP.out).mono ?_
  rintro e w1 ⟨rfl, hb⟩
  have HB := Aside0.mk hb
  clear hb
  go_wp2
  go_ret
  exact ⟨by first | (rw [← E.out]; rfl) | rw [← E.out], HB.out⟩

def partsT (x : S29) : List S29 := if x.f0 = 2 then x.f5 else if x.f0 = 3 then x.f5 else []
set_option maxHeartbeats 4000000 in
theorem parts_any (x : S29) (A : Option Addr) (c : Nat) (w : World) (hr : Kd.C k29 w A x.f5.length x.f5) (hc : x.f5.length ≤ c) :
    Calls Try.prog 71 #[.agg #[.int .i64 x.f0, .int .i64 x.f1, .int .i64 x.f2, .int .i64 x.f3, .int .i64 x.f4, .slice A x.f5.length c]] w fun e w' => ∃ (A' : Option Addr) (c' : Nat), e = .returned (.slice A' (partsT x).length c') ∧ (partsT x).length ≤ c' ∧ Kd.C k29 w' A' (partsT x).length (partsT x) ∧ Below w.heap.size w w' := by
  obtain ⟨k, s, lo, hi, st, ps⟩ := x
  dsimp only at hr hc ⊢
  have hu29 := Try.underlying29
  have HR := Aside0.mk hr
  have HC := Aside0.mk hc
  clear hr hc
  have HB := Aside0.mk (Below.refl w.heap.size w)
  by_cases k2 : k = 2
  · have E := Aside0.mk (show partsT ⟨k, s, lo, hi, st, ps⟩ = ps by simp [partsT, k2])
    have k2b : (k == 2) = true := by simpa using k2
    clear k2
    go_enter Try.func71, Try.ntmps71
    go_wp2
    go_ret
    rw [E.out]
    exact ⟨_, _, rfl, HC.out, Kd.C_alloc HR.out _, below_alloc HB.out _⟩
  have k2b : (k == 2) = false := by simpa using k2
  by_cases k3 : k = 3
  · have E := Aside0.mk (show partsT ⟨k, s, lo, hi, st, ps⟩ = ps by simp [partsT, k3])
    have k3b : (k == 3) = true := by simpa using k3
    clear k3 k2
    go_enter Try.func71, Try.ntmps71
    go_wp2
    go_ret
    rw [E.out]
    exact ⟨_, _, rfl, HC.out, Kd.C_alloc HR.out _, below_alloc HB.out _⟩
  have k3b : (k == 3) = false := by simpa using k3
  have E := Aside0.mk (show partsT ⟨k, s, lo, hi, st, ps⟩ = [] by simp [partsT, k2, k3])
  clear k3 k2
  go_enter Try.func71, Try.ntmps71
  go_wp2
  go_ret
  rw [E.out]
  exact ⟨_, _, rfl, Nat.le_refl _, Kd.C_nil _ _, below_alloc HB.out _⟩

mutual
def deepT : S29 → Int → Bool
  | ⟨k, _, _, _, _, ps⟩, m => if m = 0 then true else if k = 2 then deepL ps (wrap64 (m - 1)) else if k = 3 then deepL ps (wrap64 (m - 1)) else false
def deepL : List S29 → Int → Bool
  | [], _ => false
  | g :: l, m => deepT g m || deepL l m
end
theorem deepL_any : ∀ (l : List S29) (m : Int), deepL l m = l.any (fun g => deepT g m)
  | [], m => by simp [deepL]
  | g :: l, m => by simp [deepL, deepL_any l m]
theorem deepT_eq (x : S29) (m : Int) : deepT x m = if m = 0 then true else (partsT x).any (fun g => deepT g (wrap64 (m - 1))) := by
  obtain ⟨k, s, lo, hi, st, ps⟩ := x
  simp only [deepT, partsT, deepL_any]
  by_cases h : m = 0
  · simp [h]
  by_cases k2 : k = 2
  · simp [h, k2]
  by_cases k3 : k = 3
  · simp [h, k3]
  simp [h, k2, k3]
theorem partsT_sub (x : S29) : ∀ y, y ∈ partsT x → SizeOf.sizeOf y < SizeOf.sizeOf x := by
  obtain ⟨k, s, lo, hi, st, ps⟩ := x
  intro y hy
  have h : y ∈ ps := by
    unfold partsT at hy
    dsimp only at hy
    split at hy
    · exact hy
    · split at hy
      · exact hy
      · cases hy
  have := List.sizeOf_lt_of_mem h
  simp
  omega
set_option maxHeartbeats 4000000 in
set_option maxRecDepth 100000 in
theorem deep_any (N : Nat) : ∀ (x : S29) (_ : SizeOf.sizeOf x < N) (m : Int) (A : Option Addr) (c : Nat) (w : World) (hr : Kd.C k29 w A x.f5.length x.f5) (hc : x.f5.length ≤ c),
    Calls Try.prog 62 #[.agg #[.int .i64 x.f0, .int .i64 x.f1, .int .i64 x.f2, .int .i64 x.f3, .int .i64 x.f4, .slice A x.f5.length c], .int .i64 m] w fun e w' => e = .returned (.bool (deepT x m)) ∧ Below w.heap.size w w' := by
  induction N with
  | zero => intro x h; omega
  | succ N ih =>
  intro x hN m A c w hr hc
  have hu29 := Try.underlying29
  have hmf : ∀ (fn : Fn) (first cap : Array Value) (w : World), (Instr.makeFunc fn first cap).run Try.prog w = .ok (.func fn first cap) w := fun _ _ _ _ => rfl
  have HR := Aside0.mk hr
  have HC := Aside0.mk hc
  clear hr hc
  have HB := Aside0.mk (Below.refl w.heap.size w)
  have E := Aside0.mk (deepT_eq x m)
  by_cases m0 : m = 0
  · have m0b : (m == 0) = true := by simpa using m0
    have E' := Aside0.mk (show deepT x m = true by rw [E.out, if_pos m0])
    clear m0 E
    go_enter Try.func62, Try.ntmps62
    go_wp2
    go_ret
    exact ⟨by rw [E'.out]; try rfl, below_alloc (below_alloc HB.out _) _⟩
  have m0b : (m == 0) = false := by simpa using m0
  have E' := Aside0.mk (show deepT x m = (partsT x).any (fun g => deepT g (wrap64 (m - 1))) by rw [E.out, if_neg m0])
  have HN := Aside0.mk (show ∀ y, y ∈ partsT x → SizeOf.sizeOf y < N from fun y hy => by have := partsT_sub x y hy; omega)
  have IH := Aside0.mk ih
  clear m0 E ih hN
  go_enter Try.func62, Try.ntmps62
  go_wp2_with fail
  refine (parts_any x A c _ (Kd.C_alloc (Kd.C_alloc HR.out _) _) HC.out).mono ?_
  rintro e w1 ⟨A', c', rfl, hc', hr', hb⟩
  have HR' := Aside0.mk hr'
  have HC' := Aside0.mk hc'
  have hm1 : w1.cell? ⟨w.heap.size + 1, 0, none⟩ = some (.int .i64 m) := (hb.cell (p := ⟨w.heap.size + 1, 0, none⟩) (by simp)).trans (by simp)
  have HB1 := Aside0.mk (below_step (below_alloc (below_alloc HB.out _) _) hb)
  clear hc' hr' hb
  go_wp2_with fail
  have HS : Says72 w1 ⟨w.heap.size + 1, 0, none⟩ (fun g => deepT g (wrap64 (m - 1))) (partsT x) := by
    intro y hy W B d hb hry hcy
    have hmW : W.cell? ⟨w.heap.size + 1, 0, none⟩ = some (.int .i64 m) := (hb.cell (World.block_lt_of_cell? w1 _ hm1)).trans hm1
    have HW := Aside0.mk (Below.refl W.heap.size W)
    have hm2 : ∀ o, (W.alloc o).cell? ⟨w.heap.size + 1, 0, none⟩ = some (.int .i64 m) := fun o => ((below_alloc HW.out o).cell (World.block_lt_of_cell? W _ hmW)).trans hmW
    have HRY := Aside0.mk hry
    have HCY := Aside0.mk hcy
    have HNY := Aside0.mk (HN.out y hy)
    clear hry hcy hb hm1 hy
    go_enter Try.func72, Try.ntmps72
    go_wp2_with fail
    refine (IH.out y HNY.out _ B d _ (Kd.C_alloc HRY.out _) HCY.out).mono ?_
    rintro e w2 ⟨rfl, hb⟩
    have HB2 := Aside0.mk (below_step (below_alloc HW.out _) hb)
    clear hb
    go_wp2
    go_ret
    exact ⟨rfl, HB2.out⟩
  refine (ContainsFunc_any _ _ (partsT x) A' c' _ HR'.out HC'.out HS).mono ?_
  rintro e w2 ⟨rfl, hb⟩
  have HB2 := Aside0.mk (below_step HB1.out hb)
  clear hb
  go_wp2
  go_ret
  exact ⟨by rw [E'.out]; try rfl, HB2.out⟩
end Go.Proofs.Ythmcbcofipehhaa.B
