import Derived.Test.YthmcbcofipehhaaHRef
import Derived.Test.YthmcbcofipehhaaHFit
namespace Go.Proofs.Ythmcbcofipehhaa.B
open Go.RowKit Go.Proofs.YthmcbcofipehhaaW.PrintWords Go.Proofs.YthmcbcofipehhaaW.PrintLast Go.Proofs.YthmcbcofipehhaaW.PrintMore
set_option linter.unusedVariables false
set_option linter.unusedSimpArgs false
/-! ### passepartoutref04.Depth -/
mutual
def depF : S29 → Int → Int
  | ⟨k, _, _, _, _, ps⟩, m => if k = 2 then wrap64 (depL ps m 0 + 1) else if k = 3 then wrap64 (depL ps m 0 + 1) else 1
def depL : List S29 → Int → Int → Int
  | [], _, n => n
  | g :: l, m, n => if 0 < m then depL l m (if n < depF g (wrap64 (m - 1)) then depF g (wrap64 (m - 1)) else n) else n
end
theorem depF_eq (x : S29) (m : Int) : depF x m = wrap64 (depL (partsT x) m 0 + 1) := by
  obtain ⟨k, s, lo, hi, st, ps⟩ := x
  simp only [depF, partsT]
  by_cases k2 : k = 2
  · simp [k2]
  by_cases k3 : k = 3
  · simp [k2, k3]
  simp [k2, k3, depL]
  exact (by decide +kernel : (1 : Int) = wrap64 1)
theorem depL_step {xs : List S29} {i : Int} (h0 : 0 ≤ i) (h1 : i < xs.length) {m : Int} (hm : 0 < m) (n : Int) : depL (xs.drop i.toNat) m n = depL (xs.drop (i + 1).toNat) m (if n < depF (rd_T29 xs i) (wrap64 (m - 1)) then depF (rd_T29 xs i) (wrap64 (m - 1)) else n) := by
  rw [drop29 h0 h1, depL, if_pos hm]
theorem depL_end {xs : List S29} {i : Int} (h1 : (xs.length : Int) ≤ i) (m n : Int) : depL (xs.drop i.toNat) m n = n := by
  rw [List.drop_eq_nil_of_le (by omega), depL]
theorem depL_zero {l : List S29} {m : Int} (hm : ¬ 0 < m) (n : Int) : depL l m n = n := by
  cases l with
  | nil => rw [depL]
  | cons g l => rw [depL, if_neg hm]
set_option maxHeartbeats 4000000 in
set_option maxRecDepth 100000 in
theorem Depth4_any (N : Nat) : ∀ (x : S29) (_ : SizeOf.sizeOf x < N) (m : Int) (A : Option Addr) (c : Nat) (w : World) (hr : Kd.C k29 w A x.f5.length x.f5) (hc : x.f5.length ≤ c),
    Calls Try.prog 36 #[.agg #[.int .i64 x.f0, .int .i64 x.f1, .int .i64 x.f2, .int .i64 x.f3, .int .i64 x.f4, .slice A x.f5.length c], .int .i64 m] w fun e w' => e = .returned (.int .i64 (depF x m)) ∧ Below w.heap.size w w' := by
  induction N with
  | zero => intro x h; omega
  | succ N ih =>
  intro x hN m A c w hr hc
  have hu29 := Try.underlying29
  have HR := Aside0.mk hr
  have HC := Aside0.mk hc
  have IH := Aside0.mk ih
  have HN := Aside0.mk (show ∀ y, y ∈ partsT x → SizeOf.sizeOf y < N from fun y hy => by have := partsT_sub x y hy; omega)
  clear hr hc ih hN
  have HB := Aside0.mk (Below.refl w.heap.size w)
  have E := Aside0.mk (depF_eq x m)
  go_enter Try.func36, Try.ntmps36
  go_wp2_with fail
  refine (parts4_any x A c _ (Kd.C_alloc HR.out _) HC.out).mono ?_
  rintro e w1 ⟨A', c', rfl, hc', hr', hb⟩
  have HR' := Aside0.mk hr'
  have HC' := Aside0.mk hc'
  have hmx := Kd.C_max hr'
  have HB1 := Aside0.mk (below_step (below_alloc HB.out _) hb)
  clear hc' hr' hb HB
  obtain ⟨ps, hps⟩ : ∃ ps, ps = partsT x := ⟨_, rfl⟩
  rw [← hps] at HR' HC' E HN hmx ⊢
  clear hps
  go_wp2
  go_loopg [5, 7] (ps.length + 1) (fun kq va vi w' => ∃ (n i : Int), va = .int .i64 n ∧ vi = .int .i64 i ∧ 0 ≤ i ∧ i ≤ ps.length ∧ Aside0 (depF x m = wrap64 (depL (ps.drop i.toNat) m n + 1)) ∧ Aside0 ((kq : Int) + i = ps.length + 1) ∧ Aside0 (Below w.heap.size w w') ∧ Aside0 (Kd.C k29 w' A' ps.length ps))
  case atStart => exact ⟨0, 0, rfl, rfl, by omega, by omega, E, ⟨by omega⟩, HB1, HR'⟩
  case round =>
    clear HB1 E HR'
    obtain ⟨n, i, rfl, rfl, i0, i1, HA, HK, HB, HR'⟩ := hrel
    by_cases hlt : i < (ps.length : Int)
    case neg =>
      have cq : decide (i < (ps.length : Int)) = false := decide_eq_false hlt
      have E := Aside0.mk (show depF x m = wrap64 (n + 1) by rw [HA.out, depL_end (by omega)])
      clear hlt
      go_wp2
      go_ret
      exact ⟨by rw [E.out]; try rfl, HB.out⟩
    case pos =>
      have cq : decide (i < (ps.length : Int)) = true := decide_eq_true hlt
      by_cases hm : 0 < m
      case neg =>
        have cm : decide (0 < m) = false := decide_eq_false hm
        have E := Aside0.mk (show depF x m = wrap64 (n + 1) by rw [HA.out, depL_zero hm])
        clear hlt hm
        go_wp2
        go_ret
        exact ⟨by rw [E.out]; try rfl, HB.out⟩
      case pos =>
        obtain ⟨k1, rfl⟩ : ∃ m, gk = m + 1 := ⟨gk - 1, by have := HK.out; omega⟩
        have cm : decide (0 < m) = true := decide_eq_true hm
        have HST := Aside0.mk (depL_step i0 hlt hm n)
        have HM := Aside0.mk (HN.out _ (mem_rd29 i0 hlt))
        obtain ⟨ad, A5, c5, e, hx0, hx1, hx2, hx3, hx4, hx5, hl5, hi5⟩ := at_T29 HR'.out i i0 hlt
        cases e
        have HR5 := Aside0.mk hi5
        have HC5 := Aside0.mk hl5
        clear hi5 hl5 hm
        go_wp2_with fail
        refine (IH.out (rd_T29 ps i) HM.out _ _ _ _ HR5.out HC5.out).mono ?_
        rintro e w9 ⟨rfl, hb⟩
        have HB2 := Aside0.mk (below_step HB.out hb)
        have HR2 := Aside0.mk (Kd.C_below HR'.out hb)
        clear hb HB HR' hx0 hx1 hx2 hx3 hx4 hx5
        have HA2 := Aside0.mk (HST.out ▸ HA.out)
        by_cases hd : n < depF (rd_T29 ps i) (wrap64 (m - 1))
        case pos =>
          have hdb : decide (n < depF (rd_T29 ps i) (wrap64 (m - 1))) = true := decide_eq_true hd
          rw [if_pos hd] at HA2
          clear hd
          go_wp2
          go_roundg (k1)
          case measure => have := HK.out; omega
          case rel => exact ⟨_, _, rfl, rfl, by omega, by omega, HA2, ⟨by have := HK.out; omega⟩, HB2, HR2⟩
        case neg =>
          have hdb : decide (n < depF (rd_T29 ps i) (wrap64 (m - 1))) = false := decide_eq_false hd
          rw [if_neg hd] at HA2
          clear hd
          go_wp2
          go_roundg (k1)
          case measure => have := HK.out; omega
          case rel => exact ⟨_, _, rfl, rfl, by omega, by omega, HA2, ⟨by have := HK.out; omega⟩, HB2, HR2⟩
/-! ### passepartoutref04.Open -/
theorem size_f5 (x : S29) : SizeOf.sizeOf x.f5 < SizeOf.sizeOf x := by obtain ⟨_, _, _, _, _, ps⟩ := x; simp; omega
theorem cell_all {w : World} {a : Addr} {v : Value} (h : w.cell? a = some v) (o : Obj) : (w.alloc o).cell? a = some v := ((below_alloc (Below.refl _ _) o).cell (World.block_lt_of_cell? w _ h)).trans h
set_option maxHeartbeats 4000000 in
set_option maxRecDepth 100000 in
theorem Open4_any (N : Nat) : ∀ (x : S29) (_ : SizeOf.sizeOf x < N) (A : Option Addr) (c : Nat) (w : World) (hr : Kd.C k29 w A x.f5.length x.f5) (hc : x.f5.length ≤ c),
    Calls Try.prog 49 #[.agg #[.int .i64 x.f0, .int .i64 x.f1, .int .i64 x.f2, .int .i64 x.f3, .int .i64 x.f4, .slice A x.f5.length c]] w fun e w' => e = .returned (.bool (openT x)) ∧ Below w.heap.size w w' := by
  induction N with
  | zero => intro x h; omega
  | succ N ih =>
  intro x hN A c w hr hc
  have hu29 := Try.underlying29
  have hmx := Kd.C_max hr
  have HR := Aside0.mk hr
  have HC := Aside0.mk hc
  have HB := Aside0.mk (Below.refl w.heap.size w)
  by_cases k4 : x.f0 = 4
  · have E := Aside0.mk (show openT x = true by rw [openT_end (by omega), k4]; rfl)
    have k4b : (x.f0 == 4) = true := by simpa using k4
    clear k4 ih hN hr hc
    go_enter Try.func49, Try.ntmps49
    go_wp2
    go_ret
    exact ⟨by rw [E.out]; try rfl, below_alloc HB.out _⟩
  have k4b : (x.f0 == 4) = false := by simpa using k4
  by_cases k3 : x.f0 = 3
  case neg =>
    have E := Aside0.mk (show openT x = false by rw [openT_end (by omega), k4b])
    have k3b : (x.f0 == 3) = false := by simpa using k3
    have k3c : (x.f0 != 3) = true := by simpa using k3
    clear k4 k3 ih hN hr hc
    go_enter Try.func49, Try.ntmps49
    go_wp2
    go_ret
    exact ⟨by rw [E.out]; try rfl, below_alloc HB.out _⟩
  have k3b : (x.f0 == 3) = true := by simpa using k3
  have k3c : (x.f0 != 3) = false := by simpa using k3
  by_cases hl : x.f5.length = 0
  · have E := Aside0.mk (show openT x = false by rw [openT_end (by omega), k4b])
    have hlb : (x.f5.length == 0) = true := by simpa using hl
    have hlc : ((x.f5.length : Int) == 0) = true := by simpa using hl
    clear k4 k3 ih hN hr hc hl
    go_enter Try.func49, Try.ntmps49
    go_wp2
    go_ret
    exact ⟨by rw [E.out]; try rfl, below_alloc HB.out _⟩
  have hlb : (x.f5.length == 0) = false := by simpa using hl
  have hlc : ((x.f5.length : Int) == 0) = false := by simpa using hl
  obtain ⟨j, hj⟩ : ∃ j : Int, (x.f5.length : Int) - 1 = j := ⟨_, rfl⟩
  have i0 : 0 ≤ j := by omega
  have i1 : j < (x.f5.length : Int) := by omega
  have E := Aside0.mk (show openT x = openT (rd_T29 x.f5 j) by rw [openT_step k3 (by omega), hj])
  have HM := Aside0.mk (show SizeOf.sizeOf (rd_T29 x.f5 j) < N by have h1 := size_rd29 i0 i1; have h2 := size_f5 x; omega)
  have IH := Aside0.mk ih
  obtain ⟨ad, A5, c5, e, hx0, hx1, hx2, hx3, hx4, hx5, hl5, hi5⟩ := at_T29 hr _ i0 i1
  cases e
  have HR5 := Aside0.mk hi5
  have HC5 := Aside0.mk hl5
  replace hx0 := cell_all hx0
  replace hx1 := cell_all hx1
  replace hx2 := cell_all hx2
  replace hx3 := cell_all hx3
  replace hx4 := cell_all hx4
  replace hx5 := cell_all hx5
  clear k4 k3 ih hN hr hc hl hi5 hl5
  go_enter Try.func49, Try.ntmps49
  go_wp2_with fail
  refine (IH.out (rd_T29 x.f5 j) HM.out A5 c5 _ (Kd.C_alloc HR5.out _) HC5.out).mono ?_
  rintro e w1 ⟨rfl, hb⟩
  have HB1 := Aside0.mk (below_step (below_alloc HB.out _) hb)
  clear hb
  go_wp2
  go_ret
  exact ⟨by rw [E.out]; try rfl, HB1.out⟩
/-! ### passepartoutref04.Least -/
set_option maxHeartbeats 4000000 in
set_option maxRecDepth 100000 in
theorem Least4_any (N : Nat) : ∀ (x : S29) (_ : SizeOf.sizeOf x < N) (A : Option Addr) (c : Nat) (w : World) (hr : Kd.C k29 w A x.f5.length x.f5) (hc : x.f5.length ≤ c),
    Calls Try.prog 50 #[.agg #[.int .i64 x.f0, .int .i64 x.f1, .int .i64 x.f2, .int .i64 x.f3, .int .i64 x.f4, .slice A x.f5.length c]] w fun e w' => e = .returned (.int .i64 (leastT x)) ∧ Below w.heap.size w w' := by
  induction N with
  | zero => intro x h; omega
  | succ N ih =>
  rintro ⟨k, s, lo, hi, st, ps⟩ hN A c w hr hc
  dsimp only at hr hc ⊢
  have hu29 := Try.underlying29
  have hmx := Kd.C_max hr
  have HR := Aside0.mk hr
  have HC := Aside0.mk hc
  clear hr hc
  have HB := Aside0.mk (Below.refl w.heap.size w)
  by_cases k0 : k = 0
  · have k0b : (k == 0) = true := by simpa using k0
    have H' := Aside0.mk (show leastT ⟨k, s, lo, hi, st, ps⟩ = s by simp [leastT, k0])
    clear k0
    go_enter Try.func50, Try.ntmps50
    go_wp2
    go_ret
    exact ⟨by rw [H'.out]; try rfl, below_alloc HB.out _⟩
  have k0b : (k == 0) = false := by simpa using k0
  by_cases k1 : k = 1 ∨ k = 2
  · have H : leastT ⟨k, s, lo, hi, st, ps⟩ = wrap64 (s + lo) := by
      rcases k1 with rfl | rfl <;> simp [leastT]
    have H' := Aside0.mk H
    clear H k0
    rcases k1 with rfl | rfl
    all_goals
      go_enter Try.func50, Try.ntmps50
      go_wp2
      go_ret
      exact ⟨by rw [H'.out]; try rfl, below_alloc HB.out _⟩
  have k1b : (k == 1) = false := by simp; omega
  have k2b : (k == 2) = false := by simp; omega
  by_cases k4 : k = 4 ∨ k = 5
  · have H' := Aside0.mk (show leastT ⟨k, s, lo, hi, st, ps⟩ = lo by rcases k4 with rfl | rfl <;> simp [leastT])
    clear k0 k1
    rcases k4 with rfl | rfl
    all_goals
      go_enter Try.func50, Try.ntmps50
      go_wp2
      go_ret
      exact ⟨by rw [H'.out]; try rfl, below_alloc HB.out _⟩
  have k4b : (k == 4) = false := by simp; omega
  have k5b : (k == 5) = false := by simp; omega
  have H' := Aside0.mk (show leastT ⟨k, s, lo, hi, st, ps⟩ = leastL ps 0 by
    simp only [leastT]
    rw [if_neg k0, if_neg (by omega), if_neg (by omega), if_neg (by omega), if_neg (by omega)])
  have IH := Aside0.mk ih
  have HN := Aside0.mk hN
  clear k0 k1 k4 ih hN
  go_enter Try.func50, Try.ntmps50
  go_wp2
  go_loopg [3, 4] (ps.length + 1) (fun kq v3 v4 w' => ∃ (n i : Int), v3 = .int .i64 n ∧ v4 = .int .i64 i ∧ 0 ≤ i ∧ i ≤ ps.length ∧ Aside0 (leastL (ps.drop i.toNat) n = leastL ps 0) ∧ Aside0 ((kq : Int) + i = ps.length + 1) ∧ Aside0 (w'.heap[w.heap.size]? = some (.cells #[.int .i64 k, .int .i64 s, .int .i64 lo, .int .i64 hi, .int .i64 st, .slice A ps.length c] 29 (0, 0))) ∧ Aside0 (Below w.heap.size w w'))
  case atStart => exact ⟨0, 0, rfl, rfl, by omega, by omega, ⟨rfl⟩, ⟨by omega⟩, ⟨heap_alloc_new w _⟩, ⟨below_alloc HB.out _⟩⟩
  case round =>
    clear HB
    obtain ⟨n, i, rfl, rfl, i0, i1, HA, HK, BK, HB⟩ := hrel
    have hcz5 : wr.cell? ⟨w.heap.size, 5, none⟩ = some (.slice A ps.length c) := (blk_cell BK.out 5).trans rfl
    by_cases hlt : i < (ps.length : Int)
    case neg =>
      have c1 : decide (i < (ps.length : Int)) = false := decide_eq_false hlt
      have E := Aside0.mk (show leastT ⟨k, s, lo, hi, st, ps⟩ = n by rw [H'.out, ← HA.out, leastL_end (by omega)])
      clear hlt
      go_wp2
      go_ret
      exact ⟨by rw [E.out]; try rfl, HB.out⟩
    case pos =>
      obtain ⟨k1, rfl⟩ : ∃ m, gk = m + 1 := ⟨gk - 1, by have := HK.out; omega⟩
      have c1 : decide (i < (ps.length : Int)) = true := decide_eq_true hlt
      have HM := Aside0.mk (show SizeOf.sizeOf (rd_T29 ps i) < N by have := size_rd29 i0 hlt; have := HN.out; simp at this; omega)
      have hst := leastL_step i0 hlt n
      rw [HA.out] at hst
      have HST := Aside0.mk hst.symm
      clear hst
      obtain ⟨ad, A5, c5, e, hx0, hx1, hx2, hx3, hx4, hx5, hl5, hi5⟩ := at_T29 HR.out i i0 hlt
      cases e
      replace hx0 := (HB.out.cell (World.block_lt_of_cell? w _ hx0)).trans hx0
      replace hx1 := (HB.out.cell (World.block_lt_of_cell? w _ hx1)).trans hx1
      replace hx2 := (HB.out.cell (World.block_lt_of_cell? w _ hx2)).trans hx2
      replace hx3 := (HB.out.cell (World.block_lt_of_cell? w _ hx3)).trans hx3
      replace hx4 := (HB.out.cell (World.block_lt_of_cell? w _ hx4)).trans hx4
      replace hx5 := (HB.out.cell (World.block_lt_of_cell? w _ hx5)).trans hx5
      have HR5 := Aside0.mk hi5
      have HC5 := Aside0.mk hl5
      clear hi5 hl5
      go_wp2_with fail
      refine (IH.out (rd_T29 ps i) HM.out _ _ _ (Kd.C_below HR5.out HB.out) HC5.out).mono ?_
      rintro e w9 ⟨rfl, hb⟩
      have BK2 := Aside0.mk (blk_below BK.out hb)
      have HB2 := Aside0.mk (below_step HB.out hb)
      clear hb HB BK hcz5
      go_wp2
      go_roundg (k1)
      case measure => have := HK.out; omega
      case rel => exact ⟨_, _, rfl, rfl, by omega, by omega, HST, ⟨by have := HK.out; omega⟩, BK2, HB2⟩
/-! ### passepartoutref04.top -/
set_option maxHeartbeats 1000000 in
theorem top_any (s : Int) (hs : s = 1 ∨ s = 2 ∨ s = 3) (w : World) : Calls Try.prog 66 #[.int .i64 s] w fun e w' => e = .returned (.int .i64 (topT s)) ∧ w' = w := by
  rcases hs with rfl | rfl | rfl
  · go_enter Try.func66, Try.ntmps66
    go_wp2
    go_loop [3, 4] (fun n i => ∃ k : Nat, k ≤ 1 ∧ i = .int .i64 k ∧ n = .int .i64 ((256 : Int) ^ k)) (fun _ i => 1 - (intOf i).toNat)
    case atStart => exact ⟨0, by omega, rfl, rfl⟩
    case round =>
      obtain ⟨k, hk, rfl, rfl⟩ := hrel
      have : k = 0 ∨ k = 1 := by omega
      rcases this with rfl | rfl
      · go_wp2
        go_round
        case rel => exact ⟨1, by omega, rfl, rfl⟩
        case measure => simp [intOf]
      · go_wp2
        go_ret
        exact ⟨rfl, rfl⟩
  · go_enter Try.func66, Try.ntmps66
    go_wp2
    go_loop [3, 4] (fun n i => ∃ k : Nat, k ≤ 2 ∧ i = .int .i64 k ∧ n = .int .i64 ((256 : Int) ^ k)) (fun _ i => 2 - (intOf i).toNat)
    case atStart => exact ⟨0, by omega, rfl, rfl⟩
    case round =>
      obtain ⟨k, hk, rfl, rfl⟩ := hrel
      have : k = 0 ∨ k = 1 ∨ k = 2 := by omega
      rcases this with rfl | rfl | rfl
      · go_wp2
        go_round
        case rel => exact ⟨1, by omega, rfl, rfl⟩
        case measure => simp [intOf]
      · go_wp2
        go_round
        case rel => exact ⟨2, by omega, rfl, rfl⟩
        case measure => simp [intOf]
      · go_wp2
        go_ret
        exact ⟨rfl, rfl⟩
  · go_enter Try.func66, Try.ntmps66
    go_wp2
    go_loop [3, 4] (fun n i => ∃ k : Nat, k ≤ 3 ∧ i = .int .i64 k ∧ n = .int .i64 ((256 : Int) ^ k)) (fun _ i => 3 - (intOf i).toNat)
    case atStart => exact ⟨0, by omega, rfl, rfl⟩
    case round =>
      obtain ⟨k, hk, rfl, rfl⟩ := hrel
      have : k = 0 ∨ k = 1 ∨ k = 2 ∨ k = 3 := by omega
      rcases this with rfl | rfl | rfl | rfl
      · go_wp2
        go_round
        case rel => exact ⟨1, by omega, rfl, rfl⟩
        case measure => simp [intOf]
      · go_wp2
        go_round
        case rel => exact ⟨2, by omega, rfl, rfl⟩
        case measure => simp [intOf]
      · go_wp2
        go_round
        case rel => exact ⟨3, by omega, rfl, rfl⟩
        case measure => simp [intOf]
      · go_wp2
        go_ret
        exact ⟨rfl, rfl⟩
end Go.Proofs.Ythmcbcofipehhaa.B
