import Derived.Test.YthmcbcofipehhaaHSame
import Derived.Test.YthmcbcofipehhaaHLay
namespace Go.Proofs.Ythmcbcofipehhaa.B
open Go.RowKit Go.Proofs.YthmcbcofipehhaaW.PrintWords Go.Proofs.YthmcbcofipehhaaW.PrintLast Go.Proofs.YthmcbcofipehhaaW.PrintMore
set_option linter.unusedVariables false
set_option linter.unusedSimpArgs false
mutual
def countT : S32 → Int → Int
  | ⟨_, _, l⟩, m => countL l m 1
def countL : List S32 → Int → Int → Int
  | [], _, n => n
  | x :: l, m, n => if n ≤ m then countL l m (wrap64 (n + countT x (wrap64 (m - n)))) else n
end
mutual
def bytesT : S32 → Int → Int
  | ⟨_, b, l⟩, m => bytesL l m b.length
def bytesL : List S32 → Int → Int → Int
  | [], _, n => n
  | x :: l, m, n => if n ≤ m then bytesL l m (wrap64 (n + bytesT x (wrap64 (m - n)))) else n
end
mutual
def cntT : S32 → Int
  | ⟨_, _, l⟩ => cntL l 1
def cntL : List S32 → Int → Int
  | [], n => n
  | x :: l, n => cntL l (wrap64 (n + cntT x))
end
mutual
def countF : S29 → Int → Int
  | ⟨k, _, _, _, _, ps⟩, m => if k = 2 then countFL ps m 1 else if k = 3 then countFL ps m 1 else 1
def countFL : List S29 → Int → Int → Int
  | [], _, n => n
  | x :: l, m, n => if n ≤ m then countFL l m (wrap64 (n + countF x (wrap64 (m - n)))) else n
end
theorem countF_eq (x : S29) (m : Int) : countF x m = countFL (partsT x) m 1 := by
  obtain ⟨k, s, lo, hi, st, ps⟩ := x
  simp only [countF, partsT]
  by_cases k2 : k = 2
  · simp [k2]
  by_cases k3 : k = 3
  · simp [k3]
  simp [k2, k3, countFL]
theorem elt32 {v : S32} {i : Int} (h0 : 0 ≤ i) (h1 : i < v.f2.length) : SizeOf.sizeOf (rd_T32 v.f2 i) < SizeOf.sizeOf v := by
  have := List.sizeOf_lt_of_mem (mem_rd32' h0 h1)
  obtain ⟨n, b, l⟩ := v
  simp
  dsimp only at this
  omega
theorem countL_step {xs : List S32} {i : Int} (h0 : 0 ≤ i) (h1 : i < xs.length) (m n : Int) : countL (xs.drop i.toNat) m n = if n ≤ m then countL (xs.drop (i + 1).toNat) m (wrap64 (n + countT (rd_T32 xs i) (wrap64 (m - n)))) else n := by
  rw [drop32' h0 h1, countL]
theorem countL_end {xs : List S32} {i : Int} (h1 : (xs.length : Int) ≤ i) (m n : Int) : countL (xs.drop i.toNat) m n = n := by
  rw [List.drop_eq_nil_of_le (by omega), countL]
set_option maxHeartbeats 4000000 in
set_option maxRecDepth 100000 in
theorem Count5_any (N : Nat) : ∀ (v : S32) (_ : SizeOf.sizeOf v < N) (m : Int) (A1 : Option Addr) (c1 : Nat) (A2 : Option Addr) (c2 : Nat) (w : World) (hr1 : Kd.C (Kd.int .u8) w A1 v.f1.length v.f1) (hc1 : v.f1.length ≤ c1) (hr2 : Kd.C k32 w A2 v.f2.length v.f2) (hc2 : v.f2.length ≤ c2),
    Calls Try.prog 19 #[.agg #[.int .u64 v.f0, .slice A1 v.f1.length c1, .slice A2 v.f2.length c2], .int .i64 m] w fun e w' => e = .returned (.int .i64 (countT v m)) ∧ Below w.heap.size w w' := by
  induction N with
  | zero => intro v h; omega
  | succ N ih =>
  intro v hN m A1 c1 A2 c2 w hr1 hc1 hr2 hc2
  have hu32 := Try.underlying32
  have hl1 := Kd.C_max hr1
  have hl2 := Kd.C_max hr2
  have R1 := Aside0.mk hr1
  have C1 := Aside0.mk hc1
  have R2 := Aside0.mk hr2
  have C2 := Aside0.mk hc2
  have IH := Aside0.mk ih
  have HN := Aside0.mk hN
  clear hr1 hc1 hr2 hc2 ih hN
  have HB := Aside0.mk (Below.refl w.heap.size w)
  have E := Aside0.mk (show countT v m = countL v.f2 m 1 by obtain ⟨n, b, l⟩ := v; rw [countT])
  go_enter Try.func19, Try.ntmps19
  go_wp2
  go_loopg [5, 6] (v.f2.length + 1) (fun kq va vi w' => ∃ (n i : Int), va = .int .i64 n ∧ vi = .int .i64 i ∧ 0 ≤ i ∧ i ≤ v.f2.length ∧ Aside0 (countL (v.f2.drop i.toNat) m n = countT v m) ∧ Aside0 ((kq : Int) + i = v.f2.length + 1) ∧ Aside0 (w'.heap[w.heap.size]? = some (.cells #[.int .u64 v.f0, .slice A1 v.f1.length c1, .slice A2 v.f2.length c2] 32 (0, 0))) ∧ Aside0 (Below w.heap.size w w'))
  case atStart => exact ⟨1, 0, rfl, rfl, by omega, by omega, ⟨E.out.symm⟩, ⟨by omega⟩, ⟨heap_alloc_new w _⟩, ⟨below_alloc HB.out _⟩⟩
  case round =>
    clear HB E
    obtain ⟨n, i, rfl, rfl, i0, i1, HA, HK, BK, HB⟩ := hrel
    have hz2 : wr.cell? ⟨w.heap.size, 2, none⟩ = some (.slice A2 v.f2.length c2) := (blk_cell BK.out 2).trans rfl
    by_cases hlt : i < (v.f2.length : Int)
    case neg =>
      have cq : decide (i < (v.f2.length : Int)) = false := decide_eq_false hlt
      have E := Aside0.mk (show countT v m = n by rw [← HA.out, countL_end (by omega)])
      clear hlt
      go_wp2
      go_ret
      exact ⟨by rw [E.out]; try rfl, HB.out⟩
    case pos =>
      have cq : decide (i < (v.f2.length : Int)) = true := decide_eq_true hlt
      by_cases hnm : n ≤ m
      case neg =>
        have cn : decide (n ≤ m) = false := decide_eq_false hnm
        have E := Aside0.mk (show countT v m = n by rw [← HA.out, countL_step i0 hlt, if_neg hnm])
        clear hlt hnm
        go_wp2
        go_ret
        exact ⟨by rw [E.out]; try rfl, HB.out⟩
      case pos =>
        obtain ⟨k1, rfl⟩ : ∃ m, gk = m + 1 := ⟨gk - 1, by have := HK.out; omega⟩
        have cn : decide (n ≤ m) = true := decide_eq_true hnm
        have HA2 := Aside0.mk (show countL (v.f2.drop (i + 1).toNat) m (wrap64 (n + countT (rd_T32 v.f2 i) (wrap64 (m - n)))) = countT v m by rw [← HA.out, countL_step i0 hlt, if_pos hnm])
        have HM := Aside0.mk (show SizeOf.sizeOf (rd_T32 v.f2 i) < N by have := elt32 i0 hlt; have := HN.out; omega)
        obtain ⟨ad, B1, d1, B2, d2, e, hx0, hx1, hx2, lx1, ix1, lx2, ix2⟩ := at_T32 R2.out i i0 hlt
        cases e
        replace hx0 := (HB.out.cell (World.block_lt_of_cell? w _ hx0)).trans hx0
        replace hx1 := (HB.out.cell (World.block_lt_of_cell? w _ hx1)).trans hx1
        replace hx2 := (HB.out.cell (World.block_lt_of_cell? w _ hx2)).trans hx2
        have X1 := Aside0.mk ix1
        have X2 := Aside0.mk ix2
        have L1 := Aside0.mk lx1
        have L2 := Aside0.mk lx2
        clear ix1 ix2 lx1 lx2 hnm
        go_wp2_with fail
        refine (IH.out (rd_T32 v.f2 i) HM.out _ _ _ _ _ _ (Kd.C_below X1.out HB.out) L1.out (Kd.C_below X2.out HB.out) L2.out).mono ?_
        rintro e w9 ⟨rfl, hb⟩
        have BK2 := Aside0.mk (blk_below BK.out hb)
        have HB2 := Aside0.mk (below_step HB.out hb)
        clear hb HB BK hz2 hx0 hx1 hx2
        go_wp2
        go_roundg (k1)
        case measure => have := HK.out; omega
        case rel => exact ⟨_, _, rfl, rfl, by omega, by omega, HA2, ⟨by have := HK.out; omega⟩, BK2, HB2⟩
theorem bytesL_step {xs : List S32} {i : Int} (h0 : 0 ≤ i) (h1 : i < xs.length) (m n : Int) : bytesL (xs.drop i.toNat) m n = if n ≤ m then bytesL (xs.drop (i + 1).toNat) m (wrap64 (n + bytesT (rd_T32 xs i) (wrap64 (m - n)))) else n := by
  rw [drop32' h0 h1, bytesL]
theorem bytesL_end {xs : List S32} {i : Int} (h1 : (xs.length : Int) ≤ i) (m n : Int) : bytesL (xs.drop i.toNat) m n = n := by
  rw [List.drop_eq_nil_of_le (by omega), bytesL]
set_option maxHeartbeats 4000000 in
set_option maxRecDepth 100000 in
theorem Bytes5_any (N : Nat) : ∀ (v : S32) (_ : SizeOf.sizeOf v < N) (m : Int) (A1 : Option Addr) (c1 : Nat) (A2 : Option Addr) (c2 : Nat) (w : World) (hr1 : Kd.C (Kd.int .u8) w A1 v.f1.length v.f1) (hc1 : v.f1.length ≤ c1) (hr2 : Kd.C k32 w A2 v.f2.length v.f2) (hc2 : v.f2.length ≤ c2),
    Calls Try.prog 30 #[.agg #[.int .u64 v.f0, .slice A1 v.f1.length c1, .slice A2 v.f2.length c2], .int .i64 m] w fun e w' => e = .returned (.int .i64 (bytesT v m)) ∧ Below w.heap.size w w' := by
  induction N with
  | zero => intro v h; omega
  | succ N ih =>
  intro v hN m A1 c1 A2 c2 w hr1 hc1 hr2 hc2
  have hu32 := Try.underlying32
  have hl1 := Kd.C_max hr1
  have hl2 := Kd.C_max hr2
  have R1 := Aside0.mk hr1
  have C1 := Aside0.mk hc1
  have R2 := Aside0.mk hr2
  have C2 := Aside0.mk hc2
  have IH := Aside0.mk ih
  have HN := Aside0.mk hN
  clear hr1 hc1 hr2 hc2 ih hN
  have HB := Aside0.mk (Below.refl w.heap.size w)
  have E := Aside0.mk (show bytesT v m = bytesL v.f2 m ↑v.f1.length by obtain ⟨n, b, l⟩ := v; rw [bytesT])
  go_enter Try.func30, Try.ntmps30
  go_wp2
  go_loopg [5, 6] (v.f2.length + 1) (fun kq va vi w' => ∃ (n i : Int), va = .int .i64 n ∧ vi = .int .i64 i ∧ 0 ≤ i ∧ i ≤ v.f2.length ∧ Aside0 (bytesL (v.f2.drop i.toNat) m n = bytesT v m) ∧ Aside0 ((kq : Int) + i = v.f2.length + 1) ∧ Aside0 (w'.heap[w.heap.size]? = some (.cells #[.int .u64 v.f0, .slice A1 v.f1.length c1, .slice A2 v.f2.length c2] 32 (0, 0))) ∧ Aside0 (Below w.heap.size w w'))
  case atStart => exact ⟨↑v.f1.length, 0, rfl, rfl, by omega, by omega, ⟨E.out.symm⟩, ⟨by omega⟩, ⟨heap_alloc_new w _⟩, ⟨below_alloc HB.out _⟩⟩
  case round =>
    clear HB E
    obtain ⟨n, i, rfl, rfl, i0, i1, HA, HK, BK, HB⟩ := hrel
    have hz2 : wr.cell? ⟨w.heap.size, 2, none⟩ = some (.slice A2 v.f2.length c2) := (blk_cell BK.out 2).trans rfl
    by_cases hlt : i < (v.f2.length : Int)
    case neg =>
      have cq : decide (i < (v.f2.length : Int)) = false := decide_eq_false hlt
      have E := Aside0.mk (show bytesT v m = n by rw [← HA.out, bytesL_end (by omega)])
      clear hlt
      go_wp2
      go_ret
      exact ⟨by rw [E.out]; try rfl, HB.out⟩
    case pos =>
      have cq : decide (i < (v.f2.length : Int)) = true := decide_eq_true hlt
      by_cases hnm : n ≤ m
      case neg =>
        have cn : decide (n ≤ m) = false := decide_eq_false hnm
        have E := Aside0.mk (show bytesT v m = n by rw [← HA.out, bytesL_step i0 hlt, if_neg hnm])
        clear hlt hnm
        go_wp2
        go_ret
        exact ⟨by rw [E.out]; try rfl, HB.out⟩
      case pos =>
        obtain ⟨k1, rfl⟩ : ∃ m, gk = m + 1 := ⟨gk - 1, by have := HK.out; omega⟩
        have cn : decide (n ≤ m) = true := decide_eq_true hnm
        have HA2 := Aside0.mk (show bytesL (v.f2.drop (i + 1).toNat) m (wrap64 (n + bytesT (rd_T32 v.f2 i) (wrap64 (m - n)))) = bytesT v m by rw [← HA.out, bytesL_step i0 hlt, if_pos hnm])
        have HM := Aside0.mk (show SizeOf.sizeOf (rd_T32 v.f2 i) < N by have := elt32 i0 hlt; have := HN.out; omega)
        obtain ⟨ad, B1, d1, B2, d2, e, hx0, hx1, hx2, lx1, ix1, lx2, ix2⟩ := at_T32 R2.out i i0 hlt
        cases e
        replace hx0 := (HB.out.cell (World.block_lt_of_cell? w _ hx0)).trans hx0
        replace hx1 := (HB.out.cell (World.block_lt_of_cell? w _ hx1)).trans hx1
        replace hx2 := (HB.out.cell (World.block_lt_of_cell? w _ hx2)).trans hx2
        have X1 := Aside0.mk ix1
        have X2 := Aside0.mk ix2
        have L1 := Aside0.mk lx1
        have L2 := Aside0.mk lx2
        clear ix1 ix2 lx1 lx2 hnm
        go_wp2_with fail
        refine (IH.out (rd_T32 v.f2 i) HM.out _ _ _ _ _ _ (Kd.C_below X1.out HB.out) L1.out (Kd.C_below X2.out HB.out) L2.out).mono ?_
        rintro e w9 ⟨rfl, hb⟩
        have BK2 := Aside0.mk (blk_below BK.out hb)
        have HB2 := Aside0.mk (below_step HB.out hb)
        clear hb HB BK hz2 hx0 hx1 hx2
        go_wp2
        go_roundg (k1)
        case measure => have := HK.out; omega
        case rel => exact ⟨_, _, rfl, rfl, by omega, by omega, HA2, ⟨by have := HK.out; omega⟩, BK2, HB2⟩
set_option maxHeartbeats 4000000 in
theorem parts4_any (x : S29) (A : Option Addr) (c : Nat) (w : World) (hr : Kd.C k29 w A x.f5.length x.f5) (hc : x.f5.length ≤ c) :
    Calls Try.prog 45 #[.agg #[.int .i64 x.f0, .int .i64 x.f1, .int .i64 x.f2, .int .i64 x.f3, .int .i64 x.f4, .slice A x.f5.length c]] w fun e w' => ∃ (A' : Option Addr) (c' : Nat), e = .returned (.slice A' (partsT x).length c') ∧ (partsT x).length ≤ c' ∧ Kd.C k29 w' A' (partsT x).length (partsT x) ∧ Below w.heap.size w w' := by
  obtain ⟨k, s, lo, hi, st, ps⟩ := x
  dsimp only at hr hc ⊢
  have hu29 := Try.underlying29
  have HR := Aside0.mk hr
  have HC := Aside0.mk hc
  clear hr hc
  have HB := Aside0.mk (Below.refl w.heap.size w)
  by_cases k2 : k = 2
  · have E := Aside0.mk (show partsT ⟨k, s, lo, hi, st, ps⟩ = ps by simp [partsT, k2])
    have k2b : (k == 2) = true := by simpa using k2
    clear k2
    go_enter Try.func45, Try.ntmps45
    go_wp2
    go_ret
    rw [E.out]
    exact ⟨_, _, rfl, HC.out, Kd.C_alloc HR.out _, below_alloc HB.out _⟩
  have k2b : (k == 2) = false := by simpa using k2
  by_cases k3 : k = 3
  · have E := Aside0.mk (show partsT ⟨k, s, lo, hi, st, ps⟩ = ps by simp [partsT, k3])
    have k3b : (k == 3) = true := by simpa using k3
    clear k3 k2
    go_enter Try.func45, Try.ntmps45
    go_wp2
    go_ret
    rw [E.out]
    exact ⟨_, _, rfl, HC.out, Kd.C_alloc HR.out _, below_alloc HB.out _⟩
  have k3b : (k == 3) = false := by simpa using k3
  have E := Aside0.mk (show partsT ⟨k, s, lo, hi, st, ps⟩ = [] by simp [partsT, k2, k3])
  clear k3 k2
  go_enter Try.func45, Try.ntmps45
  go_wp2
  go_ret
  rw [E.out]
  exact ⟨_, _, rfl, Nat.le_refl _, Kd.C_nil _ _, below_alloc HB.out _⟩
theorem countFL_step {xs : List S29} {i : Int} (h0 : 0 ≤ i) (h1 : i < xs.length) (m n : Int) : countFL (xs.drop i.toNat) m n = if n ≤ m then countFL (xs.drop (i + 1).toNat) m (wrap64 (n + countF (rd_T29 xs i) (wrap64 (m - n)))) else n := by
  rw [drop29 h0 h1, countFL]
theorem countFL_end {xs : List S29} {i : Int} (h1 : (xs.length : Int) ≤ i) (m n : Int) : countFL (xs.drop i.toNat) m n = n := by
  rw [List.drop_eq_nil_of_le (by omega), countFL]
set_option maxHeartbeats 4000000 in
set_option maxRecDepth 100000 in
theorem Count4_any (N : Nat) : ∀ (x : S29) (_ : SizeOf.sizeOf x < N) (m : Int) (A : Option Addr) (c : Nat) (w : World) (hr : Kd.C k29 w A x.f5.length x.f5) (hc : x.f5.length ≤ c),
    Calls Try.prog 29 #[.agg #[.int .i64 x.f0, .int .i64 x.f1, .int .i64 x.f2, .int .i64 x.f3, .int .i64 x.f4, .slice A x.f5.length c], .int .i64 m] w fun e w' => e = .returned (.int .i64 (countF x m)) ∧ Below w.heap.size w w' := by
  induction N with
  | zero => intro x h; omega
  | succ N ih =>
  intro x hN m A c w hr hc
  have hu29 := Try.underlying29
  have HR := Aside0.mk hr
  have HC := Aside0.mk hc
  have IH := Aside0.mk ih
  have HN := Aside0.mk (show ∀ y, y ∈ partsT x → SizeOf.sizeOf y < N from fun y hy => by have := partsT_sub x y hy; omega)
  clear hr hc ih hN
  have HB := Aside0.mk (Below.refl w.heap.size w)
  have E := Aside0.mk (countF_eq x m)
  go_enter Try.func29, Try.ntmps29
  go_wp2_with fail
  refine (parts4_any x A c _ (Kd.C_alloc HR.out _) HC.out).mono ?_
  rintro e w1 ⟨A', c', rfl, hc', hr', hb⟩
  have HR' := Aside0.mk hr'
  have HC' := Aside0.mk hc'
  have hmx := Kd.C_max hr'
  have HB1 := Aside0.mk (below_step (below_alloc HB.out _) hb)
  clear hc' hr' hb HB
  obtain ⟨ps, hps⟩ : ∃ ps, ps = partsT x := ⟨_, rfl⟩
  rw [← hps] at HR' HC' E HN hmx ⊢
  clear hps
  go_wp2
  go_loopg [5, 7] (ps.length + 1) (fun kq va vi w' => ∃ (n i : Int), va = .int .i64 n ∧ vi = .int .i64 i ∧ 0 ≤ i ∧ i ≤ ps.length ∧ Aside0 (countFL (ps.drop i.toNat) m n = countF x m) ∧ Aside0 ((kq : Int) + i = ps.length + 1) ∧ Aside0 (Below w.heap.size w w') ∧ Aside0 (Kd.C k29 w' A' ps.length ps))
  case atStart => exact ⟨1, 0, rfl, rfl, by omega, by omega, ⟨E.out.symm⟩, ⟨by omega⟩, HB1, HR'⟩
  case round =>
    clear HB1 E HR'
    obtain ⟨n, i, rfl, rfl, i0, i1, HA, HK, HB, HR'⟩ := hrel
    by_cases hlt : i < (ps.length : Int)
    case neg =>
      have cq : decide (i < (ps.length : Int)) = false := decide_eq_false hlt
      have E := Aside0.mk (show countF x m = n by rw [← HA.out, countFL_end (by omega)])
      clear hlt
      go_wp2
      go_ret
      exact ⟨by rw [E.out]; try rfl, HB.out⟩
    case pos =>
      have cq : decide (i < (ps.length : Int)) = true := decide_eq_true hlt
      by_cases hnm : n ≤ m
      case neg =>
        have cn : decide (n ≤ m) = false := decide_eq_false hnm
        have E := Aside0.mk (show countF x m = n by rw [← HA.out, countFL_step i0 hlt, if_neg hnm])
        clear hlt hnm
        go_wp2
        go_ret
        exact ⟨by rw [E.out]; try rfl, HB.out⟩
      case pos =>
        obtain ⟨k1, rfl⟩ : ∃ m, gk = m + 1 := ⟨gk - 1, by have := HK.out; omega⟩
        have cn : decide (n ≤ m) = true := decide_eq_true hnm
        have HA2 := Aside0.mk (show countFL (ps.drop (i + 1).toNat) m (wrap64 (n + countF (rd_T29 ps i) (wrap64 (m - n)))) = countF x m by rw [← HA.out, countFL_step i0 hlt, if_pos hnm])
        have HM := Aside0.mk (HN.out _ (mem_rd29 i0 hlt))
        obtain ⟨ad, A5, c5, e, hx0, hx1, hx2, hx3, hx4, hx5, hl5, hi5⟩ := at_T29 HR'.out i i0 hlt
        cases e
        have HR5 := Aside0.mk hi5
        have HC5 := Aside0.mk hl5
        clear hi5 hl5 hnm
        go_wp2_with fail
        refine (IH.out (rd_T29 ps i) HM.out _ _ _ _ HR5.out HC5.out).mono ?_
        rintro e w9 ⟨rfl, hb⟩
        have HB2 := Aside0.mk (below_step HB.out hb)
        have HR2 := Aside0.mk (Kd.C_below HR'.out hb)
        clear hb HB HR' hx0 hx1 hx2 hx3 hx4 hx5
        go_wp2
        go_roundg (k1)
        case measure => have := HK.out; omega
        case rel => exact ⟨_, _, rfl, rfl, by omega, by omega, HA2, ⟨by have := HK.out; omega⟩, HB2, HR2⟩
/-- Are they greater than is looked at? -/
def greatL : List S32 → Int
  | [] => 0
  | v :: l => if countT v 2000 > 2000 then 1 else if bytesT v 20000 > 20000 then 1 else greatL l
def greatT (f : S29) (l : List S32) : Int := if countF f 500 > 500 then 1 else greatL l
theorem greatL_step {xs : List S32} {i : Int} (h0 : 0 ≤ i) (h1 : i < xs.length) : greatL (xs.drop i.toNat) = if countT (rd_T32 xs i) 2000 > 2000 then 1 else if bytesT (rd_T32 xs i) 20000 > 20000 then 1 else greatL (xs.drop (i + 1).toNat) := by
  rw [drop32' h0 h1, greatL]
theorem greatL_end {xs : List S32} {i : Int} (h1 : (xs.length : Int) ≤ i) : greatL (xs.drop i.toNat) = 0 := by
  rw [List.drop_eq_nil_of_le (by omega), greatL]
set_option maxHeartbeats 4000000 in
set_option maxRecDepth 100000 in
theorem Great_any (f : S29) (l : List S32) (A : Option Addr) (c : Nat) (B : Option Addr) (d : Nat) (w : World) (hr : Kd.C k29 w A f.f5.length f.f5) (hc : f.f5.length ≤ c) (hr2 : Kd.C k32 w B l.length l) (hc2 : l.length ≤ d) :
    Calls Try.prog 10 #[.agg #[.int .i64 f.f0, .int .i64 f.f1, .int .i64 f.f2, .int .i64 f.f3, .int .i64 f.f4, .slice A f.f5.length c], .slice B l.length d] w fun e w' => e = .returned (.int .i64 (greatT f l)) ∧ Below w.heap.size w w' := by
  have hu29 := Try.underlying29
  have hu32 := Try.underlying32
  have hmx := Kd.C_max hr2
  have HR := Aside0.mk hr
  have HC := Aside0.mk hc
  have R2 := Aside0.mk hr2
  have C2 := Aside0.mk hc2
  clear hr hc hr2 hc2
  have HB := Aside0.mk (Below.refl w.heap.size w)
  go_enter Try.func10, Try.ntmps10
  go_wp2_with fail
  refine (Count4_any _ f (Nat.lt_succ_self _) _ _ _ _ (Kd.C_alloc HR.out _) HC.out).mono ?_
  rintro e w1 ⟨rfl, hb⟩
  have HB1 := Aside0.mk (below_step (below_alloc HB.out _) hb)
  clear hb HB
  by_cases hf : 500 < countF f 500
  case pos =>
    have fb : decide (500 < countF f 500) = true := decide_eq_true hf
    have E := Aside0.mk (show greatT f l = 1 by rw [greatT, if_pos (by omega)])
    clear hf
    go_wp2
    go_ret
    exact ⟨by rw [E.out]; try rfl, HB1.out⟩
  case neg =>
  have fb : decide (500 < countF f 500) = false := decide_eq_false hf
  have E := Aside0.mk (show greatT f l = greatL l by rw [greatT, if_neg (by omega)])
  clear hf
  have R2' := Aside0.mk (Kd.C_below R2.out HB1.out)
  go_wp2
  go_loopg [12] (l.length + 1) (fun kq vi w' => ∃ (i : Int), vi = .int .i64 i ∧ 0 ≤ i ∧ i ≤ l.length ∧ Aside0 (greatL (l.drop i.toNat) = greatT f l) ∧ Aside0 ((kq : Int) + i = l.length + 1) ∧ Aside0 (Below w.heap.size w w') ∧ Aside0 (Kd.C k32 w' B l.length l))
  case atStart => exact ⟨0, rfl, by omega, by omega, ⟨E.out.symm⟩, ⟨by omega⟩, HB1, R2'⟩
  case round =>
    clear HB1 E R2'
    obtain ⟨i, rfl, i0, i1, HA, HK, HB, R2'⟩ := hrel
    by_cases hlt : i < (l.length : Int)
    case neg =>
      have cq : decide (i < (l.length : Int)) = false := decide_eq_false hlt
      have E := Aside0.mk (show greatT f l = 0 by rw [← HA.out, greatL_end (by omega)])
      clear hlt
      go_wp2
      go_ret
      exact ⟨by rw [E.out]; try rfl, HB.out⟩
    case pos =>
      obtain ⟨k1, rfl⟩ : ∃ m, gk = m + 1 := ⟨gk - 1, by have := HK.out; omega⟩
      have cq : decide (i < (l.length : Int)) = true := decide_eq_true hlt
      have HST := Aside0.mk (greatL_step i0 hlt)
      obtain ⟨ad, B1, d1, B2, d2, e, hx0, hx1, hx2, lx1, ix1, lx2, ix2⟩ := at_T32 R2'.out i i0 hlt
      cases e
      have X1 := Aside0.mk ix1
      have X2 := Aside0.mk ix2
      have L1 := Aside0.mk lx1
      have L2 := Aside0.mk lx2
      clear ix1 ix2 lx1 lx2
      go_wp2_with fail
      refine (Count5_any _ (rd_T32 l i) (Nat.lt_succ_self _) _ _ _ _ _ _ (Kd.C_alloc X1.out _) L1.out (Kd.C_alloc X2.out _) L2.out).mono ?_
      rintro e w9 ⟨rfl, hb⟩
      have BG := Aside0.mk (blk_below (heap_alloc_new wr _) hb)
      have HB2 := Aside0.mk (below_step (below_alloc HB.out _) hb)
      have HR2 := Aside0.mk (Kd.C_below (Kd.C_alloc R2'.out _) hb)
      have Y1 := Aside0.mk (Kd.C_below (Kd.C_alloc X1.out _) hb)
      have Y2 := Aside0.mk (Kd.C_below (Kd.C_alloc X2.out _) hb)
      clear hb HB R2' hx0 hx1 hx2 X1 X2
      have hg0 := blk_cell BG.out 0
      have hg1 := blk_cell BG.out 1
      have hg2 := blk_cell BG.out 2
      simp at hg0 hg1 hg2
      by_cases hct : 2000 < countT (rd_T32 l i) 2000
      case pos =>
        have cb : decide (2000 < countT (rd_T32 l i) 2000) = true := decide_eq_true hct
        have E := Aside0.mk (show greatT f l = 1 by rw [← HA.out, HST.out, if_pos (by omega)])
        clear hct
        go_wp2
        go_ret
        exact ⟨by rw [E.out]; try rfl, HB2.out⟩
      case neg =>
        have cb : decide (2000 < countT (rd_T32 l i) 2000) = false := decide_eq_false hct
        have HST2 := Aside0.mk (show greatT f l = if bytesT (rd_T32 l i) 20000 > 20000 then 1 else greatL (l.drop (i + 1).toNat) by rw [← HA.out, HST.out, if_neg (by omega)])
        clear hct
        go_wp2_with fail
        refine (Bytes5_any _ (rd_T32 l i) (Nat.lt_succ_self _) _ _ _ _ _ _ Y1.out L1.out Y2.out L2.out).mono ?_
        rintro e w10 ⟨rfl, hb⟩
        have HB3 := Aside0.mk (below_step HB2.out hb)
        have HR3 := Aside0.mk (Kd.C_below HR2.out hb)
        clear hb HB2 HR2
        by_cases hbt : 20000 < bytesT (rd_T32 l i) 20000
        case pos =>
          have bb : decide (20000 < bytesT (rd_T32 l i) 20000) = true := decide_eq_true hbt
          have E := Aside0.mk (show greatT f l = 1 by rw [HST2.out, if_pos (by omega)])
          clear hbt
          go_wp2
          go_ret
          exact ⟨by rw [E.out]; try rfl, HB3.out⟩
        case neg =>
          have bb : decide (20000 < bytesT (rd_T32 l i) 20000) = false := decide_eq_false hbt
          have HA2 := Aside0.mk (show greatL (l.drop (i + 1).toNat) = greatT f l by rw [HST2.out, if_neg (by omega)])
          clear hbt
          go_wp2
          go_roundg (k1)
          case measure => have := HK.out; omega
          case rel => exact ⟨_, rfl, by omega, by omega, HA2, ⟨by have := HK.out; omega⟩, HB3, HR3⟩
end Go.Proofs.Ythmcbcofipehhaa.B

