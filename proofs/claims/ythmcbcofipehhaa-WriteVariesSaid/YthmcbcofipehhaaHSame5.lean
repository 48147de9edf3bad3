import Derived.Test.YthmcbcofipehhaaHRef
namespace Go.Proofs.Ythmcbcofipehhaa.B
open Go.RowKit Go.Proofs.YthmcbcofipehhaaW.PrintWords Go.Proofs.YthmcbcofipehhaaW.PrintLast Go.Proofs.YthmcbcofipehhaaW.PrintMore
set_option linter.unusedVariables false
set_option linter.unusedSimpArgs false
theorem cntL_step {xs : List S32} {i : Int} (h0 : 0 ≤ i) (h1 : i < xs.length) (n : Int) : cntL (xs.drop i.toNat) n = cntL (xs.drop (i + 1).toNat) (wrap64 (n + cntT (rd_T32 xs i))) := by
  rw [drop32' h0 h1, cntL]
theorem cntL_end {xs : List S32} {i : Int} (h1 : (xs.length : Int) ≤ i) (n : Int) : cntL (xs.drop i.toNat) n = n := by
  rw [List.drop_eq_nil_of_le (by omega), cntL]
set_option maxHeartbeats 4000000 in
set_option maxRecDepth 100000 in
theorem VCount_any (N : Nat) : ∀ (v : S32) (_ : SizeOf.sizeOf v < N) (A1 : Option Addr) (c1 : Nat) (A2 : Option Addr) (c2 : Nat) (w : World) (hr1 : Kd.C (Kd.int .u8) w A1 v.f1.length v.f1) (hc1 : v.f1.length ≤ c1) (hr2 : Kd.C k32 w A2 v.f2.length v.f2) (hc2 : v.f2.length ≤ c2),
    Calls Try.prog 18 #[.agg #[.int .u64 v.f0, .slice A1 v.f1.length c1, .slice A2 v.f2.length c2]] w fun e w' => e = .returned (.int .i64 (cntT v)) ∧ Below w.heap.size w w' := by
  induction N with
  | zero => intro v h; omega
  | succ N ih =>
  intro v hN A1 c1 A2 c2 w hr1 hc1 hr2 hc2
  have hu32 := Try.underlying32
  have hl2 := Kd.C_max hr2
  have R2 := Aside0.mk hr2
  have C2 := Aside0.mk hc2
  have IH := Aside0.mk ih
  have HN := Aside0.mk hN
  clear hr1 hc1 hr2 hc2 ih hN
  have HB := Aside0.mk (Below.refl w.heap.size w)
  have E := Aside0.mk (show cntT v = cntL v.f2 1 by obtain ⟨n, b, l⟩ := v; rw [cntT])
  go_enter Try.func18, Try.ntmps18
  go_wp2
  go_loopg [3, 9] (v.f2.length + 1) (fun kq va vi w' => ∃ (n i : Int), va = .int .i64 n ∧ vi = .int .i64 i ∧ 0 ≤ i ∧ i ≤ v.f2.length ∧ Aside0 (cntL (v.f2.drop i.toNat) n = cntT v) ∧ Aside0 ((kq : Int) + i = v.f2.length + 1) ∧ Aside0 (Below w.heap.size w w'))
  case atStart => exact ⟨1, 0, rfl, rfl, by omega, by omega, ⟨E.out.symm⟩, ⟨by omega⟩, ⟨below_alloc HB.out _⟩⟩
  case round =>
    clear HB E
    obtain ⟨n, i, rfl, rfl, i0, i1, HA, HK, HB⟩ := hrel
    by_cases hlt : i < (v.f2.length : Int)
    case neg =>
      have cq : decide (i < (v.f2.length : Int)) = false := decide_eq_false hlt
      have E := Aside0.mk (show cntT v = n by rw [← HA.out, cntL_end (by omega)])
      clear hlt
      go_wp2
      go_ret
      exact ⟨by rw [E.out]; try rfl, HB.out⟩
    case pos =>
      obtain ⟨k1, rfl⟩ : ∃ m, gk = m + 1 := ⟨gk - 1, by have := HK.out; omega⟩
      have cq : decide (i < (v.f2.length : Int)) = true := decide_eq_true hlt
      have HA2 := Aside0.mk (show cntL (v.f2.drop (i + 1).toNat) (wrap64 (n + cntT (rd_T32 v.f2 i))) = cntT v by rw [← HA.out, cntL_step i0 hlt])
      have HM := Aside0.mk (show SizeOf.sizeOf (rd_T32 v.f2 i) < N by have := elt32 i0 hlt; have := HN.out; omega)
      obtain ⟨ad, B1, d1, B2, d2, e, hx0, hx1, hx2, lx1, ix1, lx2, ix2⟩ := at_T32 R2.out i i0 hlt
      cases e
      replace hx0 := (HB.out.cell (World.block_lt_of_cell? w _ hx0)).trans hx0
      replace hx1 := (HB.out.cell (World.block_lt_of_cell? w _ hx1)).trans hx1
      replace hx2 := (HB.out.cell (World.block_lt_of_cell? w _ hx2)).trans hx2
      have X1 := Aside0.mk ix1
      have X2 := Aside0.mk ix2
      have L1 := Aside0.mk lx1
      have L2 := Aside0.mk lx2
      clear ix1 ix2 lx1 lx2
      go_wp2_with fail
      refine (IH.out (rd_T32 v.f2 i) HM.out _ _ _ _ _ (Kd.C_alloc (Kd.C_below X1.out HB.out) _) L1.out (Kd.C_alloc (Kd.C_below X2.out HB.out) _) L2.out).mono ?_
      rintro e w9 ⟨rfl, hb⟩
      have HB2 := Aside0.mk (below_step (below_alloc HB.out _) hb)
      clear hb HB hx0 hx1 hx2
      go_wp2
      go_roundg (k1)
      case measure => have := HK.out; omega
      case rel => exact ⟨_, _, rfl, rfl, by omega, by omega, HA2, ⟨by have := HK.out; omega⟩, HB2⟩
set_option maxHeartbeats 4000000 in
set_option maxRecDepth 100000 in
theorem Same5_any (N : Nat) : ∀ (x : S32) (_ : SizeOf.sizeOf x < N) (y : S32) (A1 : Option Addr) (c1 : Nat) (A2 : Option Addr) (c2 : Nat) (B1 : Option Addr) (d1 : Nat) (B2 : Option Addr) (d2 : Nat) (w : World)
  (hr1 : Kd.C (Kd.int .u8) w A1 x.f1.length x.f1) (hc1 : x.f1.length ≤ c1) (hr2 : Kd.C k32 w A2 x.f2.length x.f2) (hc2 : x.f2.length ≤ c2) (hs1 : Kd.C (Kd.int .u8) w B1 y.f1.length y.f1) (hd1 : y.f1.length ≤ d1) (hs2 : Kd.C k32 w B2 y.f2.length y.f2) (hd2 : y.f2.length ≤ d2),
    Calls Try.prog 11 #[.agg #[.int .u64 x.f0, .slice A1 x.f1.length c1, .slice A2 x.f2.length c2], .agg #[.int .u64 y.f0, .slice B1 y.f1.length d1, .slice B2 y.f2.length d2]] w fun e w' => e = .returned (.bool (sameT x y)) ∧ Below w.heap.size w w' := by
  induction N with
  | zero => intro x h; omega
  | succ N ih =>
  intro x hN y A1 c1 A2 c2 B1 d1 B2 d2 w hr1 hc1 hr2 hc2 hs1 hd1 hs2 hd2
  have hu32 := Try.underlying32
  have hl2 := Kd.C_max hr2
  have R1 := Aside0.mk hr1
  have R2 := Aside0.mk hr2
  have S1 := Aside0.mk hs1
  have S2 := Aside0.mk hs2
  have C1 := Aside0.mk hc1
  have C2 := Aside0.mk hc2
  have D1 := Aside0.mk hd1
  have D2 := Aside0.mk hd2
  have IH := Aside0.mk ih
  have HN := Aside0.mk hN
  clear hr1 hc1 hr2 hc2 hs1 hd1 hs2 hd2 ih hN
  have HB := Aside0.mk (Below.refl w.heap.size w)
  have E := Aside0.mk (show sameT x y = ((x.f0 == y.f0 && eqB x.f1 y.f1) && sameL x.f2 y.f2) by obtain ⟨n, b, l⟩ := x; rw [sameT])
  have cv1 : ∀ o p, (convert 23 9 (.slice A1 x.f1.length c1)).run Try.prog ((w.alloc o).alloc p) = .ok (.string (strOfNums x.f1)) ((w.alloc o).alloc p) := fun o p => Kd.C_string (P := Try.prog) (A := A1) (c := c1) Try.underlying23 Try.underlying5 Try.underlying9 (Kd.C_alloc (Kd.C_alloc R1.out _) _)
  have cv2 : ∀ o p, (convert 23 9 (.slice B1 y.f1.length d1)).run Try.prog ((w.alloc o).alloc p) = .ok (.string (strOfNums y.f1)) ((w.alloc o).alloc p) := fun o p => Kd.C_string (P := Try.prog) (A := B1) (c := d1) Try.underlying23 Try.underlying5 Try.underlying9 (Kd.C_alloc (Kd.C_alloc S1.out _) _)
  by_cases h0 : x.f0 = y.f0
  case neg =>
    have n1 : (x.f0 == y.f0) = false := by simpa using h0
    have n2 : (x.f0 != y.f0) = true := by simpa using h0
    have E2 := Aside0.mk (show sameT x y = false by rw [E.out, n1]; rfl)
    clear h0
    go_enter Try.func11, Try.ntmps11
    go_wp2
    go_ret
    exact ⟨by rw [E2.out]; try rfl, below_alloc (below_alloc HB.out _) _⟩
  case pos =>
  have n1 : (x.f0 == y.f0) = true := by simpa using h0
  have n2 : (x.f0 != y.f0) = false := by simpa using h0
  clear h0
  cases hq : eqB x.f1 y.f1
  case false =>
    have E2 := Aside0.mk (show sameT x y = false by rw [E.out, n1, hq]; rfl)
    have q1 : ((strOfNums x.f1).toList == (strOfNums y.f1).toList) = false := hq
    have q2 : ((strOfNums x.f1).toList != (strOfNums y.f1).toList) = true := by rw [bne, q1]; rfl
    clear hq
    go_enter Try.func11, Try.ntmps11
    go_wp2
    go_ret
    exact ⟨by rw [E2.out]; try rfl, below_alloc (below_alloc HB.out _) _⟩
  case true =>
  have q1 : ((strOfNums x.f1).toList == (strOfNums y.f1).toList) = true := hq
  have q2 : ((strOfNums x.f1).toList != (strOfNums y.f1).toList) = false := by rw [bne, q1]; rfl
  have E3 : sameT x y = sameL x.f2 y.f2 := by rw [E.out, n1, hq]; rfl
  clear hq
  by_cases hl : (x.f2.length : Int) = y.f2.length
  case neg =>
    have m1 : ((x.f2.length : Int) == y.f2.length) = false := by simpa using hl
    have m2 : ((x.f2.length : Int) != y.f2.length) = true := by simpa using hl
    have m3 : (x.f2.length == y.f2.length) = false := by simp only [beq_eq_false_iff_ne]; omega
    have m4 : (x.f2.length != y.f2.length) = true := by simp only [bne_iff_ne]; omega
    have E2 := Aside0.mk (show sameT x y = false by rw [E3, sameL_len _ _ (by omega)])
    clear hl E3
    go_enter Try.func11, Try.ntmps11
    go_wp2
    go_ret
    exact ⟨by rw [E2.out]; try rfl, below_alloc (below_alloc HB.out _) _⟩
  case pos =>
  have m1 : ((x.f2.length : Int) == y.f2.length) = true := by simpa using hl
  have m2 : ((x.f2.length : Int) != y.f2.length) = false := by simpa using hl
  have m3 : (x.f2.length == y.f2.length) = true := by simp only [beq_iff_eq]; omega
  have m4 : (x.f2.length != y.f2.length) = false := by simp only [bne_eq_false_iff_eq]; omega
  have HL := Aside0.mk hl
  have E4 := Aside0.mk E3
  clear hl E3
  go_enter Try.func11, Try.ntmps11
  go_wp2
  go_loopg [5] (x.f2.length + 1) (fun kq vi w' => ∃ (i : Int), vi = .int .i64 i ∧ 0 ≤ i ∧ i ≤ x.f2.length ∧ Aside0 (sameL (x.f2.drop i.toNat) (y.f2.drop i.toNat) = sameL x.f2 y.f2) ∧ Aside0 ((kq : Int) + i = x.f2.length + 1) ∧ Aside0 (Below w.heap.size w w') ∧ Aside0 (w'.heap[w.heap.size]? = some (.cells #[.int .u64 x.f0, .slice A1 x.f1.length c1, .slice A2 x.f2.length c2] 32 (0, 0))) ∧ Aside0 (w'.heap[w.heap.size + 1]? = some (.cells #[.int .u64 y.f0, .slice B1 y.f1.length d1, .slice B2 y.f2.length d2] 32 (0, 0))))
  case atStart =>
    have h' := heap_alloc_new (w.alloc (.cells #[.int .u64 x.f0, .slice A1 x.f1.length c1, .slice A2 x.f2.length c2] 32)) (.cells #[.int .u64 y.f0, .slice B1 y.f1.length d1, .slice B2 y.f2.length d2] 32)
    rw [World.size_alloc] at h'
    exact ⟨0, rfl, by omega, by omega, ⟨rfl⟩, ⟨by omega⟩, ⟨below_alloc (below_alloc HB.out _) _⟩, ⟨blk_alloc (heap_alloc_new w _) _⟩, ⟨h'⟩⟩
  case round =>
    clear HB cv1 cv2
    obtain ⟨i, rfl, i0, i1, HA, HK, HB, BX, BY⟩ := hrel
    have hz2 : wr.cell? ⟨w.heap.size, 2, none⟩ = some (.slice A2 x.f2.length c2) := (blk_cell BX.out 2).trans rfl
    have hy2 : wr.cell? ⟨w.heap.size + 1, 2, none⟩ = some (.slice B2 y.f2.length d2) := (blk_cell BY.out 2).trans rfl
    by_cases hlt : i < (x.f2.length : Int)
    case neg =>
      have cq : decide (i < (x.f2.length : Int)) = false := decide_eq_false hlt
      have E := Aside0.mk (show sameT x y = true by
        rw [E4.out, ← HA.out, List.drop_eq_nil_of_le (by omega), List.drop_eq_nil_of_le (by have := HL.out; omega), sameL])
      clear hlt
      go_wp2
      go_ret
      exact ⟨by rw [E.out]; try rfl, HB.out⟩
    case pos =>
      obtain ⟨k1, rfl⟩ : ∃ m, gk = m + 1 := ⟨gk - 1, by have := HK.out; omega⟩
      have cq : decide (i < (x.f2.length : Int)) = true := decide_eq_true hlt
      have hlm : i < (y.f2.length : Int) := by have := HL.out; omega
      have HST := Aside0.mk (show sameL (x.f2.drop i.toNat) (y.f2.drop i.toNat) = (sameT (rd_T32 x.f2 i) (rd_T32 y.f2 i) && sameL (x.f2.drop (i + 1).toNat) (y.f2.drop (i + 1).toNat)) by rw [drop32' i0 hlt, drop32' i0 hlm, sameL])
      have HM := Aside0.mk (show SizeOf.sizeOf (rd_T32 x.f2 i) < N by have := elt32 i0 hlt; have := HN.out; omega)
      obtain ⟨ad, P1, p1, P2, p2, e, hx0, hx1, hx2, lx1, ix1, lx2, ix2⟩ := at_T32 R2.out i i0 hlt
      cases e
      obtain ⟨bd, Q1, q1, Q2, q2, e, hy0, hy1, hyy2, ly1, iy1, ly2, iy2⟩ := at_T32 S2.out i i0 hlm
      cases e
      have u0 := up_cell hz2
      have u1 := up_cell hy2
      have u2 := up_cell ((HB.out.cell (World.block_lt_of_cell? w _ hx0)).trans hx0)
      have u3 := up_cell ((HB.out.cell (World.block_lt_of_cell? w _ hx1)).trans hx1)
      have u4 := up_cell ((HB.out.cell (World.block_lt_of_cell? w _ hx2)).trans hx2)
      have u5 := up_cell ((HB.out.cell (World.block_lt_of_cell? w _ hy0)).trans hy0)
      have u6 := up_cell ((HB.out.cell (World.block_lt_of_cell? w _ hy1)).trans hy1)
      have u7 := up_cell ((HB.out.cell (World.block_lt_of_cell? w _ hyy2)).trans hyy2)
      have X1 := Aside0.mk (Kd.C_below ix1 HB.out)
      have X2 := Aside0.mk (Kd.C_below ix2 HB.out)
      have Y1 := Aside0.mk (Kd.C_below iy1 HB.out)
      have Y2 := Aside0.mk (Kd.C_below iy2 HB.out)
      have LX1 := Aside0.mk lx1
      have LX2 := Aside0.mk lx2
      have LY1 := Aside0.mk ly1
      have LY2 := Aside0.mk ly2
      clear ix1 ix2 iy1 iy2 lx1 lx2 ly1 ly2 hx0 hx1 hx2 hy0 hy1 hyy2
      go_wp2
      refine wp_region_up (by kernel_rfl) (by kernel_rfl) ?_
      repeat (go_big_quiet_step ((go_at_call 11; exact up_of (IH.out (rd_T32 x.f2 i) HM.out (rd_T32 y.f2 i) _ _ _ _ _ _ _ _ _ (Kd.C_below X1.out (Up.below _)) LX1.out (Kd.C_below X2.out (Up.below _)) LX2.out (Kd.C_below Y1.out (Up.below _)) LY1.out (Kd.C_below Y2.out (Up.below _)) LY2.out))))
      refine wpQuiet_nil ?_
      rintro _ ⟨s, rfl⟩
      have hb6 := s.below
      obtain ⟨w6, hw6⟩ : ∃ w6, w6 = s.val := ⟨_, rfl⟩
      rw [← hw6] at hb6 ⊢
      clear hw6 s u0 u1 u2 u3 u4 u5 u6 u7
      have BX2 := Aside0.mk (blk_below BX.out hb6)
      have BY2 := Aside0.mk (blk_below BY.out hb6)
      have HB2 := Aside0.mk (below_step HB.out hb6)
      clear hb6 BX BY HB hz2 hy2 X1 X2 Y1 Y2
      cases hq : sameT (rd_T32 x.f2 i) (rd_T32 y.f2 i) with
      | false =>
        have E := Aside0.mk (show sameT x y = false by rw [E4.out, ← HA.out, HST.out, hq]; rfl)
        clear hq
        go_wp2
        go_ret
        exact ⟨by rw [E.out]; try rfl, HB2.out⟩
      | true =>
        have E := Aside0.mk (show sameL (x.f2.drop (i + 1).toNat) (y.f2.drop (i + 1).toNat) = sameL x.f2 y.f2 by rw [← HA.out, HST.out, hq]; rfl)
        clear hq
        go_wp2
        go_roundg (k1)
        case measure => have := HK.out; omega
        case rel => exact ⟨_, rfl, by omega, by omega, E, ⟨by have := HK.out; omega⟩, HB2, BX2, BY2⟩
end Go.Proofs.Ythmcbcofipehhaa.B

