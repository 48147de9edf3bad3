import Derived.Test.YthmcbcofipehhaaHDefs
namespace Go.Proofs.Ythmcbcofipehhaa.B
open Go.RowKit Go.Proofs.YthmcbcofipehhaaW.PrintWords Go.Proofs.YthmcbcofipehhaaW.PrintLast Go.Proofs.YthmcbcofipehhaaW.PrintMore
set_option linter.unusedVariables false
set_option linter.unusedSimpArgs false

/-- May part i of n, of a form of kind k, not be? -/
def badT (k n i : Int) (g : S29) : Bool := (openT g && (k == 2 || decide (i < wrap64 (n - 1)))) || (k == 2 && leastT g == 0)
def badL (k n : Int) : List S29 → Int → Bool
  | [], _ => false
  | g :: l, i => badT k n i g || badL k n l (i + 1)
mutual
/-- What is wrong with a form and its parts. -/
def checkT : S29 → Int
  | ⟨k, s, lo, hi, st, ps⟩ =>
    if ownT ⟨k, s, lo, hi, st, ps⟩ ≠ 0 then ownT ⟨k, s, lo, hi, st, ps⟩
    else if k = 2 ∨ k = 3 then (if checkL ps ≠ 0 then checkL ps else if badL k ps.length ps 0 then 15 else 0) else 0
def checkL : List S29 → Int
  | [] => 0
  | g :: l => if checkT g ≠ 0 then checkT g else checkL l
end
theorem checkT_eq (x : S29) : checkT x = if ownT x ≠ 0 then ownT x else if checkL (partsT x) ≠ 0 then checkL (partsT x) else if badL x.f0 (partsT x).length (partsT x) 0 then 15 else 0 := by
  obtain ⟨k, s, lo, hi, st, ps⟩ := x
  simp only [checkT, partsT]
  by_cases k2 : k = 2
  · simp [k2]
  by_cases k3 : k = 3
  · simp [k2, k3]
  simp [k2, k3, checkL, badL]
theorem checkL_step {xs : List S29} {i : Int} (h0 : 0 ≤ i) (h1 : i < xs.length) : checkL (xs.drop i.toNat) = if checkT (rd_T29 xs i) ≠ 0 then checkT (rd_T29 xs i) else checkL (xs.drop (i + 1).toNat) := by
  rw [drop29 h0 h1, checkL]
theorem checkL_end {xs : List S29} {i : Int} (h1 : (xs.length : Int) ≤ i) : checkL (xs.drop i.toNat) = 0 := by
  rw [List.drop_eq_nil_of_le (by omega), checkL]
theorem badL_step {k n : Int} {xs : List S29} {i : Int} (h0 : 0 ≤ i) (h1 : i < xs.length) : badL k n (xs.drop i.toNat) i = (badT k n i (rd_T29 xs i) || badL k n (xs.drop (i + 1).toNat) (i + 1)) := by
  rw [drop29 h0 h1, badL]
theorem badL_end {k n : Int} {xs : List S29} {i : Int} (h1 : (xs.length : Int) ≤ i) : badL k n (xs.drop i.toNat) i = false := by
  rw [List.drop_eq_nil_of_le (by omega), badL]
set_option maxHeartbeats 4000000 in
set_option maxRecDepth 100000 in
theorem check_any (N : Nat) : ∀ (x : S29) (_ : SizeOf.sizeOf x < N) (A : Option Addr) (c : Nat) (w : World) (hr : Kd.C k29 w A x.f5.length x.f5) (hc : x.f5.length ≤ c),
    Calls Try.prog 63 #[.agg #[.int .i64 x.f0, .int .i64 x.f1, .int .i64 x.f2, .int .i64 x.f3, .int .i64 x.f4, .slice A x.f5.length c]] w fun e w' => e = .returned (.int .i64 (checkT x)) ∧ Below w.heap.size w w' := by
  induction N with
  | zero => intro x h; omega
  | succ N ih =>
  intro x hN A c w hr hc
  have hu29 := Try.underlying29
  have HR := Aside0.mk hr
  have HC := Aside0.mk hc
  clear hr hc
  have HB := Aside0.mk (Below.refl w.heap.size w)
  have E := Aside0.mk (checkT_eq x)
  have HN := Aside0.mk (show ∀ y, y ∈ partsT x → SizeOf.sizeOf y < N from fun y hy => by have := partsT_sub x y hy; omega)
  have IH := Aside0.mk ih
  clear ih hN
  go_enter Try.func63, Try.ntmps63
  go_wp2_with fail
  refine (own_any x A c _ (Kd.C_alloc HR.out _) HC.out).mono ?_
  rintro e w1 ⟨rfl, hb⟩
  have BK := Aside0.mk (blk_below (heap_alloc_new w _) hb)
  have HB1 := Aside0.mk (below_step (below_alloc HB.out _) hb)
  clear hb HB
  have hcz0 : w1.cell? ⟨w.heap.size, 0, none⟩ = some (.int .i64 x.f0) := (blk_cell BK.out 0).trans rfl
  have hcz1 : w1.cell? ⟨w.heap.size, 1, none⟩ = some (.int .i64 x.f1) := (blk_cell BK.out 1).trans rfl
  have hcz2 : w1.cell? ⟨w.heap.size, 2, none⟩ = some (.int .i64 x.f2) := (blk_cell BK.out 2).trans rfl
  have hcz3 : w1.cell? ⟨w.heap.size, 3, none⟩ = some (.int .i64 x.f3) := (blk_cell BK.out 3).trans rfl
  have hcz4 : w1.cell? ⟨w.heap.size, 4, none⟩ = some (.int .i64 x.f4) := (blk_cell BK.out 4).trans rfl
  have hcz5 : w1.cell? ⟨w.heap.size, 5, none⟩ = some (.slice A x.f5.length c) := (blk_cell BK.out 5).trans rfl
  by_cases o0 : ownT x = 0
  case neg =>
    have o0b : (ownT x == 0) = false := by simpa using o0
    have o0c : (ownT x != 0) = true := by simpa using o0
    have E' := Aside0.mk (show checkT x = ownT x by rw [E.out, if_pos o0])
    clear o0 E
    go_wp2
    go_ret
    exact ⟨by rw [E'.out]; try rfl, HB1.out⟩
  case pos =>
  have E1 := Aside0.mk (show checkT x = if checkL (partsT x) ≠ 0 then checkL (partsT x) else if badL x.f0 (partsT x).length (partsT x) 0 then 15 else 0 by rw [E.out, if_neg (by simp [o0])])
  rw [o0]
  clear o0 E
  go_wp2_with fail
  refine (parts_any x A c _ (Kd.C_below HR.out HB1.out) HC.out).mono ?_
  rintro e w2 ⟨A', c', rfl, hc', hr', hb⟩
  have BK2 := Aside0.mk (blk_below BK.out hb)
  have HB2 := Aside0.mk (below_step HB1.out hb)
  have HR' := Aside0.mk hr'
  have HC' := Aside0.mk hc'
  clear hb HB1 BK hcz0 hcz1 hcz2 hcz3 hcz4 hcz5 hr' hc'
  have hmx := Kd.C_max HR'.out
  obtain ⟨ps, hps⟩ : ∃ ps, ps = partsT x := ⟨_, rfl⟩
  rw [← hps] at HR' HC' E1 HN hmx ⊢
  clear hps
  go_wp2
  go_loopg [2, 19] (ps.length + 1) (fun kq v2 v19 w' => ∃ (i : Int), v2 = .int .i64 0 ∧ v19 = .int .i64 i ∧ 0 ≤ i ∧ i ≤ ps.length ∧ Aside0 (checkL (ps.drop i.toNat) = checkL ps) ∧ Aside0 ((kq : Int) + i = ps.length + 1) ∧ Aside0 (w'.heap[w.heap.size]? = some (.cells #[.int .i64 x.f0, .int .i64 x.f1, .int .i64 x.f2, .int .i64 x.f3, .int .i64 x.f4, .slice A x.f5.length c] 29 (0, 0))) ∧ Aside0 (Below w.heap.size w w') ∧ Aside0 (Kd.C k29 w' A' ps.length ps))
  case atStart => exact ⟨0, rfl, rfl, by omega, by omega, ⟨rfl⟩, ⟨by omega⟩, BK2, HB2, HR'⟩
  case round =>
    clear HB2 BK2 HR'
    obtain ⟨i, rfl, rfl, i0, i1, HA, HK, BK, HB, HR'⟩ := hrel
    by_cases hlt : i < (ps.length : Int)
    case pos =>
      obtain ⟨k1, rfl⟩ : ∃ m, gk = m + 1 := ⟨gk - 1, by have := HK.out; omega⟩
      have c1 : decide (i < (ps.length : Int)) = true := decide_eq_true hlt
      have HM := Aside0.mk (HN.out _ (mem_rd29 i0 hlt))
      have HST := Aside0.mk (checkL_step i0 hlt)
      obtain ⟨ad, A5, c5, e, hx0, hx1, hx2, hx3, hx4, hx5, hl5, hi5⟩ := at_T29 HR'.out i i0 hlt
      cases e
      have HR5 := Aside0.mk hi5
      have HC5 := Aside0.mk hl5
      clear hi5 hl5
      go_wp2_with fail
      refine (IH.out (rd_T29 ps i) HM.out _ _ _ (Kd.C_alloc HR5.out _) HC5.out).mono ?_
      rintro e w9 ⟨rfl, hb⟩
      have BK2 := Aside0.mk (blk_below (blk_alloc BK.out _) hb)
      have HB2 := Aside0.mk (below_step (below_alloc HB.out _) hb)
      have HR2 := Aside0.mk (Kd.C_below (Kd.C_alloc HR'.out _) hb)
      clear hb HB BK HR'
      by_cases e0 : checkT (rd_T29 ps i) = 0
      case neg =>
        have e0b : (checkT (rd_T29 ps i) == 0) = false := by simpa using e0
        have e0c : (checkT (rd_T29 ps i) != 0) = true := by simpa using e0
        have E' := Aside0.mk (show checkT x = checkT (rd_T29 ps i) by
          have h : checkL ps = checkT (rd_T29 ps i) := by rw [← HA.out, HST.out, if_pos e0]
          rw [E1.out, h, if_pos e0])
        clear e0
        go_wp2
        go_ret
        exact ⟨by rw [E'.out]; try rfl, HB2.out⟩
      case pos =>
        have HA2 := Aside0.mk (show checkL (ps.drop (i + 1).toNat) = checkL ps by rw [← HA.out, HST.out, if_neg (by simp [e0])])
        rw [e0]
        clear e0
        go_wp2
        go_roundg (k1)
        case measure => have := HK.out; omega
        case rel => exact ⟨_, rfl, rfl, by omega, by omega, HA2, ⟨by have := HK.out; omega⟩, BK2, HB2, HR2⟩
    case neg =>
      have c1 : decide (i < (ps.length : Int)) = false := decide_eq_false hlt
      have E2 := Aside0.mk (show checkT x = if badL x.f0 ps.length ps 0 then 15 else 0 by
        have h : checkL ps = 0 := by rw [← HA.out, checkL_end (by omega)]
        rw [E1.out, h, if_neg (by simp)])
      clear hlt E1 HA HK
      go_wp2
      clear i0 i1
      go_loopg [2, 31] (ps.length + 1) (fun kq v2 v31 w' => ∃ (i : Int), v2 = .int .i64 0 ∧ v31 = .int .i64 i ∧ 0 ≤ i ∧ i ≤ ps.length ∧ Aside0 (badL x.f0 ps.length (ps.drop i.toNat) i = badL x.f0 ps.length ps 0) ∧ Aside0 ((kq : Int) + i = ps.length + 1) ∧ Aside0 (w'.heap[w.heap.size]? = some (.cells #[.int .i64 x.f0, .int .i64 x.f1, .int .i64 x.f2, .int .i64 x.f3, .int .i64 x.f4, .slice A x.f5.length c] 29 (0, 0))) ∧ Aside0 (Below w.heap.size w w') ∧ Aside0 (Kd.C k29 w' A' ps.length ps))
      case atStart => exact ⟨0, rfl, rfl, by omega, by omega, ⟨rfl⟩, ⟨by omega⟩, BK, HB, HR'⟩
      case round =>
        clear HB BK HR'
        obtain ⟨i, rfl, rfl, i0, i1, HA, HK, BK, HB, HR'⟩ := hrel
        by_cases hlt : i < (ps.length : Int)
        case neg =>
          have c1 : decide (i < (ps.length : Int)) = false := decide_eq_false hlt
          have E' := Aside0.mk (show checkT x = 0 by rw [E2.out, ← HA.out, badL_end (by omega)]; rfl)
          clear hlt HA HK
          go_wp2
          go_ret
          exact ⟨by rw [E'.out]; try rfl, HB.out⟩
        case pos =>
          obtain ⟨k1, rfl⟩ : ∃ m, gk = m + 1 := ⟨gk - 1, by have := HK.out; omega⟩
          have c1 : decide (i < (ps.length : Int)) = true := decide_eq_true hlt
          have HST := Aside0.mk (badL_step (k := x.f0) (n := ps.length) i0 hlt)
          obtain ⟨ad, A5, c5, e, hx0, hx1, hx2, hx3, hx4, hx5, hl5, hi5⟩ := at_T29 HR'.out i i0 hlt
          cases e
          have HR5 := Aside0.mk hi5
          have HC5 := Aside0.mk hl5
          clear hi5 hl5
          go_wp2_with fail
          refine (Open_any (rd_T29 ps i) _ _ _ (Kd.C_alloc HR5.out _) HC5.out).mono ?_
          rintro e w9 ⟨rfl, hb⟩
          have BK2 := Aside0.mk (blk_below (blk_alloc BK.out _) hb)
          have BG := Aside0.mk (blk_below (heap_alloc_new wr _) hb)
          have HB2 := Aside0.mk (below_step (below_alloc HB.out _) hb)
          have HR2 := Aside0.mk (Kd.C_below (Kd.C_alloc HR'.out _) hb)
          have HR52 := Aside0.mk (Kd.C_below (Kd.C_alloc HR5.out _) hb)
          clear hb HB BK HR' HR5
          have hcz0 : w9.cell? ⟨w.heap.size, 0, none⟩ = some (.int .i64 x.f0) := (blk_cell BK2.out 0).trans rfl
          have hg0 := blk_cell BG.out 0
          have hg1 := blk_cell BG.out 1
          have hg2 := blk_cell BG.out 2
          have hg3 := blk_cell BG.out 3
          have hg4 := blk_cell BG.out 4
          have hg5 := blk_cell BG.out 5
          simp at hg0 hg1 hg2 hg3 hg4 hg5
          have hw1 : wrap64 ((ps.length : Int) - 1) = (ps.length : Int) - 1 := IntWalk.wrap64_in _ (by omega)
          have HW := Aside0.mk hw1
          clear hw1
          have yes : badT x.f0 ps.length i (rd_T29 ps i) = true → Aside0 (checkT x = 15) := fun hb => ⟨by rw [E2.out, ← HA.out, HST.out, hb]; rfl⟩
          have no : badT x.f0 ps.length i (rd_T29 ps i) = false → Aside0 (badL x.f0 ps.length (ps.drop (i + 1).toNat) (i + 1) = badL x.f0 ps.length ps 0) := fun hb => ⟨by rw [← HA.out, HST.out, hb]; rfl⟩
          have YES := Aside0.mk yes
          have NO := Aside0.mk no
          clear yes no
          cases ho : openT (rd_T29 ps i)
          case false =>
            by_cases k2 : x.f0 = 2
            case pos =>
              have k2b : (x.f0 == 2) = true := by simpa using k2
              by_cases l0 : leastT (rd_T29 ps i) = 0
              case pos =>
                have E' := YES.out (by simp [badT, ho, k2, l0])
                have L0 := Aside0.mk l0
                clear ho k2 l0
                go_wp2_with fail
                refine (Least_any (rd_T29 ps i) _ _ _ HR52.out HC5.out).mono ?_
                rintro e w10 ⟨rfl, hb⟩
                have HB3 := Aside0.mk (below_step HB2.out hb)
                clear hb
                rw [L0.out]
                go_wp2
                go_ret
                exact ⟨by rw [E'.out]; try rfl, HB3.out⟩
              case neg =>
                have E' := NO.out (by simp [badT, ho, l0])
                have l0b : (leastT (rd_T29 ps i) == 0) = false := by simpa using l0
                have l0c : (leastT (rd_T29 ps i) != 0) = true := by simpa using l0
                clear ho k2 l0
                go_wp2_with fail
                refine (Least_any (rd_T29 ps i) _ _ _ HR52.out HC5.out).mono ?_
                rintro e w10 ⟨rfl, hb⟩
                have BK3 := Aside0.mk (blk_below BK2.out hb)
                have HB3 := Aside0.mk (below_step HB2.out hb)
                have HR3 := Aside0.mk (Kd.C_below HR2.out hb)
                clear hb
                go_wp2
                go_roundg (k1)
                case measure => have := HK.out; omega
                case rel => exact ⟨_, rfl, rfl, by omega, by omega, E', ⟨by have := HK.out; omega⟩, BK3, HB3, HR3⟩
            case neg =>
              have k2b : (x.f0 == 2) = false := by simpa using k2
              have E' := NO.out (by simp [badT, ho, k2])
              clear ho k2
              go_wp2
              go_roundg (k1)
              case measure => have := HK.out; omega
              case rel => exact ⟨_, rfl, rfl, by omega, by omega, E', ⟨by have := HK.out; omega⟩, BK2, HB2, HR2⟩
          case true =>
            by_cases k2 : x.f0 = 2
            case pos =>
              have k2b : (x.f0 == 2) = true := by simpa using k2
              have E' := YES.out (by simp [badT, ho, k2])
              clear ho k2
              go_wp2
              go_ret
              exact ⟨by rw [E'.out]; try rfl, HB2.out⟩
            case neg =>
              have k2b : (x.f0 == 2) = false := by simpa using k2
              by_cases hi : i < (ps.length : Int) - 1
              case pos =>
                have hib : decide (i < (ps.length : Int) - 1) = true := decide_eq_true hi
                have E' := YES.out (by simp [badT, ho, k2, HW.out, hi])
                clear ho k2
                go_wp2
                go_ret
                exact ⟨by rw [E'.out]; try rfl, HB2.out⟩
              case neg =>
                have hib : decide (i < (ps.length : Int) - 1) = false := decide_eq_false hi
                have E' := NO.out (by simp only [badT, ho, k2b, HW.out, hib]; rfl)
                clear ho k2
                go_wp2
                go_roundg (k1)
                case measure => have := HK.out; omega
                case rel => exact ⟨_, rfl, rfl, by omega, by omega, E', ⟨by have := HK.out; omega⟩, BK2, HB2, HR2⟩
/-- layout.Check. -/
def CheckT (x : S29) : Int := if deepT x 8 = true then 14 else checkT x
set_option maxHeartbeats 4000000 in
theorem Check_any (x : S29) (A : Option Addr) (c : Nat) (w : World) (hr : Kd.C k29 w A x.f5.length x.f5) (hc : x.f5.length ≤ c) :
    Calls Try.prog 46 #[.agg #[.int .i64 x.f0, .int .i64 x.f1, .int .i64 x.f2, .int .i64 x.f3, .int .i64 x.f4, .slice A x.f5.length c]] w fun e w' => e = .returned (.int .i64 (CheckT x)) ∧ Below w.heap.size w w' := by
  have hu29 := Try.underlying29
  have HR := Aside0.mk hr
  have HC := Aside0.mk hc
  clear hr hc
  have HB := Aside0.mk (Below.refl w.heap.size w)
  go_enter Try.func46, Try.ntmps46
  go_wp2_with fail
  refine (deep_any _ x (Nat.lt_succ_self _) 8 A c _ (Kd.C_alloc HR.out _) HC.out).mono ?_
  rintro e w1 ⟨rfl, hb⟩
  have BK := Aside0.mk (blk_below (heap_alloc_new w _) hb)
  have HB1 := Aside0.mk (below_step (below_alloc HB.out _) hb)
  clear hb HB
  cases hd : deepT x 8
  case true =>
    have E' := Aside0.mk (show CheckT x = 14 by simp [CheckT, hd])
    clear hd
    go_wp2
    go_ret
    exact ⟨by rw [E'.out]; try rfl, HB1.out⟩
  case false =>
    have E' := Aside0.mk (show CheckT x = checkT x by simp [CheckT, hd])
    clear hd
    have hcz0 : w1.cell? ⟨w.heap.size, 0, none⟩ = some (.int .i64 x.f0) := (blk_cell BK.out 0).trans rfl
    have hcz1 : w1.cell? ⟨w.heap.size, 1, none⟩ = some (.int .i64 x.f1) := (blk_cell BK.out 1).trans rfl
    have hcz2 : w1.cell? ⟨w.heap.size, 2, none⟩ = some (.int .i64 x.f2) := (blk_cell BK.out 2).trans rfl
    have hcz3 : w1.cell? ⟨w.heap.size, 3, none⟩ = some (.int .i64 x.f3) := (blk_cell BK.out 3).trans rfl
    have hcz4 : w1.cell? ⟨w.heap.size, 4, none⟩ = some (.int .i64 x.f4) := (blk_cell BK.out 4).trans rfl
    have hcz5 : w1.cell? ⟨w.heap.size, 5, none⟩ = some (.slice A x.f5.length c) := (blk_cell BK.out 5).trans rfl
    go_wp2_with fail
    refine (check_any _ x (Nat.lt_succ_self _) A c _ (Kd.C_below HR.out HB1.out) HC.out).mono ?_
    rintro e w2 ⟨rfl, hb⟩
    have HB2 := Aside0.mk (below_step HB1.out hb)
    clear hb
    go_wp2
    go_ret
    exact ⟨by rw [E'.out]; try rfl, HB2.out⟩
end Go.Proofs.Ythmcbcofipehhaa.B
