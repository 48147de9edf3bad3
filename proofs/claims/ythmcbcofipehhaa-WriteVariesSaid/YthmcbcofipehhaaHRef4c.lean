import Derived.Test.YthmcbcofipehhaaHRef4b
namespace Go.Proofs.Ythmcbcofipehhaa.B
open Go.RowKit Go.Proofs.YthmcbcofipehhaaW.PrintWords Go.Proofs.YthmcbcofipehhaaW.PrintLast Go.Proofs.YthmcbcofipehhaaW.PrintMore
set_option linter.unusedVariables false
set_option linter.unusedSimpArgs false
/-! ### passepartoutref04.check, Check -/
theorem addr0 (ad : Addr) : ad.add 0 = ad := by simp [Addr.add]
/-- What stands before another, or in a list, and is open. -/
def opL (k n : Int) : List S29 → Int → Bool
  | [], _ => false
  | g :: l, i => (openT g && (k == 2 || decide (i + 1 < n))) || opL k n l (i + 1)
theorem opL_step {k n : Int} {xs : List S29} {i : Int} (h0 : 0 ≤ i) (h1 : i < xs.length) : opL k n (xs.drop i.toNat) i = ((openT (rd_T29 xs i) && (k == 2 || decide (i + 1 < n))) || opL k n (xs.drop (i + 1).toNat) (i + 1)) := by
  rw [drop29 h0 h1, opL]
theorem opL_end {k n : Int} {xs : List S29} {i : Int} (h1 : (xs.length : Int) ≤ i) : opL k n (xs.drop i.toNat) i = false := by
  rw [List.drop_eq_nil_of_le (by omega), opL]
theorem badL_op {k n : Int} (hn : 0 ≤ n ∧ n ≤ 9223372036854775807) : ∀ (l : List S29) (i : Int), badL k n l i = (opL k n l i || (k == 2 && l.any (fun g => leastT g == 0)))
  | [], i => by simp [badL, opL]
  | g :: l, i => by
    rw [badL, opL, badL_op hn l (i + 1), List.any_cons, badT]
    have hw : wrap64 (n - 1) = n - 1 := IntWalk.wrap64_in _ (by omega)
    have hd : decide (i < n - 1) = decide (i + 1 < n) := by
      by_cases h : i + 1 < n
      · rw [decide_eq_true h, decide_eq_true (by omega)]
      · rw [decide_eq_false h, decide_eq_false (by omega)]
    rw [hw, hd]
    cases openT g <;> cases (k == 2) <;> cases decide (i + 1 < n) <;> cases (leastT g == 0) <;> cases opL k n l (i + 1) <;> simp
/-- The check, in the document's order. -/
theorem checkT_ref (x : S29) (hl : (partsT x).length ≤ 9223372036854775807) : checkT x = if ownT x ≠ 0 then ownT x else if checkL (partsT x) ≠ 0 then checkL (partsT x) else if opL x.f0 (partsT x).length (partsT x) 0 then 15 else if x.f0 = 2 ∧ leastT (rd_T29 (partsT x) 0) = 0 then 15 else 0 := by
  rw [checkT_eq]
  by_cases h1 : ownT x ≠ 0
  · rw [if_pos h1, if_pos h1]
  rw [if_neg h1, if_neg h1]
  by_cases h2 : checkL (partsT x) ≠ 0
  · rw [if_pos h2, if_pos h2]
  rw [if_neg h2, if_neg h2, badL_op (by omega)]
  cases h3 : opL x.f0 (partsT x).length (partsT x) 0
  case true => simp
  case false =>
    by_cases k : x.f0 = 2
    · have hps : partsT x = x.f5 := by unfold partsT; simp [k]
      have ho : ownT x = 0 := by simpa using h1
      have h15 : x.f5.length = 1 := by rcases ownT_0 ho with h | h | h | h | h <;> first | exact h.2.2.2.2.2.2.2.2 k | (exfalso; omega)
      obtain ⟨g, hg⟩ : ∃ g, x.f5 = [g] := by
        match hx : x.f5, h15 with
        | [g], _ => exact ⟨g, rfl⟩
      rw [hps, hg]
      simp [k, rd_T29]
    · simp [k]
set_option maxHeartbeats 4000000 in
set_option maxRecDepth 100000 in
theorem check4_any (N : Nat) : ∀ (x : S29) (_ : SizeOf.sizeOf x < N) (A : Option Addr) (c : Nat) (w : World) (hr : Kd.C k29 w A x.f5.length x.f5) (hc : x.f5.length ≤ c),
    Calls Try.prog 37 #[.agg #[.int .i64 x.f0, .int .i64 x.f1, .int .i64 x.f2, .int .i64 x.f3, .int .i64 x.f4, .slice A x.f5.length c]] w fun e w' => e = .returned (.int .i64 (checkT x)) ∧ Below w.heap.size w w' := by
  induction N with
  | zero => intro x h; omega
  | succ N ih =>
  intro x hN A c w hr hc
  have hu29 := Try.underlying29
  have HR := Aside0.mk hr
  have HC := Aside0.mk hc
  have HB := Aside0.mk (Below.refl w.heap.size w)
  have hmax := Kd.C_max hr
  have E := Aside0.mk (checkT_ref x (by have := hmax; unfold partsT; repeat' split; all_goals first | omega | simp))
  have HN := Aside0.mk (show ∀ y, y ∈ partsT x → SizeOf.sizeOf y < N from fun y hy => by have := partsT_sub x y hy; omega)
  have IH := Aside0.mk ih
  have P1 := Aside0.mk (show ownT x = 0 → x.f0 = 2 → (partsT x).length = 1 by
    intro ho k
    have hps : partsT x = x.f5 := by unfold partsT; simp [k]
    rw [hps]
    rcases ownT_0 ho with h | h | h | h | h <;> first | exact h.2.2.2.2.2.2.2.2 k | (exfalso; omega))
  clear ih hN hr hc hmax
  go_enter Try.func37, Try.ntmps37
  go_wp2_with fail
  refine (own4_any x A c _).mono ?_
  rintro e w1 ⟨rfl, hb⟩
  have BK := Aside0.mk (blk_below (heap_alloc_new w _) hb)
  have HB1 := Aside0.mk (below_step (below_alloc HB.out _) hb)
  clear hb HB
  have hcz0 : w1.cell? ⟨w.heap.size, 0, none⟩ = some (.int .i64 x.f0) := (blk_cell BK.out 0).trans rfl
  have hcz1 : w1.cell? ⟨w.heap.size, 1, none⟩ = some (.int .i64 x.f1) := (blk_cell BK.out 1).trans rfl
  have hcz2 : w1.cell? ⟨w.heap.size, 2, none⟩ = some (.int .i64 x.f2) := (blk_cell BK.out 2).trans rfl
  have hcz3 : w1.cell? ⟨w.heap.size, 3, none⟩ = some (.int .i64 x.f3) := (blk_cell BK.out 3).trans rfl
  have hcz4 : w1.cell? ⟨w.heap.size, 4, none⟩ = some (.int .i64 x.f4) := (blk_cell BK.out 4).trans rfl
  have hcz5 : w1.cell? ⟨w.heap.size, 5, none⟩ = some (.slice A x.f5.length c) := (blk_cell BK.out 5).trans rfl
  by_cases o0 : ownT x = 0
  case neg =>
    have o0b : (ownT x == 0) = false := by simpa using o0
    have o0c : (ownT x != 0) = true := by simpa using o0
    have E' := Aside0.mk (show checkT x = ownT x by rw [E.out, if_pos o0])
    clear o0 E
    go_wp2
    go_ret
    exact ⟨by rw [E'.out]; try rfl, HB1.out⟩
  case pos =>
  have E1 := Aside0.mk (show checkT x = if checkL (partsT x) ≠ 0 then checkL (partsT x) else if opL x.f0 (partsT x).length (partsT x) 0 then 15 else if x.f0 = 2 ∧ leastT (rd_T29 (partsT x) 0) = 0 then 15 else 0 by rw [E.out, if_neg (by simp [o0])])
  have P2 := Aside0.mk (P1.out o0)
  rw [o0]
  clear o0 E P1
  go_wp2_with fail
  refine (parts4_any x A c _ (Kd.C_below HR.out HB1.out) HC.out).mono ?_
  rintro e w2 ⟨A', c', rfl, hc', hr', hb⟩
  have BK2 := Aside0.mk (blk_below BK.out hb)
  have HB2 := Aside0.mk (below_step HB1.out hb)
  have HR' := Aside0.mk hr'
  have HC' := Aside0.mk hc'
  clear hb HB1 BK hcz0 hcz1 hcz2 hcz3 hcz4 hcz5 hr' hc'
  have hmx := Kd.C_max HR'.out
  obtain ⟨ps, hps⟩ : ∃ ps, ps = partsT x := ⟨_, rfl⟩
  rw [← hps] at HR' HC' E1 HN hmx P2 ⊢
  clear hps
  go_wp2
  go_loopg [3, 5] (ps.length + 1) (fun kq v3 v5 w' => ∃ (i : Int), v3 = .int .i64 0 ∧ v5 = .int .i64 i ∧ 0 ≤ i ∧ i ≤ ps.length ∧ Aside0 (checkL (ps.drop i.toNat) = checkL ps) ∧ Aside0 ((kq : Int) + i = ps.length + 1) ∧ Aside0 (w'.heap[w.heap.size]? = some (.cells #[.int .i64 x.f0, .int .i64 x.f1, .int .i64 x.f2, .int .i64 x.f3, .int .i64 x.f4, .slice A x.f5.length c] 29 (0, 0))) ∧ Aside0 (Below w.heap.size w w') ∧ Aside0 (Kd.C k29 w' A' ps.length ps))
  case atStart => exact ⟨0, rfl, rfl, by omega, by omega, ⟨rfl⟩, ⟨by omega⟩, BK2, HB2, HR'⟩
  case round =>
    clear HB2 BK2 HR'
    obtain ⟨i, rfl, rfl, i0, i1, HA, HK, BK, HB, HR'⟩ := hrel
    by_cases hlt : i < (ps.length : Int)
    case pos =>
      obtain ⟨k1, rfl⟩ : ∃ m, gk = m + 1 := ⟨gk - 1, by have := HK.out; omega⟩
      have c1 : decide (i < (ps.length : Int)) = true := decide_eq_true hlt
      have HM := Aside0.mk (HN.out _ (mem_rd29 i0 hlt))
      have HST := Aside0.mk (checkL_step i0 hlt)
      obtain ⟨ad, A5, c5, e, hx0, hx1, hx2, hx3, hx4, hx5, hl5, hi5⟩ := at_T29 HR'.out i i0 hlt
      cases e
      have HR5 := Aside0.mk hi5
      have HC5 := Aside0.mk hl5
      clear hi5 hl5
      go_wp2_with fail
      refine (IH.out (rd_T29 ps i) HM.out _ _ _ HR5.out HC5.out).mono ?_
      rintro e w9 ⟨rfl, hb⟩
      have BK2 := Aside0.mk (blk_below BK.out hb)
      have HB2 := Aside0.mk (below_step HB.out hb)
      have HR2 := Aside0.mk (Kd.C_below HR'.out hb)
      clear hb HB BK HR'
      by_cases e0 : checkT (rd_T29 ps i) = 0
      case neg =>
        have e0b : (checkT (rd_T29 ps i) == 0) = false := by simpa using e0
        have e0c : (checkT (rd_T29 ps i) != 0) = true := by simpa using e0
        have E' := Aside0.mk (show checkT x = checkT (rd_T29 ps i) by
          have h : checkL ps = checkT (rd_T29 ps i) := by rw [← HA.out, HST.out, if_pos e0]
          rw [E1.out, h, if_pos e0])
        clear e0
        go_wp2
        go_ret
        exact ⟨by rw [E'.out]; try rfl, HB2.out⟩
      case pos =>
        have HA2 := Aside0.mk (show checkL (ps.drop (i + 1).toNat) = checkL ps by rw [← HA.out, HST.out, if_neg (by simp [e0])])
        rw [e0]
        clear e0
        go_wp2
        go_roundg (k1)
        case measure => have := HK.out; omega
        case rel => exact ⟨_, rfl, rfl, by omega, by omega, HA2, ⟨by have := HK.out; omega⟩, BK2, HB2, HR2⟩
    case neg =>
      have c1 : decide (i < (ps.length : Int)) = false := decide_eq_false hlt
      have E2 := Aside0.mk (show checkT x = if opL x.f0 ps.length ps 0 then 15 else if x.f0 = 2 ∧ leastT (rd_T29 ps 0) = 0 then 15 else 0 by
        have h : checkL ps = 0 := by rw [← HA.out, checkL_end (by omega)]
        rw [E1.out, h, if_neg (by simp)])
      clear hlt E1 HA HK
      go_wp2
      clear i0 i1
      go_loopg [6] (ps.length + 1) (fun kq v6 w' => ∃ (i : Int), v6 = .int .i64 i ∧ 0 ≤ i ∧ i ≤ ps.length ∧ Aside0 (opL x.f0 ps.length (ps.drop i.toNat) i = opL x.f0 ps.length ps 0) ∧ Aside0 ((kq : Int) + i = ps.length + 1) ∧ Aside0 (w'.heap[w.heap.size]? = some (.cells #[.int .i64 x.f0, .int .i64 x.f1, .int .i64 x.f2, .int .i64 x.f3, .int .i64 x.f4, .slice A x.f5.length c] 29 (0, 0))) ∧ Aside0 (Below w.heap.size w w') ∧ Aside0 (Kd.C k29 w' A' ps.length ps))
      case atStart => exact ⟨0, rfl, by omega, by omega, ⟨rfl⟩, ⟨by omega⟩, BK, HB, HR'⟩
      case round =>
        clear HB BK HR'
        obtain ⟨i, rfl, i0, i1, HA, HK, BK, HB, HR'⟩ := hrel
        have hcz0 : wr.cell? ⟨w.heap.size, 0, none⟩ = some (.int .i64 x.f0) := (blk_cell BK.out 0).trans rfl
        by_cases hlt : i < (ps.length : Int)
        case neg =>
          have c1 : decide (i < (ps.length : Int)) = false := decide_eq_false hlt
          have E3 := Aside0.mk (show checkT x = if x.f0 = 2 ∧ leastT (rd_T29 ps 0) = 0 then 15 else 0 by rw [E2.out, ← HA.out, opL_end (by omega)]; rfl)
          clear hlt HA HK E2
          by_cases k2 : x.f0 = 2
          case neg =>
            have k2b : (x.f0 == 2) = false := by simpa using k2
            have E4 := Aside0.mk (show checkT x = 0 by rw [E3.out, if_neg (fun h => k2 h.1)])
            clear k2
            go_wp2
            go_ret
            exact ⟨by rw [E4.out]; try rfl, HB.out⟩
          case pos =>
            have k2b : (x.f0 == 2) = true := by simpa using k2
            have hp := P2.out k2
            have hp0 : (0 : Int) < (ps.length : Int) := by omega
            have hp1 : 0 < ps.length := by omega
            obtain ⟨ad, A5, c5, e, hx0, hx1, hx2, hx3, hx4, hx5, hl5, hi5⟩ := at_T29 HR'.out 0 (by omega) hp0
            cases e
            simp only [Int.toNat_zero, Nat.zero_mul, addr0] at hx0 hx1 hx2 hx3 hx4 hx5
            have HR5 := Aside0.mk hi5
            have HC5 := Aside0.mk hl5
            have K2 := Aside0.mk k2
            have E4 := E3
            clear hi5 hl5 hp k2 E3
            go_wp2_with fail
            refine (Least4_any _ (rd_T29 ps 0) (Nat.lt_succ_self _) _ _ _ HR5.out HC5.out).mono ?_
            rintro e w10 ⟨rfl, hb⟩
            have HB3 := Aside0.mk (below_step HB.out hb)
            clear hb
            by_cases l0 : leastT (rd_T29 ps 0) = 0
            case pos =>
              have E5 := Aside0.mk (show checkT x = 15 by rw [E4.out, if_pos ⟨K2.out, l0⟩])
              rw [l0]
              clear l0
              go_wp2
              go_ret
              exact ⟨by rw [E5.out]; try rfl, HB3.out⟩
            case neg =>
              have l0b : (leastT (rd_T29 ps 0) == 0) = false := by simpa using l0
              have E5 := Aside0.mk (show checkT x = 0 by rw [E4.out, if_neg (fun h => l0 h.2)])
              clear l0
              go_wp2
              go_ret
              exact ⟨by rw [E5.out]; try rfl, HB3.out⟩
        case pos =>
          obtain ⟨k1, rfl⟩ : ∃ m, gk = m + 1 := ⟨gk - 1, by have := HK.out; omega⟩
          have c1 : decide (i < (ps.length : Int)) = true := decide_eq_true hlt
          have HST := Aside0.mk (opL_step (k := x.f0) (n := ps.length) i0 hlt)
          obtain ⟨ad, A5, c5, e, hx0, hx1, hx2, hx3, hx4, hx5, hl5, hi5⟩ := at_T29 HR'.out i i0 hlt
          cases e
          have HR5 := Aside0.mk hi5
          have HC5 := Aside0.mk hl5
          clear hi5 hl5
          go_wp2_with fail
          refine (Open4_any _ (rd_T29 ps i) (Nat.lt_succ_self _) _ _ _ HR5.out HC5.out).mono ?_
          rintro e w9 ⟨rfl, hb⟩
          have BK2 := Aside0.mk (blk_below BK.out hb)
          have HB2 := Aside0.mk (below_step HB.out hb)
          have HR2 := Aside0.mk (Kd.C_below HR'.out hb)
          clear hb HB BK HR' HR5 hcz0
          have hcz0 : w9.cell? ⟨w.heap.size, 0, none⟩ = some (.int .i64 x.f0) := (blk_cell BK2.out 0).trans rfl
          have yes : (openT (rd_T29 ps i) && (x.f0 == 2 || decide (i + 1 < (ps.length : Int)))) = true → Aside0 (checkT x = 15) := fun hb => ⟨by rw [E2.out, ← HA.out, HST.out, hb]; rfl⟩
          have no : (openT (rd_T29 ps i) && (x.f0 == 2 || decide (i + 1 < (ps.length : Int)))) = false → Aside0 (opL x.f0 ps.length (ps.drop (i + 1).toNat) (i + 1) = opL x.f0 ps.length ps 0) := fun hb => ⟨by rw [← HA.out, HST.out, hb]; rfl⟩
          have YES := Aside0.mk yes
          have NO := Aside0.mk no
          clear yes no
          cases ho : openT (rd_T29 ps i)
          case false =>
            have E' := NO.out (by rw [ho]; rfl)
            clear ho
            go_wp2
            go_roundg (k1)
            case measure => have := HK.out; omega
            case rel => exact ⟨_, rfl, by omega, by omega, E', ⟨by have := HK.out; omega⟩, BK2, HB2, HR2⟩
          case true =>
            by_cases k2 : x.f0 = 2
            case pos =>
              have k2b : (x.f0 == 2) = true := by simpa using k2
              have E' := YES.out (by rw [ho, k2b]; rfl)
              clear ho k2
              go_wp2
              go_ret
              exact ⟨by rw [E'.out]; try rfl, HB2.out⟩
            case neg =>
              have k2b : (x.f0 == 2) = false := by simpa using k2
              by_cases hi : i + 1 < (ps.length : Int)
              case pos =>
                have hib : decide (i + 1 < (ps.length : Int)) = true := decide_eq_true hi
                have E' := YES.out (by rw [ho, k2b, hib]; rfl)
                clear ho k2
                go_wp2
                go_ret
                exact ⟨by rw [E'.out]; try rfl, HB2.out⟩
              case neg =>
                have hib : decide (i + 1 < (ps.length : Int)) = false := decide_eq_false hi
                have E' := NO.out (by rw [ho, k2b, hib]; rfl)
                clear ho k2
                go_wp2
                go_roundg (k1)
                case measure => have := HK.out; omega
                case rel => exact ⟨_, rfl, by omega, by omega, E', ⟨by have := HK.out; omega⟩, BK2, HB2, HR2⟩
theorem depL_max {m : Int} (hm : 0 < m) : ∀ (l : List S29) (n t : Int), t < depL l m n ↔ (t < n ∨ ∃ g ∈ l, t < depF g (wrap64 (m - 1)))
  | [], n, t => by simp [depL]
  | g :: l, n, t => by
    rw [depL, if_pos hm, depL_max hm l _ t]
    by_cases h : n < depF g (wrap64 (m - 1))
    · rw [if_pos h]
      constructor
      · rintro (h1 | ⟨y, hy, h1⟩)
        · exact .inr ⟨g, List.mem_cons_self, h1⟩
        · exact .inr ⟨y, List.mem_cons_of_mem _ hy, h1⟩
      · rintro (h1 | ⟨y, hy, h1⟩)
        · exact .inl (by omega)
        · rcases List.mem_cons.1 hy with rfl | hy
          · exact .inl h1
          · exact .inr ⟨y, hy, h1⟩
    · rw [if_neg h]
      constructor
      · rintro (h1 | ⟨y, hy, h1⟩)
        · exact .inl h1
        · exact .inr ⟨y, List.mem_cons_of_mem _ hy, h1⟩
      · rintro (h1 | ⟨y, hy, h1⟩)
        · exact .inl h1
        · rcases List.mem_cons.1 hy with rfl | hy
          · exact .inl (by omega)
          · exact .inr ⟨y, hy, h1⟩
theorem dep_deep (N : Nat) : ∀ (x : S29), SizeOf.sizeOf x < N → ∀ (m : Nat), m ≤ 100 → (1 ≤ depF x m ∧ depF x m ≤ (m : Int) + 1) ∧ ∀ n : Nat, n ≤ m → ((n : Int) < depF x m ↔ deepT x n = true) := by
  induction N with
  | zero => intro x h; omega
  | succ N ih =>
  intro x hN m hm
  rw [depF_eq]
  rcases Nat.eq_zero_or_pos m with rfl | hp
  · rw [depL_zero (by decide)]
    have : wrap64 (0 + 1) = 1 := by decide +kernel
    rw [this]
    refine ⟨by decide, fun n hn => ?_⟩
    obtain rfl : n = 0 := by omega
    rw [deepT_eq, if_pos (by decide)]
    simp
  · have hmi : (0 : Int) < (m : Int) := by omega
    have hw : wrap64 ((m : Int) - 1) = ((m - 1 : Nat) : Int) := by unfold wrap64; omega
    have hx := fun g (hg : g ∈ partsT x) => ih g (by have := partsT_sub x g hg; omega) (m - 1) (by omega)
    have hmax := fun t => depL_max hmi (partsT x) 0 t
    rw [hw] at hmax
    have h0 : 0 ≤ depL (partsT x) m 0 := by
      apply Decidable.byContradiction
      intro h
      have h1 : (-1 : Int) < depL (partsT x) m 0 := (hmax (-1)).2 (.inl (by decide))
      omega
    have h1 : depL (partsT x) m 0 ≤ m := by
      apply Decidable.byContradiction
      intro h
      rcases (hmax m).1 (by omega) with h2 | ⟨g, hg, h2⟩
      · omega
      · have := (hx g hg).1; omega
    have hs : wrap64 (depL (partsT x) m 0 + 1) = depL (partsT x) m 0 + 1 := by unfold wrap64; omega
    rw [hs]
    refine ⟨by omega, fun n hn => ?_⟩
    rw [deepT_eq]
    rcases Nat.eq_zero_or_pos n with rfl | hn0
    · rw [if_pos (by decide)]; simp; omega
    · rw [if_neg (by omega)]
      have hwn : wrap64 ((n : Int) - 1) = ((n - 1 : Nat) : Int) := by unfold wrap64; omega
      rw [hwn, List.any_eq_true]
      have e : (n : Int) < depL (partsT x) m 0 + 1 ↔ ((n - 1 : Nat) : Int) < depL (partsT x) m 0 := by omega
      rw [e, hmax]
      constructor
      · rintro (h2 | ⟨g, hg, h2⟩)
        · omega
        · exact ⟨g, hg, ((hx g hg).2 (n - 1) (by omega)).1 h2⟩
      · rintro ⟨g, hg, h2⟩
        exact .inr ⟨g, hg, ((hx g hg).2 (n - 1) (by omega)).2 h2⟩
theorem dep_9 (x : S29) : (8 : Int) < depF x 9 ↔ deepT x 8 = true := (dep_deep _ x (Nat.lt_succ_self _) 9 (by omega)).2 8 (by omega)
set_option maxHeartbeats 4000000 in
theorem Check4_any (x : S29) (A : Option Addr) (c : Nat) (w : World) (hr : Kd.C k29 w A x.f5.length x.f5) (hc : x.f5.length ≤ c) :
    Calls Try.prog 21 #[.agg #[.int .i64 x.f0, .int .i64 x.f1, .int .i64 x.f2, .int .i64 x.f3, .int .i64 x.f4, .slice A x.f5.length c]] w fun e w' => e = .returned (.int .i64 (CheckT x)) ∧ Below w.heap.size w w' := by
  have hu29 := Try.underlying29
  have HR := Aside0.mk hr
  have HC := Aside0.mk hc
  have D9 := Aside0.mk (dep_9 x)
  clear hr hc
  have HB := Aside0.mk (Below.refl w.heap.size w)
  go_enter Try.func21, Try.ntmps21
  go_wp2_with fail
  refine (Depth4_any _ x (Nat.lt_succ_self _) 9 A c _ (Kd.C_alloc HR.out _) HC.out).mono ?_
  rintro e w1 ⟨rfl, hb⟩
  have BK := Aside0.mk (blk_below (heap_alloc_new w _) hb)
  have HB1 := Aside0.mk (below_step (below_alloc HB.out _) hb)
  clear hb HB
  by_cases hd : (8 : Int) < depF x 9
  case pos =>
    have hdb : decide ((8 : Int) < depF x 9) = true := decide_eq_true hd
    have E' := Aside0.mk (show CheckT x = 14 by simp [CheckT, D9.out.1 hd])
    clear hd
    go_wp2
    go_ret
    exact ⟨by rw [E'.out]; try rfl, HB1.out⟩
  case neg =>
    have hdb : decide ((8 : Int) < depF x 9) = false := decide_eq_false hd
    have E' := Aside0.mk (show CheckT x = checkT x by unfold CheckT; rw [if_neg (fun h => hd (D9.out.2 h))])
    clear hd
    have hcz0 : w1.cell? ⟨w.heap.size, 0, none⟩ = some (.int .i64 x.f0) := (blk_cell BK.out 0).trans rfl
    have hcz1 : w1.cell? ⟨w.heap.size, 1, none⟩ = some (.int .i64 x.f1) := (blk_cell BK.out 1).trans rfl
    have hcz2 : w1.cell? ⟨w.heap.size, 2, none⟩ = some (.int .i64 x.f2) := (blk_cell BK.out 2).trans rfl
    have hcz3 : w1.cell? ⟨w.heap.size, 3, none⟩ = some (.int .i64 x.f3) := (blk_cell BK.out 3).trans rfl
    have hcz4 : w1.cell? ⟨w.heap.size, 4, none⟩ = some (.int .i64 x.f4) := (blk_cell BK.out 4).trans rfl
    have hcz5 : w1.cell? ⟨w.heap.size, 5, none⟩ = some (.slice A x.f5.length c) := (blk_cell BK.out 5).trans rfl
    go_wp2_with fail
    refine (check4_any _ x (Nat.lt_succ_self _) A c _ (Kd.C_below HR.out HB1.out) HC.out).mono ?_
    rintro e w2 ⟨rfl, hb⟩
    have HB2 := Aside0.mk (below_step HB1.out hb)
    clear hb
    go_wp2
    go_ret
    exact ⟨by rw [E'.out]; try rfl, HB2.out⟩
end Go.Proofs.Ythmcbcofipehhaa.B
