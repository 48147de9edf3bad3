import Derived.Test.YthmcbcofipehhaaHChk
import Derived.Test.YthmcbcofipehhaaHVal
import Derived.Test.YthmcbcofipehhaaHQ
namespace Go.Proofs.Ythmcbcofipehhaa.B
open Go.RowKit Go.Proofs.YthmcbcofipehhaaW.PrintWords Go.Proofs.YthmcbcofipehhaaW.PrintLast Go.Proofs.YthmcbcofipehhaaW.PrintMore
set_option linter.unusedVariables false
set_option linter.unusedSimpArgs false

theorem box2 (w : World) (o1 o2 : Obj) : ((w.alloc o1).alloc o2).heap[w.heap.size + 1]? = some o2 := by
  have h := heap_alloc_new (w.alloc o1) o2
  rwa [World.size_alloc] at h
theorem drop32 {xs : List S32} {i : Int} (h0 : 0 ≤ i) (h1 : i < xs.length) : xs.drop i.toNat = rd_T32 xs i :: xs.drop (i + 1).toNat := by
  have h : i.toNat < xs.length := by omega
  have e : (i + 1).toNat = i.toNat + 1 := by omega
  unfold rd_T32
  simp [List.getD_eq_getElem?_getD, List.getElem?_eq_getElem h, e]
theorem mem_rd32 {xs : List S32} {i : Int} (h0 : 0 ≤ i) (h1 : i < xs.length) : rd_T32 xs i ∈ xs := by
  unfold rd_T32
  have h : i.toNat < xs.length := by omega
  rw [List.getD_eq_getElem?_getD, List.getElem?_eq_getElem h]
  exact List.getElem_mem h
theorem size_rd32 {v : S32} {i : Int} (h0 : 0 ≤ i) (h1 : i < v.f2.length) : SizeOf.sizeOf (rd_T32 v.f2 i) < SizeOf.sizeOf v := by
  have := List.sizeOf_lt_of_mem (mem_rd32 h0 h1)
  obtain ⟨n, b, l⟩ := v
  simp
  dsimp only at this
  omega
def mayT (n lo hi step : Int) : Int := if n < lo then 5 else if n > hi then 5 else if n.tmod step ≠ 0 then 5 else 0
set_option maxHeartbeats 1000000 in
theorem may_any (n lo hi step : Int) (hs : step ≠ 0) (w : World) :
    Calls Try.prog 65 #[.int .i64 n, .int .i64 lo, .int .i64 hi, .int .i64 step] w fun e w' => e = .returned (.int .i64 (mayT n lo hi step)) ∧ w' = w := by
  have hsb : (step == 0) = false := by simpa using hs
  by_cases h1 : n < lo
  · have E := Aside0.mk (show mayT n lo hi step = 5 by simp [mayT, h1])
    have h1b : decide (n < lo) = true := decide_eq_true h1
    go_enter Try.func65, Try.ntmps65
    go_wp2
    go_ret
    exact ⟨by rw [E.out]; try rfl, rfl⟩
  have h1b : decide (n < lo) = false := decide_eq_false h1
  by_cases h2 : hi < n
  · have E := Aside0.mk (show mayT n lo hi step = 5 by simp [mayT, h1, h2])
    have h2b : decide (hi < n) = true := decide_eq_true h2
    go_enter Try.func65, Try.ntmps65
    go_wp2
    go_ret
    exact ⟨by rw [E.out]; try rfl, rfl⟩
  have h2b : decide (hi < n) = false := decide_eq_false h2
  by_cases h3 : n.tmod step = 0
  · have E := Aside0.mk (show mayT n lo hi step = 0 by simp [mayT, h1, h2, h3])
    have h3b : (n.tmod step == 0) = true := by simpa using h3
    have h3c : (n.tmod step != 0) = false := by simpa using h3
    go_enter Try.func65, Try.ntmps65
    go_wp2
    go_ret
    exact ⟨by rw [E.out]; try rfl, rfl⟩
  have E := Aside0.mk (show mayT n lo hi step = 5 by simp [mayT, h1, h2, h3])
  have h3b : (n.tmod step == 0) = false := by simpa using h3
  have h3c : (n.tmod step != 0) = true := by simpa using h3
  go_enter Try.func65, Try.ntmps65
  go_wp2
  go_ret
  exact ⟨by rw [E.out]; try rfl, rfl⟩

mutual
/-- The size of a value of a right form, or why it is none. -/
def fitT (f : S29) : S32 → Int × Int
  | ⟨n, b, l⟩ =>
    if aloneT f.f0 ⟨n, b, l⟩ = false then (0, 15)
    else if f.f0 = 0 then (if f.f1 < 8 then (if shr .u64 n (8 * f.f1) ≠ 0 then (0, 3) else (f.f1, 0)) else (f.f1, 0))
    else if f.f0 = 1 then (wrap64 (f.f1 + b.length), mayT b.length f.f2 f.f3 f.f4)
    else if f.f0 = 4 then (b.length, mayT b.length f.f2 f.f3 1)
    else if f.f0 = 5 then (f.f2, mayT b.length f.f2 f.f2 1)
    else if f.f0 = 3 ∧ (l.length : Int) ≠ f.f5.length then (0, 15)
    else if (fitL f l 0 0).2 ≠ 0 then (0, (fitL f l 0 0).2)
    else if f.f0 = 3 then ((fitL f l 0 0).1, 0)
    else (wrap64 (f.f1 + (fitL f l 0 0).1), mayT (fitL f l 0 0).1 f.f2 f.f3 f.f4)
def fitL (f : S29) : List S32 → Int → Int → Int × Int
  | [], _, n => (n, 0)
  | x :: l, i, n => if (fitT (rd_T29 f.f5 (i % f.f5.length)) x).2 ≠ 0 then (0, (fitT (rd_T29 f.f5 (i % f.f5.length)) x).2) else fitL f l (i + 1) (wrap64 (n + (fitT (rd_T29 f.f5 (i % f.f5.length)) x).1))
end
theorem checkT_own {x : S29} (h : checkT x = 0) : ownT x = 0 := by
  rw [checkT_eq] at h
  split at h
  · exact h
  · rename_i h2; simpa using h2
theorem checkL_mem : ∀ (l : List S29), checkL l = 0 → ∀ y, y ∈ l → checkT y = 0
  | [], _, y, hy => by cases hy
  | g :: l, h, y, hy => by
    rw [checkL] at h
    by_cases hg : checkT g = 0
    · rw [if_neg (by simp [hg])] at h
      rcases List.mem_cons.1 hy with rfl | hy
      · exact hg
      · exact checkL_mem l h y hy
    · rw [if_pos hg] at h
      exact absurd h hg
theorem checkT_parts {x : S29} (h : checkT x = 0) : ∀ y, y ∈ partsT x → checkT y = 0 := by
  have ho := checkT_own h
  rw [checkT_eq, if_neg (by simp [ho])] at h
  by_cases hl : checkL (partsT x) = 0
  · exact checkL_mem _ hl
  · rw [if_pos hl] at h
    exact absurd h hl
theorem bndT_0 {lo hi m : Int} (h : bndT lo hi m = 0) : 0 ≤ lo ∧ lo ≤ hi ∧ hi ≤ m := by
  unfold bndT at h
  repeat' split at h
  all_goals first | omega | exact absurd h (by decide)
theorem topT_le (s : Int) : topT s ≤ 16777215 := by unfold topT; repeat' split <;> omega
/-- What a form's own lengths are. -/
theorem ownT_0 {x : S29} (h : ownT x = 0) :
    (x.f0 = 0 ∧ (x.f1 = 1 ∨ x.f1 = 2 ∨ x.f1 = 3 ∨ x.f1 = 4 ∨ x.f1 = 8)) ∨
    ((x.f0 = 1 ∨ x.f0 = 2) ∧ 1 ≤ x.f1 ∧ x.f1 ≤ 3 ∧ 0 ≤ x.f2 ∧ x.f2 ≤ x.f3 ∧ x.f3 ≤ topT x.f1 ∧ 1 ≤ x.f4 ∧ x.f4 ≤ 65536 ∧ (x.f0 = 2 → x.f5.length = 1)) ∨
    (x.f0 = 3 ∧ x.f5.length ≤ 32) ∨ (x.f0 = 4 ∧ 0 ≤ x.f2 ∧ x.f2 ≤ x.f3 ∧ x.f3 ≤ 16777215) ∨ (x.f0 = 5 ∧ 0 ≤ x.f2 ∧ x.f2 ≤ 16777215) := by
  unfold ownT at h
  by_cases k0 : x.f0 = 0
  · rw [if_pos k0] at h
    split at h
    · exact .inl ⟨k0, by assumption⟩
    · exact absurd h (by decide)
  rw [if_neg k0] at h
  by_cases k1 : x.f0 = 1 ∨ x.f0 = 2
  · rw [if_pos k1] at h
    by_cases a : x.f1 < 1 ∨ x.f1 > 3
    · rw [if_pos a] at h; exact absurd h (by decide)
    rw [if_neg a] at h
    by_cases b : bndT x.f2 x.f3 (topT x.f1) ≠ 0 ∨ x.f4 < 1 ∨ x.f4 > 65536
    · rw [if_pos b] at h; exact absurd h (by decide)
    rw [if_neg b] at h
    have b0 := bndT_0 (show bndT x.f2 x.f3 (topT x.f1) = 0 by apply Decidable.byContradiction; intro hh; exact b (.inl hh))
    by_cases d : x.f0 = 2 ∧ x.f5.length ≠ 1
    · rw [if_pos d] at h; exact absurd h (by decide)
    refine .inr (.inl ⟨k1, by omega, by omega, b0.1, b0.2.1, b0.2.2, by omega, by omega, fun h2 => ?_⟩)
    apply Decidable.byContradiction
    intro hh
    exact d ⟨h2, hh⟩
  rw [if_neg k1] at h
  by_cases k3 : x.f0 = 3
  · rw [if_pos k3] at h
    split at h
    · exact absurd h (by decide)
    · exact .inr (.inr (.inl ⟨k3, by omega⟩))
  rw [if_neg k3] at h
  by_cases k4 : x.f0 = 4
  · rw [if_pos k4] at h
    exact .inr (.inr (.inr (.inl ⟨k4, bndT_0 h⟩)))
  rw [if_neg k4] at h
  by_cases k5 : x.f0 = 5
  · rw [if_pos k5] at h
    have := bndT_0 h
    exact .inr (.inr (.inr (.inr ⟨k5, this.1, this.2.2⟩)))
  rw [if_neg k5] at h
  exact absurd h (by decide)
theorem ownT_kind {x : S29} (h : ownT x = 0) : 0 ≤ x.f0 ∧ x.f0 ≤ 5 := by
  rcases ownT_0 h with h | h | h | h | h <;> omega
theorem ownT_wf {x : S29} (h : ownT x = 0) : (Lit.int .i64 x.f0).wf = true := by
  have := ownT_kind h
  have : x.f0 = 0 ∨ x.f0 = 1 ∨ x.f0 = 2 ∨ x.f0 = 3 ∨ x.f0 = 4 ∨ x.f0 = 5 := by omega
  rcases this with e | e | e | e | e | e <;> rw [e] <;> decide +kernel
theorem num_yes {f : S29} {v : S32} {s d : Int} (hE : fitT f v = if s < 8 then (if shr .u64 v.f0 (8 * s) ≠ 0 then (0, 3) else (s, 0)) else (s, 0)) (hs : s < 8) (hd : shr .u64 v.f0 (8 * s) = v.f0 / d) (h : (v.f0 / d != 0) = true) : fitT f v = (0, 3) := by
  rw [hE, if_pos hs, hd, if_pos (by simpa using h)]
theorem num_no {f : S29} {v : S32} {s d : Int} (hE : fitT f v = if s < 8 then (if shr .u64 v.f0 (8 * s) ≠ 0 then (0, 3) else (s, 0)) else (s, 0)) (hs : s < 8) (hd : shr .u64 v.f0 (8 * s) = v.f0 / d) (h : (v.f0 / d != 0) = false) : fitT f v = (s, 0) := by
  rw [hE, if_pos hs, hd, if_neg (by simpa using h)]
theorem fitL_step {f : S29} {xs : List S32} {i : Int} (h0 : 0 ≤ i) (h1 : i < xs.length) (n : Int) : fitL f (xs.drop i.toNat) i n =
    if (fitT (rd_T29 f.f5 (i % f.f5.length)) (rd_T32 xs i)).2 ≠ 0 then (0, (fitT (rd_T29 f.f5 (i % f.f5.length)) (rd_T32 xs i)).2) else fitL f (xs.drop (i + 1).toNat) (i + 1) (wrap64 (n + (fitT (rd_T29 f.f5 (i % f.f5.length)) (rd_T32 xs i)).1)) := by
  rw [drop32 h0 h1, fitL]
theorem fitL_end {f : S29} {xs : List S32} {i : Int} (h1 : (xs.length : Int) ≤ i) (n : Int) : fitL f (xs.drop i.toNat) i n = (n, 0) := by
  rw [List.drop_eq_nil_of_le (by omega), fitL]
theorem ret2 {a b : Int} {p : Int × Int} (h : p = (a, b)) : Ending.returned (.tuple #[.int .i64 a, .int .i64 b]) = Ending.returned (.tuple #[.int .i64 p.1, .int .i64 p.2]) := by rw [h]
set_option maxHeartbeats 4000000 in
set_option maxRecDepth 100000 in
theorem fit_any (N : Nat) : ∀ (f : S29) (v : S32) (_ : SizeOf.sizeOf v < N) (_ : checkT f = 0) (A : Option Addr) (c : Nat) (A1 : Option Addr) (c1 : Nat) (A2 : Option Addr) (c2 : Nat) (w : World) (hr : Kd.C k29 w A f.f5.length f.f5) (hc : f.f5.length ≤ c) (hr1 : Kd.C (Kd.int .u8) w A1 v.f1.length v.f1) (hc1 : v.f1.length ≤ c1) (hr2 : Kd.C k32 w A2 v.f2.length v.f2) (hc2 : v.f2.length ≤ c2),
    Calls Try.prog 47 #[.agg #[.int .i64 f.f0, .int .i64 f.f1, .int .i64 f.f2, .int .i64 f.f3, .int .i64 f.f4, .slice A f.f5.length c], .agg #[.int .u64 v.f0, .slice A1 v.f1.length c1, .slice A2 v.f2.length c2]] w fun e w' => e = .returned (.tuple #[.int .i64 (fitT f v).1, .int .i64 (fitT f v).2]) ∧ Below w.heap.size w w' := by
  induction N with
  | zero => intro f v h; omega
  | succ N ih =>
  intro f v hN hck A c A1 c1 A2 c2 w hr hc hr1 hc1 hr2 hc2
  have hu29 := Try.underlying29
  have hu32 := Try.underlying32
  have HR := Aside0.mk hr
  have HC := Aside0.mk hc
  have HR1 := Aside0.mk hr1
  have HC1 := Aside0.mk hc1
  have HR2 := Aside0.mk hr2
  have HC2 := Aside0.mk hc2
  have HCK := Aside0.mk hck
  have HO := Aside0.mk (checkT_own hck)
  have HN := Aside0.mk hN
  have IH := Aside0.mk ih
  clear hr hc hr1 hc1 hr2 hc2 ih hck hN
  have HB := Aside0.mk (Below.refl w.heap.size w)
  go_enter Try.func47, Try.ntmps47
  go_wp2_with fail
  refine (alone_any f.f0 (ownT_wf HO.out) v A1 c1 A2 c2 _).mono ?_
  rintro e w1 ⟨rfl, hb⟩
  have BF := Aside0.mk (blk_below (blk_alloc (heap_alloc_new w _) _) hb)
  have BV := Aside0.mk (blk_below (box2 _ _ _) hb)
  have HB1 := Aside0.mk (below_step (below_alloc (below_alloc HB.out _) _) hb)
  clear hb HB
  have hz0 : w1.cell? ⟨w.heap.size, 0, none⟩ = some (.int .i64 f.f0) := (blk_cell BF.out 0).trans rfl
  have hz1 : w1.cell? ⟨w.heap.size, 1, none⟩ = some (.int .i64 f.f1) := (blk_cell BF.out 1).trans rfl
  have hz2 : w1.cell? ⟨w.heap.size, 2, none⟩ = some (.int .i64 f.f2) := (blk_cell BF.out 2).trans rfl
  have hz3 : w1.cell? ⟨w.heap.size, 3, none⟩ = some (.int .i64 f.f3) := (blk_cell BF.out 3).trans rfl
  have hz4 : w1.cell? ⟨w.heap.size, 4, none⟩ = some (.int .i64 f.f4) := (blk_cell BF.out 4).trans rfl
  have hz5 : w1.cell? ⟨w.heap.size, 5, none⟩ = some (.slice A f.f5.length c) := (blk_cell BF.out 5).trans rfl
  have hy0 : w1.cell? ⟨w.heap.size + 1, 0, none⟩ = some (.int .u64 v.f0) := (blk_cell BV.out 0).trans rfl
  have hy1 : w1.cell? ⟨w.heap.size + 1, 1, none⟩ = some (.slice A1 v.f1.length c1) := (blk_cell BV.out 1).trans rfl
  have hy2 : w1.cell? ⟨w.heap.size + 1, 2, none⟩ = some (.slice A2 v.f2.length c2) := (blk_cell BV.out 2).trans rfl
  cases hal : aloneT f.f0 v
  case false =>
    have E := Aside0.mk (show fitT f v = (0, 15) by obtain ⟨n, b, l⟩ := v; rw [fitT, if_pos hal])
    clear hal
    go_wp2
    go_ret2
    exact ⟨by rw [E.out]; try rfl, HB1.out⟩
  case true =>
  have hal2 : ¬ (aloneT f.f0 v = false) := by simp [hal]
  by_cases k0 : f.f0 = 0
  · have E := Aside0.mk (show fitT f v = if f.f1 < 8 then (if shr .u64 v.f0 (8 * f.f1) ≠ 0 then (0, 3) else (f.f1, 0)) else (f.f1, 0) by obtain ⟨n, b, l⟩ := v; rw [fitT, if_neg hal2, if_pos k0])
    have hs := (ownT_0 HO.out)
    simp only [k0] at hs
    have hs : f.f1 = 1 ∨ f.f1 = 2 ∨ f.f1 = 3 ∨ f.f1 = 4 ∨ f.f1 = 8 := by omega
    rw [k0] at hz0
    clear hal hal2 HO HCK IH HN
    obtain ⟨s, hs1⟩ : ∃ s, f.f1 = s := ⟨_, rfl⟩
    rw [hs1] at E hs hz1
    clear k0 hs1
    rcases hs with rfl | rfl | rfl | rfl | rfl
    all_goals go_wp2
    all_goals go_ret2
    all_goals refine ⟨?_, HB1.out⟩
    · exact ret2 (num_yes E.out (by omega) rfl ‹_›)
    · exact ret2 (num_no E.out (by omega) rfl ‹_›)
    · exact ret2 (num_yes E.out (by omega) rfl ‹_›)
    · exact ret2 (num_no E.out (by omega) rfl ‹_›)
    · exact ret2 (num_yes E.out (by omega) rfl ‹_›)
    · exact ret2 (num_no E.out (by omega) rfl ‹_›)
    · exact ret2 (num_yes E.out (by omega) rfl ‹_›)
    · exact ret2 (num_no E.out (by omega) rfl ‹_›)
    · exact ret2 (by rw [E.out, if_neg (by omega)])
  have k0b : (f.f0 == 0) = false := by simpa using k0
  have OK := ownT_0 HO.out
  have hl := Kd.C_max HR1.out
  by_cases k1 : f.f0 = 1
  · have E := Aside0.mk (show fitT f v = (wrap64 (f.f1 + v.f1.length), mayT v.f1.length f.f2 f.f3 f.f4) by obtain ⟨n, b, l⟩ := v; rw [fitT, if_neg hal2, if_neg k0, if_pos k1])
    have h4 : f.f4 ≠ 0 := by rcases OK with h | h | h | h | h <;> omega
    have H4 := Aside0.mk h4
    have k1b : (f.f0 == 1) = true := by simpa using k1
    clear hal hal2 k0 k1 HCK IH HN OK h4
    go_wp2
    go_quiet ((go_at_call 65; exact Calls.quiet_of_same (may_any _ _ _ _ H4.out _)))
    go_wp2
    go_ret2
    rw [E.out]
    exact ⟨rfl, pw_below_drewN HB1.out _⟩
  have k1b : (f.f0 == 1) = false := by simpa using k1
  by_cases k4 : f.f0 = 4
  · have E := Aside0.mk (show fitT f v = (↑v.f1.length, mayT v.f1.length f.f2 f.f3 1) by obtain ⟨n, b, l⟩ := v; rw [fitT, if_neg hal2, if_neg k0, if_neg k1, if_pos k4])
    have k4b : (f.f0 == 4) = true := by simpa using k4
    clear hal hal2 k0 k1 k4 HCK IH HN OK
    go_wp2
    go_quiet ((go_at_call 65; exact Calls.quiet_of_same (may_any _ _ _ _ (by decide) _)))
    go_wp2
    go_ret2
    rw [E.out]
    exact ⟨rfl, pw_below_drewN HB1.out _⟩
  have k4b : (f.f0 == 4) = false := by simpa using k4
  by_cases k5 : f.f0 = 5
  · have E := Aside0.mk (show fitT f v = (f.f2, mayT v.f1.length f.f2 f.f2 1) by obtain ⟨n, b, l⟩ := v; rw [fitT, if_neg hal2, if_neg k0, if_neg k1, if_neg k4, if_pos k5])
    have k5b : (f.f0 == 5) = true := by simpa using k5
    clear hal hal2 k0 k1 k4 k5 HCK IH HN OK
    go_wp2
    go_quiet ((go_at_call 65; exact Calls.quiet_of_same (may_any _ _ _ _ (by decide) _)))
    go_wp2
    go_ret2
    rw [E.out]
    exact ⟨rfl, pw_below_drewN HB1.out _⟩
  have k5b : (f.f0 == 5) = false := by simpa using k5
  have k23 : f.f0 = 2 ∨ f.f0 = 3 := by rcases OK with h | h | h | h | h <;> omega
  have hl2 := Kd.C_max HR2.out
  have hl5 := Kd.C_max HR.out
  have E0 : fitT f v = if f.f0 = 3 ∧ (v.f2.length : Int) ≠ f.f5.length then (0, 15) else if (fitL f v.f2 0 0).2 ≠ 0 then (0, (fitL f v.f2 0 0).2) else if f.f0 = 3 then ((fitL f v.f2 0 0).1, 0)
    else (wrap64 (f.f1 + (fitL f v.f2 0 0).1), mayT (fitL f v.f2 0 0).1 f.f2 f.f3 f.f4) := by
    obtain ⟨n, b, l⟩ := v; rw [fitT, if_neg hal2, if_neg k0, if_neg k1, if_neg k4, if_neg k5]
  by_cases kl : f.f0 = 3 ∧ (v.f2.length : Int) ≠ f.f5.length
  · have E := Aside0.mk (show fitT f v = (0, 15) by rw [E0, if_pos kl])
    have k3b : (f.f0 == 3) = true := by simpa using kl.1
    have kle : ((v.f2.length : Int) == f.f5.length) = false := by simpa using kl.2
    have kln : ((v.f2.length : Int) != f.f5.length) = true := by simpa using kl.2
    have kle2 : (v.f2.length == f.f5.length) = false := by have := kl.2; simp only [beq_eq_false_iff_ne]; omega
    have kln2 : (v.f2.length != f.f5.length) = true := by have := kl.2; simp only [bne_iff_ne]; omega
    clear hal hal2 k0 k1 k4 k5 HCK IH HN OK k23 E0 kl
    go_wp2
    go_ret2
    rw [E.out]
    exact ⟨rfl, HB1.out⟩
  rw [if_neg kl] at E0
  have PP : 0 < v.f2.length → 0 < f.f5.length := by
    intro hp
    rcases OK with h | h | h | h | h
    · omega
    · have := h.2.2.2.2.2.2.2.2
      omega
    · have h3 := h.1
      have : ¬ ((v.f2.length : Int) ≠ f.f5.length) := fun hh => kl ⟨h3, hh⟩
      omega
    · omega
    · omega
  have hps : partsT f = f.f5 := by unfold partsT; rcases k23 with h | h <;> simp [h]
  have HCP := Aside0.mk (hps ▸ checkT_parts HCK.out)
  have H4 := Aside0.mk (show f.f0 = 2 → f.f4 ≠ 0 by intro h2; rcases OK with h | h | h | h | h <;> omega)
  have E := Aside0.mk E0
  have PP2 := Aside0.mk PP
  have K23 := Aside0.mk k23
  have IH2 := IH
  have k3b : (f.f0 == 3) = true ∧ f.f0 = 3 ∧ (v.f2.length : Int) = f.f5.length ∨ (f.f0 == 3) = false ∧ f.f0 ≠ 3 := by
    by_cases h3 : f.f0 = 3
    · refine .inl ⟨by simpa using h3, h3, ?_⟩
      apply Decidable.byContradiction
      intro hh
      exact kl ⟨h3, hh⟩
    · exact .inr ⟨by simpa using h3, h3⟩
  clear hal hal2 k0 k1 k4 k5 HCK IH OK k23 E0 kl PP hps HO
  have HR2w := Aside0.mk (Kd.C_below HR2.out HB1.out)
  have HRw := Aside0.mk (Kd.C_below HR.out HB1.out)
  rcases k3b with ⟨k3b, k3, hlen⟩ | ⟨k3b, k3⟩
  all_goals
    try have kln : ((v.f2.length : Int) != f.f5.length) = false := by simpa using hlen
    try have kln2 : (v.f2.length != f.f5.length) = false := by simp only [bne_eq_false_iff_eq]; omega
    have K3 := Aside0.mk k3
    clear k3
    try clear hlen
    go_wp2
    go_loopg [6, 92] (v.f2.length + 1) (fun kq v6 v92 w' => ∃ (n i : Int), v6 = .int .i64 n ∧ v92 = .int .i64 i ∧ 0 ≤ i ∧ i ≤ v.f2.length ∧ Aside0 (fitL f (v.f2.drop i.toNat) i n = fitL f v.f2 0 0) ∧ Aside0 ((kq : Int) + i = v.f2.length + 1) ∧ Aside0 (w'.heap[w.heap.size]? = some (.cells #[.int .i64 f.f0, .int .i64 f.f1, .int .i64 f.f2, .int .i64 f.f3, .int .i64 f.f4, .slice A f.f5.length c] 29 (0, 0))) ∧ Aside0 (Below w.heap.size w w') ∧ Aside0 (Kd.C k29 w' A f.f5.length f.f5) ∧ Aside0 (Kd.C k32 w' A2 v.f2.length v.f2))
    case atStart => exact ⟨0, 0, rfl, rfl, by omega, by omega, ⟨rfl⟩, ⟨by omega⟩, BF, HB1, HRw, HR2w⟩
    case round =>
      clear HB1 BF BV HRw HR2w hz0 hz1 hz2 hz3 hz4 hz5 hy0 hy1 hy2
      obtain ⟨n, i, rfl, rfl, i0, i1, HA, HK, BF, HB, HRw, HR2w⟩ := hrel
      have hz0 : wr.cell? ⟨w.heap.size, 0, none⟩ = some (.int .i64 f.f0) := (blk_cell BF.out 0).trans rfl
      have hz1 : wr.cell? ⟨w.heap.size, 1, none⟩ = some (.int .i64 f.f1) := (blk_cell BF.out 1).trans rfl
      have hz2 : wr.cell? ⟨w.heap.size, 2, none⟩ = some (.int .i64 f.f2) := (blk_cell BF.out 2).trans rfl
      have hz3 : wr.cell? ⟨w.heap.size, 3, none⟩ = some (.int .i64 f.f3) := (blk_cell BF.out 3).trans rfl
      have hz4 : wr.cell? ⟨w.heap.size, 4, none⟩ = some (.int .i64 f.f4) := (blk_cell BF.out 4).trans rfl
      have hz5 : wr.cell? ⟨w.heap.size, 5, none⟩ = some (.slice A f.f5.length c) := (blk_cell BF.out 5).trans rfl
      by_cases hlt : i < (v.f2.length : Int)
      case neg =>
        have cq : decide (i < (v.f2.length : Int)) = false := decide_eq_false hlt
        have EL : fitL f v.f2 0 0 = (n, 0) := by rw [← HA.out, fitL_end (by omega)]
        have E2 := Aside0.mk (show fitT f v = if f.f0 = 3 then (n, 0) else (wrap64 (f.f1 + n), mayT n f.f2 f.f3 f.f4) by rw [E.out, EL, if_neg (by simp)])
        clear EL hlt HA HK
        first
        | (go_wp2
           go_ret2
           exact ⟨ret2 (by rw [E2.out, if_pos K3.out]), HB.out⟩)
        | (have H40 := Aside0.mk (H4.out (by have := K23.out; have := K3.out; omega))
           go_wp2
           go_quiet ((go_at_call 65; exact Calls.quiet_of_same (may_any _ _ _ _ H40.out _)))
           go_wp2
           go_ret2
           exact ⟨ret2 (by rw [E2.out, if_neg K3.out]), pw_below_drewN HB.out _⟩)
      case pos =>
        obtain ⟨k1, rfl⟩ : ∃ m, gk = m + 1 := ⟨gk - 1, by have := HK.out; omega⟩
        have cq : decide (i < (v.f2.length : Int)) = true := decide_eq_true hlt
        have hp := PP2.out (by omega)
        obtain ⟨j, hj⟩ : ∃ j, i % (f.f5.length : Int) = j := ⟨_, rfl⟩
        have j0 : 0 ≤ j := by rw [← hj]; exact Int.emod_nonneg _ (by omega)
        have j1 : j < (f.f5.length : Int) := by rw [← hj]; exact Int.emod_lt_of_pos _ (by omega)
        have hjt : i.tmod (f.f5.length : Int) = j := by rw [Int.tmod_eq_emod_of_nonneg i0]; exact hj
        have HST := Aside0.mk (fitL_step (f := f) i0 hlt n)
        rw [hj] at HST
        have HM := Aside0.mk (size_rd32 i0 hlt)
        have HCJ := Aside0.mk (HCP.out _ (mem_rd29 j0 j1))
        obtain ⟨ad, B1, d1, B2, d2, e, hx0, hx1, hx2, hlx1, hix1, hlx2, hix2⟩ := at_T32 HR2w.out i i0 hlt
        cases e
        obtain ⟨ae, B5, d5, e, hf0, hf1, hf2, hf3, hf4, hf5, hlf5, hif5⟩ := at_T29 HRw.out j j0 j1
        cases e
        have HX1 := Aside0.mk hix1
        have HX2 := Aside0.mk hix2
        have HF5 := Aside0.mk hif5
        have LX1 := Aside0.mk hlx1
        have LX2 := Aside0.mk hlx2
        have LF5 := Aside0.mk hlf5
        clear hix1 hix2 hif5 hlx1 hlx2 hlf5
        go_wp2
        obtain ⟨w5, hw5⟩ : ∃ w5, w5 = wr.alloc (.cells #[.int .u64 (rd_T32 v.f2 i).f0, .slice B1 (rd_T32 v.f2 i).f1.length d1, .slice B2 (rd_T32 v.f2 i).f2.length d2] 32) := ⟨_, rfl⟩
        have B5w : Below wr.heap.size wr w5 := by rw [hw5]; exact below_alloc (Below.refl _ _) _
        have N5 : w5.heap[wr.heap.size]? = some (.cells #[.int .u64 (rd_T32 v.f2 i).f0, .slice B1 (rd_T32 v.f2 i).f1.length d1, .slice B2 (rd_T32 v.f2 i).f2.length d2] 32 (0, 0)) := by rw [hw5]; exact heap_alloc_new _ _
        rw [← hw5]
        clear hw5
        have u5 := up_cell ((B5w.cell (World.block_lt_of_cell? wr _ hz5)).trans hz5)
        have v0 := up_cell ((B5w.cell (World.block_lt_of_cell? wr _ hf0)).trans hf0)
        have v1 := up_cell ((B5w.cell (World.block_lt_of_cell? wr _ hf1)).trans hf1)
        have v2 := up_cell ((B5w.cell (World.block_lt_of_cell? wr _ hf2)).trans hf2)
        have v3 := up_cell ((B5w.cell (World.block_lt_of_cell? wr _ hf3)).trans hf3)
        have v4 := up_cell ((B5w.cell (World.block_lt_of_cell? wr _ hf4)).trans hf4)
        have v5 := up_cell ((B5w.cell (World.block_lt_of_cell? wr _ hf5)).trans hf5)
        have x0 := up_cell ((blk_cell N5 0).trans rfl)
        have x1 := up_cell ((blk_cell N5 1).trans rfl)
        have x2 := up_cell ((blk_cell N5 2).trans rfl)
        have B5 := Aside0.mk B5w
        have XX1 := Aside0.mk (Kd.C_below HX1.out B5w)
        have XX2 := Aside0.mk (Kd.C_below HX2.out B5w)
        have FF5 := Aside0.mk (Kd.C_below HF5.out B5w)
        clear B5w N5 hx0 hx1 hx2 hf0 hf1 hf2 hf3 hf4 hf5
        refine wp_region_up (by kernel_rfl) (by kernel_rfl) ?_
        repeat (go_big_quiet_step ((go_at_call 47; exact up_of (IH2.out (rd_T29 f.f5 j) (rd_T32 v.f2 i) (by have := HM.out; have := HN.out; omega) HCJ.out _ _ _ _ _ _ _ (Kd.C_below FF5.out (Up.below _)) LF5.out (Kd.C_below XX1.out (Up.below _)) LX1.out (Kd.C_below XX2.out (Up.below _)) LX2.out))))
        refine wpQuiet_nil ?_
        rintro _ ⟨s, rfl⟩
        have hb6 := s.below
        obtain ⟨w6, hw6⟩ : ∃ w6, w6 = s.val := ⟨_, rfl⟩
        rw [← hw6] at hb6 ⊢
        clear hw6 s u5 v0 v1 v2 v3 v4 v5 x0 x1 x2
        have BF2 := Aside0.mk (blk_below (blk_below BF.out B5.out) hb6)
        have HB2 := Aside0.mk (below_step (below_step HB.out B5.out) hb6)
        have HR3 := Aside0.mk (Kd.C_below (Kd.C_below HRw.out B5.out) hb6)
        have HR4 := Aside0.mk (Kd.C_below (Kd.C_below HR2w.out B5.out) hb6)
        clear hb6 BF HB HRw HR2w XX1 XX2 FF5 HX1 HX2 HF5 hz0 hz1 hz2 hz3 hz4 hz5
        by_cases e0 : (fitT (rd_T29 f.f5 j) (rd_T32 v.f2 i)).2 = 0
        case neg =>
          have e0b : ((fitT (rd_T29 f.f5 j) (rd_T32 v.f2 i)).2 == 0) = false := by simpa using e0
          have e0c : ((fitT (rd_T29 f.f5 j) (rd_T32 v.f2 i)).2 != 0) = true := by simpa using e0
          have EL : fitL f v.f2 0 0 = (0, (fitT (rd_T29 f.f5 j) (rd_T32 v.f2 i)).2) := by rw [← HA.out, HST.out, if_pos e0]
          have E2 := Aside0.mk (show fitT f v = (0, (fitT (rd_T29 f.f5 j) (rd_T32 v.f2 i)).2) by rw [E.out, EL, if_pos e0])
          clear e0 EL HST HA
          go_wp2
          go_ret2
          exact ⟨ret2 E2.out, HB2.out⟩
        case pos =>
          have HA2 := Aside0.mk (show fitL f (v.f2.drop (i + 1).toNat) (i + 1) (wrap64 (n + (fitT (rd_T29 f.f5 j) (rd_T32 v.f2 i)).1)) = fitL f v.f2 0 0 by rw [← HA.out, HST.out, if_neg (by simp [e0])])
          rw [e0]
          clear e0 HST HA
          go_wp2
          go_roundg (k1)
          case measure => have := HK.out; omega
          case rel => exact ⟨_, _, rfl, rfl, by omega, by omega, HA2, ⟨by have := HK.out; omega⟩, BF2, HB2, HR3, HR4⟩

/-- value.size: of a form and a value, the size, and why it doesn't fit. -/
def sizeT (f : S29) (v : S32) : Int × Int := if CheckT f ≠ 0 then (0, CheckT f) else if (fitT f v).2 ≠ 0 then (0, (fitT f v).2) else ((fitT f v).1, 0)
set_option maxHeartbeats 4000000 in
theorem size_any (f : S29) (v : S32) (A : Option Addr) (c : Nat) (A1 : Option Addr) (c1 : Nat) (A2 : Option Addr) (c2 : Nat) (w : World) (hr : Kd.C k29 w A f.f5.length f.f5) (hc : f.f5.length ≤ c) (hr1 : Kd.C (Kd.int .u8) w A1 v.f1.length v.f1) (hc1 : v.f1.length ≤ c1) (hr2 : Kd.C k32 w A2 v.f2.length v.f2) (hc2 : v.f2.length ≤ c2) :
    Calls Try.prog 33 #[.agg #[.int .i64 f.f0, .int .i64 f.f1, .int .i64 f.f2, .int .i64 f.f3, .int .i64 f.f4, .slice A f.f5.length c], .agg #[.int .u64 v.f0, .slice A1 v.f1.length c1, .slice A2 v.f2.length c2]] w fun e w' => e = .returned (.tuple #[.int .i64 (sizeT f v).1, .int .i64 (sizeT f v).2]) ∧ Below w.heap.size w w' := by
  have hu29 := Try.underlying29
  have hu32 := Try.underlying32
  have HR := Aside0.mk hr
  have HC := Aside0.mk hc
  have HR1 := Aside0.mk hr1
  have HC1 := Aside0.mk hc1
  have HR2 := Aside0.mk hr2
  have HC2 := Aside0.mk hc2
  clear hr hc hr1 hc1 hr2 hc2
  have HB := Aside0.mk (Below.refl w.heap.size w)
  go_enter Try.func33, Try.ntmps33
  go_wp2_with fail
  refine (Check_any f A c _ (Kd.C_alloc (Kd.C_alloc HR.out _) _) HC.out).mono ?_
  rintro e w1 ⟨rfl, hb⟩
  have BF := Aside0.mk (blk_below (blk_alloc (heap_alloc_new w _) _) hb)
  have BV := Aside0.mk (blk_below (box2 _ _ _) hb)
  have HB1 := Aside0.mk (below_step (below_alloc (below_alloc HB.out _) _) hb)
  clear hb HB
  by_cases c0 : CheckT f = 0
  case neg =>
    have c0b : (CheckT f == 0) = false := by simpa using c0
    have c0c : (CheckT f != 0) = true := by simpa using c0
    have E := Aside0.mk (show sizeT f v = (0, CheckT f) by rw [sizeT, if_pos c0])
    clear c0
    go_wp2
    go_ret2
    exact ⟨ret2 E.out, HB1.out⟩
  case pos =>
  have ck : checkT f = 0 := by
    unfold CheckT at c0
    split at c0
    · exact absurd c0 (by decide)
    · exact c0
  have CK := Aside0.mk ck
  have E1 : sizeT f v = if (fitT f v).2 ≠ 0 then (0, (fitT f v).2) else ((fitT f v).1, 0) := by rw [sizeT, if_neg (by simp [c0])]
  rw [c0]
  clear c0 ck
  have hz0 : w1.cell? ⟨w.heap.size, 0, none⟩ = some (.int .i64 f.f0) := (blk_cell BF.out 0).trans rfl
  have hz1 : w1.cell? ⟨w.heap.size, 1, none⟩ = some (.int .i64 f.f1) := (blk_cell BF.out 1).trans rfl
  have hz2 : w1.cell? ⟨w.heap.size, 2, none⟩ = some (.int .i64 f.f2) := (blk_cell BF.out 2).trans rfl
  have hz3 : w1.cell? ⟨w.heap.size, 3, none⟩ = some (.int .i64 f.f3) := (blk_cell BF.out 3).trans rfl
  have hz4 : w1.cell? ⟨w.heap.size, 4, none⟩ = some (.int .i64 f.f4) := (blk_cell BF.out 4).trans rfl
  have hz5 : w1.cell? ⟨w.heap.size, 5, none⟩ = some (.slice A f.f5.length c) := (blk_cell BF.out 5).trans rfl
  have hy0 : w1.cell? ⟨w.heap.size + 1, 0, none⟩ = some (.int .u64 v.f0) := (blk_cell BV.out 0).trans rfl
  have hy1 : w1.cell? ⟨w.heap.size + 1, 1, none⟩ = some (.slice A1 v.f1.length c1) := (blk_cell BV.out 1).trans rfl
  have hy2 : w1.cell? ⟨w.heap.size + 1, 2, none⟩ = some (.slice A2 v.f2.length c2) := (blk_cell BV.out 2).trans rfl
  have EE := Aside0.mk E1
  clear E1
  go_wp2_with fail
  refine (fit_any _ f v (Nat.lt_succ_self _) CK.out A c A1 c1 A2 c2 _ (Kd.C_below HR.out HB1.out) HC.out (Kd.C_below HR1.out HB1.out) HC1.out (Kd.C_below HR2.out HB1.out) HC2.out).mono ?_
  rintro e w2 ⟨rfl, hb⟩
  have HB2 := Aside0.mk (below_step HB1.out hb)
  clear hb
  by_cases e0 : (fitT f v).2 = 0
  case neg =>
    have e0b : ((fitT f v).2 == 0) = false := by simpa using e0
    have e0c : ((fitT f v).2 != 0) = true := by simpa using e0
    have E := Aside0.mk (show sizeT f v = (0, (fitT f v).2) by rw [EE.out, if_pos e0])
    clear e0
    go_wp2
    go_ret2
    exact ⟨ret2 E.out, HB2.out⟩
  case pos =>
    have E := Aside0.mk (show sizeT f v = ((fitT f v).1, 0) by rw [EE.out, if_neg (by simp [e0])])
    rw [e0]
    clear e0
    go_wp2
    go_ret2
    exact ⟨ret2 E.out, HB2.out⟩
set_option maxHeartbeats 4000000 in
theorem Fits_any (f : S29) (v : S32) (A : Option Addr) (c : Nat) (A1 : Option Addr) (c1 : Nat) (A2 : Option Addr) (c2 : Nat) (w : World) (hr : Kd.C k29 w A f.f5.length f.f5) (hc : f.f5.length ≤ c) (hr1 : Kd.C (Kd.int .u8) w A1 v.f1.length v.f1) (hc1 : v.f1.length ≤ c1) (hr2 : Kd.C k32 w A2 v.f2.length v.f2) (hc2 : v.f2.length ≤ c2) :
    Calls Try.prog 15 #[.agg #[.int .i64 f.f0, .int .i64 f.f1, .int .i64 f.f2, .int .i64 f.f3, .int .i64 f.f4, .slice A f.f5.length c], .agg #[.int .u64 v.f0, .slice A1 v.f1.length c1, .slice A2 v.f2.length c2]] w fun e w' => e = .returned (.int .i64 (sizeT f v).2) ∧ Below w.heap.size w w' := by
  have hu29 := Try.underlying29
  have hu32 := Try.underlying32
  have HR := Aside0.mk hr
  have HC := Aside0.mk hc
  have HR1 := Aside0.mk hr1
  have HC1 := Aside0.mk hc1
  have HR2 := Aside0.mk hr2
  have HC2 := Aside0.mk hc2
  clear hr hc hr1 hc1 hr2 hc2
  have HB := Aside0.mk (Below.refl w.heap.size w)
  go_enter Try.func15, Try.ntmps15
  go_wp2_with fail
  refine (size_any f v A c A1 c1 A2 c2 _ (Kd.C_alloc (Kd.C_alloc HR.out _) _) HC.out (Kd.C_alloc (Kd.C_alloc HR1.out _) _) HC1.out (Kd.C_alloc (Kd.C_alloc HR2.out _) _) HC2.out).mono ?_
  rintro e w1 ⟨rfl, hb⟩
  have HB1 := Aside0.mk (below_step (below_alloc (below_alloc HB.out _) _) hb)
  clear hb HB
  go_wp2
  go_ret
  exact ⟨rfl, HB1.out⟩
set_option maxHeartbeats 4000000 in
theorem Size_any (f : S29) (v : S32) (A : Option Addr) (c : Nat) (A1 : Option Addr) (c1 : Nat) (A2 : Option Addr) (c2 : Nat) (w : World) (hr : Kd.C k29 w A f.f5.length f.f5) (hc : f.f5.length ≤ c) (hr1 : Kd.C (Kd.int .u8) w A1 v.f1.length v.f1) (hc1 : v.f1.length ≤ c1) (hr2 : Kd.C k32 w A2 v.f2.length v.f2) (hc2 : v.f2.length ≤ c2) :
    Calls Try.prog 16 #[.agg #[.int .i64 f.f0, .int .i64 f.f1, .int .i64 f.f2, .int .i64 f.f3, .int .i64 f.f4, .slice A f.f5.length c], .agg #[.int .u64 v.f0, .slice A1 v.f1.length c1, .slice A2 v.f2.length c2]] w fun e w' => e = .returned (.int .i64 (sizeT f v).1) ∧ Below w.heap.size w w' := by
  have hu29 := Try.underlying29
  have hu32 := Try.underlying32
  have HR := Aside0.mk hr
  have HC := Aside0.mk hc
  have HR1 := Aside0.mk hr1
  have HC1 := Aside0.mk hc1
  have HR2 := Aside0.mk hr2
  have HC2 := Aside0.mk hc2
  clear hr hc hr1 hc1 hr2 hc2
  have HB := Aside0.mk (Below.refl w.heap.size w)
  go_enter Try.func16, Try.ntmps16
  go_wp2_with fail
  refine (size_any f v A c A1 c1 A2 c2 _ (Kd.C_alloc (Kd.C_alloc HR.out _) _) HC.out (Kd.C_alloc (Kd.C_alloc HR1.out _) _) HC1.out (Kd.C_alloc (Kd.C_alloc HR2.out _) _) HC2.out).mono ?_
  rintro e w1 ⟨rfl, hb⟩
  have HB1 := Aside0.mk (below_step (below_alloc (below_alloc HB.out _) _) hb)
  clear hb HB
  go_wp2
  go_ret
  exact ⟨rfl, HB1.out⟩
end Go.Proofs.Ythmcbcofipehhaa.B
