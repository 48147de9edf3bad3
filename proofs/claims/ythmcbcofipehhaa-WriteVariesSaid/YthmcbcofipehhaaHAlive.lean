import Derived.Test.YthmcbcofipehhaaHFit
import Derived.Test.YthmcbcofipehhaaHMk
import Derived.Test.YthmcbcofipehhaaHReg
namespace Go.Proofs.Ythmcbcofipehhaa.B
open Go.RowKit Go.Proofs.YthmcbcofipehhaaW.PrintWords Go.Proofs.YthmcbcofipehhaaW.PrintLast Go.Proofs.YthmcbcofipehhaaW.PrintMore Reg
set_option linter.unusedVariables false
set_option linter.unusedSimpArgs false
def nV (x : Int) : S32 := ⟨x, [], []⟩
def lV (l : List S32) : S32 := ⟨0, [], l⟩
def f05 : S29 := ⟨2, 1, 2, 4, 2, [⟨0, 1, 0, 0, 0, []⟩]⟩
theorem al1 : sizeT f05 (lV [nV 5, nV 6]) = (3, 0) := by decide +kernel
theorem al2 : (sizeT f05 (lV [nV 5, nV 6, nV 7])).2 = 5 := by decide +kernel
theorem al3 : (sizeT f05 (lV [nV 5, nV 256])).2 = 3 := by decide +kernel
def Ext (x y : World) : Prop := Below x.heap.size x y
def nA (x : Int) : Value := .agg #[.int .u64 x, .slice none 0 0, .slice none 0 0]
/-- A slice of numbers; a list of them. -/
def SlR (l : List S32) (v : Value) (w : World) : Prop := ∃ A c, v = .slice A l.length c ∧ l.length ≤ c ∧ Kd.C k32 w A l.length l
def LiR (l : List S32) (v : Value) (w : World) : Prop := ∃ A c, v = .agg #[.int .u64 0, .slice none 0 0, .slice A l.length c] ∧ l.length ≤ c ∧ Kd.C k32 w A l.length l
theorem SlR.mono {l : List S32} {v : Value} {x y : World} (he : Ext x y) (h : SlR l v x) : SlR l v y := by obtain ⟨A, c, e, h1, h2⟩ := h; exact ⟨A, c, e, h1, Kd.C_below h2 he⟩
theorem LiR.mono {l : List S32} {v : Value} {x y : World} (he : Ext x y) (h : LiR l v x) : LiR l v y := by obtain ⟨A, c, e, h1, h2⟩ := h; exact ⟨A, c, e, h1, Kd.C_below h2 he⟩
def R05 (F V : Value) : Nat → Value → World → Prop
  | 0, v, _ => v = F
  | 1, v, _ => v = V
  | 2, v, _ => v = .int .i64 0
  | 5, v, _ => v = F
  | 6, v, _ => v = V
  | 7, v, _ => v = .int .i64 3
  | 11, v, _ => v = F
  | 12, v, _ => v = nA 5
  | 13, v, _ => v = nA 6
  | 14, v, _ => v = nA 7
  | 15, v, w => SlR [nV 5, nV 6, nV 7] v w
  | 16, v, w => LiR [nV 5, nV 6, nV 7] v w
  | 17, v, _ => v = .int .i64 5
  | 21, v, _ => v = F
  | 22, v, _ => v = nA 5
  | 23, v, _ => v = nA 256
  | 24, v, w => SlR [nV 5, nV 256] v w
  | 25, v, w => LiR [nV 5, nV 256] v w
  | 26, v, _ => v = .int .i64 3
  | _, v, _ => v = .bool true

theorem R05_mono (F V : Value) : ∀ i v x y, Ext x y → R05 F V i v x → R05 F V i v y := by
  intro i v x y he h
  unfold R05 at h ⊢
  split at h <;> first | exact h | exact SlR.mono he h | exact LiR.mono he h
def n3 (x : Int) : List Value := [.int .u64 x, .slice none 0 0, .slice none 0 0]
theorem flat3 : ∀ (l : List Int) (j i : Nat) (x : Int), l[j]? = some x → i < 3 → (l.flatMap n3)[j * 3 + i]? = (n3 x)[i]?
  | [], j, i, x, h, _ => by simp at h
  | y :: l, 0, i, x, h, hi => by
    have : y = x := by simpa using h
    subst this
    rw [List.flatMap_cons, List.getElem?_append_left (by simp [n3]; omega)]
    simp
  | y :: l, j + 1, i, x, h, hi => by
    have e : (j + 1) * 3 + i = (n3 y).length + (j * 3 + i) := by simp [n3]; omega
    rw [List.flatMap_cons, e, List.getElem?_append_right (by omega), Nat.add_sub_cancel_left]
    exact flat3 l j i x (by simpa using h) hi
/-- A row of numbers made by the text. -/
theorem numsC {w : World} {g : Nat} {c : Array Value} (l : List Int) (h : w.heap[g]? = some (.cells c 32 (0, 0))) (hc : c.toList = l.flatMap n3) (hl : l.length ≤ 1000) : Kd.C k32 w (some ⟨g, 0, none⟩) l.length (l.map nV) := by
  refine ⟨by simp, by omega, fun _ => ⟨_, rfl, fun j p hj => ?_⟩⟩
  have hj' : j < l.length := by have := (List.getElem?_eq_some_iff.1 hj).1; simpa using this
  have hx := List.getElem?_eq_getElem hj'
  have hp : p = nV l[j] := by simp [hj'] at hj; exact hj.symm
  subst hp
  refine ⟨n3 l[j], rfl, k32_mk w (nV l[j]) (Nat.le_refl 0) (Kd.C_nil _ _) (Nat.le_refl 0) (Kd.C_nil _ _), fun i u hi => ?_⟩
  have hi3 : i < 3 := by have := (List.getElem?_eq_some_iff.1 hi).1; simpa [n3] using this
  rw [add_plain]
  show w.cell? ⟨g, j * 3 + i, none⟩ = some u
  rw [blk_cell h, ← Array.getElem?_toList, hc, flat3 l j i _ hx hi3]
  exact hi
theorem partC {w : World} {g : Nat} (h : w.heap[g]? = some (.cells #[.int .i64 0, .int .i64 1, .int .i64 0, .int .i64 0, .int .i64 0, .slice none 0 0] 29 (0, 0))) : Kd.C k29 w (some ⟨g, 0, none⟩) 1 [⟨0, 1, 0, 0, 0, []⟩] := by
  refine ⟨rfl, by decide, fun _ => ⟨_, rfl, fun j p hj => ?_⟩⟩
  cases j with
  | succ j => simp at hj
  | zero =>
    have : p = ⟨0, 1, 0, 0, 0, []⟩ := by simpa using hj.symm
    subst this
    refine ⟨_, rfl, k29_mk w ⟨0, 1, 0, 0, 0, []⟩ (Nat.le_refl 0) (Kd.C_nil _ _), fun i u hi => ?_⟩
    rw [add_plain]
    show w.cell? ⟨g, 0 * 6 + i, none⟩ = some u
    rw [blk_cell h, ← Array.getElem?_toList]
    simpa using hi
set_option maxHeartbeats 4000000 in
set_option maxRecDepth 100000 in
theorem alive_any (w : World) : Calls Try.prog 9 #[] w fun e w' => e = .returned (.bool true) ∧ Below w.heap.size w w' := by
  have hu29 := Try.underlying29
  have hu32 := Try.underlying32
  have HB := Aside0.mk (Below.refl w.heap.size w)
  go_enter Try.func9, Try.ntmps9
  go_wp2_with fail
  refine (Number_any _ _).mono ?_
  rintro e w1 ⟨rfl, hb⟩
  have BP := Aside0.mk (blk_below (blk_alloc (heap_alloc_new w _) _) hb)
  have BF := Aside0.mk (blk_below (box2 _ _ _) hb)
  have HB1 := Aside0.mk (below_step (below_alloc (below_alloc HB.out _) _) hb)
  clear hb
  go_wp2_with fail
  refine (Number_any _ _).mono ?_
  rintro e w2 ⟨rfl, hb⟩
  have BP := Aside0.mk (blk_below BP.out hb)
  have BF := Aside0.mk (blk_below BF.out hb)
  have HB2 := Aside0.mk (below_step HB1.out hb)
  clear hb HB1
  go_wp2_with fail
  refine (List_any [nV 5, nV 6] (by decide) _ _ _ (numsC [5, 6] (heap_alloc_new _ _) rfl (by decide)) (Nat.le_refl _)).mono ?_
  rintro e w3 ⟨A', c', rfl, hc', hr', hb⟩
  have BP := Aside0.mk (blk_below (blk_alloc BP.out _) hb)
  have BF := Aside0.mk (blk_below (blk_alloc BF.out _) hb)
  have HB3 := Aside0.mk (below_step (below_alloc HB2.out _) hb)
  have HC' := Aside0.mk hc'
  have HR' := Aside0.mk hr'
  clear hb HB2 hc' hr'
  go_wp2_with fail
  obtain ⟨w4, hw4⟩ : ∃ w4, w4 = w3.alloc (.cells #[.int .u64 0, .slice none 0 0, .slice A' 2 c'] 32) := ⟨_, rfl⟩
  have BV := Aside0.mk (heap_alloc_new w3 (.cells #[.int .u64 0, .slice none 0 0, .slice A' 2 c'] 32))
  have BP := Aside0.mk (blk_alloc BP.out (.cells #[.int .u64 0, .slice none 0 0, .slice A' 2 c'] 32))
  have BF := Aside0.mk (blk_alloc BF.out (.cells #[.int .u64 0, .slice none 0 0, .slice A' 2 c'] 32))
  have HB4 := Aside0.mk (below_alloc HB3.out (.cells #[.int .u64 0, .slice none 0 0, .slice A' 2 c'] 32))
  have HR4 := Aside0.mk (Kd.C_alloc HR'.out (.cells #[.int .u64 0, .slice none 0 0, .slice A' 2 c'] 32))
  rw [← hw4] at BV BP BF HB4 HR4 ⊢
  clear hw4 HB3 HR'
  have PC := Aside0.mk (partC BP.out)
  obtain ⟨g3, hg3⟩ : ∃ g3, g3 = w3.heap.size := ⟨_, rfl⟩
  rw [← hg3] at BV ⊢
  clear hg3
  have fz : ∀ (j : Nat) (u : Value), (#[Value.int .i64 2, .int .i64 1, .int .i64 2, .int .i64 4, .int .i64 2, .slice (some ⟨w.heap.size, 0, none⟩) 1 1])[j]? = some u → ∀ W, Ext w4 W → W.cell? ⟨w.heap.size + 1, j, none⟩ = some u := fun j u h W he => by
    rw [blk_cell (blk_below BF.out he)]; exact h
  have vz : ∀ (j : Nat) (u : Value), (#[Value.int .u64 0, .slice none 0 0, .slice A' 2 c'])[j]? = some u → ∀ W, Ext w4 W → W.cell? ⟨g3, j, none⟩ = some u := fun j u h W he => by
    rw [blk_cell (blk_below BV.out he)]; exact h
  have FZ := Aside0.mk fz
  have VZ := Aside0.mk vz
  clear fz vz
  refine wp_region_rel 30 Ext (R05 (.agg #[.int .i64 2, .int .i64 1, .int .i64 2, .int .i64 4, .int .i64 2, .slice (some ⟨w.heap.size, 0, none⟩) 1 1]) (.agg #[.int .u64 0, .slice none 0 0, .slice A' 2 c'])) (by kernel_rfl) (by kernel_rfl) (fun _ => Below.refl _ _) (fun _ _ _ h1 h2 => below_step h1 h2) (R05_mono _ _) (below_drew1 (Below.refl _ _)) (fits_all (by kernel_rfl)) (steps_all ?steps) ?done
  case done =>
    intro us W hE hus
    simp only [List.take_succ_cons, List.take_zero, List.drop_succ_cons, List.drop_zero, putsTo, Nat.zero_add, Nat.reduceAdd, Act.put, List.setIfInBounds_toArray, List.set_cons_zero, List.set_cons_succ]
    have e29 : us 29 = .bool true := hus 29 (by decide)
    have HBW := Aside0.mk (below_step HB4.out hE)
    rw [e29]
    clear hus e29 hE
    go_wp2
    go_ret
    exact ⟨rfl, HBW.out⟩
  case steps =>
    refine ⟨fun _ => ?_, ?_⟩
    · intro a W hE hA hR
      have e1 : a.tmps[1]?.getD undef = .pointer (some ⟨w.heap.size + 1, 0, none⟩) := slotEq (hA 1 (free_of (by kernel_rfl)))
      rw [if_pos (wanted_none rfl)]
      have c0 := FZ.out 0 _ rfl W hE
      have c1 := FZ.out 1 _ rfl W hE
      have c2 := FZ.out 2 _ rfl W hE
      have c3 := FZ.out 3 _ rfl W hE
      have c4 := FZ.out 4 _ rfl W hE
      have c5 := FZ.out 5 _ rfl W hE
      exact rel_val (.agg #[.int .i64 2, .int .i64 1, .int .i64 2, .int .i64 4, .int .i64 2, .slice (some ⟨w.heap.size, 0, none⟩) 1 1]) (by go_simp) (Below.refl _ _) rfl
    refine ⟨fun _ => ?_, ?_⟩
    · intro a W hE hA hR
      have e2 : a.tmps[2]?.getD undef = .pointer (some ⟨g3, 0, none⟩) := slotEq (hA 2 (free_of (by kernel_rfl)))
      rw [if_pos (wanted_none rfl)]
      have c0 := VZ.out 0 _ rfl W hE
      have c1 := VZ.out 1 _ rfl W hE
      have c2 := VZ.out 2 _ rfl W hE
      exact rel_val (.agg #[.int .u64 0, .slice none 0 0, .slice A' 2 c']) (by go_simp) (Below.refl _ _) rfl
    refine ⟨fun _ => ?_, ?_⟩
    · intro a W hE hA hR
      have e10 : a.tmps[10]?.getD undef = .agg #[.int .i64 2, .int .i64 1, .int .i64 2, .int .i64 4, .int .i64 2, .slice (some ⟨w.heap.size, 0, none⟩) 1 1] := slotEq (hR ⟨0, .data⟩ (by simp) rfl _ _ rfl rfl)
      have e11 : a.tmps[11]?.getD undef = .agg #[.int .u64 0, .slice none 0 0, .slice A' 2 c'] := slotEq (hR ⟨1, .data⟩ (by simp) rfl _ _ rfl rfl)
      rw [if_pos (wanted_none rfl)]
      refine rel_call Try.func15 (by kernel_rfl) rfl #[.agg #[.int .i64 2, .int .i64 1, .int .i64 2, .int .i64 4, .int .i64 2, .slice (some ⟨w.heap.size, 0, none⟩) 1 1], .agg #[.int .u64 0, .slice none 0 0, .slice A' 2 c']] rfl (by simp [Act.eval, e10, e11]) ?_
      refine (Fits_any f05 (lV [nV 5, nV 6]) _ _ none 0 _ _ W (Kd.C_below PC.out hE) (Nat.le_refl 1) (Kd.C_nil _ _) (Nat.le_refl 0) (Kd.C_below HR4.out hE) HC'.out).mono ?_
      rintro e w' ⟨rfl, hb⟩
      exact ⟨_, rfl, hb, by rw [al1]; rfl⟩
    refine ⟨fun _ => ?_, ?_⟩
    · intro a W hE hA hR
      have e12 : a.tmps[12]?.getD undef = .int .i64 0 := slotEq (hR ⟨2, .data⟩ (by simp) rfl _ _ rfl rfl)
      rw [if_pos (wanted_none rfl)]
      exact rel_val (.bool true) (by go_simp) (Below.refl _ _) rfl
    refine ⟨fun _ => ?_, ?_⟩
    · intro a W hE hA hR
      have e13 : a.tmps[13]?.getD undef = .bool true := slotEq (hR ⟨3, .data⟩ (by simp) rfl _ _ rfl rfl)
      rw [if_pos (wanted_none rfl)]
      exact rel_val (.bool true) (by go_simp) (Below.refl _ _) rfl
    refine ⟨fun _ => ?_, ?_⟩
    · intro a W hE hA hR
      have e1 : a.tmps[1]?.getD undef = .pointer (some ⟨w.heap.size + 1, 0, none⟩) := slotEq (hA 1 (free_of (by kernel_rfl)))
      rw [if_pos (wanted_some (b := true) rfl rfl (hR ⟨4, .guard⟩ (by simp) rfl _ _ rfl rfl))]
      have c0 := FZ.out 0 _ rfl W hE
      have c1 := FZ.out 1 _ rfl W hE
      have c2 := FZ.out 2 _ rfl W hE
      have c3 := FZ.out 3 _ rfl W hE
      have c4 := FZ.out 4 _ rfl W hE
      have c5 := FZ.out 5 _ rfl W hE
      exact rel_val (.agg #[.int .i64 2, .int .i64 1, .int .i64 2, .int .i64 4, .int .i64 2, .slice (some ⟨w.heap.size, 0, none⟩) 1 1]) (by go_simp) (Below.refl _ _) rfl
    refine ⟨fun _ => ?_, ?_⟩
    · intro a W hE hA hR
      have e2 : a.tmps[2]?.getD undef = .pointer (some ⟨g3, 0, none⟩) := slotEq (hA 2 (free_of (by kernel_rfl)))
      rw [if_pos (wanted_some (b := true) rfl rfl (hR ⟨4, .guard⟩ (by simp) rfl _ _ rfl rfl))]
      have c0 := VZ.out 0 _ rfl W hE
      have c1 := VZ.out 1 _ rfl W hE
      have c2 := VZ.out 2 _ rfl W hE
      exact rel_val (.agg #[.int .u64 0, .slice none 0 0, .slice A' 2 c']) (by go_simp) (Below.refl _ _) rfl
    refine ⟨fun _ => ?_, ?_⟩
    · intro a W hE hA hR
      have e15 : a.tmps[15]?.getD undef = .agg #[.int .i64 2, .int .i64 1, .int .i64 2, .int .i64 4, .int .i64 2, .slice (some ⟨w.heap.size, 0, none⟩) 1 1] := slotEq (hR ⟨5, .data⟩ (by simp) rfl _ _ rfl rfl)
      have e16 : a.tmps[16]?.getD undef = .agg #[.int .u64 0, .slice none 0 0, .slice A' 2 c'] := slotEq (hR ⟨6, .data⟩ (by simp) rfl _ _ rfl rfl)
      rw [if_pos (wanted_some (b := true) rfl rfl (hR ⟨4, .guard⟩ (by simp) rfl _ _ rfl rfl))]
      refine rel_call Try.func16 (by kernel_rfl) rfl #[.agg #[.int .i64 2, .int .i64 1, .int .i64 2, .int .i64 4, .int .i64 2, .slice (some ⟨w.heap.size, 0, none⟩) 1 1], .agg #[.int .u64 0, .slice none 0 0, .slice A' 2 c']] rfl (by simp [Act.eval, e15, e16]) ?_
      refine (Size_any f05 (lV [nV 5, nV 6]) _ _ none 0 _ _ W (Kd.C_below PC.out hE) (Nat.le_refl 1) (Kd.C_nil _ _) (Nat.le_refl 0) (Kd.C_below HR4.out hE) HC'.out).mono ?_
      rintro e w' ⟨rfl, hb⟩
      exact ⟨_, rfl, hb, by rw [al1]; rfl⟩
    refine ⟨fun _ => ?_, ?_⟩
    · intro a W hE hA hR
      have e17 : a.tmps[17]?.getD undef = .int .i64 3 := slotEq (hR ⟨7, .data⟩ (by simp) rfl _ _ rfl rfl)
      rw [if_pos (wanted_some (b := true) rfl rfl (hR ⟨4, .guard⟩ (by simp) rfl _ _ rfl rfl))]
      exact rel_val (.bool true) (by go_simp) (Below.refl _ _) rfl
    refine ⟨fun _ => ?_, ?_⟩
    · intro a W hE hA hR
      have e14 : a.tmps[14]?.getD undef = .bool true := slotEq (hR ⟨4, .data⟩ (by simp) rfl _ _ rfl rfl)
      have e18 : a.tmps[18]?.getD undef = .bool true := slotEq (hR ⟨8, .data⟩ (by simp) rfl _ _ rfl rfl)
      rw [if_pos (wanted_none rfl)]
      exact rel_val (.bool true) (by go_simp) (Below.refl _ _) rfl
    refine ⟨fun _ => ?_, ?_⟩
    · intro a W hE hA hR
      have e19 : a.tmps[19]?.getD undef = .bool true := slotEq (hR ⟨9, .data⟩ (by simp) rfl _ _ rfl rfl)
      rw [if_pos (wanted_none rfl)]
      exact rel_val (.bool true) (by go_simp) (Below.refl _ _) rfl
    refine ⟨fun _ => ?_, ?_⟩
    · intro a W hE hA hR
      have e1 : a.tmps[1]?.getD undef = .pointer (some ⟨w.heap.size + 1, 0, none⟩) := slotEq (hA 1 (free_of (by kernel_rfl)))
      rw [if_pos (wanted_some (b := true) rfl rfl (hR ⟨10, .guard⟩ (by simp) rfl _ _ rfl rfl))]
      have c0 := FZ.out 0 _ rfl W hE
      have c1 := FZ.out 1 _ rfl W hE
      have c2 := FZ.out 2 _ rfl W hE
      have c3 := FZ.out 3 _ rfl W hE
      have c4 := FZ.out 4 _ rfl W hE
      have c5 := FZ.out 5 _ rfl W hE
      exact rel_val (.agg #[.int .i64 2, .int .i64 1, .int .i64 2, .int .i64 4, .int .i64 2, .slice (some ⟨w.heap.size, 0, none⟩) 1 1]) (by go_simp) (Below.refl _ _) rfl
    refine ⟨fun _ => ?_, ?_⟩
    · intro a W hE hA hR
      rw [if_pos (wanted_some (b := true) rfl rfl (hR ⟨10, .guard⟩ (by simp) rfl _ _ rfl rfl))]
      refine rel_call Try.func12 (by kernel_rfl) rfl #[.int .u64 5] rfl (by simp [Act.eval]) ?_
      refine (Number_any _ _).mono ?_
      rintro e w' ⟨rfl, hb⟩
      exact ⟨_, rfl, hb, rfl⟩
    refine ⟨fun _ => ?_, ?_⟩
    · intro a W hE hA hR
      rw [if_pos (wanted_some (b := true) rfl rfl (hR ⟨10, .guard⟩ (by simp) rfl _ _ rfl rfl))]
      refine rel_call Try.func12 (by kernel_rfl) rfl #[.int .u64 6] rfl (by simp [Act.eval]) ?_
      refine (Number_any _ _).mono ?_
      rintro e w' ⟨rfl, hb⟩
      exact ⟨_, rfl, hb, rfl⟩
    refine ⟨fun _ => ?_, ?_⟩
    · intro a W hE hA hR
      rw [if_pos (wanted_some (b := true) rfl rfl (hR ⟨10, .guard⟩ (by simp) rfl _ _ rfl rfl))]
      refine rel_call Try.func12 (by kernel_rfl) rfl #[.int .u64 7] rfl (by simp [Act.eval]) ?_
      refine (Number_any _ _).mono ?_
      rintro e w' ⟨rfl, hb⟩
      exact ⟨_, rfl, hb, rfl⟩
    refine ⟨fun _ => ?_, ?_⟩
    · intro a W hE hA hR
      have e22 : a.tmps[22]?.getD undef = .agg #[.int .u64 5, .slice none 0 0, .slice none 0 0] := slotEq (hR ⟨12, .data⟩ (by simp) rfl _ _ rfl rfl)
      have e23 : a.tmps[23]?.getD undef = .agg #[.int .u64 6, .slice none 0 0, .slice none 0 0] := slotEq (hR ⟨13, .data⟩ (by simp) rfl _ _ rfl rfl)
      have e24 : a.tmps[24]?.getD undef = .agg #[.int .u64 7, .slice none 0 0, .slice none 0 0] := slotEq (hR ⟨14, .data⟩ (by simp) rfl _ _ rfl rfl)
      rw [if_pos (wanted_some (b := true) rfl rfl (hR ⟨10, .guard⟩ (by simp) rfl _ _ rfl rfl))]
      refine rel_val (.slice (some ⟨W.heap.size, 0, none⟩) 3 3) (by go_simp; try rfl) (below_alloc (Below.refl _ _) _) ⟨_, _, rfl, Nat.le_refl _, numsC [5, 6, 7] (heap_alloc_new _ _) rfl (by decide)⟩
    refine ⟨fun _ => ?_, ?_⟩
    · intro a W hE hA hR
      have e25 := hR ⟨15, .data⟩ (by simp) rfl _ _ rfl rfl
      rw [if_pos (wanted_some (b := true) rfl rfl (hR ⟨10, .guard⟩ (by simp) rfl _ _ rfl rfl))]
      obtain ⟨A2, c2, he2, hl2, hr2⟩ := e25
      replace he2 := slotEq he2
      refine rel_call Try.func14 (by kernel_rfl) rfl #[.slice A2 3 c2] rfl (by simp [Act.eval, he2]) ?_
      refine (List_any [nV 5, nV 6, nV 7] (by decide) _ _ _ hr2 hl2).mono ?_
      rintro e w' ⟨A3, c3, rfl, h3, hr3, hb⟩
      exact ⟨_, rfl, hb, _, _, rfl, h3, hr3⟩
    refine ⟨fun _ => ?_, ?_⟩
    · intro a W hE hA hR
      have e21 : a.tmps[21]?.getD undef = .agg #[.int .i64 2, .int .i64 1, .int .i64 2, .int .i64 4, .int .i64 2, .slice (some ⟨w.heap.size, 0, none⟩) 1 1] := slotEq (hR ⟨11, .data⟩ (by simp) rfl _ _ rfl rfl)
      have e26 := hR ⟨16, .data⟩ (by simp) rfl _ _ rfl rfl
      rw [if_pos (wanted_some (b := true) rfl rfl (hR ⟨10, .guard⟩ (by simp) rfl _ _ rfl rfl))]
      obtain ⟨A2, c2, he2, hl2, hr2⟩ := e26
      replace he2 := slotEq he2
      refine rel_call Try.func15 (by kernel_rfl) rfl #[.agg #[.int .i64 2, .int .i64 1, .int .i64 2, .int .i64 4, .int .i64 2, .slice (some ⟨w.heap.size, 0, none⟩) 1 1], .agg #[.int .u64 0, .slice none 0 0, .slice A2 3 c2]] rfl (by simp [Act.eval, e21, he2]) ?_
      refine (Fits_any f05 (lV [nV 5, nV 6, nV 7]) _ _ none 0 _ _ W (Kd.C_below PC.out hE) (Nat.le_refl 1) (Kd.C_nil _ _) (Nat.le_refl 0) hr2 hl2).mono ?_
      rintro e w' ⟨rfl, hb⟩
      exact ⟨_, rfl, hb, by rw [al2]; rfl⟩
    refine ⟨fun _ => ?_, ?_⟩
    · intro a W hE hA hR
      have e27 : a.tmps[27]?.getD undef = .int .i64 5 := slotEq (hR ⟨17, .data⟩ (by simp) rfl _ _ rfl rfl)
      rw [if_pos (wanted_some (b := true) rfl rfl (hR ⟨10, .guard⟩ (by simp) rfl _ _ rfl rfl))]
      exact rel_val (.bool true) (by go_simp) (Below.refl _ _) rfl
    refine ⟨fun _ => ?_, ?_⟩
    · intro a W hE hA hR
      have e20 : a.tmps[20]?.getD undef = .bool true := slotEq (hR ⟨10, .data⟩ (by simp) rfl _ _ rfl rfl)
      have e28 : a.tmps[28]?.getD undef = .bool true := slotEq (hR ⟨18, .data⟩ (by simp) rfl _ _ rfl rfl)
      rw [if_pos (wanted_none rfl)]
      exact rel_val (.bool true) (by go_simp) (Below.refl _ _) rfl
    refine ⟨fun _ => ?_, ?_⟩
    · intro a W hE hA hR
      have e29 : a.tmps[29]?.getD undef = .bool true := slotEq (hR ⟨19, .data⟩ (by simp) rfl _ _ rfl rfl)
      rw [if_pos (wanted_none rfl)]
      exact rel_val (.bool true) (by go_simp) (Below.refl _ _) rfl
    refine ⟨fun _ => ?_, ?_⟩
    · intro a W hE hA hR
      have e1 : a.tmps[1]?.getD undef = .pointer (some ⟨w.heap.size + 1, 0, none⟩) := slotEq (hA 1 (free_of (by kernel_rfl)))
      rw [if_pos (wanted_some (b := true) rfl rfl (hR ⟨20, .guard⟩ (by simp) rfl _ _ rfl rfl))]
      have c0 := FZ.out 0 _ rfl W hE
      have c1 := FZ.out 1 _ rfl W hE
      have c2 := FZ.out 2 _ rfl W hE
      have c3 := FZ.out 3 _ rfl W hE
      have c4 := FZ.out 4 _ rfl W hE
      have c5 := FZ.out 5 _ rfl W hE
      exact rel_val (.agg #[.int .i64 2, .int .i64 1, .int .i64 2, .int .i64 4, .int .i64 2, .slice (some ⟨w.heap.size, 0, none⟩) 1 1]) (by go_simp) (Below.refl _ _) rfl
    refine ⟨fun _ => ?_, ?_⟩
    · intro a W hE hA hR
      rw [if_pos (wanted_some (b := true) rfl rfl (hR ⟨20, .guard⟩ (by simp) rfl _ _ rfl rfl))]
      refine rel_call Try.func12 (by kernel_rfl) rfl #[.int .u64 5] rfl (by simp [Act.eval]) ?_
      refine (Number_any _ _).mono ?_
      rintro e w' ⟨rfl, hb⟩
      exact ⟨_, rfl, hb, rfl⟩
    refine ⟨fun _ => ?_, ?_⟩
    · intro a W hE hA hR
      rw [if_pos (wanted_some (b := true) rfl rfl (hR ⟨20, .guard⟩ (by simp) rfl _ _ rfl rfl))]
      refine rel_call Try.func12 (by kernel_rfl) rfl #[.int .u64 256] rfl (by simp [Act.eval]) ?_
      refine (Number_any _ _).mono ?_
      rintro e w' ⟨rfl, hb⟩
      exact ⟨_, rfl, hb, rfl⟩
    refine ⟨fun _ => ?_, ?_⟩
    · intro a W hE hA hR
      have e32 : a.tmps[32]?.getD undef = .agg #[.int .u64 5, .slice none 0 0, .slice none 0 0] := slotEq (hR ⟨22, .data⟩ (by simp) rfl _ _ rfl rfl)
      have e33 : a.tmps[33]?.getD undef = .agg #[.int .u64 256, .slice none 0 0, .slice none 0 0] := slotEq (hR ⟨23, .data⟩ (by simp) rfl _ _ rfl rfl)
      rw [if_pos (wanted_some (b := true) rfl rfl (hR ⟨20, .guard⟩ (by simp) rfl _ _ rfl rfl))]
      refine rel_val (.slice (some ⟨W.heap.size, 0, none⟩) 2 2) (by go_simp; try rfl) (below_alloc (Below.refl _ _) _) ⟨_, _, rfl, Nat.le_refl _, numsC [5, 256] (heap_alloc_new _ _) rfl (by decide)⟩
    refine ⟨fun _ => ?_, ?_⟩
    · intro a W hE hA hR
      have e34 := hR ⟨24, .data⟩ (by simp) rfl _ _ rfl rfl
      rw [if_pos (wanted_some (b := true) rfl rfl (hR ⟨20, .guard⟩ (by simp) rfl _ _ rfl rfl))]
      obtain ⟨A2, c2, he2, hl2, hr2⟩ := e34
      replace he2 := slotEq he2
      refine rel_call Try.func14 (by kernel_rfl) rfl #[.slice A2 2 c2] rfl (by simp [Act.eval, he2]) ?_
      refine (List_any [nV 5, nV 256] (by decide) _ _ _ hr2 hl2).mono ?_
      rintro e w' ⟨A3, c3, rfl, h3, hr3, hb⟩
      exact ⟨_, rfl, hb, _, _, rfl, h3, hr3⟩
    refine ⟨fun _ => ?_, ?_⟩
    · intro a W hE hA hR
      have e31 : a.tmps[31]?.getD undef = .agg #[.int .i64 2, .int .i64 1, .int .i64 2, .int .i64 4, .int .i64 2, .slice (some ⟨w.heap.size, 0, none⟩) 1 1] := slotEq (hR ⟨21, .data⟩ (by simp) rfl _ _ rfl rfl)
      have e35 := hR ⟨25, .data⟩ (by simp) rfl _ _ rfl rfl
      rw [if_pos (wanted_some (b := true) rfl rfl (hR ⟨20, .guard⟩ (by simp) rfl _ _ rfl rfl))]
      obtain ⟨A2, c2, he2, hl2, hr2⟩ := e35
      replace he2 := slotEq he2
      refine rel_call Try.func15 (by kernel_rfl) rfl #[.agg #[.int .i64 2, .int .i64 1, .int .i64 2, .int .i64 4, .int .i64 2, .slice (some ⟨w.heap.size, 0, none⟩) 1 1], .agg #[.int .u64 0, .slice none 0 0, .slice A2 2 c2]] rfl (by simp [Act.eval, e31, he2]) ?_
      refine (Fits_any f05 (lV [nV 5, nV 256]) _ _ none 0 _ _ W (Kd.C_below PC.out hE) (Nat.le_refl 1) (Kd.C_nil _ _) (Nat.le_refl 0) hr2 hl2).mono ?_
      rintro e w' ⟨rfl, hb⟩
      exact ⟨_, rfl, hb, by rw [al3]; rfl⟩
    refine ⟨fun _ => ?_, ?_⟩
    · intro a W hE hA hR
      have e36 : a.tmps[36]?.getD undef = .int .i64 3 := slotEq (hR ⟨26, .data⟩ (by simp) rfl _ _ rfl rfl)
      rw [if_pos (wanted_some (b := true) rfl rfl (hR ⟨20, .guard⟩ (by simp) rfl _ _ rfl rfl))]
      exact rel_val (.bool true) (by go_simp) (Below.refl _ _) rfl
    refine ⟨fun _ => ?_, ?_⟩
    · intro a W hE hA hR
      have e30 : a.tmps[30]?.getD undef = .bool true := slotEq (hR ⟨20, .data⟩ (by simp) rfl _ _ rfl rfl)
      have e37 : a.tmps[37]?.getD undef = .bool true := slotEq (hR ⟨27, .data⟩ (by simp) rfl _ _ rfl rfl)
      rw [if_pos (wanted_none rfl)]
      exact rel_val (.bool true) (by go_simp) (Below.refl _ _) rfl
    refine ⟨fun _ => ?_, ?_⟩
    · intro a W hE hA hR
      have e38 : a.tmps[38]?.getD undef = .bool true := slotEq (hR ⟨28, .data⟩ (by simp) rfl _ _ rfl rfl)
      rw [if_pos (wanted_none rfl)]
      exact rel_val (.bool true) (by go_simp) (Below.refl _ _) rfl
    trivial
end Go.Proofs.Ythmcbcofipehhaa.B
