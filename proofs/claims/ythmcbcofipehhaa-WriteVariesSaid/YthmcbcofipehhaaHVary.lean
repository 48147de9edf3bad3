import Derived.Test.YthmcbcofipehhaaHMk
import Derived.Test.YthmcbcofipehhaaHFit
import Derived.Test.YthmcbcofipehhaaHOpen
import Derived.Test.YthmcbcofipehhaaHBld
import Derived.Test.YthmcbcofipehhaaHPure5
namespace Go.Proofs.Ythmcbcofipehhaa.B
open Go.RowKit Go.Proofs.YthmcbcofipehhaaW.PrintWords Go.Proofs.YthmcbcofipehhaaW.PrintLast Go.Proofs.YthmcbcofipehhaaW.PrintMore
set_option linter.unusedVariables false
set_option linter.unusedSimpArgs false
/-! ### another value in a place -/
def putT (v : S32) (i : Int) (y : S32) : S32 := ⟨v.f0, v.f1, v.f2.set i.toNat y⟩
def varT (x : S32) : S32 → List Int → Option S32
  | _, [] => some x
  | v, i :: p => if i < 0 then none else if (v.f2.length : Int) ≤ i then none else (varT x (rd_T32 v.f2 i) p).map (putT v i)
theorem rd32_at {xs : List S32} {i : Int} (h0 : 0 ≤ i) (h1 : i < xs.length) : xs[i.toNat]? = some (rd_T32 xs i) := by
  unfold rd_T32
  have h : i.toNat < xs.length := by omega
  rw [List.getD_eq_getElem?_getD, List.getElem?_eq_getElem h]
  rfl
/-- The cells of a block with three turned. -/
def set3 (cs : Array Value) (o : Nat) (a b c : Value) : Array Value := ((cs.setIfInBounds o a).setIfInBounds (o + 1) b).setIfInBounds (o + 2) c
/-- Whatever value is laid in the place (ga, oa), the one at the head of block gt is then 'plug' of it. -/
def Spine (w w' : World) (gt ga oa : Nat) (plug : S32 → S32) : Prop :=
  ∀ (W : World) (y : S32) (c0 c1 c2 : Value), Below w.heap.size w W → w'.heap.size ≤ W.heap.size → (∀ k, gt ≤ k → k < w'.heap.size → k ≠ ga → W.heap[k]? = w'.heap[k]?) →
    (∀ cur, w'.heap[ga]? = some (.cells cur 32 (0, 0)) → W.heap[ga]? = some (.cells (set3 cur oa c0 c1 c2) 32 (0, 0))) → k32.K W y [c0, c1, c2] →
    ∃ d0 d1 d2, W.cell? ⟨gt, 0, none⟩ = some d0 ∧ W.cell? ⟨gt, 1, none⟩ = some d1 ∧ W.cell? ⟨gt, 2, none⟩ = some d2 ∧ k32.K W (plug y) [d0, d1, d2]
theorem spine_top {w w' : World} {gt : Nat} {a b c : Value} (h : w'.heap[gt]? = some (.cells #[a, b, c] 32 (0, 0))) : Spine w w' gt gt 0 id := by
  intro W y c0 c1 c2 hb hs hk hg hK
  have e := hg _ h
  have e2 : set3 #[a, b, c] 0 c0 c1 c2 = #[c0, c1, c2] := rfl
  rw [e2] at e
  exact ⟨c0, c1, c2, (blk_cell e 0).trans rfl, (blk_cell e 1).trans rfl, (blk_cell e 2).trans rfl, hK⟩
theorem set3_get (cs : Array Value) (o : Nat) (a b c : Value) (j : Nat) (hj : j < o ∨ o + 2 < j) : (set3 cs o a b c)[j]? = cs[j]? := by
  unfold set3
  rw [Array.getElem?_setIfInBounds_ne (by omega), Array.getElem?_setIfInBounds_ne (by omega), Array.getElem?_setIfInBounds_ne (by omega)]
theorem set3_at (cs : Array Value) (o : Nat) (a b c : Value) (h : o + 2 < cs.size) : (set3 cs o a b c)[o]? = some a ∧ (set3 cs o a b c)[o + 1]? = some b ∧ (set3 cs o a b c)[o + 2]? = some c := by
  unfold set3
  refine ⟨?_, ?_, ?_⟩
  · rw [Array.getElem?_setIfInBounds_ne (by omega), Array.getElem?_setIfInBounds_ne (by omega)]
    exact Array.getElem?_setIfInBounds_self_of_lt (by omega)
  · rw [Array.getElem?_setIfInBounds_ne (by omega)]
    exact Array.getElem?_setIfInBounds_self_of_lt (by rw [Array.size_setIfInBounds]; omega)
  · exact Array.getElem?_setIfInBounds_self_of_lt (by rw [Array.size_setIfInBounds, Array.size_setIfInBounds]; omega)
/-- A row of values told by raw cells, one of which is turned. -/
theorem row_turned {w W : World} {gn n i : Nat} {xs : List S32} {ts : List (Value × Value × Value)} {cur : Array Value} {y : S32} {c0 c1 c2 : Value} (hn : n = xs.length) (hm : n ≤ 9223372036854775807) (hb : Below w.heap.size w W) (hk : AtRaw w xs ts)
    (hc : ∀ (j : Nat) (t : Value × Value × Value), ts[j]? = some t → cur[j * 3]? = some t.1 ∧ cur[j * 3 + 1]? = some t.2.1 ∧ cur[j * 3 + 2]? = some t.2.2) (hi : i < n) (hg : W.heap[gn]? = some (.cells (set3 cur (i * 3) c0 c1 c2) 32 (0, 0))) (hK : k32.K W y [c0, c1, c2]) :
    Kd.C k32 W (some ⟨gn, 0, none⟩) n (xs.set i y) := by
  subst hn
  refine ⟨by simp, hm, fun _ => ⟨_, rfl, fun j p hp => ?_⟩⟩
  have hj : j < xs.length := by have := (List.getElem?_eq_some_iff.1 hp).1; simpa using this
  have hts : i < ts.length := by rw [hk.1]; exact hi
  have hcur := hc i _ (List.getElem?_eq_getElem hts)
  have hsz : i * 3 + 2 < cur.size := by have := (Array.getElem?_eq_some_iff.1 hcur.2.2).1; exact this
  by_cases hji : j = i
  · subst hji
    have : p = y := by simpa [hj] using hp.symm
    subst this
    obtain ⟨a0, a1, a2⟩ := set3_at cur (j * 3) c0 c1 c2 hsz
    refine ⟨[c0, c1, c2], rfl, hK, fun q u hu => ?_⟩
    have hq : q < 3 := by have := (List.getElem?_eq_some_iff.1 hu).1; simpa using this
    rw [add_plain]
    show W.cell? ⟨gn, j * 3 + q, none⟩ = some u
    rw [blk_cell hg]
    rcases q with _ | _ | _ | q
    · rw [← hu]; exact a0
    · rw [← hu]; exact a1
    · rw [← hu]; exact a2
    · omega
  · rw [List.getElem?_set_ne (fun h => hji h.symm)] at hp
    have htj : j < ts.length := by rw [hk.1]; exact hj
    obtain ⟨t0, t1, t2⟩ := hc j _ (List.getElem?_eq_getElem htj)
    have hKj := hk.2 j p _ hp (List.getElem?_eq_getElem htj)
    refine ⟨_, rfl, k32_heap.K (fun k hk' => hb.block k hk') hKj, fun q u hu => ?_⟩
    have hq : q < 3 := by have := (List.getElem?_eq_some_iff.1 hu).1; simpa using this
    rw [add_plain]
    show W.cell? ⟨gn, j * 3 + q, none⟩ = some u
    rw [blk_cell hg, set3_get _ _ _ _ _ _ (by omega)]
    rcases q with _ | _ | _ | q
    · rw [← hu]; exact t0
    · rw [← hu]; exact t1
    · rw [← hu]; exact t2
    · omega
/-- The raw cells of a row of one's own. -/
theorem raw_cells {w' : World} {base gn n cap : Nat} {ok : Nat → Prop} {ts : List (Value × Value × Value)} (h : Kd.R raw3 32 w' base ok (.slice (some ⟨gn, 0, none⟩) n cap) ts) :
    ∃ cur : Array Value, w'.heap[gn]? = some (.cells cur 32 (0, 0)) ∧ ∀ (j : Nat) (t : Value × Value × Value), ts[j]? = some t → cur[j * 3]? = some t.1 ∧ cur[j * 3 + 1]? = some t.2.1 ∧ cur[j * 3 + 2]? = some t.2.2 := by
  obtain ⟨inner, ho⟩ := Kd.R_own h
  obtain ⟨cur, hc⟩ := own_typed ho gn rfl
  refine ⟨cur, hc, fun j t ht => ?_⟩
  obtain ⟨_, _, hC⟩ := Kd.R_reads' h
  obtain ⟨ad, e, hcell⟩ := hC.2.2 (by have := (List.getElem?_eq_some_iff.1 ht).1; omega)
  cases e
  obtain ⟨c, hcl, hr, hcc⟩ := hcell j t ht
  have hr' : c = [t.1, t.2.1, t.2.2] := hr.1
  subst hr'
  have g := fun i u hu => by have := hcc i u hu; rwa [add_plain, blk_cell hc] at this
  exact ⟨g 0 t.1 rfl, g 1 t.2.1 rfl, g 2 t.2.2 rfl⟩
/-- One place further in. -/
theorem spine_step {w w' w1 : World} {gt ga oa gn n cap : Nat} {plug : S32 → S32} {u : S32} {i : Int} {a1 : Value} {cur : Array Value} {ts : List (Value × Value × Value)} (hw : w.heap.size ≤ w'.heap.size) (h : Spine w w' gt ga oa plug) (hB : Below w'.heap.size w' w1) (hgn : w'.heap.size ≤ gn) (hga : gt ≤ ga)
    (hcur : w'.heap[ga]? = some (.cells cur 32 (0, 0))) (h0 : cur[oa]? = some (.int .u64 u.f0)) (h1 : cur[oa + 1]? = some a1) (h2 : oa + 2 < cur.size) (hu1 : ∃ A1 c1, a1 = .slice A1 u.f1.length c1 ∧ u.f1.length ≤ c1 ∧ (Kd.int .u8).C w A1 u.f1.length u.f1)
    (hn : n = u.f2.length) (hnc : n ≤ cap) (hm : n ≤ 9223372036854775807) (hk : AtRaw w u.f2 ts) (hR : Kd.R raw3 32 w1 w'.heap.size (fun k => w'.heap.size ≤ k) (.slice (some ⟨gn, 0, none⟩) n cap) ts) (i0 : 0 ≤ i) (i1 : i < u.f2.length) :
    Spine w (w1.setCell ⟨ga, oa + 2, none⟩ (.slice (some ⟨gn, 0, none⟩) n cap)) gt gn (i.toNat * 3) (fun y => plug (putT u i y)) := by
  intro W y c0 c1 c2 hb hs hkk hg hK
  obtain ⟨curN, hcN, hcells⟩ := raw_cells hR
  have hgan : gn ≠ ga := fun e => by have := blk_lt hcur; omega
  have hs1 : (w1.setCell ⟨ga, oa + 2, none⟩ (.slice (some ⟨gn, 0, none⟩) n cap)).heap.size = w1.heap.size := by simp [World.setCell]
  rw [hs1] at hs hkk
  have hgl := blk_lt hcur
  have hgnl := blk_lt hcN
  have hN2 : (w1.setCell ⟨ga, oa + 2, none⟩ (.slice (some ⟨gn, 0, none⟩) n cap)).heap[gn]? = some (.cells curN 32 (0, 0)) := blk_far hcN hgan _
  have hWN := hg _ hN2
  have hW1 : w1.heap[ga]? = some (.cells cur 32 (0, 0)) := blk_below hcur hB
  have hWga : W.heap[ga]? = some (.cells (cur.setIfInBounds (oa + 2) (.slice (some ⟨gn, 0, none⟩) n cap)) 32 (0, 0)) :=
    (hkk ga hga (by have := hB.size; omega) (fun e => hgan e.symm)).trans (blk_set hW1 _ _)
  obtain ⟨A1, k1, rfl, hl1, hc1⟩ := hu1
  refine h W (putT u i y) (.int .u64 u.f0) (.slice A1 u.f1.length k1) (.slice (some ⟨gn, 0, none⟩) n cap) hb (by have := hB.size; omega) (fun k k0 k1 k2 => ?_) (fun cur' hc' => ?_) ?_
  · have e1 : k ≠ gn := by omega
    rw [hkk k k0 (by have := hB.size; omega) e1]
    exact (Below.heap_setCell w1 ⟨ga, oa + 2, none⟩ _ k k2).trans (hB.block k k1)
  · have : cur' = cur := by rw [hcur] at hc'; injection hc' with hc'; injection hc' with hc'; exact hc'.symm
    subst this
    rw [hWga]
    congr 2
    unfold set3
    apply Array.ext_getElem?
    intro j
    by_cases e2 : j = oa + 2
    · subst e2
      rw [Array.getElem?_setIfInBounds_self_of_lt h2, Array.getElem?_setIfInBounds_self_of_lt (by rw [Array.size_setIfInBounds, Array.size_setIfInBounds]; omega)]
    · rw [Array.getElem?_setIfInBounds_ne (fun e => e2 e.symm), Array.getElem?_setIfInBounds_ne (fun e => e2 e.symm)]
      by_cases e1 : j = oa + 1
      · subst e1
        rw [Array.getElem?_setIfInBounds_self_of_lt (by rw [Array.size_setIfInBounds]; omega)]
        exact h1
      · rw [Array.getElem?_setIfInBounds_ne (fun e => e1 e.symm)]
        by_cases e0 : j = oa
        · subst e0
          rw [Array.getElem?_setIfInBounds_self_of_lt (by omega)]
          exact h0
        · rw [Array.getElem?_setIfInBounds_ne (fun e => e0 e.symm)]
  · have hC2 := row_turned (i := i.toNat) hn hm hb hk hcells (by omega) hWN hK
    have hl : (putT u i y).f2.length = n := by simp [putT, hn]
    have := k32_mk W (putT u i y) (A1 := A1) (c1 := k1) hl1 (Kd.C_below hc1 hb) (A2 := some ⟨gn, 0, none⟩) (c2 := cap) (by rw [hl]; exact hnc) (by rw [hl]; exact hC2)
    rw [hl] at this
    exact this
theorem szL_mem : ∀ {l : List S32} {x : S32}, x ∈ l → szT x ≤ szL l
  | y :: l, x, h => by
    rw [szL]
    rcases List.mem_cons.1 h with rfl | h
    · omega
    · have := szL_mem h; omega
theorem szT_pos (x : S32) : 1 ≤ szT x := by obtain ⟨a, b, l⟩ := x; rw [szT]; omega
theorem szL_len : ∀ l : List S32, l.length ≤ szL l
  | [] => by simp
  | y :: l => by have := szL_len l; have := szT_pos y; rw [szL, List.length_cons]; omega
theorem szT_f2 (x : S32) : szT x = 1 + szL x.f2 := by obtain ⟨a, b, l⟩ := x; rw [szT]
theorem fiveB (w : World) (o0 o1 o2 o3 o4 : Obj) : ∃ W, W = ((((w.alloc o0).alloc o1).alloc o2).alloc o3).alloc o4 ∧ W.heap[w.heap.size]? = some o0 ∧ W.heap[w.heap.size + 1]? = some o1 ∧ W.heap[w.heap.size + 1 + 1]? = some o2 ∧ W.heap[w.heap.size + 1 + 1 + 1]? = some o3 ∧ W.heap[w.heap.size + 1 + 1 + 1 + 1]? = some o4 ∧ Below w.heap.size w W := by
  have s1 : (w.alloc o0).heap.size = w.heap.size + 1 := World.size_alloc _ _
  have s2 : ((w.alloc o0).alloc o1).heap.size = w.heap.size + 1 + 1 := by rw [World.size_alloc, s1]
  have s3 : (((w.alloc o0).alloc o1).alloc o2).heap.size = w.heap.size + 1 + 1 + 1 := by rw [World.size_alloc, s2]
  have s4 : ((((w.alloc o0).alloc o1).alloc o2).alloc o3).heap.size = w.heap.size + 1 + 1 + 1 + 1 := by rw [World.size_alloc, s3]
  exact ⟨_, rfl, blk_alloc (blk_alloc (blk_alloc (blk_alloc (heap_alloc_new w o0) _) _) _) _, blk_alloc (blk_alloc (blk_alloc (s1 ▸ heap_alloc_new (w.alloc o0) o1) _) _) _, blk_alloc (blk_alloc (s2 ▸ heap_alloc_new ((w.alloc o0).alloc o1) o2) _) _, blk_alloc (s3 ▸ heap_alloc_new (((w.alloc o0).alloc o1).alloc o2) o3) _, s4 ▸ heap_alloc_new ((((w.alloc o0).alloc o1).alloc o2).alloc o3) o4,
    below_alloc (below_alloc (below_alloc (below_alloc (below_alloc (Below.refl _ _) _) _) _) _) _⟩
theorem str_size (a : List Int) : (strOfNums a).size = a.length := by simp [strOfNums, ByteArray.size]
theorem str_append (a b : List Int) : strOfNums (a ++ b) = strOfNums a ++ strOfNums b := by
  apply ByteArray.ext
  simp [strOfNums]
theorem dropI {p : List Int} {k : Int} (h0 : 0 ≤ k) (h1 : k < p.length) : p.drop k.toNat = rd p k :: p.drop (k + 1).toNat := by
  have h : k.toNat < p.length := by omega
  have e : (k + 1).toNat = k.toNat + 1 := by omega
  unfold rd
  simp [List.getD_eq_getElem?_getD, List.getElem?_eq_getElem h, e]
theorem at_int {kd : IntKind} {w : World} {A : Option Addr} {xs : List Int} (h : (Kd.int kd).C w A xs.length xs) (i : Int) (h0 : 0 ≤ i) (h1 : i < xs.length) : ∃ ad, A = some ad ∧ w.cell? (ad.add i.toNat) = some (.int kd (rd xs i)) := by
  obtain ⟨ad, c, e, hl, hr, hc⟩ := h.get_ 0 i h0 (by omega)
  have hr' : c = [.int kd (xs.getD i.toNat 0)] := hr
  subst hr'
  refine ⟨ad, e, ?_⟩
  have := hc 0 _ rfl
  simpa [Kd.int, Kd.scalar, rd] using this
theorem blk3 {w : World} {g : Nat} {t : TypeId} {a0 a1 a2 : Value} (h : w.heap[g]? = some (.cells #[a0, a1, a2] t (0, 0))) (b0 b1 b2 : Value) : (w3 w g b0 b1 b2).heap[g]? = some (.cells #[b0, b1, b2] t (0, 0)) := by
  have h0 := blk_put (cs' := #[b0, a1, a2]) h 0 b0 rfl
  have h1 := blk_put (cs' := #[b0, b1, a2]) h0 1 b1 rfl
  exact blk_put (cs' := #[b0, b1, b2]) h1 2 b2 rfl
/-- A value and no error, or no value and why. -/
def GivesV (o : Option S32) (w : World) (e : Ending) (w' : World) : Prop :=
  (∃ (C1 : Option Addr) (f1 : Nat) (C2 : Option Addr) (f2 : Nat) (y : S32), y = o.getD ⟨0, [], []⟩ ∧ e = .returned (.tuple #[.agg #[.int .u64 y.f0, .slice C1 y.f1.length f1, .slice C2 y.f2.length f2], .int .i64 (if o.isSome then 0 else 3)]) ∧
    Kd.C (Kd.int .u8) w' C1 y.f1.length y.f1 ∧ y.f1.length ≤ f1 ∧ Kd.C k32 w' C2 y.f2.length y.f2 ∧ y.f2.length ≤ f2) ∧ Below w.heap.size w w'
theorem GivesV.none_ {o : Option S32} {w w' : World} {e : Ending} (ho : o = none) (he : e = .returned (.tuple #[.agg #[.int .u64 0, .slice none 0 0, .slice none 0 0], .int .i64 3])) (hb : Below w.heap.size w w') : GivesV o w e w' := by
  subst ho
  exact ⟨⟨none, 0, none, 0, ⟨0, [], []⟩, rfl, he, Kd.C_nil _ _, Nat.le_refl _, Kd.C_nil _ _, Nat.le_refl _⟩, hb⟩
theorem GivesV.some_ {o : Option S32} {w w' : World} {e : Ending} {y : S32} {C1 C2 : Option Addr} {f1 f2 : Nat} (ho : o = some y) (he : e = .returned (.tuple #[.agg #[.int .u64 y.f0, .slice C1 y.f1.length f1, .slice C2 y.f2.length f2], .int .i64 0]))
    (h1 : Kd.C (Kd.int .u8) w' C1 y.f1.length y.f1) (l1 : y.f1.length ≤ f1) (h2 : Kd.C k32 w' C2 y.f2.length y.f2) (l2 : y.f2.length ≤ f2) (hb : Below w.heap.size w w') : GivesV o w e w' := by
  subst ho
  exact ⟨⟨C1, f1, C2, f2, y, rfl, he, h1, l1, h2, l2⟩, hb⟩
theorem open_same {W : World} {y : S32} {E1 E2 : Option Addr} {e1 e2 : Nat} (h : k32.K W y [.int .u64 y.f0, .slice E1 y.f1.length e1, .slice E2 y.f2.length e2]) : (Kd.int .u8).C W E1 y.f1.length y.f1 ∧ k32.C W E2 y.f2.length y.f2 := by
  obtain ⟨A1, c1, A2, c2, e, _, h1, _, h2⟩ := k32_open h
  injection e with _ e
  injection e with a1 e
  injection e with a2 _
  injection a1 with a1
  injection a2 with a2
  subst a1 a2
  exact ⟨h1, h2⟩
def w3o (w : World) (g o : Nat) (b0 b1 b2 : Value) : World := ((w.setCell ⟨g, o, none⟩ b0).setCell ⟨g, o + 1, none⟩ b1).setCell ⟨g, o + 2, none⟩ b2
theorem w3_far (w : World) (g : Nat) (b0 b1 b2 : Value) : ∀ k, k ≠ g → (w3 w g b0 b1 b2).heap[k]? = w.heap[k]? := fun kk hk => (Below.heap_setCell _ ⟨g, 2, none⟩ _ kk hk).trans ((Below.heap_setCell _ ⟨g, 1, none⟩ _ kk hk).trans (Below.heap_setCell _ ⟨g, 0, none⟩ _ kk hk))
/-- The last store, and what the head of the spine then tells, whatever is done to a block below it. -/
theorem spine_end {w wr W : World} {n2 n3 ga oa : Nat} {plug : S32 → S32} {cur : Array Value} {x : S32} {B1 B2 : Option Addr} {d1 d2 : Nat} (SP : Spine w wr n3 ga oa plug) (hB : Below w.heap.size w W) (hs : wr.heap.size ≤ W.heap.size) (hfar : ∀ k, k ≠ ga → W.heap[k]? = wr.heap[k]?)
    (hW : W.heap[ga]? = some (.cells (set3 cur oa (.int .u64 x.f0) (.slice B1 x.f1.length d1) (.slice B2 x.f2.length d2)) 32 (0, 0))) (hcur : wr.heap[ga]? = some (.cells cur 32 (0, 0))) (h23 : n2 < n3) (hne : ga ≠ n2)
    (hd1 : x.f1.length ≤ d1) (hs1 : (Kd.int .u8).C w B1 x.f1.length x.f1) (hd2 : x.f2.length ≤ d2) (hs2 : k32.C w B2 x.f2.length x.f2) :
    ∃ (E1 : Option Addr) (e1 : Nat) (E2 : Option Addr) (e2 : Nat), W.cell? ⟨n3, 0, none⟩ = some (.int .u64 (plug x).f0) ∧ W.cell? ⟨n3, 1, none⟩ = some (.slice E1 (plug x).f1.length e1) ∧ W.cell? ⟨n3, 2, none⟩ = some (.slice E2 (plug x).f2.length e2) ∧ (plug x).f1.length ≤ e1 ∧ (plug x).f2.length ≤ e2 ∧
      ∀ V : World, Below w.heap.size w V → W.heap.size ≤ V.heap.size → (∀ k, k ≠ n2 → V.heap[k]? = W.heap[k]?) → (Kd.int .u8).C V E1 (plug x).f1.length (plug x).f1 ∧ k32.C V E2 (plug x).f2.length (plug x).f2 := by
  have hc : ∀ cur', wr.heap[ga]? = some (.cells cur' 32 (0, 0)) → cur' = cur := fun cur' hc' => by
    rw [hcur] at hc'
    injection hc' with hc'
    injection hc' with hc'
    exact hc'.symm
  obtain ⟨D0, D1, D2, h0, h1, h2, hK⟩ := SP W x _ _ _ hB hs (fun k _ _ hk => hfar k hk) (fun cur' hc' => by rw [hc cur' hc']; exact hW) (k32_mk W x hd1 (Kd.C_below hs1 hB) hd2 (Kd.C_below hs2 hB))
  obtain ⟨E1, e1, E2, e2, hte, l1, _, l2, _⟩ := k32_open hK
  injection hte with t0 hte
  injection hte with t1 hte
  injection hte with t2 hte
  rw [t0] at h0
  rw [t1] at h1
  rw [t2] at h2
  refine ⟨E1, e1, E2, e2, h0, h1, h2, l1, l2, fun V hV hsV hfV => ?_⟩
  obtain ⟨D0', D1', D2', h0', h1', h2', hK'⟩ := SP V x _ _ _ hV (Nat.le_trans hs hsV) (fun k hk _ hne' => (hfV k (by omega)).trans (hfar k hne')) (fun cur' hc' => by rw [hc cur' hc', hfV ga hne]; exact hW) (k32_mk V x hd1 (Kd.C_below hs1 hV) hd2 (Kd.C_below hs2 hV))
  have ec : ∀ o, V.cell? ⟨n3, o, none⟩ = W.cell? ⟨n3, o, none⟩ := fun o => World.cell?_of_block (a := ⟨n3, o, none⟩) (hfV n3 (by omega))
  rw [ec, h0] at h0'
  rw [ec, h1] at h1'
  rw [ec, h2] at h2'
  injection h0' with h0'
  injection h1' with h1'
  injection h2' with h2'
  rw [← h0', ← h1', ← h2'] at hK'
  exact open_same hK'
set_option maxHeartbeats 4000000 in
set_option maxRecDepth 100000 in
theorem Vary_any (v : S32) (p : List Int) (x : S32) (hsz : szT v ≤ 1000000000) (A1 : Option Addr) (c1 : Nat) (A2 : Option Addr) (c2 : Nat) (P : Option Addr) (cp : Nat) (B1 : Option Addr) (d1 : Nat) (B2 : Option Addr) (d2 : Nat) (w : World)
    (hr1 : Kd.C (Kd.int .u8) w A1 v.f1.length v.f1) (hc1 : v.f1.length ≤ c1) (hr2 : Kd.C k32 w A2 v.f2.length v.f2) (hc2 : v.f2.length ≤ c2) (hp : Kd.C (Kd.int .i64) w P p.length p) (hcp : p.length ≤ cp) (hs1 : Kd.C (Kd.int .u8) w B1 x.f1.length x.f1) (hd1 : x.f1.length ≤ d1) (hs2 : Kd.C k32 w B2 x.f2.length x.f2) (hd2 : x.f2.length ≤ d2) :
    Calls Try.prog 23 #[.agg #[.int .u64 v.f0, .slice A1 v.f1.length c1, .slice A2 v.f2.length c2], .slice P p.length cp, .agg #[.int .u64 x.f0, .slice B1 x.f1.length d1, .slice B2 x.f2.length d2]] w
      (GivesV (varT x v p) w) := by
  have hu32 := Try.underlying32
  have HR1 := Aside0.mk hr1
  have HC1 := Aside0.mk hc1
  have HR2 := Aside0.mk hr2
  have HC2 := Aside0.mk hc2
  have HP := Aside0.mk hp
  have HCP := Aside0.mk hcp
  have HS1 := Aside0.mk hs1
  have HD1 := Aside0.mk hd1
  have HS2 := Aside0.mk hs2
  have HD2 := Aside0.mk hd2
  have HSZ := Aside0.mk hsz
  have hmxp := Kd.C_max hp
  clear hr1 hc1 hr2 hc2 hp hcp hs1 hd1 hs2 hd2 hsz
  go_enter Try.func23, Try.ntmps23
  go_wp2
  obtain ⟨w5, hw5, b0, b1, b2, b3, b4, b5⟩ := fiveB w (.cells #[.int .u64 v.f0, .slice A1 v.f1.length c1, .slice A2 v.f2.length c2] 32) (.cells #[.int .u64 x.f0, .slice B1 x.f1.length d1, .slice B2 x.f2.length d2] 32)
    (.cells #[.int .u64 0, .slice none 0 0, .slice none 0 0] 32) (.cells #[.int .u64 v.f0, .slice A1 v.f1.length c1, .slice A2 v.f2.length c2] 32) (.cells #[.int .u64 0, .slice none 0 0, .slice (some ⟨w.heap.size + 1 + 1 + 1, 0, none⟩) 1 1] 32)
  rw [← hw5]
  clear hw5
  obtain ⟨n4, hn4⟩ : ∃ n4, n4 = w.heap.size + 1 + 1 + 1 + 1 := ⟨_, rfl⟩
  obtain ⟨n3, hn3⟩ : ∃ n3, n3 = w.heap.size + 1 + 1 + 1 := ⟨_, rfl⟩
  obtain ⟨n2, hn2⟩ : ∃ n2, n2 = w.heap.size + 1 + 1 := ⟨_, rfl⟩
  obtain ⟨n1, hn1⟩ : ∃ n1, n1 = w.heap.size + 1 := ⟨_, rfl⟩
  rw [← hn4, ← hn3] at b4
  rw [← hn3] at b3
  rw [← hn2] at b2
  rw [← hn1] at b1
  rw [← hn4, ← hn3, ← hn2, ← hn1]
  have NN := Aside0.mk (show n1 = w.heap.size + 1 ∧ n2 = n1 + 1 ∧ n3 = n2 + 1 ∧ n4 = n3 + 1 by omega)
  clear hn1 hn2 hn3 hn4 b0
  have X1 := Aside0.mk b1
  have X2 := Aside0.mk b2
  have X3 := Aside0.mk b3
  have X4 := Aside0.mk b4
  have B5 := Aside0.mk b5
  have SP := Aside0.mk (spine_top (w := w) X3.out)
  clear b1 b2 b3 b4 b5
  go_loopg [9, 20] (p.length + 1) (fun kq v9 v20 w' => ∃ (k : Int) (ga oa : Nat), v9 = .pointer (some ⟨ga, oa, none⟩) ∧ v20 = .int .i64 k ∧ 0 ≤ k ∧ k ≤ p.length ∧ Aside0 ((kq : Int) + k = p.length + 1) ∧ Aside0 (ga = n3 ∨ n4 < ga) ∧
    (∃ (u : S32) (plug : S32 → S32) (cur : Array Value) (C1 : Option Addr) (f1 : Nat) (C2 : Option Addr) (f2 : Nat), Aside0 (varT x v p = (varT x u (p.drop k.toNat)).map plug) ∧ Aside0 (szT u ≤ 1000000000) ∧ Aside0 (Spine w w' n3 ga oa plug) ∧ Aside0 (w'.heap[ga]? = some (.cells cur 32 (0, 0))) ∧ Aside0 (oa + 2 < cur.size) ∧
      Aside0 (cur[oa]? = some (.int .u64 u.f0)) ∧ Aside0 (cur[oa + 1]? = some (.slice C1 u.f1.length f1)) ∧ Aside0 (cur[oa + 2]? = some (.slice C2 u.f2.length f2)) ∧ Aside0 (Kd.C (Kd.int .u8) w C1 u.f1.length u.f1) ∧ Aside0 (u.f1.length ≤ f1) ∧ Aside0 (Kd.C k32 w C2 u.f2.length u.f2) ∧ Aside0 (u.f2.length ≤ f2)) ∧
    Aside0 (w'.heap[n1]? = some (.cells #[.int .u64 x.f0, .slice B1 x.f1.length d1, .slice B2 x.f2.length d2] 32 (0, 0))) ∧ Aside0 (w'.heap[n2]? = some (.cells #[.int .u64 0, .slice none 0 0, .slice none 0 0] 32 (0, 0))) ∧ Aside0 (w'.heap[n4]? = some (.cells #[.int .u64 0, .slice none 0 0, .slice (some ⟨n3, 0, none⟩) 1 1] 32 (0, 0))) ∧ Aside0 (Below w.heap.size w w'))
  case atStart => exact ⟨0, n3, 0, rfl, rfl, by omega, by omega, ⟨by omega⟩, ⟨.inl rfl⟩, ⟨v, id, _, A1, c1, A2, c2, ⟨by simp⟩, HSZ, SP, X3, ⟨by simp⟩, ⟨rfl⟩, ⟨rfl⟩, ⟨rfl⟩, HR1, HC1, HR2, HC2⟩, X1, X2, X4, B5⟩
  case round =>
    clear X1 X2 X3 X4 B5 SP
    obtain ⟨k, ga, oa, rfl, rfl, k0, k1, HK, GA, ⟨u, plug, cur, C1, f1, C2, f2, HV, HSU, SP, HCUR, HSZ2, HG0, HG1, HG2, HU1, HUL1, HU2, HUL2⟩, X1, X2, X4, BW⟩ := hrel
    have hx2 : wr.cell? ⟨ga, oa + 2, none⟩ = some (.slice C2 u.f2.length f2) := (blk_cell HCUR.out (oa + 2)).trans HG2.out
    have hx1 : wr.cell? ⟨ga, oa + 1, none⟩ = some (.slice C1 u.f1.length f1) := (blk_cell HCUR.out (oa + 1)).trans HG1.out
    have hx0 : wr.cell? ⟨ga, oa, none⟩ = some (.int .u64 u.f0) := (blk_cell HCUR.out oa).trans HG0.out
    by_cases hlt : k < (p.length : Int)
    case neg =>
      have cq : decide (k < (p.length : Int)) = false := decide_eq_false hlt
      have E := Aside0.mk (show varT x v p = some (plug x) by rw [HV.out, List.drop_eq_nil_of_le (by omega), varT]; rfl)
      have hga : w.heap.size ≤ ga := by have := NN.out; have := GA.out; omega
      have s0 : wr.cell? ⟨n1, 0, none⟩ = some (.int .u64 x.f0) := (blk_cell X1.out 0).trans rfl
      have s1 : wr.cell? ⟨n1, 1, none⟩ = some (.slice B1 x.f1.length d1) := (blk_cell X1.out 1).trans rfl
      have s2 : wr.cell? ⟨n1, 2, none⟩ = some (.slice B2 x.f2.length d2) := (blk_cell X1.out 2).trans rfl
      have q0 := blk_frozen HCUR.out oa
      have q1 := blk_frozen HCUR.out (oa + 1)
      have q2 := blk_frozen HCUR.out (oa + 2)
      have hW3 : (w3o wr ga oa (.int .u64 x.f0) (.slice B1 x.f1.length d1) (.slice B2 x.f2.length d2)).heap[ga]? = some (.cells (set3 cur oa (.int .u64 x.f0) (.slice B1 x.f1.length d1) (.slice B2 x.f2.length d2)) 32 (0, 0)) := blk_set (blk_set (blk_set HCUR.out oa _) (oa + 1) _) (oa + 2) _
      have hBW3 : Below w.heap.size w (w3o wr ga oa (.int .u64 x.f0) (.slice B1 x.f1.length d1) (.slice B2 x.f2.length d2)) := below_set (below_set (below_set BW.out hga) hga) hga
      have hfar : ∀ kk, kk ≠ ga → (w3o wr ga oa (.int .u64 x.f0) (.slice B1 x.f1.length d1) (.slice B2 x.f2.length d2)).heap[kk]? = wr.heap[kk]? := fun kk hk => (Below.heap_setCell _ ⟨ga, oa + 2, none⟩ _ kk hk).trans ((Below.heap_setCell _ ⟨ga, oa + 1, none⟩ _ kk hk).trans (Below.heap_setCell _ ⟨ga, oa, none⟩ _ kk hk))
      have hX2 := (hfar n2 (by have := NN.out; have := GA.out; omega)).trans X2.out
      have hX4 := (hfar n4 (by have := NN.out; have := GA.out; omega)).trans X4.out
      obtain ⟨E1, e1, E2, e2, hD0, hD1, hD2, hel1, hel2, hfin⟩ := spine_end SP.out hBW3 (by simp [w3o, World.setCell]) hfar hW3 HCUR.out (n2 := n2) (by have := NN.out; omega) (by have := NN.out; have := GA.out; omega) HD1.out HS1.out HD2.out HS2.out
      have g0 : (w3o wr ga oa (.int .u64 x.f0) (.slice B1 x.f1.length d1) (.slice B2 x.f2.length d2)).cell? ⟨n4, 2, none⟩ = some (.slice (some ⟨n3, 0, none⟩) 1 1) := (blk_cell hX4 2).trans rfl
      have X2W := Aside0.mk hX2
      have BWW := Aside0.mk hBW3
      have EL1 := Aside0.mk hel1
      have EL2 := Aside0.mk hel2
      have FIN := Aside0.mk hfin
      clear hlt hga hW3 hBW3 hfar hX2 hX4 hel1 hel2 hfin HV SP
      go_upto_region 12 with (fail)
      change Code.wp _ _ _ _ (w3o wr ga oa (.int .u64 x.f0) (.slice B1 x.f1.length d1) (.slice B2 x.f2.length d2))
      obtain ⟨W, hW⟩ : ∃ W, W = w3o wr ga oa (.int .u64 x.f0) (.slice B1 x.f1.length d1) (.slice B2 x.f2.length d2) := ⟨_, rfl⟩
      rw [← hW] at X2W BWW FIN g0 hD0 hD1 hD2 ⊢
      clear hW hx0 hx1 hx2 s0 s1 s2 q0 q1 q2
      have r0 : W.cell? ⟨n2, 0, none⟩ = some (.int .u64 0) := (blk_cell X2W.out 0).trans rfl
      have r1 : W.cell? ⟨n2, 1, none⟩ = some (.slice none 0 0) := (blk_cell X2W.out 1).trans rfl
      have r2 : W.cell? ⟨n2, 2, none⟩ = some (.slice none 0 0) := (blk_cell X2W.out 2).trans rfl
      have q0 := blk_frozen X2W.out 0
      have q1 := blk_frozen X2W.out 1
      have q2 := blk_frozen X2W.out 2
      have lo2 := Aside0.mk (show w.heap.size ≤ n2 by have := NN.out; omega)
      have BF := Aside0.mk (below3 BWW.out lo2.out (.int .u64 (plug x).f0) (.slice E1 (plug x).f1.length e1) (.slice E2 (plug x).f2.length e2))
      go_wp2
      refine bodyPost_ret (results_ct (fn := Try.f23) rfl _ _ n2 32 _ (0, 0) _ rfl (blk3 X2W.out (.int .u64 (plug x).f0) (.slice E1 (plug x).f1.length e1) (.slice E2 (plug x).f2.length e2)) Try.underlying32 rfl (by kernel_rfl)) rfl (GivesV.some_ E.out rfl ?_ EL1.out ?_ EL2.out BF.out)
      · exact (FIN.out _ BF.out (by simp [w3, World.setCell]) (w3_far _ _ _ _ _)).1
      · exact (FIN.out _ BF.out (by simp [w3, World.setCell]) (w3_far _ _ _ _ _)).2
    case pos =>
      obtain ⟨k1, rfl⟩ : ∃ m, gk = m + 1 := ⟨gk - 1, by have := HK.out; omega⟩
      have cq : decide (k < (p.length : Int)) = true := decide_eq_true hlt
      obtain ⟨i, hi⟩ : ∃ i, i = rd p k := ⟨_, rfl⟩
      have hdrop : p.drop k.toNat = i :: p.drop (k + 1).toNat := by rw [hi]; exact dropI k0 hlt
      obtain ⟨adp, ep, hcp0⟩ := at_int HP.out k k0 hlt
      subst ep
      rw [← hi] at hcp0
      have hcp := (BW.out.cell (World.block_lt_of_cell? w _ hcp0)).trans hcp0
      clear hcp0 hi
      have HST := Aside0.mk (hdrop ▸ HV.out)
      have HDP := Aside0.mk hdrop
      clear hdrop
      have hmu := Kd.C_max HU2.out
      by_cases hi0 : i < 0
      case pos =>
        have ib : decide (i < 0) = true := decide_eq_true hi0
        have E := Aside0.mk (show varT x v p = none by rw [HST.out, varT, if_pos hi0]; rfl)
        have r0 : wr.cell? ⟨n2, 0, none⟩ = some (.int .u64 0) := (blk_cell X2.out 0).trans rfl
        have r1 : wr.cell? ⟨n2, 1, none⟩ = some (.slice none 0 0) := (blk_cell X2.out 1).trans rfl
        have r2 : wr.cell? ⟨n2, 2, none⟩ = some (.slice none 0 0) := (blk_cell X2.out 2).trans rfl
        have q0 := blk_frozen X2.out 0
        have q1 := blk_frozen X2.out 1
        have q2 := blk_frozen X2.out 2
        clear hi0
        go_wp2
        refine bodyPost_ret (results_ct (fn := Try.f23) rfl _ _ n2 32 _ (0, 0) _ rfl (blk3 X2.out (.int .u64 0) (.slice none 0 0) (.slice none 0 0)) Try.underlying32 rfl (by kernel_rfl)) rfl (GivesV.none_ E.out rfl (below3 BW.out (by have := NN.out; omega) _ _ _))
      case neg =>
        have ib : decide (i < 0) = false := decide_eq_false hi0
        by_cases hi1 : (u.f2.length : Int) ≤ i
        case pos =>
          have ic : decide ((u.f2.length : Int) ≤ i) = true := decide_eq_true hi1
          have E := Aside0.mk (show varT x v p = none by rw [HST.out, varT, if_neg hi0, if_pos hi1]; rfl)
          have r0 : wr.cell? ⟨n2, 0, none⟩ = some (.int .u64 0) := (blk_cell X2.out 0).trans rfl
          have r1 : wr.cell? ⟨n2, 1, none⟩ = some (.slice none 0 0) := (blk_cell X2.out 1).trans rfl
          have r2 : wr.cell? ⟨n2, 2, none⟩ = some (.slice none 0 0) := (blk_cell X2.out 2).trans rfl
          have q0 := blk_frozen X2.out 0
          have q1 := blk_frozen X2.out 1
          have q2 := blk_frozen X2.out 2
          clear hi0 hi1
          go_wp2
          refine bodyPost_ret (results_ct (fn := Try.f23) rfl _ _ n2 32 _ (0, 0) _ rfl (blk3 X2.out (.int .u64 0) (.slice none 0 0) (.slice none 0 0)) Try.underlying32 rfl (by kernel_rfl)) rfl (GivesV.none_ E.out rfl (below3 BW.out (by have := NN.out; omega) _ _ _))
        case neg =>
          have ic : decide ((u.f2.length : Int) ≤ i) = false := decide_eq_false hi1
          have i0 : 0 ≤ i := by omega
          have i1 : i < (u.f2.length : Int) := by omega
          have HST2 := Aside0.mk (show varT x v p = (varT x (rd_T32 u.f2 i) (p.drop (k + 1).toNat)).map (fun y => plug (putT u i y)) by
            rw [HST.out, varT, if_neg hi0, if_neg hi1]
            cases varT x (rd_T32 u.f2 i) (p.drop (k + 1).toNat) <;> rfl)
          have LEN := Aside0.mk (show u.f2.length ≤ 1000000000 by have := szL_len u.f2; have := szT_f2 u; have := HSU.out; omega)
          clear hi0 hi1 HST HV
          go_wp2_with fail
          refine (CloneV_any u.f2 LEN.out C2 f2 w wr BW.out HU2.out HUL2.out).mono ?_
          rintro e w1 ⟨v0, ts, rfl, hk, hR, hb⟩
          obtain ⟨adn, capn, rfl⟩ := Kd.R_slice1 hR (by rw [hk.1]; omega)
          obtain ⟨gn, rfl⟩ := Kd.R_head hR
          obtain ⟨hnl, hncap, _⟩ := Kd.R_reads' hR
          obtain ⟨curN, hcN, hcellsN⟩ := raw_cells hR
          obtain ⟨n, hn⟩ : ∃ n, n = u.f2.length := ⟨_, rfl⟩
          have hgn : wr.heap.size ≤ gn := hR.1 gn rfl
          have htn : ts.length = n := hk.1.trans hn.symm
          rw [htn] at hR hncap ⊢
          have hga : w.heap.size ≤ ga := by have := NN.out; have := GA.out; omega
          have hga3 : n3 ≤ ga := by have := NN.out; have := GA.out; omega
          have hitn : i.toNat < ts.length := by omega
          obtain ⟨t0, ht0⟩ : ∃ t0, ts[i.toNat]? = some t0 := ⟨_, List.getElem?_eq_getElem hitn⟩
          have hKi := hk.2 i.toNat _ _ (rd32_at i0 i1) ht0
          obtain ⟨E1, e1, E2, e2, hte, hel1, heC1, hel2, heC2⟩ := k32_open hKi
          obtain ⟨hq0, hq1, hq2⟩ := hcellsN i.toNat t0 ht0
          injection hte with hte0 hte
          injection hte with hte1 hte
          injection hte with hte2 hte
          rw [hte0] at hq0
          rw [hte1] at hq1
          rw [hte2] at hq2
          have SP2 := Aside0.mk (spine_step BW.out.size SP.out hb hgn hga3 HCUR.out HG0.out HG1.out HSZ2.out ⟨C1, f1, rfl, HUL1.out, HU1.out⟩ hn hncap (by omega) hk hR i0 i1)
          have hgl := blk_lt HCUR.out
          have hx4 := blk_lt X4.out
          have HN2 := Aside0.mk (blk_far (p := ⟨ga, oa + 2, none⟩) hcN (show gn ≠ ga by omega) (.slice (some ⟨gn, 0, none⟩) n capn))
          have X1n := Aside0.mk (blk_far (p := ⟨ga, oa + 2, none⟩) (blk_below X1.out hb) (show n1 ≠ ga by have := NN.out; have := GA.out; omega) (.slice (some ⟨gn, 0, none⟩) n capn))
          have X2n := Aside0.mk (blk_far (p := ⟨ga, oa + 2, none⟩) (blk_below X2.out hb) (show n2 ≠ ga by have := NN.out; have := GA.out; omega) (.slice (some ⟨gn, 0, none⟩) n capn))
          have X4n := Aside0.mk (blk_far (p := ⟨ga, oa + 2, none⟩) (blk_below X4.out hb) (show n4 ≠ ga by have := NN.out; have := GA.out; omega) (.slice (some ⟨gn, 0, none⟩) n capn))
          have BWn := Aside0.mk (below_set (j := oa + 2) (v := .slice (some ⟨gn, 0, none⟩) n capn) (below_step BW.out hb) hga)
          have CUR1 := blk_below HCUR.out hb
          have hz2 : w1.cell? ⟨ga, oa + 2, none⟩ = some (.slice C2 u.f2.length f2) := (blk_cell CUR1 (oa + 2)).trans HG2.out
          have hf2 := blk_frozen CUR1 (oa + 2)
          have hsz3 : i.toNat * 3 + 2 < curN.size := (Array.getElem?_eq_some_iff.1 hq2).1
          have Q0 := Aside0.mk hq0
          have Q1 := Aside0.mk hq1
          have Q2 := Aside0.mk hq2
          have SZ3 := Aside0.mk hsz3
          have EC1 := Aside0.mk heC1
          have EL1 := Aside0.mk hel1
          have EC2 := Aside0.mk heC2
          have EL2 := Aside0.mk hel2
          have GN := Aside0.mk (show n4 < gn by omega)
          have SZU := Aside0.mk (show szT (rd_T32 u.f2 i) ≤ 1000000000 by have := szL_mem (mem_rd32 i0 i1); have := szT_f2 u; have := HSU.out; omega)
          have i1n : i < (n : Int) := by omega
          clear hb hR hk ht0 hKi hte hte0 hte1 hte2 hq0 hq1 hq2 hcellsN hcN hncap hnl htn hitn hgn hga hga3 hgl hx4 CUR1 hsz3 heC1 hel1 heC2 hel2 hn hx0 hx1 hx2 SP HCUR X1 X2 X4 BW
          go_wp2
          go_roundg (k1)
          case measure => have := HK.out; omega
          case rel => exact ⟨k + 1, gn, i.toNat * 3, rfl, rfl, by omega, by omega, ⟨by have := HK.out; omega⟩, ⟨.inr GN.out⟩, ⟨rd_T32 u.f2 i, _, curN, E1, e1, E2, e2, HST2, SZU, SP2, HN2, SZ3, Q0, Q1, Q2, EC1, EL1, EC2, EL2⟩, X1n, X2n, X4n, BWn⟩
end Go.Proofs.Ythmcbcofipehhaa.B
