import Derived.Test.YthmcbcofipehhaaHQ
import Derived.WalkSpells
namespace Go.Proofs.Ythmcbcofipehhaa.B
open Go.RowKit Go.Proofs.YthmcbcofipehhaaW.PrintWords Go.Proofs.YthmcbcofipehhaaW.PrintLast Go.Proofs.YthmcbcofipehhaaW.PrintMore
set_option linter.unusedVariables false
set_option linter.unusedSimpArgs false
/-! ### bytes.Clone, slices.Clone over Value -/
theorem R_empty {α : Type} (d : Kd α) (e : Nat) (W : World) (base : Nat) (hb : base ≤ W.heap.size) :
    d.R e (W.alloc (.cells #[] e)) base (fun k => base ≤ k) (.slice (some ⟨W.heap.size, 0, none⟩) 0 0) [] := by
  refine ⟨fun k hk => ?_, [], ?_, by simp, fun j p h => by simp at h⟩
  · simp [Value.ownBlock] at hk; omega
  · have h := World.ownsRow_lit (base := base) (e := e) (size := d.sz) W (#[] : Array Value) 0 hb (by decide) (by simp)
    simpa using h
theorem info5' : (Try.prog.info? 5).map (fun i => (i.zero, i.size, i.bytes)) = some (some (.int .u8 0), 1, 1) := by kernel_rfl
theorem C_none {α : Type} {d : Kd α} {w : World} {n : Nat} {xs : List α} (h : d.C w none n xs) : xs = [] ∧ n = 0 := by
  have h0 : n = 0 := by
    rcases Nat.eq_zero_or_pos n with h0 | h0
    · exact h0
    · obtain ⟨ad, h, _⟩ := h.2.2 h0; cases h
  exact ⟨List.eq_nil_of_length_eq_zero (by have := h.1; omega), h0⟩
set_option maxHeartbeats 1000000 in
set_option maxRecDepth 100000 in
theorem Clone8_any (l : List Int) (hm : l.length ≤ 1000000000) (A : Option Addr) (c : Nat) (w : World) (hr : Kd.C (Kd.int .u8) w A l.length l) (hc : l.length ≤ c) :
    Calls Try.prog 31 #[.slice A l.length c] w fun e w' => ∃ v0 : Value, e = .returned v0 ∧ Kd.R (Kd.int .u8) 5 w' w.heap.size (fun k => w.heap.size ≤ k) v0 l ∧ Below w.heap.size w w' := by
  cases A with
  | none =>
    obtain ⟨rfl, _⟩ := C_none hr
    clear hr hc hm
    have q23 : ∀ (w : World) (a : Option Addr) (n c n' c' : Nat), (binOp .eql 23 (.slice a n c) (.slice none n' c')).run Try.prog w = .ok (.bool a.isNone) w := fun w a n c n' c' => Lib.run_eql_slice_nil w _ _ a n c n' c' Try.underlying23
    go_enter Try.func31, Try.ntmps31
    go_wp2
    go_ret
    exact ⟨_, rfl, Kd.R_nil _ _ _ _ _, Below.refl _ _⟩
  | some ad =>
    have HR := Aside0.mk hr
    have HC := Aside0.mk hc
    have HM := Aside0.mk hm
    clear hr hc hm
    have HB := Aside0.mk (Below.refl w.heap.size w)
    have HE := Aside0.mk (R_empty (Kd.int .u8) 5 w w.heap.size (Nat.le_refl _))
    have HB1 := Aside0.mk (below_alloc HB.out (.cells #[] 5))
    have q23 : ∀ (w : World) (a : Option Addr) (n c n' c' : Nat), (binOp .eql 23 (.slice a n c) (.slice none n' c')).run Try.prog w = .ok (.bool a.isNone) w := fun w a n c n' c' => Lib.run_eql_slice_nil w _ _ a n c n' c' Try.underlying23
    go_enter Try.func31, Try.ntmps31
    go_wp2_with (at_builtin; refine Kd.R_append_rows (Kd.int .u8) (w0 := w) w.heap.size rfl _ _ 23 5 (.int .u8 0) 1 rfl Try.underlying23 info5' rfl (by decide) (by decide) _ [] l (some ad) l.length c (fun k => w.heap.size ≤ k) (fun k => False) rfl rfl HE.out (Kd.C_alloc HR.out _) (fun _ _ h => h) (fun k hk => hk.elim) (fun k hk => by simp at hk; omega) HB1.out (by simp) (by have := HM.out; simp; omega) ?_; intro v1 w1 h1 h2 h3 h4; have H1 := Aside0.mk h1; have H2 := Aside0.mk h2; clear h1 h2 h3 h4)
    go_ret
    exact ⟨_, rfl, H1.out, H2.out⟩

/-- Three cells as they stand: nothing is said of what they lead to. -/
def raw3 : Kd (Value × Value × Value) where
  sz := 3
  E := []
  K := fun _ x cs => cs = [x.1, x.2.1, x.2.2] ∧ ∀ u ∈ cs, u.oneCell' = true
  M := fun _ _ _ x cs => cs = [x.1, x.2.1, x.2.2] ∧ ∀ u ∈ cs, u.oneCell' = true
  K_len := fun h => by rw [h.1]; rfl
  K_one := fun h => h.2
  K_below := fun _ h => h
  K_of_M := fun h => h
  M_mono := fun _ h => h
  M_bound := fun h => h
  M_move := fun _ h => h
  M_lower := fun _ h => h
def AtRaw (w : World) (xs : List S32) (ts : List (Value × Value × Value)) : Prop := ts.length = xs.length ∧ ∀ (j : Nat) (x : S32) (t : Value × Value × Value), xs[j]? = some x → ts[j]? = some t → k32.K w x [t.1, t.2.1, t.2.2]
/-- What reads as values lies there as cells, each of which tells its value wherever the elder blocks stand. -/
theorem C_raw {w : World} {A : Option Addr} {n : Nat} {xs : List S32} (h : Kd.C k32 w A n xs) : ∃ ts : List (Value × Value × Value), raw3.C w A n ts ∧ AtRaw w xs ts := by
  rcases Nat.eq_zero_or_pos n with h0 | hp
  · have : xs = [] := List.eq_nil_of_length_eq_zero (by have := h.1; omega)
    subst this
    exact ⟨[], ⟨h.1, h.2.1, fun hn => by omega⟩, rfl, fun j x t hx => by simp at hx⟩
  · obtain ⟨ad, e, hc⟩ := h.2.2 hp
    have pick : ∀ j : Nat, ∃ t : Value × Value × Value, ∀ x, xs[j]? = some x → (k32.K w x [t.1, t.2.1, t.2.2] ∧ ∀ i u, ([t.1, t.2.1, t.2.2])[i]? = some u → w.cell? (ad.add (j * 3 + i)) = some u) := by
      intro j
      cases hx : xs[j]? with
      | none => exact ⟨(undef, undef, undef), fun x h => by cases h⟩
      | some x =>
        obtain ⟨c, hl, hk, hcell⟩ := hc j x hx
        have hl3 : c.length = 3 := hl
        match c, hl3 with
        | [a, b, d], _ => exact ⟨(a, b, d), fun y hy => by cases hy; exact ⟨hk, hcell⟩⟩
    obtain ⟨f, hf⟩ : ∃ f : Nat → Value × Value × Value, ∀ j x, xs[j]? = some x → (k32.K w x [(f j).1, (f j).2.1, (f j).2.2] ∧ ∀ i u, ([(f j).1, (f j).2.1, (f j).2.2])[i]? = some u → w.cell? (ad.add (j * 3 + i)) = some u) :=
      ⟨fun j => (pick j).choose, fun j => (pick j).choose_spec⟩
    have hlen : ((List.range xs.length).map f).length = xs.length := by simp
    refine ⟨(List.range xs.length).map f, ⟨by rw [hlen]; exact h.1, h.2.1, fun _ => ⟨ad, e, fun j t ht => ?_⟩⟩, hlen, fun j x t hx ht => ?_⟩
    · have hj : j < xs.length := by
        have := (List.getElem?_eq_some_iff.1 ht).1
        simpa using this
      have hx := List.getElem?_eq_getElem hj
      have hft : f j = t := by simpa [hj] using ht
      subst hft
      obtain ⟨hk, hcell⟩ := hf j _ hx
      exact ⟨[(f j).1, (f j).2.1, (f j).2.2], rfl, ⟨rfl, k32.K_one hk⟩, hcell⟩
    · have hj := (List.getElem?_eq_some_iff.1 hx).1
      have hft : f j = t := by simpa [hj] using ht
      subst hft
      exact (hf j x hx).1
theorem raw_C {w w1 : World} {A1 : Option Addr} {n : Nat} {xs : List S32} {ts : List (Value × Value × Value)} (hk : AtRaw w xs ts) (hb : ∀ k, k < w.heap.size → w1.heap[k]? = w.heap[k]?) (h : raw3.C w1 A1 n ts) : Kd.C k32 w1 A1 n xs := by
  refine ⟨by rw [← hk.1]; exact h.1, h.2.1, fun hn => ?_⟩
  obtain ⟨ad, e, hc⟩ := h.2.2 hn
  refine ⟨ad, e, fun j x hx => ?_⟩
  have hj : j < ts.length := by have := (List.getElem?_eq_some_iff.1 hx).1; have := hk.1; omega
  obtain ⟨c, hs, hr, hcell⟩ := hc j _ (List.getElem?_eq_getElem hj)
  refine ⟨c, hs, ?_, hcell⟩
  have := k32_heap.K hb (hk.2 j x _ hx (List.getElem?_eq_getElem hj))
  rw [hr.1]
  exact this
theorem info32' : (Try.prog.info? 32).map (fun i => (i.zero, i.size, i.bytes)) = some (some (.agg #[.int .u64 0, .slice none 0 0, .slice none 0 0]), 3, 56) := by kernel_rfl
theorem AtRaw_nil (w : World) : AtRaw w [] [] := ⟨rfl, fun j x t hx => by simp at hx⟩
set_option maxHeartbeats 1000000 in
set_option maxRecDepth 100000 in
theorem CloneV_any (l : List S32) (hm : l.length ≤ 1000000000) (A : Option Addr) (c : Nat) (w0 w : World) (hB : Below w0.heap.size w0 w) (hr : Kd.C k32 w0 A l.length l) (hc : l.length ≤ c) :
    Calls Try.prog 32 #[.slice A l.length c] w fun e w' => ∃ (v0 : Value) (ts : List (Value × Value × Value)), e = .returned v0 ∧ AtRaw w0 l ts ∧ Kd.R raw3 32 w' w.heap.size (fun k => w.heap.size ≤ k) v0 ts ∧ Below w.heap.size w w' := by
  have q24 : ∀ (w : World) (a : Option Addr) (n c n' c' : Nat), (binOp .eql 24 (.slice a n c) (.slice none n' c')).run Try.prog w = .ok (.bool a.isNone) w := fun w a n c n' c' => Lib.run_eql_slice_nil w _ _ a n c n' c' Try.underlying24
  cases A with
  | none =>
    obtain ⟨rfl, _⟩ := C_none hr
    clear hr hc hm
    go_enter Try.func32, Try.ntmps32
    go_wp2
    go_ret
    exact ⟨_, [], rfl, AtRaw_nil _, Kd.R_nil _ _ _ _ _, Below.refl _ _⟩
  | some ad =>
    obtain ⟨ts, hrt, hk⟩ := C_raw hr
    have HRT := Aside0.mk (Kd.C_below hrt hB)
    have HK := Aside0.mk hk
    have HM := Aside0.mk hm
    clear hr hc hm hrt hk hB
    have HB := Aside0.mk (Below.refl w.heap.size w)
    have HE := Aside0.mk (R_empty raw3 32 w w.heap.size (Nat.le_refl _))
    have HB1 := Aside0.mk (below_alloc HB.out (.cells #[] 32))
    go_enter Try.func32, Try.ntmps32
    go_wp2_with (at_builtin; refine Kd.R_append_rows raw3 (w0 := w) w.heap.size rfl _ _ 24 32 _ 56 rfl Try.underlying24 info32' rfl (by decide) (by decide) _ [] ts (some ad) l.length c (fun k => w.heap.size ≤ k) (fun k => False) rfl rfl HE.out (Kd.C_alloc HRT.out _) (fun _ _ h => h) (fun k hk => hk.elim) (fun k hk => by simp at hk; omega) HB1.out (by simp) (by have := HM.out; simp; omega) ?_; intro v1 w1 h1 h2 h3 h4; have H1 := Aside0.mk h1; have H2 := Aside0.mk h2; clear h1 h2 h3 h4)
    go_ret
    exact ⟨_, ts, rfl, HK.out, H1.out, H2.out⟩
def w3 (w : World) (g : Nat) (b0 b1 b2 : Value) : World := ((w.setCell ⟨g, 0, none⟩ b0).setCell ⟨g, 1, none⟩ b1).setCell ⟨g, 2, none⟩ b2
theorem below3 {w W : World} (h : Below w.heap.size w W) {g : Nat} (hg : w.heap.size ≤ g) (b0 b1 b2 : Value) : Below w.heap.size w (w3 W g b0 b1 b2) := below_set (below_set (below_set h hg) hg) hg
theorem R_w3 {α : Type} {d : Kd α} {e base : Nat} {ok : Nat → Prop} {w : World} {v : Value} {xs : List α} (h : d.R e w base ok v xs) {g : Nat} (hok : ∀ k, ok k → k ≠ g) (b0 b1 b2 : Value) : d.R e (w3 w g b0 b1 b2) base ok v xs :=
  Kd.R_far (p := ⟨g, 2, none⟩) (Kd.R_far (p := ⟨g, 1, none⟩) (Kd.R_far (p := ⟨g, 0, none⟩) h hok b0) hok b1) hok b2
set_option maxHeartbeats 1000000 in
theorem Number_any (x : Int) (w : World) :
    Calls Try.prog 12 #[.int .u64 x] w fun e w' => e = .returned (.agg #[.int .u64 x, .slice none 0 0, .slice none 0 0]) ∧ Below w.heap.size w w' := by
  have hu32 := Try.underlying32
  have HB := Aside0.mk (Below.refl w.heap.size w)
  go_enter Try.func12, Try.ntmps12
  go_wp2
  refine bodyPost_ret (v := .agg #[.int .u64 x, .slice none 0 0, .slice none 0 0]) (by simp [results, Try.results12, go_sem]) rfl ⟨rfl, ?_⟩
  repeat (first | exact HB.out | apply below_alloc)
set_option maxHeartbeats 1000000 in
theorem Bytes_any (l : List Int) (hm : l.length ≤ 1000000000) (A : Option Addr) (c : Nat) (w : World) (hr : Kd.C (Kd.int .u8) w A l.length l) (hc : l.length ≤ c) :
    Calls Try.prog 13 #[.slice A l.length c] w fun e w' => ∃ A' c', e = .returned (.agg #[.int .u64 0, .slice A' l.length c', .slice none 0 0]) ∧ l.length ≤ c' ∧ Kd.C (Kd.int .u8) w' A' l.length l ∧ Below w.heap.size w w' := by
  have hu32 := Try.underlying32
  have HB := Aside0.mk (Below.refl w.heap.size w)
  have HR := Aside0.mk hr
  have HC := Aside0.mk hc
  have HM := Aside0.mk hm
  clear hr hc hm
  go_enter Try.func13, Try.ntmps13
  go_wp2_with fail
  refine (Clone8_any l HM.out A c _ (Kd.C_alloc HR.out _) HC.out).mono ?_
  rintro e w1 ⟨v0, rfl, h1, hb⟩
  obtain ⟨A', c', he, hc', hr'⟩ := Kd.R_reads h1
  have BK := Aside0.mk (blk_below (heap_alloc_new w _) hb)
  have HC' := Aside0.mk hc'
  have HR' := Aside0.mk h1
  have HB1 := Aside0.mk (below_step (below_alloc HB.out _) hb)
  clear h1 hb hc' hr'
  have hz0 := (blk_cell BK.out 0).trans rfl
  have hz1 := (blk_cell BK.out 1).trans rfl
  have hz2 := (blk_cell BK.out 2).trans rfl
  have hf0 := blk_frozen BK.out 0
  have hf1 := blk_frozen BK.out 1
  have hf2 := blk_frozen BK.out 2
  rw [he] at HR' ⊢
  clear he v0
  go_wp2
  refine bodyPost_ret (v := .agg #[.int .u64 0, .slice A' l.length c', .slice none 0 0]) (by simp [results, Try.results13, go_sem, hz0, hz1, hz2, hf0, hf1, hf2]) rfl ⟨_, _, rfl, HC'.out, ?_, below3 HB1.out (Nat.le_refl _) _ _ _⟩
  exact (Kd.R_reads' (R_w3 HR'.out (g := w.heap.size) (fun k hk => by rw [World.size_alloc] at hk; omega) _ _ _)).2.2
set_option maxHeartbeats 1000000 in
theorem List_any (l : List S32) (hm : l.length ≤ 1000000000) (A : Option Addr) (c : Nat) (w : World) (hr : Kd.C k32 w A l.length l) (hc : l.length ≤ c) :
    Calls Try.prog 14 #[.slice A l.length c] w fun e w' => ∃ A' c', e = .returned (.agg #[.int .u64 0, .slice none 0 0, .slice A' l.length c']) ∧ l.length ≤ c' ∧ Kd.C k32 w' A' l.length l ∧ Below w.heap.size w w' := by
  have hu32 := Try.underlying32
  have HB := Aside0.mk (Below.refl w.heap.size w)
  have HR := Aside0.mk hr
  have HC := Aside0.mk hc
  have HM := Aside0.mk hm
  clear hr hc hm
  go_enter Try.func14, Try.ntmps14
  go_wp2_with fail
  refine (CloneV_any l HM.out A c w _ (below_alloc HB.out _) HR.out HC.out).mono ?_
  rintro e w1 ⟨v0, ts, rfl, hk, h1, hb⟩
  obtain ⟨A', c', he, hc', hr'⟩ := Kd.R_reads h1
  have HK := Aside0.mk hk
  rw [hk.1] at he hc' hr'
  clear hk
  have BK := Aside0.mk (blk_below (heap_alloc_new w _) hb)
  have HC' := Aside0.mk hc'
  have HR' := Aside0.mk h1
  have HB1 := Aside0.mk (below_step (below_alloc HB.out _) hb)
  clear h1 hb hc' hr'
  have hz0 := (blk_cell BK.out 0).trans rfl
  have hz1 := (blk_cell BK.out 1).trans rfl
  have hz2 := (blk_cell BK.out 2).trans rfl
  have hf0 := blk_frozen BK.out 0
  have hf1 := blk_frozen BK.out 1
  have hf2 := blk_frozen BK.out 2
  rw [he] at HR' ⊢
  clear he v0
  go_wp2
  refine bodyPost_ret (v := .agg #[.int .u64 0, .slice none 0 0, .slice A' l.length c']) (by simp [results, Try.results14, go_sem, hz0, hz1, hz2, hf0, hf1, hf2]) rfl ⟨_, _, rfl, HC'.out, ?_, below3 HB1.out (Nat.le_refl _) _ _ _⟩
  have h3 := (Kd.R_reads' (R_w3 HR'.out (g := w.heap.size) (fun k hk => by rw [World.size_alloc] at hk; omega) (.int .u64 0) (.slice none 0 0) (.slice A' l.length c')))
  have h4 := raw_C HK.out (fun k hk => (below3 HB1.out (Nat.le_refl _) _ _ _).block k hk) h3.2.2
  rw [HK.out.1] at h4
  exact h4
end Go.Proofs.Ythmcbcofipehhaa.B
