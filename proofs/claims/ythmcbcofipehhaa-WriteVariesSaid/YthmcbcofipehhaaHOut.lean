import Derived.Test.YthmcbcofipehhaaHBld3
import Derived.Test.YthmcbcofipehhaaHOpen
namespace Go.Proofs.Ythmcbcofipehhaa.B
open Go.RowKit Go.Proofs.YthmcbcofipehhaaW.PrintWords Go.Proofs.YthmcbcofipehhaaW.PrintLast Go.Proofs.YthmcbcofipehhaaW.PrintMore
set_option linter.unusedVariables false
set_option linter.unusedSimpArgs false
set_option maxHeartbeats 1000000 in
set_option maxRecDepth 100000 in
theorem BDone_any (w0 w : World) (g : Nat) (m : Int) (bs : List Int) (hb : Bld w0 w g m bs []) (hl : bs.length ≤ 1073741824) :
    Calls Try.prog 40 #[.pointer (some ⟨g, 0, none⟩)] w fun e w' => ∃ v, e = .returned (.tuple #[v, .int .i64 0]) ∧ (Kd.int .u8).R 5 w' w.heap.size (fun k => w.heap.size ≤ k) v bs ∧ Below w.heap.size w w' := by
  have hu85 := Try.underlying85
  obtain ⟨hbel, hlo, A1, c1, A2, c2, hblk, hR1, hc1, hR2, hc2⟩ := hb
  have hz0 : w.cell? ⟨g, 0, none⟩ = some (.slice A1 bs.length c1) := (blk_cell hblk 0).trans rfl
  have hz2 : w.cell? ⟨g, 2, none⟩ = some (.slice A2 0 c2) := (blk_cell hblk 2).trans rfl
  have R1 := Aside0.mk (Kd.R_reads' hR1).2.2
  have HL := Aside0.mk hl
  have HB := Aside0.mk (Below.refl w.heap.size w)
  clear hbel hlo hblk hR1 hc1 hR2 hc2 hl
  go_enter Try.func40, Try.ntmps40
  go_wp2_with (at_builtin; refine Kd.R_append_rows (Kd.int .u8) (w0 := w) w.heap.size rfl _ _ 23 5 (.int .u8 0) 1 rfl Try.underlying23 info5' rfl (by decide) (by decide) _ [] bs A1 bs.length c1 (fun k => w.heap.size ≤ k) (fun k => False) rfl rfl (Kd.R_nil _ _ _ _ _) R1.out (fun _ _ h => h) (fun k hk => hk.elim) (fun k hk => hk) HB.out (Nat.le_refl _) (by have := HL.out; simp; omega) ?_; intro v1 w1 h1 h2 h3 h4; have H1 := Aside0.mk h1; have H2 := Aside0.mk h2; clear h1 h2 h3 h4)
  go_ret2
  exact ⟨_, rfl, H1.out, H2.out⟩
/-! ### the bytes of a value that fits -/
mutual
def outT (f : S29) : S32 → List Int
  | ⟨n, b, l⟩ => if f.f0 = 0 then be f.f1 n else if f.f0 = 1 then be f.f1 b.length ++ b else if f.f0 = 2 then be f.f1 (outL f l 0).length ++ outL f l 0 else if f.f0 = 3 then outL f l 0 else b
def outL (f : S29) : List S32 → Int → List Int
  | [], _ => []
  | x :: l, i => outT (rd_T29 f.f5 (i % f.f5.length)) x ++ outL f l (i + 1)
end
theorem fitT_eq (f : S29) (v : S32) : fitT f v = 
    if aloneT f.f0 v = false then (0, 15)
    else if f.f0 = 0 then (if f.f1 < 8 then (if shr .u64 v.f0 (8 * f.f1) ≠ 0 then (0, 3) else (f.f1, 0)) else (f.f1, 0))
    else if f.f0 = 1 then (wrap64 (f.f1 + v.f1.length), mayT v.f1.length f.f2 f.f3 f.f4)
    else if f.f0 = 4 then (v.f1.length, mayT v.f1.length f.f2 f.f3 1)
    else if f.f0 = 5 then (f.f2, mayT v.f1.length f.f2 f.f2 1)
    else if f.f0 = 3 ∧ (v.f2.length : Int) ≠ f.f5.length then (0, 15)
    else if (fitL f v.f2 0 0).2 ≠ 0 then (0, (fitL f v.f2 0 0).2)
    else if f.f0 = 3 then ((fitL f v.f2 0 0).1, 0)
    else (wrap64 (f.f1 + (fitL f v.f2 0 0).1), mayT (fitL f v.f2 0 0).1 f.f2 f.f3 f.f4) := by
  obtain ⟨n, b, l⟩ := v; rw [fitT]
theorem outT_eq (f : S29) (v : S32) : outT f v = if f.f0 = 0 then be f.f1 v.f0 else if f.f0 = 1 then be f.f1 v.f1.length ++ v.f1 else if f.f0 = 2 then be f.f1 (outL f v.f2 0).length ++ outL f v.f2 0 else if f.f0 = 3 then outL f v.f2 0 else v.f1 := by
  obtain ⟨n, b, l⟩ := v; rw [outT]
theorem fit_alone {f : S29} {v : S32} (hf : (fitT f v).2 = 0) : aloneT f.f0 v = true := by
  cases h : aloneT f.f0 v with
  | true => rfl
  | false => rw [fitT_eq, if_pos h] at hf; exact absurd hf (by decide)
theorem mayT_0 {n lo hi step : Int} (h : mayT n lo hi step = 0) : lo ≤ n ∧ n ≤ hi ∧ n.tmod step = 0 := by
  unfold mayT at h
  split at h
  · exact absurd h (by decide)
  · split at h
    · exact absurd h (by decide)
    · split at h
      · exact absurd h (by decide)
      · rename_i h3; refine ⟨by omega, by omega, ?_⟩; simpa using h3
theorem fit0 {f : S29} {v : S32} (hck : checkT f = 0) (hf : (fitT f v).2 = 0) (k : f.f0 = 0) : (f.f1 = 1 ∨ f.f1 = 2 ∨ f.f1 = 3 ∨ f.f1 = 4 ∨ f.f1 = 8) ∧ (f.f1 < 8 → shr .u64 v.f0 (8 * f.f1) = 0) ∧ (fitT f v).1 = f.f1 := by
  have ho := ownT_0 (checkT_own hck)
  have hs : f.f1 = 1 ∨ f.f1 = 2 ∨ f.f1 = 3 ∨ f.f1 = 4 ∨ f.f1 = 8 := by rcases ho with h | h | h | h | h <;> first | exact h.2 | (exfalso; omega)
  have hal := fit_alone hf
  rw [fitT_eq, if_neg (by simp [hal]), if_pos k] at hf ⊢
  refine ⟨hs, fun h8 => ?_, ?_⟩
  · rw [if_pos h8] at hf
    apply Decidable.byContradiction
    intro hh
    rw [if_pos hh] at hf
    exact absurd hf (by decide)
  · by_cases h8 : f.f1 < 8
    · rw [if_pos h8] at hf ⊢
      by_cases hh : shr .u64 v.f0 (8 * f.f1) ≠ 0
      · rw [if_pos hh] at hf; exact absurd hf (by decide)
      · rw [if_neg hh]
    · rw [if_neg h8]
theorem fit1 {f : S29} {v : S32} (hck : checkT f = 0) (hf : (fitT f v).2 = 0) (k : f.f0 = 1) : (f.f1 = 1 ∨ f.f1 = 2 ∨ f.f1 = 3) ∧ (v.f1.length : Int) ≤ topT f.f1 ∧ (fitT f v).1 = f.f1 + v.f1.length := by
  have ho := ownT_0 (checkT_own hck)
  have h1 : 1 ≤ f.f1 ∧ f.f1 ≤ 3 ∧ f.f3 ≤ topT f.f1 := by rcases ho with h | h | h | h | h <;> first | exact ⟨h.2.1, h.2.2.1, h.2.2.2.2.2.1⟩ | (exfalso; omega)
  have ht := topT_le f.f1
  have hal := fit_alone hf
  rw [fitT_eq, if_neg (by simp [hal]), if_neg (by omega), if_pos k] at hf ⊢
  have hm := mayT_0 hf
  refine ⟨by omega, by omega, ?_⟩
  show wrap64 _ = _
  unfold wrap64
  omega
theorem fit4 {f : S29} {v : S32} (hf : (fitT f v).2 = 0) (k : f.f0 = 4) : (fitT f v).1 = v.f1.length := by
  have hal := fit_alone hf
  rw [fitT_eq, if_neg (by simp [hal]), if_neg (by omega), if_neg (by omega), if_pos k]
theorem fit5 {f : S29} {v : S32} (hf : (fitT f v).2 = 0) (k : f.f0 = 5) : (fitT f v).1 = v.f1.length := by
  have hal := fit_alone hf
  rw [fitT_eq, if_neg (by simp [hal]), if_neg (by omega), if_neg (by omega), if_neg (by omega), if_pos k] at hf ⊢
  have hm := mayT_0 hf
  show f.f2 = _
  omega
theorem fit2 {f : S29} {v : S32} (hck : checkT f = 0) (hf : (fitT f v).2 = 0) (k : f.f0 = 2) : (f.f1 = 1 ∨ f.f1 = 2 ∨ f.f1 = 3) ∧ (fitL f v.f2 0 0).2 = 0 ∧ (fitL f v.f2 0 0).1 ≤ topT f.f1 ∧ f.f5.length = 1 ∧ (fitT f v).1 = wrap64 (f.f1 + (fitL f v.f2 0 0).1) := by
  have ho := ownT_0 (checkT_own hck)
  have h1 : 1 ≤ f.f1 ∧ f.f1 ≤ 3 ∧ f.f3 ≤ topT f.f1 ∧ f.f5.length = 1 := by rcases ho with h | h | h | h | h <;> first | exact ⟨h.2.1, h.2.2.1, h.2.2.2.2.2.1, h.2.2.2.2.2.2.2.2 k⟩ | (exfalso; omega)
  have hal := fit_alone hf
  rw [fitT_eq, if_neg (by simp [hal]), if_neg (by omega), if_neg (by omega), if_neg (by omega), if_neg (by omega), if_neg (by omega)] at hf ⊢
  by_cases hl : (fitL f v.f2 0 0).2 ≠ 0
  · rw [if_pos hl] at hf; exact absurd hf hl
  · rw [if_neg hl, if_neg (by omega)] at hf ⊢
    have hm := mayT_0 hf
    exact ⟨by omega, by simpa using hl, by omega, h1.2.2.2, rfl⟩
theorem fit3 {f : S29} {v : S32} (hf : (fitT f v).2 = 0) (k : f.f0 = 3) : (fitL f v.f2 0 0).2 = 0 ∧ v.f2.length = f.f5.length ∧ (fitT f v).1 = (fitL f v.f2 0 0).1 := by
  have hal := fit_alone hf
  rw [fitT_eq, if_neg (by simp [hal]), if_neg (by omega), if_neg (by omega), if_neg (by omega), if_neg (by omega)] at hf ⊢
  by_cases hn : f.f0 = 3 ∧ (v.f2.length : Int) ≠ f.f5.length
  · rw [if_pos hn] at hf; exact absurd hf (by decide)
  rw [if_neg hn] at hf ⊢
  by_cases hl : (fitL f v.f2 0 0).2 ≠ 0
  · rw [if_pos hl] at hf; exact absurd hf hl
  · rw [if_neg hl, if_pos k] at hf ⊢
    refine ⟨by simpa using hl, ?_, rfl⟩
    apply Decidable.byContradiction
    intro hh
    exact hn ⟨k, by omega⟩
theorem fit_kinds {f : S29} (hck : checkT f = 0) : f.f0 = 0 ∨ f.f0 = 1 ∨ f.f0 = 2 ∨ f.f0 = 3 ∨ f.f0 = 4 ∨ f.f0 = 5 := by
  have := ownT_kind (checkT_own hck)
  omega
theorem fitL_cons {f : S29} {x : S32} {l : List S32} {i n : Int} (h : (fitL f (x :: l) i n).2 = 0) : (fitT (rd_T29 f.f5 (i % f.f5.length)) x).2 = 0 ∧ fitL f (x :: l) i n = fitL f l (i + 1) (wrap64 (n + (fitT (rd_T29 f.f5 (i % f.f5.length)) x).1)) := by
  rw [fitL] at h ⊢
  by_cases hx : (fitT (rd_T29 f.f5 (i % f.f5.length)) x).2 ≠ 0
  · rw [if_pos hx] at h; exact absurd h hx
  · rw [if_neg hx]
    exact ⟨by simpa using hx, rfl⟩
/-- The parts of a form that holds things, by turns. -/
theorem part_ok {f : S29} (hck : checkT f = 0) (k : f.f0 = 2 ∨ f.f0 = 3) (hp : 0 < f.f5.length) (i : Int) : checkT (rd_T29 f.f5 (i % f.f5.length)) = 0 := by
  have hps : partsT f = f.f5 := by unfold partsT; rcases k with h | h <;> simp [h]
  have h0 : (f.f5.length : Int) ≠ 0 := by omega
  have h1 : (0 : Int) < (f.f5.length : Int) := by omega
  have hm := mem_rd29 (Int.emod_nonneg i h0) (Int.emod_lt_of_pos i h1)
  exact checkT_parts hck _ (by rw [hps]; exact hm)
mutual
/-- The size is how many bytes there are. -/
theorem fit_len (f : S29) (hck : checkT f = 0) : ∀ (v : S32), (fitT f v).2 = 0 → (outT f v).length ≤ 1099511627776 → (fitT f v).1 = (outT f v).length
  | ⟨n, b, l⟩, hf, hl => by
    rw [outT_eq] at hl ⊢
    rcases fit_kinds hck with k | k | k | k | k | k
    · have h := fit0 hck hf k
      rw [if_pos k, be_length, h.2.2]; omega
    · have h := fit1 hck hf k
      rw [if_neg (by omega), if_pos k, List.length_append, be_length, h.2.2]; dsimp only; omega
    · have h := fit2 hck hf k
      rw [if_neg (by omega), if_neg (by omega), if_pos k, List.length_append, be_length] at hl ⊢
      dsimp only at hl h ⊢
      have h2 := fitL_len f hck (.inl k) (by omega) l 0 0 h.2.1 (by omega) (by omega)
      rw [h.2.2.2.2, h2]
      unfold wrap64
      omega
    · have h := fit3 hf k
      rw [if_neg (by omega), if_neg (by omega), if_neg (by omega), if_pos k] at hl ⊢
      dsimp only at hl h ⊢
      rcases Nat.eq_zero_or_pos l.length with h0 | hp
      · have : l = [] := List.eq_nil_of_length_eq_zero h0
        subst this
        rw [h.2.2, fitL, outL]; rfl
      · have h2 := fitL_len f hck (.inr k) (by omega) l 0 0 h.1 (by omega) (by omega)
        rw [h.2.2, h2]; omega
    · rw [if_neg (by omega), if_neg (by omega), if_neg (by omega), if_neg (by omega), fit4 hf k]
    · rw [if_neg (by omega), if_neg (by omega), if_neg (by omega), if_neg (by omega), fit5 hf k]
theorem fitL_len (f : S29) (hck : checkT f = 0) (k : f.f0 = 2 ∨ f.f0 = 3) (hp : 0 < f.f5.length) : ∀ (l : List S32) (i n : Int), (fitL f l i n).2 = 0 → 0 ≤ n → n + (outL f l i).length ≤ 1099511627776 → (fitL f l i n).1 = n + (outL f l i).length
  | [], i, n, hf, h0, hl => by simp [fitL, outL]
  | x :: l, i, n, hf, h0, hl => by
    obtain ⟨h1, h2⟩ := fitL_cons hf
    rw [h2] at hf ⊢
    rw [outL, List.length_append] at hl ⊢
    have e := fit_len _ (part_ok hck k hp i) x h1 (by omega)
    rw [e] at hf ⊢
    have ew : wrap64 (n + ((outT (rd_T29 f.f5 (i % f.f5.length)) x).length : Int)) = n + (outT (rd_T29 f.f5 (i % f.f5.length)) x).length := by unfold wrap64; omega
    rw [ew] at hf ⊢
    rw [fitL_len f hck k hp l (i + 1) _ hf (by omega) (by omega)]
    omega
end
end Go.Proofs.Ythmcbcofipehhaa.B
