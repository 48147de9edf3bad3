import Derived.Test.YthmcbcofipehhaaHWrite2
import Derived.Test.YthmcbcofipehhaaHRef4c
import Derived.Test.YthmcbcofipehhaaHPure5
namespace Go.Proofs.Ythmcbcofipehhaa.B
open Go.RowKit Go.Proofs.YthmcbcofipehhaaW.PrintWords Go.Proofs.YthmcbcofipehhaaW.PrintLast Go.Proofs.YthmcbcofipehhaaW.PrintMore
set_option linter.unusedVariables false
set_option linter.unusedSimpArgs false
mutual
def byT : S32 → Nat
  | ⟨_, b, l⟩ => b.length + byL l
def byL : List S32 → Nat
  | [] => 0
  | x :: l => byT x + byL l
end
theorem alone_0 {v : S32} (h : aloneT 0 v = true) : v.f1 = [] ∧ v.f2 = [] := by
  have e : ownK 0 = 0 := rfl
  simp [aloneT, e] at h
  exact h
theorem alone_b {k : Int} {v : S32} (hk : k = 1 ∨ k = 4 ∨ k = 5) (h : aloneT k v = true) : v.f0 = 0 ∧ v.f2 = [] := by
  have e : ownK k = 1 := by rcases hk with rfl | rfl | rfl <;> rfl
  simp [aloneT, e] at h
  exact h
theorem alone_l {k : Int} {v : S32} (hk : k = 2 ∨ k = 3) (h : aloneT k v = true) : v.f0 = 0 ∧ v.f1 = [] := by
  have e : ownK k = 2 := by rcases hk with rfl | rfl <;> rfl
  simp [aloneT, e] at h
  exact h
theorem fit_b {f : S29} {v : S32} (hck : checkT f = 0) (hf : (fitT f v).2 = 0) (hk : f.f0 = 1 ∨ f.f0 = 4 ∨ f.f0 = 5) : v.f1.length ≤ 16777215 := by
  have ho := ownT_0 (checkT_own hck)
  have hal := fit_alone hf
  rcases hk with k | k | k
  · have h := fit1 hck hf k
    have := topT_le f.f1
    omega
  · have h1 : f.f3 ≤ 16777215 := by rcases ho with h | h | h | h | h <;> omega
    rw [fitT_eq, if_neg (by simp [hal]), if_neg (by omega), if_neg (by omega), if_pos k] at hf
    have hm := mayT_0 hf
    omega
  · have h1 : f.f2 ≤ 16777215 := by rcases ho with h | h | h | h | h <;> omega
    rw [fitT_eq, if_neg (by simp [hal]), if_neg (by omega), if_neg (by omega), if_neg (by omega), if_pos k] at hf
    have hm := mayT_0 hf
    omega
mutual
theorem bytesT_fit (f : S29) (hck : checkT f = 0) : ∀ (v : S32), (fitT f v).2 = 0 → ∀ m : Int, 0 ≤ m → m ≤ 100000 → 0 ≤ bytesT v m ∧ bytesT v m ≤ m + 16777215 ∧ (bytesT v m ≤ m → bytesT v m = byT v)
  | ⟨n, b, l⟩, hf, m, h0, h1 => by
    have hal := fit_alone hf
    have hb := byT.eq_1 n b l
    rw [bytesT, hb]
    rcases fit_kinds hck with k | k | k | k | k | k
    · have h := alone_0 (k ▸ hal)
      dsimp only at h
      rw [h.1, h.2]
      simp [bytesL, byL]
      omega
    · have h := alone_b (.inl k) hal
      have h2 := fit_b hck hf (.inl k)
      dsimp only at h h2
      rw [h.2]
      simp [bytesL, byL]
      omega
    · have h := alone_l (.inl k) hal
      have h2 := fit2 hck hf k
      dsimp only at h h2
      have h3 := bytesL_fit f hck (.inl k) (by omega) l 0 0 h2.2.1 m 0 h0 h1 (by omega) (by omega)
      rw [h.2]
      simp only [List.length_nil, Nat.zero_add, Int.natCast_zero]
      exact ⟨h3.1, h3.2.1, fun h4 => by have := h3.2.2 h4; omega⟩
    · have h := alone_l (.inr k) hal
      have h2 := fit3 hf k
      dsimp only at h h2
      rw [h.2]
      rcases Nat.eq_zero_or_pos l.length with hl | hp
      · have : l = [] := List.eq_nil_of_length_eq_zero hl
        subst this
        simp [bytesL, byL]
        omega
      · have h3 := bytesL_fit f hck (.inr k) (by omega) l 0 0 h2.1 m 0 h0 h1 (by omega) (by omega)
        simp only [List.length_nil, Nat.zero_add, Int.natCast_zero]
        exact ⟨h3.1, h3.2.1, fun h4 => by have := h3.2.2 h4; omega⟩
    · have h := alone_b (.inr (.inl k)) hal
      have h2 := fit_b hck hf (.inr (.inl k))
      dsimp only at h h2
      rw [h.2]
      simp [bytesL, byL]
      omega
    · have h := alone_b (.inr (.inr k)) hal
      have h2 := fit_b hck hf (.inr (.inr k))
      dsimp only at h h2
      rw [h.2]
      simp [bytesL, byL]
      omega
theorem bytesL_fit (f : S29) (hck : checkT f = 0) (k : f.f0 = 2 ∨ f.f0 = 3) (hp : 0 < f.f5.length) : ∀ (l : List S32) (i n0 : Int), (fitL f l i n0).2 = 0 → ∀ m n : Int, 0 ≤ m → m ≤ 100000 → 0 ≤ n → n ≤ m + 16777215 → n ≤ bytesL l m n ∧ bytesL l m n ≤ m + 16777215 ∧ (bytesL l m n ≤ m → bytesL l m n = n + byL l)
  | [], i, n0, hf, m, n, h0, h1, h2, h3 => by rw [bytesL, byL]; omega
  | x :: l, i, n0, hf, m, n, h0, h1, h2, h3 => by
    obtain ⟨hx, hl⟩ := fitL_cons hf
    rw [hl] at hf
    have hs : ((byL (x :: l) : Nat) : Int) = byT x + byL l := by rw [byL]; omega
    rw [bytesL, hs]
    by_cases hnm : n ≤ m
    · rw [if_pos hnm, w64 (n := m - n) (by omega)]
      have a := bytesT_fit _ (part_ok hck k hp i) x hx (m - n) (by omega) (by omega)
      rw [w64 (by omega)]
      have b := bytesL_fit f hck k hp l (i + 1) _ hf m (n + bytesT x (m - n)) h0 h1 (by omega) (by omega)
      refine ⟨by omega, b.2.1, fun h => ?_⟩
      have b3 := b.2.2 h
      have a3 := a.2.2 (by omega)
      omega
    · rw [if_neg hnm]
      omega
end
mutual
theorem out_le (f : S29) (hck : checkT f = 0) : ∀ (v : S32), (fitT f v).2 = 0 → (outT f v).length ≤ 8 * szT v + byT v
  | ⟨n, b, l⟩, hf => by
    rw [outT_eq, szT, byT]
    dsimp only
    rcases fit_kinds hck with k | k | k | k | k | k
    · have h := fit0 hck hf k
      rw [if_pos k, be_length]; omega
    · have h := fit1 hck hf k
      rw [if_neg (by omega), if_pos k, List.length_append, be_length]; omega
    · have h := fit2 hck hf k
      have h2 := out_leL f hck (.inl k) (by omega) l 0 0 h.2.1
      rw [if_neg (by omega), if_neg (by omega), if_pos k, List.length_append, be_length]; omega
    · have h := fit3 hf k
      rw [if_neg (by omega), if_neg (by omega), if_neg (by omega), if_pos k]
      rcases Nat.eq_zero_or_pos l.length with hl | hp
      · have : l = [] := List.eq_nil_of_length_eq_zero hl
        subst this
        simp [outL]
      · have h2 := out_leL f hck (.inr k) (by dsimp only at h; omega) l 0 0 h.1
        omega
    · rw [if_neg (by omega), if_neg (by omega), if_neg (by omega), if_neg (by omega)]; omega
    · rw [if_neg (by omega), if_neg (by omega), if_neg (by omega), if_neg (by omega)]; omega
theorem out_leL (f : S29) (hck : checkT f = 0) (k : f.f0 = 2 ∨ f.f0 = 3) (hp : 0 < f.f5.length) : ∀ (l : List S32) (i n0 : Int), (fitL f l i n0).2 = 0 → (outL f l i).length ≤ 8 * szL l + byL l
  | [], i, n0, hf => by simp [outL]
  | x :: l, i, n0, hf => by
    obtain ⟨hx, hl⟩ := fitL_cons hf
    rw [hl] at hf
    have a := out_le _ (part_ok hck k hp i) x hx
    have b := out_leL f hck k hp l (i + 1) _ hf
    rw [outL, List.length_append, szL, byL]
    omega
end
/-- Of what isn't greater than is looked at there are few bytes. -/
theorem wr_few {f : S29} {v : S32} (h : countT v 2000 ≤ 2000 ∧ bytesT v 20000 ≤ 20000) : (wrT f v).length ≤ 36000 := by
  unfold wrT
  by_cases e : (sizeT f v).2 = 0
  · rw [if_pos e]
    obtain ⟨_, hck, hf⟩ := sizeT_0 e
    have a := out_le f hck v hf
    have b := (bytesT_fit f hck v hf 20000 (by omega) (by omega)).2.2 h.2
    have c := h.1
    rw [countT_eq v 2000 (by omega) (by omega)] at c
    have hs : (szT v : Int) ≤ 2000 := by
      split at c
      · assumption
      · omega
    have := h.2
    omega
  · rw [if_neg e]; simp
/-! ### a row of two -/
def row2 (f g : S29) : S29 := ⟨3, 0, 0, 0, 0, [f, g]⟩
def val2 (x y : S32) : S32 := ⟨0, [], [x, y]⟩
theorem deep_le {x : S29} (h : deepT x 7 = false) : deepT x 8 = false := by
  have a := (dep_deep _ x (Nat.lt_succ_self _) 9 (by omega)).2 7 (by omega)
  have b := (dep_deep _ x (Nat.lt_succ_self _) 9 (by omega)).2 8 (by omega)
  cases hb : deepT x 8 with
  | false => rfl
  | true =>
    have h1 := b.2 hb
    have h2 := a.1 (show ((7 : Nat) : Int) < depF x 9 by have : ((8 : Nat) : Int) < depF x 9 := h1; omega)
    have h3 : deepT x 7 = true := h2
    rw [h] at h3
    cases h3
theorem check_row {f g : S29} (h : CheckT (row2 f g) = 0) : CheckT f = 0 ∧ CheckT g = 0 ∧ checkT (row2 f g) = 0 := by
  unfold CheckT at h
  by_cases hd : deepT (row2 f g) 8 = true
  · rw [if_pos hd] at h; exact absurd h (by decide)
  rw [if_neg hd] at h
  have hp : partsT (row2 f g) = [f, g] := rfl
  have e : wrap64 (8 - 1) = 7 := by decide +kernel
  rw [deepT_eq, if_neg (by decide), hp, e] at hd
  simp only [List.any_cons, List.any_nil, Bool.or_false, Bool.not_eq_true, Bool.or_eq_false_iff] at hd
  have hc := checkT_parts h
  rw [hp] at hc
  refine ⟨?_, ?_, h⟩
  · unfold CheckT; rw [deep_le hd.1]; exact hc f (by simp)
  · unfold CheckT; rw [deep_le hd.2]; exact hc g (by simp)
theorem size_fit {f : S29} {v : S32} (h : CheckT f = 0) : (sizeT f v).2 = (fitT f v).2 := by
  unfold sizeT
  rw [if_neg (by simp [h])]
  by_cases e : (fitT f v).2 = 0
  · rw [if_neg (by simp [e]), e]
  · rw [if_pos e]
theorem fit_row (f g : S29) (x y : S32) : (fitT (row2 f g) (val2 x y)).2 = if (fitT f x).2 ≠ 0 then (fitT f x).2 else (fitT g y).2 := by
  have hal : ¬ (aloneT (row2 f g).f0 (val2 x y) = false) := by
    have e : ownK 3 = 2 := rfl
    simp [aloneT, row2, val2, e]
  have hL : (fitL (row2 f g) (val2 x y).f2 0 0).2 = if (fitT f x).2 ≠ 0 then (fitT f x).2 else (fitT g y).2 := by
    show (fitL (row2 f g) [x, y] 0 0).2 = _
    have r0 : rd_T29 (row2 f g).f5 (0 % ((row2 f g).f5.length : Int)) = f := rfl
    have r1 : rd_T29 (row2 f g).f5 ((0 + 1) % ((row2 f g).f5.length : Int)) = g := rfl
    rw [fitL, r0]
    by_cases e : (fitT f x).2 ≠ 0
    · rw [if_pos e, if_pos e]
    · rw [if_neg e, if_neg e, fitL, r1]
      by_cases e2 : (fitT g y).2 ≠ 0
      · rw [if_pos e2]
      · rw [if_neg e2, fitL]
        have : (fitT g y).2 = 0 := by simpa using e2
        rw [this]
  have k3 : (row2 f g).f0 = 3 := rfl
  rw [fitT_eq, if_neg hal, if_neg (by rw [k3]; decide), if_neg (by rw [k3]; decide), if_neg (by rw [k3]; decide), if_neg (by rw [k3]; decide), if_neg (by rintro ⟨_, h⟩; exact h rfl), hL]
  by_cases e : (if (fitT f x).2 ≠ 0 then (fitT f x).2 else (fitT g y).2) ≠ 0
  · rw [if_pos e]
  · rw [if_neg e, if_pos k3]
    have : (if (fitT f x).2 ≠ 0 then (fitT f x).2 else (fitT g y).2) = 0 := by simpa using e
    rw [this]
theorem out_row (f g : S29) (x y : S32) : outT (row2 f g) (val2 x y) = outT f x ++ outT g y := by
  have r0 : rd_T29 (row2 f g).f5 (0 % ((row2 f g).f5.length : Int)) = f := rfl
  have r1 : rd_T29 (row2 f g).f5 ((0 + 1) % ((row2 f g).f5.length : Int)) = g := rfl
  have k3 : (row2 f g).f0 = 3 := rfl
  rw [outT_eq, if_neg (by rw [k3]; decide), if_neg (by rw [k3]; decide), if_neg (by rw [k3]; decide), if_pos k3]
  show outL (row2 f g) [x, y] 0 = _
  rw [outL, r0, outL, r1, outL, List.append_nil]
/-- The law of a row of two. -/
theorem rows_law {f g : S29} {x y : S32} (h : CheckT (row2 f g) = 0) :
    ((sizeT f x).2 = 0 ∧ (sizeT g y).2 = 0 → (sizeT (row2 f g) (val2 x y)).2 = 0 ∧ wrT (row2 f g) (val2 x y) = wrT f x ++ wrT g y) ∧
    (¬ ((sizeT f x).2 = 0 ∧ (sizeT g y).2 = 0) → (sizeT (row2 f g) (val2 x y)).2 ≠ 0 ∧ wrT (row2 f g) (val2 x y) = []) := by
  obtain ⟨hf, hg, hck⟩ := check_row h
  have e := fit_row f g x y
  rw [size_fit hf, size_fit hg, size_fit h, e]
  constructor
  · rintro ⟨h1, h2⟩
    rw [if_neg (by simp [h1])]
    refine ⟨h2, ?_⟩
    unfold wrT
    rw [if_pos (by rw [size_fit h, e, if_neg (by simp [h1]), h2]), if_pos (by rw [size_fit hf, h1]), if_pos (by rw [size_fit hg, h2])]
    exact out_row f g x y
  · intro hn
    have hne : (if (fitT f x).2 ≠ 0 then (fitT f x).2 else (fitT g y).2) ≠ 0 := by
      by_cases e1 : (fitT f x).2 ≠ 0
      · rw [if_pos e1]; exact e1
      · rw [if_neg e1]
        intro h2
        exact hn ⟨by simpa using e1, h2⟩
    refine ⟨hne, ?_⟩
    unfold wrT
    rw [if_neg (by rw [size_fit h, e]; exact hne)]
end Go.Proofs.Ythmcbcofipehhaa.B
