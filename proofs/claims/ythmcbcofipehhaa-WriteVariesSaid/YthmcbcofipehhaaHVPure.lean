import Derived.Test.YthmcbcofipehhaaHVary
namespace Go.Proofs.Ythmcbcofipehhaa.B
set_option linter.unusedVariables false
/-! ### what another value in a place does, and what undoes it -/
def atT : S32 → List Int → S32
  | v, [] => v
  | v, i :: p => atT (rd_T32 v.f2 i) p
theorem rd_set {xs : List S32} {i : Int} {y : S32} (h0 : 0 ≤ i) (h1 : i < xs.length) : rd_T32 (xs.set i.toNat y) i = y := by
  have h : i.toNat < xs.length := by omega
  unfold rd_T32
  rw [List.getD_eq_getElem?_getD, List.getElem?_set_self h]
  rfl
theorem set_rd {xs : List S32} {i : Int} (h0 : 0 ≤ i) (h1 : i < xs.length) : xs.set i.toNat (rd_T32 xs i) = xs := by
  have h : i.toNat < xs.length := by omega
  have e := rd32_at h0 h1
  apply List.ext_getElem?
  intro j
  by_cases hj : i.toNat = j
  · subst hj; rw [List.getElem?_set_self h, e]
  · rw [List.getElem?_set_ne hj]
theorem vary_open {x v z : S32} {i : Int} {p : List Int} (h : varT x v (i :: p) = some z) : 0 ≤ i ∧ i < v.f2.length ∧ ∃ y, varT x (rd_T32 v.f2 i) p = some y ∧ z = putT v i y := by
  rw [varT] at h
  split at h
  · cases h
  · split at h
    · cases h
    · obtain ⟨y, hy, hz⟩ := Option.map_eq_some_iff.1 h
      exact ⟨by omega, by omega, y, hy, hz.symm⟩
theorem vary_back {x : S32} : ∀ (p : List Int) (v z : S32), varT x v p = some z → varT (atT v p) z p = some v
  | [], v, z, h => by rw [varT, atT]
  | i :: p, v, z, h => by
    obtain ⟨h0, h1, y, hy, rfl⟩ := vary_open h
    have ih := vary_back p _ _ hy
    have hl : (putT v i y).f2.length = v.f2.length := by simp [putT]
    have e : rd_T32 (putT v i y).f2 i = y := rd_set h0 h1
    rw [varT, atT, if_neg (by omega), hl, if_neg (by omega), e, ih]
    show some (putT (putT v i y) i (rd_T32 v.f2 i)) = some v
    have e2 : ((v.f2.set i.toNat y).set i.toNat (rd_T32 v.f2 i)) = v.f2 := by rw [List.set_set, set_rd h0 h1]
    unfold putT
    simp only [e2]
    cases v
    rfl
theorem szL_set : ∀ (l : List S32) (k : Nat) (y : S32), szL (l.set k y) ≤ szL l + szT y
  | [], k, y => by simp
  | a :: l, 0, y => by rw [List.set_cons_zero, szL, szL]; omega
  | a :: l, k + 1, y => by have := szL_set l k y; rw [List.set_cons_succ, szL, szL]; omega
theorem szL_set' : ∀ (l : List S32) (k : Nat) (a y : S32), l[k]? = some a → szL (l.set k y) + szT a = szL l + szT y
  | [], k, a, y, h => by simp at h
  | b :: l, 0, a, y, h => by
    have : b = a := by simpa using h
    subst this
    rw [List.set_cons_zero, szL, szL]; omega
  | b :: l, k + 1, a, y, h => by have := szL_set' l k a y (by simpa using h); rw [List.set_cons_succ, szL, szL]; omega
theorem vary_sz {x : S32} : ∀ (p : List Int) (v z : S32), varT x v p = some z → szT z ≤ szT v + szT x
  | [], v, z, h => by
    rw [varT] at h
    have : x = z := by simpa using h
    subst this; omega
  | i :: p, v, z, h => by
    obtain ⟨h0, h1, y, hy, rfl⟩ := vary_open h
    have ih := vary_sz p _ _ hy
    have := szL_set' v.f2 i.toNat _ y (rd32_at h0 h1)
    rw [szT_f2 (putT v i y), szT_f2 v]
    show 1 + szL (v.f2.set i.toNat y) ≤ _
    omega
theorem count_le {v : S32} (h : countT v 2000 ≤ 2000) : szT v ≤ 2000 := by
  rw [countT_eq v 2000 (by decide) (by decide)] at h
  split at h <;> omega
end Go.Proofs.Ythmcbcofipehhaa.B
