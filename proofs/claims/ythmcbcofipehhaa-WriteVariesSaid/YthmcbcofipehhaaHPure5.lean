import Derived.Test.YthmcbcofipehhaaHSame5
namespace Go.Proofs.Ythmcbcofipehhaa.B
open Go.RowKit Go.Proofs.YthmcbcofipehhaaW.PrintWords Go.Proofs.YthmcbcofipehhaaW.PrintLast Go.Proofs.YthmcbcofipehhaaW.PrintMore
set_option linter.unusedVariables false
set_option linter.unusedSimpArgs false
/-! ### plain laws on values: sameness, numbers of values -/
theorem eqB_refl (a : List Int) : eqB a a = true := by simp [eqB]
theorem eqB_symm (a b : List Int) : eqB a b = eqB b a := by
  unfold eqB
  rw [Bool.eq_iff_iff]
  simp only [beq_iff_eq]
  exact ⟨fun h => h.symm, fun h => h.symm⟩
mutual
theorem sameT_refl : ∀ x : S32, sameT x x = true
  | ⟨n, b, l⟩ => by simp [sameT, eqB_refl, sameL_refl l]
theorem sameL_refl : ∀ l : List S32, sameL l l = true
  | [] => by rw [sameL]
  | x :: l => by rw [sameL, sameT_refl x, sameL_refl l]; rfl
end
mutual
theorem sameT_symm : ∀ x y : S32, sameT x y = sameT y x
  | ⟨n, b, l⟩, ⟨n', b', l'⟩ => by
    simp only [sameT]
    rw [eqB_symm b b', sameL_symm l l']
    have : (n == n') = (n' == n) := by rw [Bool.eq_iff_iff]; simp only [beq_iff_eq]; exact ⟨fun h => h.symm, fun h => h.symm⟩
    rw [this]
theorem sameL_symm : ∀ l m : List S32, sameL l m = sameL m l
  | [], [] => rfl
  | x :: l, y :: m => by rw [sameL, sameL, sameT_symm x y, sameL_symm l m]
  | [], _ :: _ => by rw [sameL, sameL]
  | _ :: _, [] => by rw [sameL, sameL]
end
mutual
def szT : S32 → Nat
  | ⟨_, _, l⟩ => 1 + szL l
def szL : List S32 → Nat
  | [] => 0
  | x :: l => szT x + szL l
end
theorem w64 {n : Int} (h : -9223372036854775808 ≤ n ∧ n ≤ 9223372036854775807) : wrap64 n = n := by unfold wrap64; omega
mutual
theorem countT_eq : ∀ (v : S32) (m : Int), 0 ≤ m → m ≤ 2199023255552 → countT v m = if (szT v : Int) ≤ m then (szT v : Int) else m + 1
  | ⟨_, _, l⟩, m, h0, h1 => by
    rename_i a b
    have e : ((szT ⟨a, b, l⟩ : Nat) : Int) = 1 + szL l := by rw [szT]; omega
    rw [countT, countL_eq l m 1 h0 h1 (by omega) (by omega), e]
    by_cases h : 1 + (szL l : Int) ≤ m
    · rw [if_pos h, if_pos h]
    · rw [if_neg h, if_neg h]
      by_cases h' : (1 : Int) ≤ m
      · rw [if_pos h']
      · rw [if_neg h']; omega
theorem countL_eq : ∀ (l : List S32) (m n : Int), 0 ≤ m → m ≤ 2199023255552 → 0 ≤ n → n ≤ m + 1 → countL l m n = if n + (szL l : Int) ≤ m then n + (szL l : Int) else if n ≤ m then m + 1 else n
  | [], m, n, h0, h1, h2, h3 => by
    have e : ((szL [] : Nat) : Int) = 0 := by rw [szL]; rfl
    rw [countL, e]
    by_cases h : n + 0 ≤ m
    · rw [if_pos h]; omega
    · rw [if_neg h, if_neg (by omega)]
  | x :: l, m, n, h0, h1, h2, h3 => by
    rw [countL]
    have hs : ((szL (x :: l) : Nat) : Int) = szT x + szL l := by rw [szL]; omega
    have hpos : 0 ≤ (szT x : Int) := by omega
    have hpos2 : 0 ≤ (szL l : Int) := by omega
    by_cases hnm : n ≤ m
    · rw [if_pos hnm, w64 (n := m - n) (by omega), countT_eq x (m - n) (by omega) (by omega)]
      by_cases hx : (szT x : Int) ≤ m - n
      · rw [if_pos hx, w64 (by omega), countL_eq l m (n + szT x) h0 h1 (by omega) (by omega), hs]
        by_cases hl : n + szT x + szL l ≤ m
        · rw [if_pos hl, if_pos (by omega)]; omega
        · rw [if_neg hl, if_pos (by omega), if_neg (by omega), if_pos hnm]
      · rw [if_neg hx, w64 (by omega), countL_eq l m (n + (m - n + 1)) h0 h1 (by omega) (by omega), hs, if_neg (by omega), if_neg (by omega), if_neg (by omega), if_pos hnm]
        omega
    · rw [if_neg hnm, hs, if_neg (by omega), if_neg hnm]
end
mutual
theorem cntT_eq : ∀ (v : S32), szT v ≤ 4611686018427387904 → cntT v = szT v
  | ⟨_, _, l⟩, h => by
    rw [szT] at h
    rw [cntT, cntL_eq l 1 (by omega) (by omega), szT]
    omega
theorem cntL_eq : ∀ (l : List S32) (n : Int), 0 ≤ n → n + szL l ≤ 4611686018427387904 → cntL l n = n + szL l
  | [], n, h0, h => by rw [cntL, szL]; omega
  | x :: l, n, h0, h => by
    have hs : ((szL (x :: l) : Nat) : Int) = szT x + szL l := by rw [szL]; omega
    rw [hs] at h ⊢
    rw [cntL, cntT_eq x (by omega), w64 (by omega), cntL_eq l (n + szT x) (by omega) (by omega)]
    omega
end
/-- What isn't greater than is looked at. -/
theorem great_count {f : S29} {l : List S32} (h : ¬ 0 < greatT f l) : ∀ v, v ∈ l → countT v 2000 ≤ 2000 ∧ bytesT v 20000 ≤ 20000 := by
  unfold greatT at h
  split at h
  · omega
  · have aux : ∀ l : List S32, ¬ 0 < greatL l → ∀ v, v ∈ l → countT v 2000 ≤ 2000 ∧ bytesT v 20000 ≤ 20000 := by
      intro l
      induction l with
      | nil => intro _ v hv; cases hv
      | cons x l ih =>
        intro h v hv
        rw [greatL] at h
        by_cases h1 : countT x 2000 > 2000
        · rw [if_pos h1] at h; omega
        rw [if_neg h1] at h
        by_cases h2 : bytesT x 20000 > 20000
        · rw [if_pos h2] at h; omega
        rw [if_neg h2] at h
        rcases List.mem_cons.1 hv with rfl | hv
        · exact ⟨by omega, by omega⟩
        · exact ih h v hv
    exact aux l h
theorem count_cnt {v : S32} (h : countT v 2000 ≤ 2000) : cntT v = countT v 1099511627776 := by
  rw [countT_eq v 2000 (by omega) (by omega)] at h
  have hs : (szT v : Int) ≤ 2000 := by
    split at h
    · assumption
    · omega
  rw [countT_eq v 1099511627776 (by omega) (by omega), if_pos (by omega), cntT_eq v (by omega)]
end Go.Proofs.Ythmcbcofipehhaa.B
