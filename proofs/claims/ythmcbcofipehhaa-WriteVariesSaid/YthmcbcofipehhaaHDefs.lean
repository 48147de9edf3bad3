import Derived.Test.YthmcbcofipehhaaHLay
import Derived.Test.YthmcbcofipehhaaB2
namespace Go.Proofs.Ythmcbcofipehhaa.B
open Go.RowKit Go.Proofs.YthmcbcofipehhaaW.PrintWords Go.Proofs.YthmcbcofipehhaaW.PrintLast Go.Proofs.YthmcbcofipehhaaW.PrintMore
set_option linter.unusedVariables false
set_option linter.unusedSimpArgs false

def topT (s : Int) : Int := if s = 1 then 255 else if s = 2 then 65535 else 16777215
def bndT (lo hi most : Int) : Int := if lo < 0 then 5 else if hi < lo then 5 else if hi > most then 5 else 0
/-- What is wrong with a form itself. -/
def ownT (x : S29) : Int :=
  if x.f0 = 0 then (if x.f1 = 1 ∨ x.f1 = 2 ∨ x.f1 = 3 ∨ x.f1 = 4 ∨ x.f1 = 8 then 0 else 3)
  else if x.f0 = 1 ∨ x.f0 = 2 then (if x.f1 < 1 ∨ x.f1 > 3 then 3 else if bndT x.f2 x.f3 (topT x.f1) ≠ 0 ∨ x.f4 < 1 ∨ x.f4 > 65536 then 5 else if x.f0 = 2 ∧ x.f5.length ≠ 1 then 15 else 0)
  else if x.f0 = 3 then (if x.f5.length > 32 then 15 else 0)
  else if x.f0 = 4 then bndT x.f2 x.f3 16777215
  else if x.f0 = 5 then bndT x.f2 x.f2 16777215
  else 2
theorem bnd_tot (a b c : Int) : layout_bounds.f a b c = some (bndT a b c) := by
  unfold layout_bounds.f bndT
  repeat' split
  all_goals first | rfl | omega
theorem shl_top {s : Int} (h1 : ¬ s < 1) (h3 : ¬ s > 3) : wrap64 (8 * s) = 8 * s ∧ wrap64 (shl .i64 1 (8 * s) - 1) = topT s := by
  have : s = 1 ∨ s = 2 ∨ s = 3 := by omega
  rcases this with rfl | rfl | rfl <;> exact ⟨by decide +kernel, by decide +kernel⟩
theorem own_tot (x : S29) : layout_own.f 3 x.f0 x.f1 x.f2 x.f3 x.f4 x.f5 = some (ownT x) := by
  obtain ⟨k, s, lo, hi, st, ps⟩ := x
  have j : ∀ k : Int, k = 1 ∨ k = 2 → layout_own.j0 3 k s lo hi st ps = some (if s < 1 ∨ s > 3 then 3 else if bndT lo hi (topT s) ≠ 0 ∨ st < 1 ∨ st > 65536 then 5 else if k = 2 ∧ ps.length ≠ 1 then 15 else 0) := by
    intro k hk
    by_cases h1 : s < 1
    · simp [layout_own.j0, layout_own.j1, h1]
    by_cases h3 : s > 3
    · simp [layout_own.j0, layout_own.j1, h1, h3]
    obtain ⟨e1, e2⟩ := shl_top h1 h3
    have e0 : 0 ≤ 8 * s := by omega
    simp only [layout_own.j0, layout_own.j1, e1, e2, h1, h3, e0, bnd_tot, Option.bind_some, decide_false, if_true, if_false, Bool.false_eq_true, or_false, false_or]
    by_cases b : bndT lo hi (topT s) = 0
    · simp only [b, if_true]
      by_cases t1 : st < 1
      · simp [layout_own.j2, t1]
      by_cases t2 : st > 65536
      · simp [layout_own.j2, t1, t2]
      simp only [layout_own.j2, t1, t2, if_false, decide_false, Bool.false_eq_true]
      by_cases k2 : k = 2
      · subst k2
        by_cases l : ps.length = 1
        · simp [l]
        · have : ¬ ((ps.length : Int) = 1) := by omega
          simp [l, this]
      · simp [k2]
    · simp [b, layout_own.j2]
  simp only [layout_own.f, ownT, bnd_tot, Option.bind_some]
  by_cases k0 : k = 0
  · simp only [k0, if_true]
    repeat' split
    all_goals first | rfl | omega
  by_cases k2 : k = 2
  · subst k2
    simp only [if_true, if_false, or_true, show ¬ ((2 : Int) = 0) by decide]
    simpa using j 2 (.inr rfl)
  by_cases k1 : k = 1
  · subst k1
    simp only [if_true, if_false, true_or, show ¬ ((1 : Int) = 0) by decide, show ¬ ((1 : Int) = 2) by decide]
    simpa using j 1 (.inl rfl)
  simp only [k0, k1, k2, if_false, or_self]
  repeat' split
  all_goals first | rfl | omega
theorem own_any (x : S29) (A : Option Addr) (c : Nat) (w : World) (hr : Kd.C k29 w A x.f5.length x.f5) (hc : x.f5.length ≤ c) :
    Calls Try.prog 73 #[.agg #[.int .i64 x.f0, .int .i64 x.f1, .int .i64 x.f2, .int .i64 x.f3, .int .i64 x.f4, .slice A x.f5.length c]] w fun e w' => e = .returned (.int .i64 (ownT x)) ∧ Below w.heap.size w w' :=
  layout_own.calls 3 x.f0 x.f1 x.f2 x.f3 x.f4 A c x.f5 _ w hr hc (own_tot x)

mutual
/-- Have its bytes no end of their own? -/
def openT : S29 → Bool
  | ⟨k, _, _, _, _, ps⟩ => if k = 3 then openLast ps false else k == 4
def openLast : List S29 → Bool → Bool
  | [], b => b
  | g :: l, _ => openLast l (openT g)
end
theorem openLast_snoc : ∀ (l : List S29) (g : S29) (b : Bool), openLast (l ++ [g]) b = openT g
  | [], g, b => by simp [openLast]
  | a :: l, g, b => by simp only [List.cons_append, openLast]; exact openLast_snoc l g _
theorem openLast_rd {l : List S29} (h : 0 < l.length) (b : Bool) : openLast l b = openT (rd_T29 l ((l.length : Int) - 1)) := by
  have hne : l ≠ [] := by intro h0; simp [h0] at h
  have e := List.dropLast_concat_getLast hne
  have e2 : rd_T29 l ((l.length : Int) - 1) = l.getLast hne := by
    unfold rd_T29
    have : ((l.length : Int) - 1).toNat = l.length - 1 := by omega
    rw [this, List.getD_eq_getElem?_getD, ← List.getLast?_eq_getElem?, List.getLast?_eq_some_getLast hne]
    rfl
  rw [e2]
  conv => lhs; rw [← e]
  exact openLast_snoc _ _ _
theorem openT_step {x : S29} (h3 : x.f0 = 3) (h : 0 < x.f5.length) : openT x = openT (rd_T29 x.f5 ((x.f5.length : Int) - 1)) := by
  obtain ⟨k, s, lo, hi, st, ps⟩ := x
  dsimp only at h3 h
  subst h3
  simp only [openT, if_true]
  exact openLast_rd h _
theorem openT_end {x : S29} (h : ¬ (x.f0 = 3 ∧ 0 < x.f5.length)) : openT x = (x.f0 == 4) := by
  obtain ⟨k, s, lo, hi, st, ps⟩ := x
  dsimp only at h ⊢
  by_cases h3 : k = 3
  · have : ps = [] := by cases ps with | nil => rfl | cons a l => exact absurd ⟨h3, by simp⟩ h
    simp [openT, h3, this, openLast]
  · simp [openT, h3]
def w6 (w : World) (g : Nat) (b0 b1 b2 b3 b4 b5 : Value) : World := (((((w.setCell ⟨g, 0, none⟩ b0).setCell ⟨g, 1, none⟩ b1).setCell ⟨g, 2, none⟩ b2).setCell ⟨g, 3, none⟩ b3).setCell ⟨g, 4, none⟩ b4).setCell ⟨g, 5, none⟩ b5
theorem blk6 {w : World} {g : Nat} {t : TypeId} {a0 a1 a2 a3 a4 a5 : Value} (h : w.heap[g]? = some (.cells #[a0, a1, a2, a3, a4, a5] t (0, 0))) (b0 b1 b2 b3 b4 b5 : Value) :
    (w6 w g b0 b1 b2 b3 b4 b5).heap[g]? = some (.cells #[b0, b1, b2, b3, b4, b5] t (0, 0)) := by
  have h0 := blk_put (cs' := #[b0, a1, a2, a3, a4, a5]) h 0 b0 rfl
  have h1 := blk_put (cs' := #[b0, b1, a2, a3, a4, a5]) h0 1 b1 rfl
  have h2 := blk_put (cs' := #[b0, b1, b2, a3, a4, a5]) h1 2 b2 rfl
  have h3 := blk_put (cs' := #[b0, b1, b2, b3, a4, a5]) h2 3 b3 rfl
  have h4 := blk_put (cs' := #[b0, b1, b2, b3, b4, a5]) h3 4 b4 rfl
  exact blk_put (cs' := #[b0, b1, b2, b3, b4, b5]) h4 5 b5 rfl
theorem below6 {w W : World} (h : Below w.heap.size w W) {g : Nat} (hg : w.heap.size ≤ g) (b0 b1 b2 b3 b4 b5 : Value) : Below w.heap.size w (w6 W g b0 b1 b2 b3 b4 b5) :=
  below_set (below_set (below_set (below_set (below_set (below_set h hg) hg) hg) hg) hg) hg
set_option maxHeartbeats 1000000 in
set_option maxRecDepth 100000 in
theorem Open_any (x : S29) (A : Option Addr) (c : Nat) (w : World) (hr : Kd.C k29 w A x.f5.length x.f5) (hc : x.f5.length ≤ c) :
    Calls Try.prog 74 #[.agg #[.int .i64 x.f0, .int .i64 x.f1, .int .i64 x.f2, .int .i64 x.f3, .int .i64 x.f4, .slice A x.f5.length c]] w fun e w' => e = .returned (.bool (openT x)) ∧ Below w.heap.size w w' := by
  have hu29 := Try.underlying29
  have HB := Aside0.mk (Below.refl w.heap.size w)
  have HR := Aside0.mk hr
  have HC := Aside0.mk hc
  clear hr hc
  go_enter Try.func74, Try.ntmps74
  go_wp2
  go_loopg [] (SizeOf.sizeOf x + 1) (fun kq w' => ∃ (y : S29) (B : Option Addr) (d : Nat), Aside0 (SizeOf.sizeOf y < kq) ∧ Aside0 (openT y = openT x) ∧ Aside0 (Kd.C k29 w B y.f5.length y.f5) ∧ Aside0 (y.f5.length ≤ d) ∧ Aside0 (w'.heap[w.heap.size]? = some (.cells #[.int .i64 y.f0, .int .i64 y.f1, .int .i64 y.f2, .int .i64 y.f3, .int .i64 y.f4, .slice B y.f5.length d] 29 (0, 0))) ∧ Aside0 (Below w.heap.size w w'))
  case atStart => exact ⟨x, A, c, ⟨by omega⟩, ⟨rfl⟩, HR, HC, ⟨heap_alloc_new w _⟩, ⟨below_alloc HB.out _⟩⟩
  case round =>
    clear HB HR HC
    obtain ⟨y, B, d, HK, HE, HR, HC, BK, HB⟩ := hrel
    have hcz0 : wr.cell? ⟨w.heap.size, 0, none⟩ = some (.int .i64 y.f0) := (blk_cell BK.out 0).trans rfl
    have hcz1 : wr.cell? ⟨w.heap.size, 1, none⟩ = some (.int .i64 y.f1) := (blk_cell BK.out 1).trans rfl
    have hcz2 : wr.cell? ⟨w.heap.size, 2, none⟩ = some (.int .i64 y.f2) := (blk_cell BK.out 2).trans rfl
    have hcz3 : wr.cell? ⟨w.heap.size, 3, none⟩ = some (.int .i64 y.f3) := (blk_cell BK.out 3).trans rfl
    have hcz4 : wr.cell? ⟨w.heap.size, 4, none⟩ = some (.int .i64 y.f4) := (blk_cell BK.out 4).trans rfl
    have hcz5 : wr.cell? ⟨w.heap.size, 5, none⟩ = some (.slice B y.f5.length d) := (blk_cell BK.out 5).trans rfl
    by_cases h3 : y.f0 = 3
    case neg =>
      have h3b : (y.f0 == 3) = false := by simpa using h3
      have E' := Aside0.mk (show openT x = (y.f0 == 4) by rw [← HE.out, openT_end (fun h => h3 h.1)])
      clear h3
      go_wp2
      go_ret
      exact ⟨by rw [E'.out]; try rfl, HB.out⟩
    case pos =>
    have h3b : (y.f0 == 3) = true := by simpa using h3
    by_cases hl : (0 : Int) < (y.f5.length : Int)
    case neg =>
      have hlb : decide ((0 : Int) < (y.f5.length : Int)) = false := decide_eq_false hl
      have hlc : decide (0 < y.f5.length) = false := decide_eq_false (by omega)
      have E' := Aside0.mk (show openT x = (y.f0 == 4) by rw [← HE.out, openT_end (fun h => by omega)])
      clear h3
      go_wp2
      go_ret
      exact ⟨by rw [E'.out]; try rfl, HB.out⟩
    case pos =>
      have hlb : decide ((0 : Int) < (y.f5.length : Int)) = true := decide_eq_true hl
      have hlc : decide (0 < y.f5.length) = true := decide_eq_true (by omega)
      have hmx := Kd.C_max HR.out
      obtain ⟨j, hj⟩ : ∃ j : Int, (y.f5.length : Int) - 1 = j := ⟨_, rfl⟩
      have i0 : 0 ≤ j := by omega
      have i1 : j < (y.f5.length : Int) := by omega
      have HE2 := Aside0.mk (hj ▸ ((openT_step h3 (by omega)).symm.trans HE.out))
      have hM := Aside0.mk (show SizeOf.sizeOf (rd_T29 y.f5 j) < SizeOf.sizeOf y by have := size_rd29 i0 i1; obtain ⟨_, _, _, _, _, ps⟩ := y; simp; dsimp only at this; omega)
      obtain ⟨ad, A5, c5, e, hx0, hx1, hx2, hx3, hx4, hx5, hl5, hi5⟩ := at_T29 HR.out _ i0 i1
      cases e
      replace hx0 := (HB.out.cell (World.block_lt_of_cell? w _ hx0)).trans hx0
      replace hx1 := (HB.out.cell (World.block_lt_of_cell? w _ hx1)).trans hx1
      replace hx2 := (HB.out.cell (World.block_lt_of_cell? w _ hx2)).trans hx2
      replace hx3 := (HB.out.cell (World.block_lt_of_cell? w _ hx3)).trans hx3
      replace hx4 := (HB.out.cell (World.block_lt_of_cell? w _ hx4)).trans hx4
      replace hx5 := (HB.out.cell (World.block_lt_of_cell? w _ hx5)).trans hx5
      have HR5 := Aside0.mk hi5
      have HC5 := Aside0.mk hl5
      have hfz0 := blk_frozen BK.out 0
      have hfz1 := blk_frozen BK.out 1
      have hfz2 := blk_frozen BK.out 2
      have hfz3 := blk_frozen BK.out 3
      have hfz4 := blk_frozen BK.out 4
      have hfz5 := blk_frozen BK.out 5
      clear hi5 hl5 h3
      go_wp2
      go_roundg (SizeOf.sizeOf y)
      case measure => exact HK.out
      case rel => exact ⟨rd_T29 y.f5 j, A5, c5, hM, HE2, HR5, HC5, ⟨blk6 BK.out _ _ _ _ _ _⟩, ⟨below6 HB.out (Nat.le_refl _) _ _ _ _ _ _⟩⟩
end Go.Proofs.Ythmcbcofipehhaa.B
