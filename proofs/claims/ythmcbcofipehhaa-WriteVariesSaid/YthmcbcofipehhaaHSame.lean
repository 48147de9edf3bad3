import Derived.Test.YthmcbcofipehhaaHQ
import Derived.Test.YthmcbcofipehhaaB11
namespace Go.Proofs.Ythmcbcofipehhaa.B
open Go.RowKit Go.Proofs.YthmcbcofipehhaaW.PrintWords Go.Proofs.YthmcbcofipehhaaW.PrintLast Go.Proofs.YthmcbcofipehhaaW.PrintMore
set_option linter.unusedVariables false
set_option linter.unusedSimpArgs false
/-! ### value.Same, slices.EqualFunc -/
theorem drop32' {xs : List S32} {i : Int} (h0 : 0 ≤ i) (h1 : i < xs.length) : xs.drop i.toNat = rd_T32 xs i :: xs.drop (i + 1).toNat := by
  have h : i.toNat < xs.length := by omega
  have e : (i + 1).toNat = i.toNat + 1 := by omega
  unfold rd_T32
  simp [List.getD_eq_getElem?_getD, List.getElem?_eq_getElem h, e]
theorem mem_rd32' {xs : List S32} {i : Int} (h0 : 0 ≤ i) (h1 : i < xs.length) : rd_T32 xs i ∈ xs := by
  unfold rd_T32
  have h : i.toNat < xs.length := by omega
  rw [List.getD_eq_getElem?_getD, List.getElem?_eq_getElem h]
  exact List.getElem_mem h
def eqB (a b : List Int) : Bool := (strOfNums a).toList == (strOfNums b).toList
mutual
def sameT : S32 → S32 → Bool
  | ⟨n, b, l⟩, y => (n == y.f0 && eqB b y.f1) && sameL l y.f2
def sameL : List S32 → List S32 → Bool
  | [], [] => true
  | x :: l, y :: m => sameT x y && sameL l m
  | [], _ :: _ => false
  | _ :: _, [] => false
end
theorem sameL_len : ∀ (l m : List S32), l.length ≠ m.length → sameL l m = false
  | [], [], h => absurd rfl h
  | x :: l, y :: m, h => by rw [sameL, sameL_len l m (by simpa using h), Bool.and_false]
  | [], _ :: _, _ => by rw [sameL]
  | _ :: _, [], _ => by rw [sameL]
def FN17 : Value := .func (.func 17) #[] #[]
def Says17 (w : World) (l : List S32) : Prop := ∀ x, x ∈ l → ∀ (y : S32) (W : World) (A1 : Option Addr) (c1 : Nat) (A2 : Option Addr) (c2 : Nat) (B1 : Option Addr) (d1 : Nat) (B2 : Option Addr) (d2 : Nat), Below w.heap.size w W →
  Kd.C (Kd.int .u8) W A1 x.f1.length x.f1 → x.f1.length ≤ c1 → Kd.C k32 W A2 x.f2.length x.f2 → x.f2.length ≤ c2 → Kd.C (Kd.int .u8) W B1 y.f1.length y.f1 → y.f1.length ≤ d1 → Kd.C k32 W B2 y.f2.length y.f2 → y.f2.length ≤ d2 →
  Calls Try.prog 17 #[.agg #[.int .u64 x.f0, .slice A1 x.f1.length c1, .slice A2 x.f2.length c2], .agg #[.int .u64 y.f0, .slice B1 y.f1.length d1, .slice B2 y.f2.length d2]] W fun e w' => e = .returned (.bool (sameT x y)) ∧ Below W.heap.size W w'
set_option maxHeartbeats 4000000 in
set_option maxRecDepth 100000 in
theorem EqualFunc_any (l m : List S32) (A : Option Addr) (c : Nat) (B : Option Addr) (d : Nat) (w : World) (hr : Kd.C k32 w A l.length l) (hc : l.length ≤ c) (hr2 : Kd.C k32 w B m.length m) (hc2 : m.length ≤ d) (hp : Says17 w l) :
    Calls Try.prog 35 #[.slice A l.length c, .slice B m.length d, .func (.func 17) #[] #[]] w fun e w' => e = .returned (.bool (sameL l m)) ∧ Below w.heap.size w w' := by
  have hu32 := Try.underlying32
  have hmx := Kd.C_max hr
  have HR := Aside0.mk hr
  have HC := Aside0.mk hc
  have HR2 := Aside0.mk hr2
  have HC2 := Aside0.mk hc2
  have HP := Aside0.mk hp
  clear hr hc hr2 hc2 hp
  have HB := Aside0.mk (Below.refl w.heap.size w)
  by_cases hl : (l.length : Int) = m.length
  case neg =>
    have E := Aside0.mk (sameL_len l m (by omega))
    have n1 : ((l.length : Int) == m.length) = false := by simpa using hl
    have n2 : ((l.length : Int) != m.length) = true := by simpa using hl
    have n3 : (l.length == m.length) = false := by simp only [beq_eq_false_iff_ne]; omega
    have n4 : (l.length != m.length) = true := by simp only [bne_iff_ne]; omega
    clear hl
    go_enter Try.func35, Try.ntmps35
    go_wp2
    go_ret
    exact ⟨by rw [E.out]; try rfl, HB.out⟩
  case pos =>
  have n1 : ((l.length : Int) == m.length) = true := by simpa using hl
  have n2 : ((l.length : Int) != m.length) = false := by simpa using hl
  have n3 : (l.length == m.length) = true := by simp only [beq_iff_eq]; omega
  have n4 : (l.length != m.length) = false := by simp only [bne_eq_false_iff_eq]; omega
  have HL := Aside0.mk hl
  clear hl
  go_enter Try.func35, Try.ntmps35
  go_wp2
  go_loopg [17] (l.length + 1) (fun kq v17 w' => ∃ (i : Int), v17 = .int .i64 i ∧ 0 ≤ i ∧ i ≤ l.length ∧ Aside0 (sameL (l.drop i.toNat) (m.drop i.toNat) = sameL l m) ∧ Aside0 ((kq : Int) + i = l.length + 1) ∧ Aside0 (Below w.heap.size w w'))
  case atStart => exact ⟨0, rfl, by omega, by omega, ⟨rfl⟩, ⟨by omega⟩, HB⟩
  case round =>
    clear HB
    obtain ⟨i, rfl, i0, i1, HA, HK, HB⟩ := hrel
    by_cases hlt : i < (l.length : Int)
    case neg =>
      have cq : decide (i < (l.length : Int)) = false := decide_eq_false hlt
      have E := Aside0.mk (show sameL l m = true by
        rw [← HA.out, List.drop_eq_nil_of_le (by omega), List.drop_eq_nil_of_le (by have := HL.out; omega), sameL])
      clear hlt
      go_wp2
      go_ret
      exact ⟨by rw [E.out]; try rfl, HB.out⟩
    case pos =>
      obtain ⟨k1, rfl⟩ : ∃ m, gk = m + 1 := ⟨gk - 1, by have := HK.out; omega⟩
      have cq : decide (i < (l.length : Int)) = true := decide_eq_true hlt
      have hlm : i < (m.length : Int) := by have := HL.out; omega
      have HST := Aside0.mk (show sameL (l.drop i.toNat) (m.drop i.toNat) = (sameT (rd_T32 l i) (rd_T32 m i) && sameL (l.drop (i + 1).toNat) (m.drop (i + 1).toNat)) by rw [drop32' i0 hlt, drop32' i0 hlm, sameL])
      have HM := Aside0.mk (mem_rd32' i0 hlt)
      obtain ⟨ad, A1, c1, A2, c2, e, hx0, hx1, hx2, lx1, ix1, lx2, ix2⟩ := at_T32 HR.out i i0 hlt
      cases e
      obtain ⟨bd, B1, d1, B2, d2, e, hy0, hy1, hy2, ly1, iy1, ly2, iy2⟩ := at_T32 HR2.out i i0 hlm
      cases e
      replace hx0 := (HB.out.cell (World.block_lt_of_cell? w _ hx0)).trans hx0
      replace hx1 := (HB.out.cell (World.block_lt_of_cell? w _ hx1)).trans hx1
      replace hx2 := (HB.out.cell (World.block_lt_of_cell? w _ hx2)).trans hx2
      replace hy0 := (HB.out.cell (World.block_lt_of_cell? w _ hy0)).trans hy0
      replace hy1 := (HB.out.cell (World.block_lt_of_cell? w _ hy1)).trans hy1
      replace hy2 := (HB.out.cell (World.block_lt_of_cell? w _ hy2)).trans hy2
      have hw0 := fun o : Obj => ((below_alloc (Below.refl wr.heap.size wr) o).cell (World.block_lt_of_cell? wr _ hy0)).trans hy0
      have hw1 := fun o : Obj => ((below_alloc (Below.refl wr.heap.size wr) o).cell (World.block_lt_of_cell? wr _ hy1)).trans hy1
      have hw2 := fun o : Obj => ((below_alloc (Below.refl wr.heap.size wr) o).cell (World.block_lt_of_cell? wr _ hy2)).trans hy2
      have X1 := Aside0.mk ix1
      have X2 := Aside0.mk ix2
      have Y1 := Aside0.mk iy1
      have Y2 := Aside0.mk iy2
      have LX1 := Aside0.mk lx1
      have LX2 := Aside0.mk lx2
      have LY1 := Aside0.mk ly1
      have LY2 := Aside0.mk ly2
      clear ix1 ix2 iy1 iy2 lx1 lx2 ly1 ly2
      go_wp2_with fail
      refine (HP.out (rd_T32 l i) HM.out (rd_T32 m i) _ A1 c1 A2 c2 B1 d1 B2 d2 (below_alloc (below_alloc HB.out _) _) (Kd.C_below X1.out (below_alloc (below_alloc HB.out _) _)) LX1.out (Kd.C_below X2.out (below_alloc (below_alloc HB.out _) _)) LX2.out (Kd.C_below Y1.out (below_alloc (below_alloc HB.out _) _)) LY1.out (Kd.C_below Y2.out (below_alloc (below_alloc HB.out _) _)) LY2.out).mono ?_
      rintro e w9 ⟨rfl, hb⟩
      have HB2 := Aside0.mk (below_step (below_alloc (below_alloc HB.out _) _) hb)
      clear hb HB hx0 hx1 hx2 hy0 hy1 hy2 hw0 hw1 hw2
      cases hq : sameT (rd_T32 l i) (rd_T32 m i) with
      | false =>
        have E := Aside0.mk (show sameL l m = false by rw [← HA.out, HST.out, hq]; rfl)
        clear hq
        go_wp2
        go_ret
        exact ⟨by rw [E.out]; try rfl, HB2.out⟩
      | true =>
        have E := Aside0.mk (show sameL (l.drop (i + 1).toNat) (m.drop (i + 1).toNat) = sameL l m by rw [← HA.out, HST.out, hq]; rfl)
        clear hq
        go_wp2
        go_roundg (k1)
        case measure => have := HK.out; omega
        case rel => exact ⟨_, rfl, by omega, by omega, E, ⟨by have := HK.out; omega⟩, HB2⟩
theorem Equal_any (a b : List Int) (A : Option Addr) (c : Nat) (B : Option Addr) (d : Nat) (w : World) (hr : Kd.C (Kd.int .u8) w A a.length a) (hc : a.length ≤ c) (hr2 : Kd.C (Kd.int .u8) w B b.length b) (hc2 : b.length ≤ d) :
    Calls Try.prog 34 #[.slice A a.length c, .slice B b.length d] w fun e w' => e = .returned (.bool (eqB a b)) ∧ Below w.heap.size w w' :=
  (bytes_Equal.calls A c a B d b _ w hr hc hr2 hc2 rfl).mono fun _ _ ⟨he, hd⟩ => ⟨he, hd.below⟩
set_option maxHeartbeats 4000000 in
set_option maxRecDepth 100000 in
theorem Same_any (N : Nat) : ∀ (x : S32) (_ : SizeOf.sizeOf x < N) (y : S32) (A1 : Option Addr) (c1 : Nat) (A2 : Option Addr) (c2 : Nat) (B1 : Option Addr) (d1 : Nat) (B2 : Option Addr) (d2 : Nat) (w : World)
  (hr1 : Kd.C (Kd.int .u8) w A1 x.f1.length x.f1) (hc1 : x.f1.length ≤ c1) (hr2 : Kd.C k32 w A2 x.f2.length x.f2) (hc2 : x.f2.length ≤ c2) (hs1 : Kd.C (Kd.int .u8) w B1 y.f1.length y.f1) (hd1 : y.f1.length ≤ d1) (hs2 : Kd.C k32 w B2 y.f2.length y.f2) (hd2 : y.f2.length ≤ d2),
    Calls Try.prog 17 #[.agg #[.int .u64 x.f0, .slice A1 x.f1.length c1, .slice A2 x.f2.length c2], .agg #[.int .u64 y.f0, .slice B1 y.f1.length d1, .slice B2 y.f2.length d2]] w fun e w' => e = .returned (.bool (sameT x y)) ∧ Below w.heap.size w w' := by
  induction N with
  | zero => intro x h; omega
  | succ N ih =>
  intro x hN y A1 c1 A2 c2 B1 d1 B2 d2 w hr1 hc1 hr2 hc2 hs1 hd1 hs2 hd2
  have hu32 := Try.underlying32
  have R1 := Aside0.mk hr1
  have R2 := Aside0.mk hr2
  have S1 := Aside0.mk hs1
  have S2 := Aside0.mk hs2
  have C1 := Aside0.mk hc1
  have C2 := Aside0.mk hc2
  have D1 := Aside0.mk hd1
  have D2 := Aside0.mk hd2
  have HP : ∀ W, Says17 W x.f2 := fun W z hz y W' A1 c1 A2 c2 B1 d1 B2 d2 hb h1 h2 h3 h4 h5 h6 h7 h8 =>
    ih z (by have := List.sizeOf_lt_of_mem hz; obtain ⟨n, b, l⟩ := x; simp at hN; dsimp only at this; omega) y A1 c1 A2 c2 B1 d1 B2 d2 W' h1 h2 h3 h4 h5 h6 h7 h8
  have HPP := Aside0.mk HP
  clear hr1 hc1 hr2 hc2 hs1 hd1 hs2 hd2 ih hN HP
  have HB := Aside0.mk (Below.refl w.heap.size w)
  have E := Aside0.mk (show sameT x y = ((x.f0 == y.f0 && eqB x.f1 y.f1) && sameL x.f2 y.f2) by obtain ⟨n, b, l⟩ := x; rw [sameT])
  cases h0 : (x.f0 == y.f0)
  case false =>
    have E2 := Aside0.mk (show sameT x y = false by rw [E.out, h0]; rfl)
    go_enter Try.func17, Try.ntmps17
    go_wp2
    go_ret
    exact ⟨by rw [E2.out]; try rfl, below_alloc (below_alloc HB.out _) _⟩
  case true =>
  go_enter Try.func17, Try.ntmps17
  go_wp2_with fail
  refine (Equal_any x.f1 y.f1 A1 c1 B1 d1 _ (Kd.C_alloc (Kd.C_alloc R1.out _) _) C1.out (Kd.C_alloc (Kd.C_alloc S1.out _) _) D1.out).mono ?_
  rintro e w1 ⟨rfl, hb⟩
  have BX := Aside0.mk (blk_below (blk_alloc (heap_alloc_new w _) _) hb)
  have h' := heap_alloc_new (w.alloc (.cells #[.int .u64 x.f0, .slice A1 x.f1.length c1, .slice A2 x.f2.length c2] 32)) (.cells #[.int .u64 y.f0, .slice B1 y.f1.length d1, .slice B2 y.f2.length d2] 32)
  rw [World.size_alloc] at h'
  have BY := Aside0.mk (blk_below h' hb)
  have HB1 := Aside0.mk (below_step (below_alloc (below_alloc HB.out _) _) hb)
  clear hb h' HB
  have hz2 : w1.cell? ⟨w.heap.size, 2, none⟩ = some (.slice A2 x.f2.length c2) := (blk_cell BX.out 2).trans rfl
  have hy2 : w1.cell? ⟨w.heap.size + 1, 2, none⟩ = some (.slice B2 y.f2.length d2) := (blk_cell BY.out 2).trans rfl
  cases hq : eqB x.f1 y.f1
  case false =>
    have E2 := Aside0.mk (show sameT x y = false by rw [E.out, h0, hq]; rfl)
    clear hq
    go_wp2
    go_ret
    exact ⟨by rw [E2.out]; try rfl, HB1.out⟩
  case true =>
    have E2 := Aside0.mk (show sameT x y = sameL x.f2 y.f2 by rw [E.out, h0, hq]; rfl)
    clear hq
    go_wp2_with fail
    refine (EqualFunc_any x.f2 y.f2 A2 c2 B2 d2 _ (Kd.C_below R2.out HB1.out) C2.out (Kd.C_below S2.out HB1.out) D2.out (HPP.out _)).mono ?_
    rintro e w2 ⟨rfl, hb⟩
    have HB2 := Aside0.mk (below_step HB1.out hb)
    clear hb
    go_wp2
    go_ret
    exact ⟨by rw [E2.out]; try rfl, HB2.out⟩
end Go.Proofs.Ythmcbcofipehhaa.B
