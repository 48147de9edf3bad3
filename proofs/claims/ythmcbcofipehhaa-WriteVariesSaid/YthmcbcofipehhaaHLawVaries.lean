import Derived.Test.YthmcbcofipehhaaHVary2
import Derived.Test.YthmcbcofipehhaaHVPure
import Derived.Test.YthmcbcofipehhaaHAlive7
import Derived.Test.YthmcbcofipehhaaHSame5
import Derived.Test.YthmcbcofipehhaaHOpen
namespace Go.Proofs.Ythmcbcofipehhaa.B
open Go.RowKit Go.Proofs.YthmcbcofipehhaaW.PrintWords Go.Proofs.YthmcbcofipehhaaW.PrintLast Go.Proofs.YthmcbcofipehhaaW.PrintMore
set_option linter.unusedVariables false
set_option linter.unusedSimpArgs false
theorem twoB (w : World) (o0 o1 : Obj) : ∃ W, W = (w.alloc o0).alloc o1 ∧ W.heap[w.heap.size]? = some o0 ∧ W.heap[w.heap.size + 1]? = some o1 ∧ Below w.heap.size w W := by
  have s1 : (w.alloc o0).heap.size = w.heap.size + 1 := World.size_alloc _ _
  exact ⟨_, rfl, blk_alloc (heap_alloc_new w o0) _, s1 ▸ heap_alloc_new (w.alloc o0) o1, below_alloc (below_alloc (Below.refl _ _) _) _⟩
set_option maxHeartbeats 4000000 in
set_option maxRecDepth 100000 in
theorem WriteVaries_any (v : S32) (p : List Int) (x : S32) (A1 : Option Addr) (c1 : Nat) (A2 : Option Addr) (c2 : Nat) (P : Option Addr) (cp : Nat) (B1 : Option Addr) (d1 : Nat) (B2 : Option Addr) (d2 : Nat) (w : World)
    (hr1 : Kd.C (Kd.int .u8) w A1 v.f1.length v.f1) (hc1 : v.f1.length ≤ c1) (hr2 : Kd.C k32 w A2 v.f2.length v.f2) (hc2 : v.f2.length ≤ c2) (hp : Kd.C (Kd.int .i64) w P p.length p) (hcp : p.length ≤ cp) (hs1 : Kd.C (Kd.int .u8) w B1 x.f1.length x.f1) (hd1 : x.f1.length ≤ d1) (hs2 : Kd.C k32 w B2 x.f2.length x.f2) (hd2 : x.f2.length ≤ d2) :
    Calls Try.prog 7 #[.agg #[.int .u64 v.f0, .slice A1 v.f1.length c1, .slice A2 v.f2.length c2], .slice P p.length cp, .agg #[.int .u64 x.f0, .slice B1 x.f1.length d1, .slice B2 x.f2.length d2]] w fun e w' => e = .returned (.bool true) ∧ Below w.heap.size w w' := by
  have hu32 := Try.underlying32
  have hu29 := Try.underlying29
  have R1 := Aside0.mk hr1
  have R2 := Aside0.mk hr2
  have S1 := Aside0.mk hs1
  have S2 := Aside0.mk hs2
  have C1 := Aside0.mk hc1
  have C2 := Aside0.mk hc2
  have D1 := Aside0.mk hd1
  have D2 := Aside0.mk hd2
  have HP := Aside0.mk hp
  have HCP := Aside0.mk hcp
  have hmxp := Kd.C_max hp
  clear hr1 hc1 hr2 hc2 hs1 hd1 hs2 hd2 hp hcp
  go_enter Try.func7, Try.ntmps7
  go_upto_region 1 with fail
  obtain ⟨w2, hw2, b0, b1, b2⟩ := twoB w (.cells #[.int .u64 v.f0, .slice A1 v.f1.length c1, .slice A2 v.f2.length c2] 32) (.cells #[.int .u64 x.f0, .slice B1 x.f1.length d1, .slice B2 x.f2.length d2] 32)
  rw [← hw2]
  clear hw2
  obtain ⟨n1, hn1⟩ : ∃ n1, n1 = w.heap.size + 1 := ⟨_, rfl⟩
  obtain ⟨n0, hn0⟩ : ∃ n0, n0 = w.heap.size := ⟨_, rfl⟩
  rw [← hn1] at b1
  rw [← hn0] at b0
  rw [← hn1, ← hn0]
  have NN := Aside0.mk (show n0 = w.heap.size ∧ n1 = n0 + 1 by omega)
  clear hn0 hn1
  have X0 := Aside0.mk b0
  have X1 := Aside0.mk b1
  have BW := Aside0.mk b2
  clear b0 b1 b2
  go_wp2_with fail
  refine (alive7_any _).mono ?_
  rintro e w3 ⟨rfl, hb⟩
  have F0 := Aside0.mk (blk_below X0.out hb)
  have F1 := Aside0.mk (blk_below X1.out hb)
  have BW3 := Aside0.mk (below_step BW.out hb)
  clear hb X0 X1 BW
  have hx0 : w3.cell? ⟨n0, 0, none⟩ = some (.int .u64 v.f0) := (blk_cell F0.out 0).trans rfl
  have hx1 : w3.cell? ⟨n0, 1, none⟩ = some (.slice A1 v.f1.length c1) := (blk_cell F0.out 1).trans rfl
  have hx2 : w3.cell? ⟨n0, 2, none⟩ = some (.slice A2 v.f2.length c2) := (blk_cell F0.out 2).trans rfl
  have hy0 : w3.cell? ⟨n1, 0, none⟩ = some (.int .u64 x.f0) := (blk_cell F1.out 0).trans rfl
  have hy1 : w3.cell? ⟨n1, 1, none⟩ = some (.slice B1 x.f1.length d1) := (blk_cell F1.out 1).trans rfl
  have hy2 : w3.cell? ⟨n1, 2, none⟩ = some (.slice B2 x.f2.length d2) := (blk_cell F1.out 2).trans rfl
  go_wp2_with fail
  have HBa := Aside0.mk (below_alloc BW3.out (.cells #[.int .u64 v.f0, .slice A1 v.f1.length c1, .slice A2 v.f2.length c2, .int .u64 x.f0, .slice B1 x.f1.length d1, .slice B2 x.f2.length d2] 32))
  refine (Great_any f00 [v, x] none 0 _ _ _ (Kd.C_nil _ _) (Nat.le_refl 0) (twoC (heap_alloc_new _ _) (Kd.C_below R1.out HBa.out) C1.out (Kd.C_below R2.out HBa.out) C2.out (Kd.C_below S1.out HBa.out) D1.out (Kd.C_below S2.out HBa.out) D2.out) (Nat.le_refl _)).mono ?_
  rintro e w4 ⟨rfl, hb⟩
  have G0 := Aside0.mk (blk_below (blk_alloc F0.out _) hb)
  have G1 := Aside0.mk (blk_below (blk_alloc F1.out _) hb)
  have BW4 := Aside0.mk (below_step HBa.out hb)
  clear hb HBa BW3 F0 F1 hx0 hx1 hx2 hy0 hy1 hy2
  by_cases hg : 0 < greatT f00 [v, x]
  case pos =>
    have gb : decide (0 < greatT f00 [v, x]) = true := decide_eq_true hg
    clear hg
    go_wp2_with fail
    refine (alive7_any _).mono ?_
    rintro e w3 ⟨rfl, hb⟩
    have HB3 := Aside0.mk (below_step BW4.out hb)
    clear hb
    go_wp2
    go_ret
    exact ⟨rfl, HB3.out⟩
  case neg =>
  have gb : decide (0 < greatT f00 [v, x]) = false := decide_eq_false hg
  have ZV := Aside0.mk (count_le (great_count hg v (by simp)).1)
  have ZX := Aside0.mk (count_le (great_count hg x (by simp)).1)
  clear hg
  by_cases hl : (20 : Int) < p.length
  case pos =>
    have lb : decide ((20 : Int) < p.length) = true := decide_eq_true hl
    clear hl
    go_wp2_with fail
    refine (alive7_any _).mono ?_
    rintro e w3 ⟨rfl, hb⟩
    have HB3 := Aside0.mk (below_step BW4.out hb)
    clear hb
    go_wp2
    go_ret
    exact ⟨rfl, HB3.out⟩
  case neg =>
  have lb : decide ((20 : Int) < p.length) = false := decide_eq_false hl
  clear hl
  have hx0 : w4.cell? ⟨n0, 0, none⟩ = some (.int .u64 v.f0) := (blk_cell G0.out 0).trans rfl
  have hx1 : w4.cell? ⟨n0, 1, none⟩ = some (.slice A1 v.f1.length c1) := (blk_cell G0.out 1).trans rfl
  have hx2 : w4.cell? ⟨n0, 2, none⟩ = some (.slice A2 v.f2.length c2) := (blk_cell G0.out 2).trans rfl
  have hy0 : w4.cell? ⟨n1, 0, none⟩ = some (.int .u64 x.f0) := (blk_cell G1.out 0).trans rfl
  have hy1 : w4.cell? ⟨n1, 1, none⟩ = some (.slice B1 x.f1.length d1) := (blk_cell G1.out 1).trans rfl
  have hy2 : w4.cell? ⟨n1, 2, none⟩ = some (.slice B2 x.f2.length d2) := (blk_cell G1.out 2).trans rfl
  go_wp2_with fail
  refine (Vary_any v p x (by have := ZV.out; omega) A1 c1 A2 c2 P cp B1 d1 B2 d2 _ (Kd.C_below R1.out BW4.out) C1.out (Kd.C_below R2.out BW4.out) C2.out (Kd.C_below HP.out BW4.out) HCP.out (Kd.C_below S1.out BW4.out) D1.out (Kd.C_below S2.out BW4.out) D2.out).mono ?_
  rintro e w5 ⟨⟨E1, e1, E2, e2, y, hy, rfl, he1, hl1, he2, hl2⟩, hb⟩
  have F0 := Aside0.mk (blk_below G0.out hb)
  have F1 := Aside0.mk (blk_below G1.out hb)
  have BW5 := Aside0.mk (below_step BW4.out hb)
  clear hb BW4 G0 G1 hx0 hx1 hx2 hy0 hy1 hy2
  obtain ⟨er, her⟩ : ∃ er : Int, er = (if (varT x v p).isSome then 0 else 3) := ⟨_, rfl⟩
  rw [← her]
  have HY := Aside0.mk hy
  have HER := Aside0.mk her
  have YL1 := Aside0.mk hl1
  have YL2 := Aside0.mk hl2
  have YC1 := Aside0.mk he1
  have YC2 := Aside0.mk he2
  clear hy her hl1 hl2 he1 he2
  have hx0 : w5.cell? ⟨n0, 0, none⟩ = some (.int .u64 v.f0) := (blk_cell F0.out 0).trans rfl
  have hx1 : w5.cell? ⟨n0, 1, none⟩ = some (.slice A1 v.f1.length c1) := (blk_cell F0.out 1).trans rfl
  have hx2 : w5.cell? ⟨n0, 2, none⟩ = some (.slice A2 v.f2.length c2) := (blk_cell F0.out 2).trans rfl
  have hy0 : w5.cell? ⟨n1, 0, none⟩ = some (.int .u64 x.f0) := (blk_cell F1.out 0).trans rfl
  have hy1 : w5.cell? ⟨n1, 1, none⟩ = some (.slice B1 x.f1.length d1) := (blk_cell F1.out 1).trans rfl
  have hy2 : w5.cell? ⟨n1, 2, none⟩ = some (.slice B2 x.f2.length d2) := (blk_cell F1.out 2).trans rfl
  have FY := Aside0.mk (heap_alloc_new w5 (.cells #[.int .u64 y.f0, .slice E1 y.f1.length e1, .slice E2 y.f2.length e2] 32))
  have BA := Aside0.mk (below_alloc BW5.out (.cells #[.int .u64 y.f0, .slice E1 y.f1.length e1, .slice E2 y.f2.length e2] 32))
  have Y1 := Aside0.mk (Kd.C_alloc YC1.out (.cells #[.int .u64 y.f0, .slice E1 y.f1.length e1, .slice E2 y.f2.length e2] 32))
  have Y2 := Aside0.mk (Kd.C_alloc YC2.out (.cells #[.int .u64 y.f0, .slice E1 y.f1.length e1, .slice E2 y.f2.length e2] 32))
  have F0 := Aside0.mk (blk_alloc F0.out (.cells #[.int .u64 y.f0, .slice E1 y.f1.length e1, .slice E2 y.f2.length e2] 32))
  have F1 := Aside0.mk (blk_alloc F1.out (.cells #[.int .u64 y.f0, .slice E1 y.f1.length e1, .slice E2 y.f2.length e2] 32))
  go_upto_region 4 with fail
  obtain ⟨n7, hn7⟩ : ∃ n7, n7 = w5.heap.size := ⟨_, rfl⟩
  obtain ⟨w6, hw6⟩ : ∃ w6, w6 = w5.alloc (.cells #[.int .u64 y.f0, .slice E1 y.f1.length e1, .slice E2 y.f2.length e2] 32) := ⟨_, rfl⟩
  rw [← hn7] at FY
  rw [← hw6] at FY BA Y1 Y2 F0 F1
  rw [← hn7, ← hw6]
  clear hx0 hx1 hx2 hy0 hy1 hy2
  have hx0 : w6.cell? ⟨n0, 0, none⟩ = some (.int .u64 v.f0) := (blk_cell F0.out 0).trans rfl
  have hx1 : w6.cell? ⟨n0, 1, none⟩ = some (.slice A1 v.f1.length c1) := (blk_cell F0.out 1).trans rfl
  have hx2 : w6.cell? ⟨n0, 2, none⟩ = some (.slice A2 v.f2.length c2) := (blk_cell F0.out 2).trans rfl
  have hy0 : w6.cell? ⟨n1, 0, none⟩ = some (.int .u64 x.f0) := (blk_cell F1.out 0).trans rfl
  have hy1 : w6.cell? ⟨n1, 1, none⟩ = some (.slice B1 x.f1.length d1) := (blk_cell F1.out 1).trans rfl
  have hy2 : w6.cell? ⟨n1, 2, none⟩ = some (.slice B2 x.f2.length d2) := (blk_cell F1.out 2).trans rfl
  have N7 := Aside0.mk (show w.heap.size ≤ n7 by have := BW5.out.size; omega)
  clear hn7 hw6 BW5 YC1 YC2
  go_wp2_with fail
  refine (RVary_any x p v (by have := ZV.out; omega) A1 c1 A2 c2 P cp B1 d1 B2 d2 w _ BA.out R1.out C1.out R2.out C2.out HP.out HCP.out S1.out D1.out S2.out D2.out).mono ?_
  rintro e w7 ⟨⟨H1, h1, H2, h2, z, hz, rfl, hm1, hm2, hV⟩, hb⟩
  have hzy : z = y := hz.trans HY.out.symm
  subst hzy
  rw [← HER.out]
  have ZC := Aside0.mk (hV w7 (below_step BA.out hb) (fun _ _ _ => rfl))
  have ML1 := Aside0.mk hm1
  have ML2 := Aside0.mk hm2
  have HB7 := Aside0.mk hb
  clear hz hV hm1 hm2 hb hx0 hx1 hx2 hy0 hy1 hy2
  go_upto_region 5 with fail
  obtain ⟨n9, hn9⟩ : ∃ n9, n9 = w7.heap.size := ⟨_, rfl⟩
  obtain ⟨w8, hw8⟩ : ∃ w8, w8 = w7.alloc (.cells #[.int .u64 z.f0, .slice H1 z.f1.length h1, .slice H2 z.f2.length h2] 32) := ⟨_, rfl⟩
  have HB8 : Below w6.heap.size w6 w8 := by rw [hw8]; exact below_alloc HB7.out _
  have B8 := Aside0.mk HB8
  have F9 := Aside0.mk (show w8.heap[n9]? = some (.cells #[.int .u64 z.f0, .slice H1 z.f1.length h1, .slice H2 z.f2.length h2] 32 (0, 0)) by rw [hw8, hn9]; exact heap_alloc_new _ _)
  have M1 := Aside0.mk (show Kd.C (Kd.int .u8) w8 H1 z.f1.length z.f1 by rw [hw8]; exact Kd.C_alloc ZC.out.1 _)
  have M2 := Aside0.mk (show Kd.C k32 w8 H2 z.f2.length z.f2 by rw [hw8]; exact Kd.C_alloc ZC.out.2 _)
  have Y1 := Aside0.mk (Kd.C_below Y1.out HB8)
  have Y2 := Aside0.mk (Kd.C_below Y2.out HB8)
  have FY := Aside0.mk (blk_below FY.out HB8)
  have F0 := Aside0.mk (blk_below F0.out HB8)
  have BW8 := Aside0.mk (below_step BA.out HB8)
  rw [← hn9, ← hw8]
  clear hn9 hw8 HB8 HB7 ZC BA F1
  have hee : (er != er) = false := by simp
  have hx0 : w8.cell? ⟨n7, 0, none⟩ = some (.int .u64 z.f0) := (blk_cell FY.out 0).trans rfl
  have hx1 : w8.cell? ⟨n7, 1, none⟩ = some (.slice E1 z.f1.length e1) := (blk_cell FY.out 1).trans rfl
  have hx2 : w8.cell? ⟨n7, 2, none⟩ = some (.slice E2 z.f2.length e2) := (blk_cell FY.out 2).trans rfl
  have hy0 : w8.cell? ⟨n9, 0, none⟩ = some (.int .u64 z.f0) := (blk_cell F9.out 0).trans rfl
  have hy1 : w8.cell? ⟨n9, 1, none⟩ = some (.slice H1 z.f1.length h1) := (blk_cell F9.out 1).trans rfl
  have hy2 : w8.cell? ⟨n9, 2, none⟩ = some (.slice H2 z.f2.length h2) := (blk_cell F9.out 2).trans rfl
  go_wp2_with fail
  refine (Same5_any _ z (Nat.lt_succ_self _) z _ _ _ _ _ _ _ _ _ Y1.out YL1.out Y2.out YL2.out M1.out ML1.out M2.out ML2.out).mono ?_
  rintro e w9 ⟨rfl, hb⟩
  rw [sameT_refl]
  have FY := Aside0.mk (blk_below FY.out hb)
  have F0 := Aside0.mk (blk_below F0.out hb)
  have BW9 := Aside0.mk (below_step BW8.out hb)
  have Y1 := Aside0.mk (Kd.C_below Y1.out hb)
  have Y2 := Aside0.mk (Kd.C_below Y2.out hb)
  clear hb BW8 B8 M1 M2 F9 hx0 hx1 hx2 hy0 hy1 hy2
  cases ho : varT x v p with
  | none =>
    have e3 : er = 3 := by rw [HER.out, ho]; rfl
    subst e3
    clear ho hee
    go_wp2
    go_ret
    exact ⟨rfl, BW9.out⟩
  | some z' =>
    have e0 : er = 0 := by rw [HER.out, ho]; rfl
    have ez : z = z' := by rw [HY.out, ho]; rfl
    subst e0 ez
    have BACK := Aside0.mk (vary_back p v z ho)
    have ZZ := Aside0.mk (show szT z ≤ 1000000000 by have := vary_sz p v z ho; have := ZV.out; have := ZX.out; omega)
    have OPEN := Aside0.mk ho
    clear ho hee HY HER
    have hx0 : w9.cell? ⟨n0, 0, none⟩ = some (.int .u64 v.f0) := (blk_cell F0.out 0).trans rfl
    have hx1 : w9.cell? ⟨n0, 1, none⟩ = some (.slice A1 v.f1.length c1) := (blk_cell F0.out 1).trans rfl
    have hx2 : w9.cell? ⟨n0, 2, none⟩ = some (.slice A2 v.f2.length c2) := (blk_cell F0.out 2).trans rfl
    go_upto_region 10 with fail
    obtain ⟨n11, hn11⟩ : ∃ n11, n11 = w9.heap.size := ⟨_, rfl⟩
    obtain ⟨wa, hwa⟩ : ∃ wa, wa = w9.alloc (.cells #[.int .u64 v.f0, .slice A1 v.f1.length c1, .slice A2 v.f2.length c2] 32) := ⟨_, rfl⟩
    have FA := Aside0.mk (show wa.heap[n11]? = some (.cells #[.int .u64 v.f0, .slice A1 v.f1.length c1, .slice A2 v.f2.length c2] 32 (0, 0)) by rw [hwa, hn11]; exact heap_alloc_new _ _)
    have B9 := Aside0.mk (show Below w9.heap.size w9 wa by rw [hwa]; exact below_alloc (Below.refl _ _) _)
    have N11 := Aside0.mk (Nat.le_of_eq hn11.symm)
    have OV := Aside0.mk (show ∃ t, varT x v (p.drop (0 : Int).toNat) = some t from ⟨z, OPEN.out⟩)
    rw [← hn11, ← hwa]
    clear hn11 hwa hx0 hx1 hx2
    go_wp2
    go_loopg [60] (p.length + 1) (fun kq v60 w' => ∃ (k : Int) (u : S32) (G1 : Option Addr) (g1 : Nat) (G2 : Option Addr) (g2 : Nat), v60 = .int .i64 k ∧ 0 ≤ k ∧ k ≤ p.length ∧ Aside0 ((kq : Int) + k = p.length + 1) ∧ Aside0 (atT v p = atT u (p.drop k.toNat)) ∧ Aside0 (∃ t, varT x u (p.drop k.toNat) = some t) ∧
      Aside0 (w'.heap[n11]? = some (.cells #[.int .u64 u.f0, .slice G1 u.f1.length g1, .slice G2 u.f2.length g2] 32 (0, 0))) ∧ Aside0 (Kd.C (Kd.int .u8) w G1 u.f1.length u.f1) ∧ Aside0 (u.f1.length ≤ g1) ∧ Aside0 (Kd.C k32 w G2 u.f2.length u.f2) ∧ Aside0 (u.f2.length ≤ g2) ∧ Aside0 (Below w9.heap.size w9 w'))
    case atStart => exact ⟨0, v, A1, c1, A2, c2, rfl, by omega, by omega, ⟨by omega⟩, ⟨rfl⟩, OV, FA, R1, C1, R2, C2, B9⟩
    case round =>
      clear FA B9
      obtain ⟨k, u, G1, g1, G2, g2, rfl, k0, k1, HK, HAT, HV, FA, Q1, L1, Q2, L2, B9⟩ := hrel
      have FY := Aside0.mk (blk_below FY.out B9.out)
      have F0 := Aside0.mk (blk_below F0.out B9.out)
      have BWR := Aside0.mk (below_step BW9.out B9.out)
      have hx0 : wr.cell? ⟨n11, 0, none⟩ = some (.int .u64 u.f0) := (blk_cell FA.out 0).trans rfl
      have hx1 : wr.cell? ⟨n11, 1, none⟩ = some (.slice G1 u.f1.length g1) := (blk_cell FA.out 1).trans rfl
      have hx2 : wr.cell? ⟨n11, 2, none⟩ = some (.slice G2 u.f2.length g2) := (blk_cell FA.out 2).trans rfl
      by_cases hlt : k < (p.length : Int)
      case neg =>
        have cq : decide (k < (p.length : Int)) = false := decide_eq_false hlt
        have AT := Aside0.mk (show atT v p = u by rw [HAT.out, List.drop_eq_nil_of_le (by omega), atT])
        clear hlt
        have hy0 : wr.cell? ⟨n7, 0, none⟩ = some (.int .u64 z.f0) := (blk_cell FY.out 0).trans rfl
        have hy1 : wr.cell? ⟨n7, 1, none⟩ = some (.slice E1 z.f1.length e1) := (blk_cell FY.out 1).trans rfl
        have hy2 : wr.cell? ⟨n7, 2, none⟩ = some (.slice E2 z.f2.length e2) := (blk_cell FY.out 2).trans rfl
        go_wp2_with fail
        refine (Vary_any z p u ZZ.out E1 e1 E2 e2 P cp G1 g1 G2 g2 _ (Kd.C_below Y1.out B9.out) YL1.out (Kd.C_below Y2.out B9.out) YL2.out (Kd.C_below HP.out BWR.out) HCP.out (Kd.C_below Q1.out BWR.out) L1.out (Kd.C_below Q2.out BWR.out) L2.out).mono ?_
        rintro e wb ⟨⟨I1, i1, I2, i2, b, hb1, rfl, hc1, hd1, hc2, hd2⟩, hb⟩
        have hvb : varT u z p = some v := by rw [← AT.out]; exact BACK.out
        rw [hvb] at hb1 ⊢
        replace hb1 : v = b := Eq.symm hb1
        subst hb1
        have BX := Aside0.mk (below_alloc (below_step BWR.out hb) (.cells #[.int .u64 v.f0, .slice I1 v.f1.length i1, .slice I2 v.f2.length i2] 32))
        have T1 := Aside0.mk (Kd.C_alloc hc1 (.cells #[.int .u64 v.f0, .slice I1 v.f1.length i1, .slice I2 v.f2.length i2] 32))
        have T2 := Aside0.mk (Kd.C_alloc hc2 (.cells #[.int .u64 v.f0, .slice I1 v.f1.length i1, .slice I2 v.f2.length i2] 32))
        have TL1 := Aside0.mk hd1
        have TL2 := Aside0.mk hd2
        have FT := Aside0.mk (heap_alloc_new wb (.cells #[.int .u64 v.f0, .slice I1 v.f1.length i1, .slice I2 v.f2.length i2] 32))
        have F0 := Aside0.mk (blk_alloc (blk_below F0.out hb) (.cells #[.int .u64 v.f0, .slice I1 v.f1.length i1, .slice I2 v.f2.length i2] 32))
        clear hb hc1 hd1 hc2 hd2 hvb hx0 hx1 hx2 hy0 hy1 hy2
        go_upto_region 16 with fail
        obtain ⟨n14, hn14⟩ : ∃ n14, n14 = wb.heap.size := ⟨_, rfl⟩
        obtain ⟨wd, hwd⟩ : ∃ wd, wd = wb.alloc (.cells #[.int .u64 v.f0, .slice I1 v.f1.length i1, .slice I2 v.f2.length i2] 32) := ⟨_, rfl⟩
        rw [← hwd] at FT BX T1 T2 F0
        rw [← hn14] at FT
        rw [← hn14, ← hwd]
        clear hn14 hwd
        have hx0 : wd.cell? ⟨n0, 0, none⟩ = some (.int .u64 v.f0) := (blk_cell F0.out 0).trans rfl
        have hx1 : wd.cell? ⟨n0, 1, none⟩ = some (.slice A1 v.f1.length c1) := (blk_cell F0.out 1).trans rfl
        have hx2 : wd.cell? ⟨n0, 2, none⟩ = some (.slice A2 v.f2.length c2) := (blk_cell F0.out 2).trans rfl
        have hy0 : wd.cell? ⟨n14, 0, none⟩ = some (.int .u64 v.f0) := (blk_cell FT.out 0).trans rfl
        have hy1 : wd.cell? ⟨n14, 1, none⟩ = some (.slice I1 v.f1.length i1) := (blk_cell FT.out 1).trans rfl
        have hy2 : wd.cell? ⟨n14, 2, none⟩ = some (.slice I2 v.f2.length i2) := (blk_cell FT.out 2).trans rfl
        go_wp2_with fail
        refine (Same5_any _ v (Nat.lt_succ_self _) v _ _ _ _ _ _ _ _ _ T1.out TL1.out T2.out TL2.out (Kd.C_below R1.out BX.out) C1.out (Kd.C_below R2.out BX.out) C2.out).mono ?_
        rintro e wf ⟨rfl, hb⟩
        rw [sameT_refl]
        have BZ := Aside0.mk (below_step BX.out hb)
        clear hb
        go_wp2
        go_ret
        exact ⟨rfl, BZ.out⟩
      case pos =>
        obtain ⟨k2, rfl⟩ : ∃ m, gk = m + 1 := ⟨gk - 1, by have := HK.out; omega⟩
        have cq : decide (k < (p.length : Int)) = true := decide_eq_true hlt
        obtain ⟨i, hi⟩ : ∃ i, i = rd p k := ⟨_, rfl⟩
        have hdrop : p.drop k.toNat = i :: p.drop (k + 1).toNat := by rw [hi]; exact dropI k0 hlt
        obtain ⟨adp, ep, hcp0⟩ := at_int HP.out k k0 hlt
        subst ep
        rw [← hi] at hcp0
        have hcp := (BWR.out.cell (World.block_lt_of_cell? w _ hcp0)).trans hcp0
        obtain ⟨t, ht⟩ := HV.out
        rw [hdrop] at ht
        obtain ⟨i0, i1, y2, hy2, _⟩ := vary_open ht
        have HV2 := Aside0.mk (show ∃ t, varT x (rd_T32 u.f2 i) (p.drop (k + 1).toNat) = some t from ⟨y2, hy2⟩)
        have HAT2 := Aside0.mk (show atT v p = atT (rd_T32 u.f2 i) (p.drop (k + 1).toNat) by rw [HAT.out, hdrop, atT])
        obtain ⟨ad, I1, g3, I2, g4, e, ha0, ha1, ha2, hlx1, hix1, hlx2, hix2⟩ := at_T32 Q2.out i i0 i1
        cases e
        have ha0 := (BWR.out.cell (World.block_lt_of_cell? w _ ha0)).trans ha0
        have ha1 := (BWR.out.cell (World.block_lt_of_cell? w _ ha1)).trans ha1
        have ha2 := (BWR.out.cell (World.block_lt_of_cell? w _ ha2)).trans ha2
        have q0 := blk_frozen FA.out 0
        have q1 := blk_frozen FA.out 1
        have q2 := blk_frozen FA.out 2
        have Q1n := Aside0.mk hix1
        have L1n := Aside0.mk hlx1
        have Q2n := Aside0.mk hix2
        have L2n := Aside0.mk hlx2
        have hmu := Kd.C_max Q2.out
        have FAn := Aside0.mk (blk3 FA.out (.int .u64 (rd_T32 u.f2 i).f0) (.slice I1 (rd_T32 u.f2 i).f1.length g3) (.slice I2 (rd_T32 u.f2 i).f2.length g4))
        have B9n := Aside0.mk (below3 B9.out N11.out (.int .u64 (rd_T32 u.f2 i).f0) (.slice I1 (rd_T32 u.f2 i).f1.length g3) (.slice I2 (rd_T32 u.f2 i).f2.length g4))
        clear hcp0 hi hdrop ht hy2 hix1 hlx1 hix2 hlx2 FA B9 HV HAT
        go_wp2
        go_roundg (k2)
        case measure => have := HK.out; omega
        case rel => exact ⟨k + 1, rd_T32 u.f2 i, I1, g3, I2, g4, rfl, by omega, by omega, ⟨by have := HK.out; omega⟩, HAT2, HV2, FAn, Q1n, L1n, Q2n, L2n, B9n⟩
theorem WriteVaries_row (v : S32) (A1 : Option Addr) (c1 : Nat) (A2 : Option Addr) (c2 : Nat) (P : Option Addr) (cp : Nat) (p : List Int) (x : S32) (B1 : Option Addr) (d1 : Nat) (B2 : Option Addr) (d2 : Nat) (w : World)
    (hr1 : Kd.C (Kd.int .u8) w A1 v.f1.length v.f1) (hc1 : v.f1.length ≤ c1) (hr2 : Kd.C k32 w A2 v.f2.length v.f2) (hc2 : v.f2.length ≤ c2) (hp : Kd.C (Kd.int .i64) w P p.length p) (hcp : p.length ≤ cp) (hs1 : Kd.C (Kd.int .u8) w B1 x.f1.length x.f1) (hd1 : x.f1.length ≤ d1) (hs2 : Kd.C k32 w B2 x.f2.length x.f2) (hd2 : x.f2.length ≤ d2) (_ : OkV v) (_ : ∀ y ∈ p, True) (_ : OkV x) :
    Calls Try.prog 7 #[.agg #[.int .u64 v.f0, .slice A1 v.f1.length c1, .slice A2 v.f2.length c2], .slice P p.length cp, .agg #[.int .u64 x.f0, .slice B1 x.f1.length d1, .slice B2 x.f2.length d2]] w fun e w' => e = .returned (.bool true) ∧ Below w.heap.size w w' :=
  WriteVaries_any v p x A1 c1 A2 c2 P cp B1 d1 B2 d2 w hr1 hc1 hr2 hc2 hp hcp hs1 hd1 hs2 hd2
end Go.Proofs.Ythmcbcofipehhaa.B
