import Derived.Test.YthmcbcofipehhaaHOut
namespace Go.Proofs.Ythmcbcofipehhaa.B
open Go.RowKit Go.Proofs.YthmcbcofipehhaaW.PrintWords Go.Proofs.YthmcbcofipehhaaW.PrintLast Go.Proofs.YthmcbcofipehhaaW.PrintMore
set_option linter.unusedVariables false
set_option linter.unusedSimpArgs false
/-- What a call does to a builder: so many bytes more. -/
def Lays (w0 w : World) (g : Nat) (m : Int) (bs xs : List Int) (os : List (Int × Int)) (e : Ending) (w' : World) : Prop := e = .returned (.int .i64 0) ∧ Bld w0 w' g m (bs ++ xs) os ∧ Fr w w'
def LayOk (x : S32) : Prop := ∀ (f : S29), checkT f = 0 → (fitT f x).2 = 0 → ∀ (A : Option Addr) (c : Nat) (A1 : Option Addr) (c1 : Nat) (A2 : Option Addr) (c2 : Nat) (w0 w : World) (g : Nat) (m : Int) (bs : List Int) (os : List (Int × Int)),
  Kd.C k29 w0 A f.f5.length f.f5 → f.f5.length ≤ c → Kd.C (Kd.int .u8) w0 A1 x.f1.length x.f1 → x.f1.length ≤ c1 → Kd.C k32 w0 A2 x.f2.length x.f2 → x.f2.length ≤ c2 → Bld w0 w g m bs os → m ≤ 1073741824 → os.length ≤ bs.length → (bs.length : Int) + (outT f x).length ≤ m →
  Calls Try.prog 39 #[.pointer (some ⟨g, 0, none⟩), .agg #[.int .i64 f.f0, .int .i64 f.f1, .int .i64 f.f2, .int .i64 f.f3, .int .i64 f.f4, .slice A f.f5.length c], .agg #[.int .u64 x.f0, .slice A1 x.f1.length c1, .slice A2 x.f2.length c2]] w (Lays w0 w g m bs (outT f x) os)
theorem outL_step {f : S29} {xs : List S32} {i : Int} (h0 : 0 ≤ i) (h1 : i < xs.length) : outL f (xs.drop i.toNat) i = outT (rd_T29 f.f5 (i % f.f5.length)) (rd_T32 xs i) ++ outL f (xs.drop (i + 1).toNat) (i + 1) := by
  rw [drop32 h0 h1, outL]
theorem outL_end {f : S29} {xs : List S32} {i : Int} (h1 : (xs.length : Int) ≤ i) : outL f (xs.drop i.toNat) i = [] := by
  rw [List.drop_eq_nil_of_le (by omega), outL]
theorem fitL_at {f : S29} {xs : List S32} {i n : Int} (h0 : 0 ≤ i) (h1 : i < xs.length) (h : (fitL f (xs.drop i.toNat) i n).2 = 0) : (fitT (rd_T29 f.f5 (i % f.f5.length)) (rd_T32 xs i)).2 = 0 ∧ ∃ n', (fitL f (xs.drop (i + 1).toNat) (i + 1) n').2 = 0 := by
  rw [drop32 h0 h1] at h
  obtain ⟨a, b⟩ := fitL_cons h
  exact ⟨a, _, b ▸ h⟩
set_option maxHeartbeats 4000000 in
set_option maxRecDepth 100000 in
theorem all_any (f : S29) (l : List S32) (HX : ∀ x, x ∈ l → LayOk x) (hck : checkT f = 0) (k23 : f.f0 = 2 ∨ f.f0 = 3) (hp : 0 < l.length → 0 < f.f5.length) (hf : (fitL f l 0 0).2 = 0) (A : Option Addr) (c : Nat) (A2 : Option Addr) (c2 : Nat) (w0 w : World) (g : Nat) (m : Int) (bs : List Int) (os : List (Int × Int))
    (hr : Kd.C k29 w0 A f.f5.length f.f5) (hc : f.f5.length ≤ c) (hr2 : Kd.C k32 w0 A2 l.length l) (hc2 : l.length ≤ c2) (hb : Bld w0 w g m bs os) (hm : m ≤ 1073741824) (ho : os.length ≤ bs.length) (hl : (bs.length : Int) + (outL f l 0).length ≤ m) :
    Calls Try.prog 56 #[.pointer (some ⟨g, 0, none⟩), .agg #[.int .i64 f.f0, .int .i64 f.f1, .int .i64 f.f2, .int .i64 f.f3, .int .i64 f.f4, .slice A f.f5.length c], .slice A2 l.length c2] w (Lays w0 w g m bs (outL f l 0) os) := by
  have hu29 := Try.underlying29
  have hu32 := Try.underlying32
  have hmx := Kd.C_max hr2
  have hmx5 := Kd.C_max hr
  have HR := Aside0.mk hr
  have HC := Aside0.mk hc
  have HR2 := Aside0.mk hr2
  have HC2 := Aside0.mk hc2
  have HMM := Aside0.mk hm
  have HOL := Aside0.mk ho
  have HLL := Aside0.mk hl
  have HXX := Aside0.mk HX
  have CK := Aside0.mk hck
  have K23 := Aside0.mk k23
  have HP := Aside0.mk hp
  have HB0 := Aside0.mk (hb.of_below (below_alloc (Below.refl _ _) (.cells #[.int .i64 f.f0, .int .i64 f.f1, .int .i64 f.f2, .int .i64 f.f3, .int .i64 f.f4, .slice A f.f5.length c] 29)))
  have HF := Aside0.mk hf
  clear hr hc hr2 hc2 hb hm ho hl HX hck k23 hp hf
  go_enter Try.func56, Try.ntmps56
  go_wp2
  go_loopg [12] (l.length + 1) (fun kq v12 w' => ∃ (i : Int), v12 = .int .i64 i ∧ 0 ≤ i ∧ i ≤ l.length ∧ Aside0 ((kq : Int) + i = l.length + 1) ∧ (∃ (n : Int) (done : List Int), Aside0 ((fitL f (l.drop i.toNat) i n).2 = 0) ∧ Aside0 (done ++ outL f (l.drop i.toNat) i = outL f l 0) ∧ Aside0 (Bld w0 w' g m (bs ++ done) os)) ∧ Aside0 (Fr w w') ∧ Aside0 (w'.heap[w.heap.size]? = some (.cells #[.int .i64 f.f0, .int .i64 f.f1, .int .i64 f.f2, .int .i64 f.f3, .int .i64 f.f4, .slice A f.f5.length c] 29 (0, 0))))
  case atStart => exact ⟨0, rfl, by omega, by omega, ⟨by omega⟩, ⟨0, [], HF, ⟨rfl⟩, by rw [List.append_nil]; exact HB0⟩, ⟨Fr.of_below (below_alloc (Below.refl _ _) _)⟩, ⟨heap_alloc_new _ _⟩⟩
  case round =>
    clear HB0 HF
    obtain ⟨i, rfl, i0, i1, HK, ⟨n, done, HF, HD, HB⟩, FR, BF⟩ := hrel
    by_cases hlt : i < (l.length : Int)
    case neg =>
      have c1 : decide (i < (l.length : Int)) = false := decide_eq_false hlt
      have E := Aside0.mk (show done = outL f l 0 by have := HD.out; rwa [outL_end (by omega), List.append_nil] at this)
      clear hlt
      go_wp2
      go_ret
      exact ⟨rfl, E.out ▸ HB.out, FR.out⟩
    case pos =>
      obtain ⟨k1, rfl⟩ : ∃ m, gk = m + 1 := ⟨gk - 1, by have := HK.out; omega⟩
      have c1 : decide (i < (l.length : Int)) = true := decide_eq_true hlt
      have hp := HP.out (by omega)
      have hne : ¬ (f.f5 = []) := by intro h; rw [h] at hp; exact absurd hp (by decide)
      obtain ⟨j, hj⟩ : ∃ j, i % (f.f5.length : Int) = j := ⟨_, rfl⟩
      have j0 : 0 ≤ j := by rw [← hj]; exact Int.emod_nonneg _ (by omega)
      have j1 : j < (f.f5.length : Int) := by rw [← hj]; exact Int.emod_lt_of_pos _ (by omega)
      have hjt : i.tmod (f.f5.length : Int) = j := by rw [Int.tmod_eq_emod_of_nonneg i0]; exact hj
      have hst := outL_step (f := f) i0 hlt
      obtain ⟨hfx, n', hfn⟩ := fitL_at i0 hlt HF.out
      have hcj := part_ok CK.out K23.out hp i
      rw [hj] at hst hfx hcj
      have HST := Aside0.mk hst
      have HFX := Aside0.mk hfx
      have HFN := Aside0.mk hfn
      have HCJ := Aside0.mk hcj
      have HM := Aside0.mk (HXX.out _ (mem_rd32 i0 hlt))
      have RB := HB.out.below
      obtain ⟨ad, B1, d1, B2, d2, e, hx0, hx1, hx2, hlx1, hix1, hlx2, hix2⟩ := at_T32 HR2.out i i0 hlt
      cases e
      obtain ⟨ae, B5, d5, e, hf0, hf1, hf2, hf3, hf4, hf5, hlf5, hif5⟩ := at_T29 HR.out j j0 j1
      cases e
      replace hx0 := (RB.cell (World.block_lt_of_cell? w0 _ hx0)).trans hx0
      replace hx1 := (RB.cell (World.block_lt_of_cell? w0 _ hx1)).trans hx1
      replace hx2 := (RB.cell (World.block_lt_of_cell? w0 _ hx2)).trans hx2
      have HX1 := Aside0.mk hix1
      have HX2 := Aside0.mk hix2
      have HF5 := Aside0.mk hif5
      have LX1 := Aside0.mk hlx1
      have LX2 := Aside0.mk hlx2
      have LF5 := Aside0.mk hlf5
      clear hix1 hix2 hif5 hlx1 hlx2 hlf5 hst hfx hfn hcj
      go_wp2
      obtain ⟨w5, hw5⟩ : ∃ w5, w5 = wr.alloc (.cells #[.int .u64 (rd_T32 l i).f0, .slice B1 (rd_T32 l i).f1.length d1, .slice B2 (rd_T32 l i).f2.length d2] 32) := ⟨_, rfl⟩
      have B5w : Below wr.heap.size wr w5 := by rw [hw5]; exact below_alloc (Below.refl _ _) _
      have N5 : w5.heap[wr.heap.size]? = some (.cells #[.int .u64 (rd_T32 l i).f0, .slice B1 (rd_T32 l i).f1.length d1, .slice B2 (rd_T32 l i).f2.length d2] 32 (0, 0)) := by rw [hw5]; exact heap_alloc_new _ _
      rw [← hw5]
      clear hw5
      have W5 := Aside0.mk (HB.out.of_below B5w)
      have RB5 := W5.out.below
      have BF5 := Aside0.mk (blk_below BF.out B5w)
      have FR5 := Aside0.mk (FR.out.trans (Fr.of_below B5w))
      replace hf0 := (RB5.cell (World.block_lt_of_cell? w0 _ hf0)).trans hf0
      replace hf1 := (RB5.cell (World.block_lt_of_cell? w0 _ hf1)).trans hf1
      replace hf2 := (RB5.cell (World.block_lt_of_cell? w0 _ hf2)).trans hf2
      replace hf3 := (RB5.cell (World.block_lt_of_cell? w0 _ hf3)).trans hf3
      replace hf4 := (RB5.cell (World.block_lt_of_cell? w0 _ hf4)).trans hf4
      replace hf5 := (RB5.cell (World.block_lt_of_cell? w0 _ hf5)).trans hf5
      have hz5 : w5.cell? ⟨w.heap.size, 5, none⟩ = some (.slice (some ae) f.f5.length c) := (blk_cell BF5.out 5).trans rfl
      have x0 : w5.cell? ⟨wr.heap.size, 0, none⟩ = some (.int .u64 (rd_T32 l i).f0) := (blk_cell N5 0).trans rfl
      have x1 : w5.cell? ⟨wr.heap.size, 1, none⟩ = some (.slice B1 (rd_T32 l i).f1.length d1) := (blk_cell N5 1).trans rfl
      have x2 : w5.cell? ⟨wr.heap.size, 2, none⟩ = some (.slice B2 (rd_T32 l i).f2.length d2) := (blk_cell N5 2).trans rfl
      clear B5w N5 RB RB5 hx0 hx1 hx2 HB FR BF
      refine wp_region_still_tail 11 (by kernel_rfl) (by kernel_rfl) ?_
      simp only [List.take_succ_cons, List.take_zero, List.drop_succ_cons, List.drop_zero]
      change wpStill Try.prog _ w5.drew (fun a' => wpList Try.prog _ _ _ a' w5.drew) _ _
      repeat still_step
      refine wpStill_nil ?_
      go_wp2_with fail
      refine (HM.out (rd_T29 f.f5 j) HCJ.out HFX.out B5 d5 B1 d1 B2 d2 w0 _ g m (bs ++ done) os HF5.out LF5.out HX1.out LX1.out HX2.out LX2.out (W5.out.of_below (below_drew1 (Below.refl _ _))) HMM.out (by have := HOL.out; simp; omega) ?hlen).mono ?_
      case hlen =>
        have h1 := HD.out
        rw [HST.out] at h1
        have h2 := congrArg List.length h1
        simp only [List.length_append] at h2 ⊢
        have := HLL.out
        omega
      rintro e w6 ⟨rfl, hb6, hf6⟩
      have BF6 := Aside0.mk (hf6.blkc (blk_drew BF5.out) (by unfold bty; decide))
      have FR6 := Aside0.mk ((FR5.out.trans (Fr.of_below (below_drew1 (Below.refl _ _)))).trans hf6)
      have W6 := Aside0.mk hb6
      have HD6 := Aside0.mk (show (done ++ outT (rd_T29 f.f5 j) (rd_T32 l i)) ++ outL f (l.drop (i + 1).toNat) (i + 1) = outL f l 0 by rw [List.append_assoc, ← HST.out]; exact HD.out)
      rw [List.append_assoc] at hb6
      have W6 := Aside0.mk hb6
      clear hb6 hf6 hz5 x0 x1 x2 hf0 hf1 hf2 hf3 hf4 hf5 hj hjt hne hp
      go_wp2
      go_roundg (k1)
      case measure => have := HK.out; omega
      case rel => exact ⟨_, rfl, by omega, by omega, ⟨by have := HK.out; omega⟩, ⟨n', _, HFN, HD6, W6⟩, FR6, BF6⟩
/-! ### a part behind its length -/
set_option maxHeartbeats 4000000 in
set_option maxRecDepth 100000 in
theorem inside53 (p1 p2 : Nat) (w0 w : World) (g : Nat) (m : Int) (pre body : List Int) (os : List (Int × Int)) (s : Int) (hs : s = 1 ∨ s = 2 ∨ s = 3) (hf : shr .i64 body.length (8 * s) = 0) (hb : Bld w0 w g m pre os) (hm : m ≤ 1073741824) (ho : os.length ≤ pre.length) (hl : (pre.length : Int) + s + body.length ≤ m)
    (hdo : ∀ W, Bld w0 W g m (pre ++ zs s) (os ++ [((pre.length : Int) + s, s)]) → Fr w W → Calls Try.prog 53 #[.pointer (some ⟨p1, 0, none⟩), .pointer (some ⟨p2, 0, none⟩)] W (Lays w0 W g m (pre ++ zs s) body (os ++ [((pre.length : Int) + s, s)]))) :
    Calls Try.prog 52 #[.pointer (some ⟨g, 0, none⟩), .int .i64 s, .func (.func 53) #[] #[.pointer (some ⟨p1, 0, none⟩), .pointer (some ⟨p2, 0, none⟩)]] w (Lays w0 w g m pre (be s body.length ++ body) os) := by
  have HS := Aside0.mk hs
  have HF := Aside0.mk hf
  have HB := Aside0.mk hb
  have HM := Aside0.mk hm
  have HO := Aside0.mk ho
  have HL := Aside0.mk hl
  have HD := Aside0.mk hdo
  have hsb : 1 ≤ s := by omega
  clear hs hf hb hm ho hl hdo
  go_enter Try.func52, Try.ntmps52
  go_wp2_with fail
  refine (BOpen_any w0 _ g m pre os s HS.out HB.out HM.out (by have := HL.out; omega) (by have := HL.out; have := HO.out; have := HM.out; omega)).mono ?_
  rintro e w1 ⟨rfl, hb1, hf1⟩
  have HB1 := Aside0.mk hb1
  have HF1 := Aside0.mk hf1
  clear hb1 hf1
  go_wp2_with fail
  refine (HD.out w1 HB1.out HF1.out).mono ?_
  rintro e w2 ⟨rfl, hb2, hf2⟩
  have HB2 := Aside0.mk hb2
  have HF2 := Aside0.mk (HF1.out.trans hf2)
  clear hb2 hf2
  go_wp2_with fail
  refine (BClose_any w0 _ g m pre body os s HS.out HF.out HB2.out HM.out HL.out (by have := HL.out; have := HO.out; have := HM.out; omega)).mono ?_
  rintro e w3 ⟨rfl, hb3, hf3⟩
  rw [List.append_assoc] at hb3
  have HB3 := Aside0.mk hb3
  have HF3 := Aside0.mk (HF2.out.trans hf3)
  clear hb3 hf3
  go_wp2
  go_ret
  exact ⟨rfl, HB3.out, HF3.out⟩
set_option maxHeartbeats 4000000 in
set_option maxRecDepth 100000 in
theorem inside55 (p1 p2 p3 : Nat) (w0 w : World) (g : Nat) (m : Int) (pre body : List Int) (os : List (Int × Int)) (s : Int) (hs : s = 1 ∨ s = 2 ∨ s = 3) (hf : shr .i64 body.length (8 * s) = 0) (hb : Bld w0 w g m pre os) (hm : m ≤ 1073741824) (ho : os.length ≤ pre.length) (hl : (pre.length : Int) + s + body.length ≤ m)
    (hdo : ∀ W, Bld w0 W g m (pre ++ zs s) (os ++ [((pre.length : Int) + s, s)]) → Fr w W → Calls Try.prog 55 #[.pointer (some ⟨p1, 0, none⟩), .pointer (some ⟨p2, 0, none⟩), .pointer (some ⟨p3, 0, none⟩)] W (Lays w0 W g m (pre ++ zs s) body (os ++ [((pre.length : Int) + s, s)]))) :
    Calls Try.prog 52 #[.pointer (some ⟨g, 0, none⟩), .int .i64 s, .func (.func 55) #[] #[.pointer (some ⟨p1, 0, none⟩), .pointer (some ⟨p2, 0, none⟩), .pointer (some ⟨p3, 0, none⟩)]] w (Lays w0 w g m pre (be s body.length ++ body) os) := by
  have HS := Aside0.mk hs
  have HF := Aside0.mk hf
  have HB := Aside0.mk hb
  have HM := Aside0.mk hm
  have HO := Aside0.mk ho
  have HL := Aside0.mk hl
  have HD := Aside0.mk hdo
  have hsb : 1 ≤ s := by omega
  clear hs hf hb hm ho hl hdo
  go_enter Try.func52, Try.ntmps52
  go_wp2_with fail
  refine (BOpen_any w0 _ g m pre os s HS.out HB.out HM.out (by have := HL.out; omega) (by have := HL.out; have := HO.out; have := HM.out; omega)).mono ?_
  rintro e w1 ⟨rfl, hb1, hf1⟩
  have HB1 := Aside0.mk hb1
  have HF1 := Aside0.mk hf1
  clear hb1 hf1
  go_wp2_with fail
  refine (HD.out w1 HB1.out HF1.out).mono ?_
  rintro e w2 ⟨rfl, hb2, hf2⟩
  have HB2 := Aside0.mk hb2
  have HF2 := Aside0.mk (HF1.out.trans hf2)
  clear hb2 hf2
  go_wp2_with fail
  refine (BClose_any w0 _ g m pre body os s HS.out HF.out HB2.out HM.out HL.out (by have := HL.out; have := HO.out; have := HM.out; omega)).mono ?_
  rintro e w3 ⟨rfl, hb3, hf3⟩
  rw [List.append_assoc] at hb3
  have HB3 := Aside0.mk hb3
  have HF3 := Aside0.mk (HF2.out.trans hf3)
  clear hb3 hf3
  go_wp2
  go_ret
  exact ⟨rfl, HB3.out, HF3.out⟩
set_option maxHeartbeats 1000000 in
theorem do53 (a b : Nat) (x : S32) (A1 : Option Addr) (c1 : Nat) (v2 : Value) (w0 W : World) (g : Nat) (m : Int) (bs : List Int) (os : List (Int × Int)) (ha : W.heap[a]? = some (.cells #[.pointer (some ⟨g, 0, none⟩)] 68 (0, 0))) (hv : W.heap[b]? = some (.cells #[.int .u64 x.f0, .slice A1 x.f1.length c1, v2] 32 (0, 0)))
    (hr1 : Kd.C (Kd.int .u8) w0 A1 x.f1.length x.f1) (hc1 : x.f1.length ≤ c1) (hb : Bld w0 W g m bs os) (hm : m ≤ 1073741824) (hl : (bs.length : Int) + x.f1.length ≤ m) :
    Calls Try.prog 53 #[.pointer (some ⟨a, 0, none⟩), .pointer (some ⟨b, 0, none⟩)] W (Lays w0 W g m bs x.f1 os) := by
  have hu32 := Try.underlying32
  have h0 : W.cell? ⟨a, 0, none⟩ = some (.pointer (some ⟨g, 0, none⟩)) := (blk_cell ha 0).trans rfl
  have h1 : W.cell? ⟨b, 1, none⟩ = some (.slice A1 x.f1.length c1) := (blk_cell hv 1).trans rfl
  have HR1 := Aside0.mk hr1
  have HC1 := Aside0.mk hc1
  have HB := Aside0.mk hb
  have HM := Aside0.mk hm
  have HL := Aside0.mk hl
  clear ha hv hr1 hc1 hb hm hl
  go_enter Try.func53, Try.ntmps53
  go_wp2_with fail
  refine (BBytes_any w0 _ g m bs os x.f1 A1 c1 HB.out (Kd.C_below HR1.out HB.out.below) HC1.out HM.out HL.out).mono ?_
  rintro e w1 ⟨rfl, hb1, hf1⟩
  have HB1 := Aside0.mk hb1
  have HF1 := Aside0.mk hf1
  clear hb1 hf1
  go_wp2
  go_ret
  exact ⟨rfl, HB1.out, HF1.out⟩
set_option maxHeartbeats 1000000 in
theorem do55 (a b d : Nat) (f : S29) (x : S32) (HX : ∀ y, y ∈ x.f2 → LayOk y) (hck : checkT f = 0) (k2 : f.f0 = 2) (hp : 0 < f.f5.length) (hf : (fitL f x.f2 0 0).2 = 0) (A : Option Addr) (c : Nat) (A2 : Option Addr) (c2 : Nat) (v1 : Value) (w0 W : World) (g : Nat) (m : Int) (bs : List Int) (os : List (Int × Int)) (ha : W.heap[a]? = some (.cells #[.pointer (some ⟨g, 0, none⟩)] 68 (0, 0)))
    (hfb : W.heap[b]? = some (.cells #[.int .i64 f.f0, .int .i64 f.f1, .int .i64 f.f2, .int .i64 f.f3, .int .i64 f.f4, .slice A f.f5.length c] 29 (0, 0))) (hv : W.heap[d]? = some (.cells #[.int .u64 x.f0, v1, .slice A2 x.f2.length c2] 32 (0, 0)))
    (hr : Kd.C k29 w0 A f.f5.length f.f5) (hc : f.f5.length ≤ c) (hr2 : Kd.C k32 w0 A2 x.f2.length x.f2) (hc2 : x.f2.length ≤ c2) (hb : Bld w0 W g m bs os) (hm : m ≤ 1073741824) (ho : os.length ≤ bs.length) (hl : (bs.length : Int) + (outL f x.f2 0).length ≤ m) :
    Calls Try.prog 55 #[.pointer (some ⟨a, 0, none⟩), .pointer (some ⟨b, 0, none⟩), .pointer (some ⟨d, 0, none⟩)] W (Lays w0 W g m bs (outL f x.f2 0) os) := by
  have hu29 := Try.underlying29
  have hu32 := Try.underlying32
  have h0 : W.cell? ⟨a, 0, none⟩ = some (.pointer (some ⟨g, 0, none⟩)) := (blk_cell ha 0).trans rfl
  have h1 : W.cell? ⟨d, 2, none⟩ = some (.slice A2 x.f2.length c2) := (blk_cell hv 2).trans rfl
  have f0 : W.cell? ⟨b, 0, none⟩ = some (.int .i64 f.f0) := (blk_cell hfb 0).trans rfl
  have f1 : W.cell? ⟨b, 1, none⟩ = some (.int .i64 f.f1) := (blk_cell hfb 1).trans rfl
  have f2 : W.cell? ⟨b, 2, none⟩ = some (.int .i64 f.f2) := (blk_cell hfb 2).trans rfl
  have f3 : W.cell? ⟨b, 3, none⟩ = some (.int .i64 f.f3) := (blk_cell hfb 3).trans rfl
  have f4 : W.cell? ⟨b, 4, none⟩ = some (.int .i64 f.f4) := (blk_cell hfb 4).trans rfl
  have f5 : W.cell? ⟨b, 5, none⟩ = some (.slice A f.f5.length c) := (blk_cell hfb 5).trans rfl
  have C := Aside0.mk (all_any f x.f2 HX hck (.inl k2) (fun _ => hp) hf A c A2 c2 w0 W g m bs os hr hc hr2 hc2 hb hm ho hl)
  clear ha hfb hv hr hc hr2 hc2 hb hm ho hl HX hck k2 hp hf
  go_enter Try.func55, Try.ntmps55
  go_wp2_with fail
  refine C.out.mono ?_
  rintro e w1 ⟨rfl, hb1, hf1⟩
  have HB1 := Aside0.mk hb1
  have HF1 := Aside0.mk hf1
  clear hb1 hf1
  go_wp2
  go_ret
  exact ⟨rfl, HB1.out, HF1.out⟩
end Go.Proofs.Ythmcbcofipehhaa.B
