import Derived.Test.YthmcbcofipehhaaHVary
import Derived.Test.YthmcbcofipehhaaHRef4c
import Derived.Deep.DeepCutAuto
namespace Go.Proofs.Ythmcbcofipehhaa.B
open Go.RowKit Go.Proofs.YthmcbcofipehhaaW.PrintWords Go.Proofs.YthmcbcofipehhaaW.PrintLast Go.Proofs.YthmcbcofipehhaaW.PrintMore
set_option linter.unusedVariables false
set_option linter.unusedSimpArgs false
/-- A value and no error, or no value and why; the value reads so wherever what came in (at r) and what the call made stand. -/
def GivesR (o : Option S32) (r w : World) (e : Ending) (w' : World) : Prop :=
  (∃ (C1 : Option Addr) (f1 : Nat) (C2 : Option Addr) (f2 : Nat) (y : S32), y = o.getD ⟨0, [], []⟩ ∧ e = .returned (.tuple #[.agg #[.int .u64 y.f0, .slice C1 y.f1.length f1, .slice C2 y.f2.length f2], .int .i64 (if o.isSome then 0 else 3)]) ∧
    y.f1.length ≤ f1 ∧ y.f2.length ≤ f2 ∧ ∀ V : World, Below r.heap.size r V → (∀ k, w.heap.size ≤ k → k < w'.heap.size → V.heap[k]? = w'.heap[k]?) → Kd.C (Kd.int .u8) V C1 y.f1.length y.f1 ∧ Kd.C k32 V C2 y.f2.length y.f2) ∧ Below w.heap.size w w'
theorem GivesR.none_ {o : Option S32} {r w w' : World} {e : Ending} (ho : o = none) (he : e = .returned (.tuple #[.agg #[.int .u64 0, .slice none 0 0, .slice none 0 0], .int .i64 3])) (hb : Below w.heap.size w w') : GivesR o r w e w' := by
  subst ho
  exact ⟨⟨none, 0, none, 0, ⟨0, [], []⟩, rfl, he, Nat.le_refl _, Nat.le_refl _, fun _ _ _ => ⟨Kd.C_nil _ _, Kd.C_nil _ _⟩⟩, hb⟩
theorem GivesR.some_ {o : Option S32} {r w w' : World} {e : Ending} {y : S32} {C1 C2 : Option Addr} {f1 f2 : Nat} (ho : o = some y) (he : e = .returned (.tuple #[.agg #[.int .u64 y.f0, .slice C1 y.f1.length f1, .slice C2 y.f2.length f2], .int .i64 0]))
    (l1 : y.f1.length ≤ f1) (l2 : y.f2.length ≤ f2) (h : ∀ V : World, Below r.heap.size r V → (∀ k, w.heap.size ≤ k → k < w'.heap.size → V.heap[k]? = w'.heap[k]?) → Kd.C (Kd.int .u8) V C1 y.f1.length y.f1 ∧ Kd.C k32 V C2 y.f2.length y.f2) (hb : Below w.heap.size w w') : GivesR o r w e w' := by
  subst ho
  exact ⟨⟨C1, f1, C2, f2, y, rfl, he, l1, l2, h⟩, hb⟩
theorem info3s : (Try.prog.info? 3).map (·.size) = some 1 := by kernel_rfl
theorem cut37 (A : Option Addr) (n c : Nat) (h1 : 1 ≤ n) : ∀ W : World, (Instr.slice 37 (.slice A n c) (some (.int .i64 1)) none none).run Try.prog W = .ok (.slice (if c = 1 then A else A.map (·.add (1 * 1))) (n - 1) (c - 1)) W := by
  obtain ⟨i0, hi, hz⟩ := Option.map_eq_some_iff.1 info3s
  exact cut_from 37 3 .i64 Try.underlying37 hi 1 hz A n c 1 (by decide) (by omega)
theorem threeB (w : World) (o0 o1 o2 : Obj) : ∃ W, W = ((w.alloc o0).alloc o1).alloc o2 ∧ W.heap[w.heap.size]? = some o0 ∧ W.heap[w.heap.size + 1]? = some o1 ∧ W.heap[w.heap.size + 1 + 1]? = some o2 ∧ Below w.heap.size w W := by
  have s1 : (w.alloc o0).heap.size = w.heap.size + 1 := World.size_alloc _ _
  have s2 : ((w.alloc o0).alloc o1).heap.size = w.heap.size + 1 + 1 := by rw [World.size_alloc, s1]
  exact ⟨_, rfl, blk_alloc (blk_alloc (heap_alloc_new w o0) _) _, blk_alloc (s1 ▸ heap_alloc_new (w.alloc o0) o1) _, s2 ▸ heap_alloc_new ((w.alloc o0).alloc o1) o2, below_alloc (below_alloc (below_alloc (Below.refl _ _) _) _) _⟩
theorem bcell {W w1 : World} (hb : Below W.heap.size W w1) : (∀ b o, b < W.heap.size → w1.cell? ⟨b, o, none⟩ = W.cell? ⟨b, o, none⟩) ∧ (∀ b o, b < W.heap.size → w1.frozen? ⟨b, o, none⟩ = W.frozen? ⟨b, o, none⟩) :=
  ⟨fun b o h => hb.cell (p := ⟨b, o, none⟩) h, fun b o h => hb.frozen (p := ⟨b, o, none⟩) h⟩
/-- What a step of the recursion leaves: a variable with the value, and the error. -/
def RCut (r w3 : World) (o : Option S32) (v9 v10 : Value) (wx : World) : Prop :=
  ∃ (g : Nat) (G1 : Option Addr) (h1 : Nat) (G2 : Option Addr) (h2 : Nat) (y : S32), v9 = .pointer (some ⟨g, 0, none⟩) ∧ v10 = .int .i64 (if o.isSome then 0 else 3) ∧ y = o.getD ⟨0, [], []⟩ ∧ w3.heap.size ≤ g ∧ wx.heap[g]? = some (.cells #[.int .u64 y.f0, .slice G1 y.f1.length h1, .slice G2 y.f2.length h2] 32 (0, 0)) ∧
    Below w3.heap.size w3 wx ∧ y.f1.length ≤ h1 ∧ y.f2.length ≤ h2 ∧ ∃ lo hi : Nat, w3.heap.size ≤ lo ∧ hi ≤ wx.heap.size ∧ (g < lo ∨ hi ≤ g) ∧ ∀ V : World, Below r.heap.size r V → (∀ k, lo ≤ k → k < hi → V.heap[k]? = wx.heap[k]?) → Kd.C (Kd.int .u8) V G1 y.f1.length y.f1 ∧ Kd.C k32 V G2 y.f2.length y.f2
theorem RCut.late {r w3 W w4 : World} {o : Option S32} {G1 G2 : Option Addr} {h1 h2 : Nat} {y : S32} {er : Int} (hy : Aside0 (y = o.getD ⟨0, [], []⟩)) (he : Aside0 (er = if o.isSome = true then 0 else 3)) (l1 : Aside0 (y.f1.length ≤ h1)) (l2 : Aside0 (y.f2.length ≤ h2))
    (hV : Aside0 (∀ V : World, Below r.heap.size r V → (∀ k, W.heap.size ≤ k → k < w4.heap.size → V.heap[k]? = w4.heap[k]?) → Kd.C (Kd.int .u8) V G1 y.f1.length y.f1 ∧ Kd.C k32 V G2 y.f2.length y.f2)) (hb : Aside0 (Below W.heap.size W w4)) (hW : Below w3.heap.size w3 W) :
    RCut r w3 o (.pointer (some ⟨w4.heap.size, 0, none⟩)) (.int .i64 er) (w4.alloc (.cells #[.int .u64 y.f0, .slice G1 y.f1.length h1, .slice G2 y.f2.length h2] 32)) := by
  have hs : (w4.alloc (.cells #[.int .u64 y.f0, .slice G1 y.f1.length h1, .slice G2 y.f2.length h2] 32)).heap.size = w4.heap.size + 1 := World.size_alloc _ _
  have hbs := hb.out.size
  have hws := hW.size
  refine ⟨_, G1, h1, G2, h2, y, rfl, by rw [he.out], hy.out, by omega, heap_alloc_new _ _, below_alloc (below_step hW hb.out) _, l1.out, l2.out, W.heap.size, w4.heap.size, hws, by omega, .inr (Nat.le_refl _), fun V hV1 hk => hV.out V hV1 (fun k k0 k1 => (hk k k0 k1).trans (Below.heap_alloc w4 _ k k1))⟩
theorem RCut.early {r w3' W w4 : World} {o : Option S32} {G1 G2 : Option Addr} {h1 h2 : Nat} {y : S32} {er : Int} {a0 a1 a2 : Value} (hy : Aside0 (y = o.getD ⟨0, [], []⟩)) (he : Aside0 (er = if o.isSome = true then 0 else 3)) (l1 : Aside0 (y.f1.length ≤ h1)) (l2 : Aside0 (y.f2.length ≤ h2))
    (hV : Aside0 (∀ V : World, Below r.heap.size r V → (∀ k, W.heap.size ≤ k → k < w4.heap.size → V.heap[k]? = w4.heap[k]?) → Kd.C (Kd.int .u8) V G1 y.f1.length y.f1 ∧ Kd.C k32 V G2 y.f2.length y.f2)) (hb : Aside0 (Below W.heap.size W w4)) (hW : Below w3'.heap.size w3' W)
    (hg : W.heap[w3'.heap.size]? = some (.cells #[a0, a1, a2] 32 (0, 0))) :
    RCut r w3' o (.pointer (some ⟨w3'.heap.size, 0, none⟩)) (.int .i64 er) (((w4.setCell ⟨w3'.heap.size, 0, none⟩ (.int .u64 y.f0)).setCell ⟨w3'.heap.size, 1, none⟩ (.slice G1 y.f1.length h1)).setCell ⟨w3'.heap.size, 2, none⟩ (.slice G2 y.f2.length h2)) := by
  have hgl := blk_lt hg
  have hbs := hb.out.size
  have hs : (w3 w4 w3'.heap.size (.int .u64 y.f0) (.slice G1 y.f1.length h1) (.slice G2 y.f2.length h2)).heap.size = w4.heap.size := by simp [w3, World.setCell]
  refine ⟨_, G1, h1, G2, h2, y, rfl, by rw [he.out], hy.out, Nat.le_refl _, blk3 (blk_below hg hb.out) _ _ _, below3 (below_step hW hb.out) (Nat.le_refl _) _ _ _, l1.out, l2.out, W.heap.size, w4.heap.size, by omega, Nat.le_of_eq hs.symm, .inl hgl, fun V hV1 hk => hV.out V hV1 (fun k k0 k1 => (hk k k0 k1).trans (w3_far _ _ _ _ _ k (by omega)))⟩
set_option maxHeartbeats 9000000 in
set_option maxRecDepth 100000 in
theorem RVary_any (x : S32) : ∀ (p : List Int) (v : S32) (hsz : szT v ≤ 1000000000) (A1 : Option Addr) (c1 : Nat) (A2 : Option Addr) (c2 : Nat) (P : Option Addr) (cp : Nat) (B1 : Option Addr) (d1 : Nat) (B2 : Option Addr) (d2 : Nat) (r w : World) (hB : Below r.heap.size r w)
    (hr1 : Kd.C (Kd.int .u8) r A1 v.f1.length v.f1) (hc1 : v.f1.length ≤ c1) (hr2 : Kd.C k32 r A2 v.f2.length v.f2) (hc2 : v.f2.length ≤ c2) (hp : Kd.C (Kd.int .i64) r P p.length p) (hcp : p.length ≤ cp) (hs1 : Kd.C (Kd.int .u8) r B1 x.f1.length x.f1) (hd1 : x.f1.length ≤ d1) (hs2 : Kd.C k32 r B2 x.f2.length x.f2) (hd2 : x.f2.length ≤ d2),
    Calls Try.prog 24 #[.agg #[.int .u64 v.f0, .slice A1 v.f1.length c1, .slice A2 v.f2.length c2], .slice P p.length cp, .agg #[.int .u64 x.f0, .slice B1 x.f1.length d1, .slice B2 x.f2.length d2]] w (GivesR (varT x v p) r w) := by
  intro p
  induction p with
  | nil =>
    intro v hsz A1 c1 A2 c2 P cp B1 d1 B2 d2 r w hB hr1 hc1 hr2 hc2 hp hcp hs1 hd1 hs2 hd2
    have hu32 := Try.underlying32
    have HB := Aside0.mk hB
    have HS1 := Aside0.mk hs1
    have HD1 := Aside0.mk hd1
    have HS2 := Aside0.mk hs2
    have HD2 := Aside0.mk hd2
    have E := Aside0.mk (show varT x v [] = some x by rw [varT])
    clear hB hr1 hc1 hr2 hc2 hp hcp hs1 hd1 hs2 hd2 hsz
    go_enter Try.func24, Try.ntmps24
    go_wp2
    refine bodyPost_ret (results_ct (fn := Try.f24) rfl _ _ (w.heap.size + 1 + 1) 32 #[.int .u64 x.f0, .slice B1 x.f1.length d1, .slice B2 x.f2.length d2] (0, 0) _ rfl ?_ Try.underlying32 rfl (by kernel_rfl)) rfl (GivesR.some_ E.out rfl HD1.out HD2.out (fun V hV _ => ⟨Kd.C_below HS1.out hV, Kd.C_below HS2.out hV⟩) ?_)
    · obtain ⟨W, hW, _, _, h2, _⟩ := threeB w (.cells #[.int .u64 v.f0, .slice A1 v.f1.length c1, .slice A2 v.f2.length c2] 32) (.cells #[.int .u64 x.f0, .slice B1 x.f1.length d1, .slice B2 x.f2.length d2] 32) (.cells #[.int .u64 x.f0, .slice B1 x.f1.length d1, .slice B2 x.f2.length d2] 32)
      rw [hW] at h2
      exact h2
    · exact below_alloc (below_alloc (below_alloc (Below.refl _ _) _) _) _
  | cons i p ih =>
    intro v hsz A1 c1 A2 c2 P cp B1 d1 B2 d2 r w hB hr1 hc1 hr2 hc2 hp hcp hs1 hd1 hs2 hd2
    have hu32 := Try.underlying32
    have HB := Aside0.mk hB
    have HR1 := Aside0.mk hr1
    have HC1 := Aside0.mk hc1
    have HR2 := Aside0.mk hr2
    have HC2 := Aside0.mk hc2
    have HS1 := Aside0.mk hs1
    have HD1 := Aside0.mk hd1
    have HS2 := Aside0.mk hs2
    have HD2 := Aside0.mk hd2
    have HSZ := Aside0.mk hsz
    have IH := Aside0.mk ih
    have hmu := Kd.C_max hr2
    have hmp := Kd.C_max hp
    obtain ⟨adp, ep, hcell⟩ := at_int hp 0 (by decide) (by simp)
    subst ep
    have hi0 : rd (i :: p) 0 = i := rfl
    rw [hi0] at hcell
    have hcell' := (hB.cell (World.block_lt_of_cell? r _ hcell)).trans hcell
    rw [Int.toNat_zero, addr0] at hcell'
    have hcp1 : 1 ≤ cp := by have := hcp; simp at this; omega
    have HPT := Aside0.mk (Kd.C_drop (m := 1) (c := cp) hp (by simp) hcp)
    have hpl : ((i :: p).length : Int) = p.length + 1 := by simp
    obtain ⟨n, hn⟩ : ∃ n, n = (i :: p).length := ⟨_, rfl⟩
    have hn2 : n = p.length + 1 := by rw [hn]; simp
    rw [← hn] at hcp hmp ⊢
    have hcut := cut37 (some adp) n cp (by omega)
    have hnz : (n == 0) = false := by simp; omega
    have hnzi : ((n : Int) == 0) = false := by simp; omega
    have n1 : (0 : Int) < (n : Int) := by omega
    have n1' : 0 < n := by omega
    clear hB hr1 hc1 hr2 hc2 hp hs1 hd1 hs2 hd2 hsz ih hi0 hpl hn hcell
    have HCP := Aside0.mk hcp
    have HN2 := Aside0.mk hn2
    clear hcp hn2
    obtain ⟨w3, hw3, b0, b1, b2, b3⟩ := threeB w (.cells #[.int .u64 v.f0, .slice A1 v.f1.length c1, .slice A2 v.f2.length c2] 32) (.cells #[.int .u64 x.f0, .slice B1 x.f1.length d1, .slice B2 x.f2.length d2] 32) (.cells #[.int .u64 0, .slice none 0 0, .slice none 0 0] 32)
    go_enter Try.func24, Try.ntmps24
    go_upto_region 3 with (fail)
    rw [← hw3]
    clear hw3
    obtain ⟨n2, hn2⟩ : ∃ n2, n2 = w.heap.size + 1 + 1 := ⟨_, rfl⟩
    obtain ⟨m1, hm1⟩ : ∃ m1, m1 = w.heap.size + 1 := ⟨_, rfl⟩
    obtain ⟨m0, hm0⟩ : ∃ m0, m0 = w.heap.size := ⟨_, rfl⟩
    rw [← hn2] at b2
    rw [← hm1] at b1
    rw [← hm0] at b0
    rw [← hn2, ← hm1, ← hm0]
    have NN := Aside0.mk (show m0 = w.heap.size ∧ m1 = m0 + 1 ∧ n2 = m1 + 1 by omega)
    clear hn2 hm1 hm0
    have X0 := Aside0.mk b0
    have X1 := Aside0.mk b1
    have X2 := Aside0.mk b2
    have BW := Aside0.mk b3
    have BR := Aside0.mk (below_step HB.out b3)
    have hcell3 := (b3.cell (World.block_lt_of_cell? w _ hcell')).trans hcell'
    clear hcell' b0 b1 b2 b3
    have z0 : w3.cell? ⟨m0, 0, none⟩ = some (.int .u64 v.f0) := (blk_cell X0.out 0).trans rfl
    have z1 : w3.cell? ⟨m0, 1, none⟩ = some (.slice A1 v.f1.length c1) := (blk_cell X0.out 1).trans rfl
    have z2 : w3.cell? ⟨m0, 2, none⟩ = some (.slice A2 v.f2.length c2) := (blk_cell X0.out 2).trans rfl
    have y0 : w3.cell? ⟨m1, 0, none⟩ = some (.int .u64 x.f0) := (blk_cell X1.out 0).trans rfl
    have y1 : w3.cell? ⟨m1, 1, none⟩ = some (.slice B1 x.f1.length d1) := (blk_cell X1.out 1).trans rfl
    have y2 : w3.cell? ⟨m1, 2, none⟩ = some (.slice B2 x.f2.length d2) := (blk_cell X1.out 2).trans rfl
    by_cases hi0 : i < 0
    case pos =>
      have ib : decide (i < 0) = true := decide_eq_true hi0
      have E := Aside0.mk (show varT x v (i :: p) = none by rw [varT, if_pos hi0])
      have r0 : w3.cell? ⟨n2, 0, none⟩ = some (.int .u64 0) := (blk_cell X2.out 0).trans rfl
      have r1 : w3.cell? ⟨n2, 1, none⟩ = some (.slice none 0 0) := (blk_cell X2.out 1).trans rfl
      have r2 : w3.cell? ⟨n2, 2, none⟩ = some (.slice none 0 0) := (blk_cell X2.out 2).trans rfl
      have q0 := blk_frozen X2.out 0
      have q1 := blk_frozen X2.out 1
      have q2 := blk_frozen X2.out 2
      clear hi0
      go_wp2
      exact bodyPost_ret (results_ct (fn := Try.f24) rfl _ _ n2 32 _ (0, 0) _ rfl (blk3 X2.out (.int .u64 0) (.slice none 0 0) (.slice none 0 0)) Try.underlying32 rfl (by kernel_rfl)) rfl (GivesR.none_ E.out rfl (below3 BW.out (by have := NN.out; omega) _ _ _))
    case neg =>
    have ib : decide (i < 0) = false := decide_eq_false hi0
    by_cases hi1 : (v.f2.length : Int) ≤ i
    case pos =>
      have ic : decide ((v.f2.length : Int) ≤ i) = true := decide_eq_true hi1
      have E := Aside0.mk (show varT x v (i :: p) = none by rw [varT, if_neg hi0, if_pos hi1])
      have r0 : w3.cell? ⟨n2, 0, none⟩ = some (.int .u64 0) := (blk_cell X2.out 0).trans rfl
      have r1 : w3.cell? ⟨n2, 1, none⟩ = some (.slice none 0 0) := (blk_cell X2.out 1).trans rfl
      have r2 : w3.cell? ⟨n2, 2, none⟩ = some (.slice none 0 0) := (blk_cell X2.out 2).trans rfl
      have q0 := blk_frozen X2.out 0
      have q1 := blk_frozen X2.out 1
      have q2 := blk_frozen X2.out 2
      clear hi0 hi1
      go_wp2
      exact bodyPost_ret (results_ct (fn := Try.f24) rfl _ _ n2 32 _ (0, 0) _ rfl (blk3 X2.out (.int .u64 0) (.slice none 0 0) (.slice none 0 0)) Try.underlying32 rfl (by kernel_rfl)) rfl (GivesR.none_ E.out rfl (below3 BW.out (by have := NN.out; omega) _ _ _))
    case neg =>
    have ic : decide ((v.f2.length : Int) ≤ i) = false := decide_eq_false hi1
    have i0 : 0 ≤ i := by omega
    have i1 : i < (v.f2.length : Int) := by omega
    have HST := Aside0.mk (show varT x v (i :: p) = (varT x (rd_T32 v.f2 i) p).map (putT v i) by rw [varT, if_neg hi0, if_neg hi1])
    clear hi0 hi1
    obtain ⟨ad, F1, g1, F2, g2, e, hx0, hx1, hx2, hlx1, hix1, hlx2, hix2⟩ := at_T32 HR2.out i i0 i1
    cases e
    replace hx0 := (BR.out.cell (World.block_lt_of_cell? r _ hx0)).trans hx0
    replace hx1 := (BR.out.cell (World.block_lt_of_cell? r _ hx1)).trans hx1
    replace hx2 := (BR.out.cell (World.block_lt_of_cell? r _ hx2)).trans hx2
    have hlen : p.length ≤ cp - 1 := by have := HCP.out; have := HN2.out; omega
    have hn1 : n - 1 = p.length := by have := HN2.out; omega
    rw [hn1] at hcut
    obtain ⟨P', hcut', hpt⟩ : ∃ P' : Option Addr, (∀ W : World, (Instr.slice 37 (.slice (some adp) n cp) (some (.int .i64 1)) none none).run Try.prog W = .ok (.slice P' p.length (cp - 1)) W) ∧ Kd.C (Kd.int .i64) r P' p.length p := ⟨_, hcut, HPT.out⟩
    clear hcut
    have call : ∀ W, Below w3.heap.size w3 W → Calls Try.prog 24 #[.agg #[.int .u64 (rd_T32 v.f2 i).f0, .slice F1 (rd_T32 v.f2 i).f1.length g1, .slice F2 (rd_T32 v.f2 i).f2.length g2], (.slice P' p.length (cp - 1)), .agg #[.int .u64 x.f0, .slice B1 x.f1.length d1, .slice B2 x.f2.length d2]] W (GivesR (varT x (rd_T32 v.f2 i) p) r W) :=
      fun W hW => IH.out (rd_T32 v.f2 i) (by have := szL_mem (mem_rd32 i0 i1); have := szT_f2 v; have := HSZ.out; omega) F1 g1 F2 g2 _ (cp - 1) B1 d1 B2 d2 r W (below_step BR.out hW) hix1 hlx1 hix2 hlx2 hpt hlen HS1.out HD1.out HS2.out HD2.out
    have CALL := Aside0.mk call
    have LX := Aside0.mk hlen
    clear hix1 hlx1 hix2 hlx2 hpt hn1 hlen call
    go_upto_region 6 with (fail)
    have za0 := cell_all y0
    have za1 := cell_all y1
    have za2 := cell_all y2
    have zb0 := cell_all z0
    have zb1 := cell_all z1
    have zb2 := cell_all z2
    have zc0 := cell_all hx0
    have zc1 := cell_all hx1
    have zc2 := cell_all hx2
    have zd := cell_all hcell3
    go_cut [9, 10] (fun v9 v10 wx => RCut r w3 (varT x (rd_T32 v.f2 i) p) v9 v10 wx)
    case first =>
      go_region_with (first | (go_at_call 24; refine (CALL.out _ (by repeat (first | exact Below.refl _ _ | apply below_drew1 | apply below_alloc))).mono ?_; rintro e w4 ⟨⟨G1, h1, G2, h2, y, hy, he, hyl1, hyl2, hyV⟩, hb4⟩; obtain ⟨er, her⟩ : ∃ er : Int, er = (if (varT x (rd_T32 v.f2 i) p).isSome then 0 else 3) := ⟨_, rfl⟩; rw [← her] at he; subst he; have HY := Aside0.mk hy; have HER := Aside0.mk her; have YL1 := Aside0.mk hyl1; have YL2 := Aside0.mk hyl2; have YV := Aside0.mk hyV; have HB4 := Aside0.mk hb4; obtain ⟨hc9, hf9⟩ := bcell hb4; clear hy her hyl1 hyl2 hyV hb4))
      all_goals (go_wp2_with fail; go_meet)
      all_goals first | with_reducible refine RCut.late HY HER YL1 YL2 YV HB4 ?_ | with_reducible refine RCut.early (a0 := .int .u64 0) (a1 := .slice none 0 0) (a2 := .slice none 0 0) HY HER YL1 YL2 YV HB4 ?_ ?_
      all_goals first | exact heap_alloc_new _ _ | repeat (first | with_reducible exact Below.refl _ _ | with_reducible apply below_drew1 | with_reducible apply below_alloc)
    case rest =>
      obtain ⟨g, G1, h1, G2, h2, y, rfl, hv10, hy, hg3, hgc, hbw, hl1, hl2, lo, hi, hlo, hhi, hgo, hV⟩ := hcut
      have YW := Aside0.mk (blk_below X2.out hbw)
      have ZW := Aside0.mk (blk_below X0.out hbw)
      have BC := Aside0.mk (below_step BW.out hbw)
      have hm0 := blk_lt X0.out
      have hm2 := blk_lt X2.out
      have hbs := hbw.size
      clear za0 za1 za2 zb0 zb1 zb2 zc0 zc1 zc2 zd y0 y1 y2 z0 z1 z2 hx0 hx1 hx2 hcell3 IH CALL hcut'
      have r0 : wc.cell? ⟨n2, 0, none⟩ = some (.int .u64 0) := (blk_cell YW.out 0).trans rfl
      have r1 : wc.cell? ⟨n2, 1, none⟩ = some (.slice none 0 0) := (blk_cell YW.out 1).trans rfl
      have r2 : wc.cell? ⟨n2, 2, none⟩ = some (.slice none 0 0) := (blk_cell YW.out 2).trans rfl
      have q0 := blk_frozen YW.out 0
      have q1 := blk_frozen YW.out 1
      have q2 := blk_frozen YW.out 2
      cases ho : varT x (rd_T32 v.f2 i) p with
      | none =>
        rw [ho] at hv10 hy
        replace hv10 := hv10.trans (show _ = Value.int .i64 3 from rfl)
        subst hv10
        have E := Aside0.mk (show varT x v (i :: p) = none by rw [HST.out, ho]; rfl)
        clear hy hgc hl1 hl2 hgo hV hlo hhi ho
        have LO := Aside0.mk (show w.heap.size ≤ n2 by have := NN.out; omega)
        go_wp2_with fail
        exact bodyPost_ret (results_ct (fn := Try.f24) rfl _ _ n2 32 _ (0, 0) _ rfl (blk3 YW.out (.int .u64 0) (.slice none 0 0) (.slice none 0 0)) Try.underlying32 rfl (by kernel_rfl)) rfl (GivesR.none_ E.out rfl (below3 BC.out LO.out _ _ _))
      | some y' =>
        rw [ho] at hv10 hy
        replace hv10 := hv10.trans (show _ = Value.int .i64 0 from rfl)
        replace hy : y = y' := hy
        subst hv10 hy
        have E := Aside0.mk (show varT x v (i :: p) = some (putT v i y) by rw [HST.out, ho]; rfl)
        obtain ⟨ts, hrt, hk⟩ := C_raw HR2.out
        have HRT := Aside0.mk (Kd.C_below (Kd.C_below hrt BR.out) hbw)
        have HK := Aside0.mk hk
        have hnn : v.f2.length ≤ 1000000000 := by have := szL_len v.f2; have := szT_f2 v; have := HSZ.out; omega
        have HM := Aside0.mk hnn
        have HI := Aside0.mk (show ts.length = v.f2.length from hk.1)
        have HE := Aside0.mk (R_empty raw3 32 wc wc.heap.size (Nat.le_refl _))
        have HB1 := Aside0.mk (below_alloc (Below.refl wc.heap.size wc) (.cells #[] 32))
        have z0 : wc.cell? ⟨m0, 0, none⟩ = some (.int .u64 v.f0) := (blk_cell ZW.out 0).trans rfl
        have z1 : wc.cell? ⟨m0, 1, none⟩ = some (.slice A1 v.f1.length c1) := (blk_cell ZW.out 1).trans rfl
        have z2 : wc.cell? ⟨m0, 2, none⟩ = some (.slice (some ad) v.f2.length c2) := (blk_cell ZW.out 2).trans rfl
        have GC := Aside0.mk hgc
        have L1 := Aside0.mk hl1
        have L2 := Aside0.mk hl2
        have VV := Aside0.mk hV
        have LH := Aside0.mk (show w3.heap.size ≤ lo ∧ hi ≤ wc.heap.size ∧ (g < lo ∨ hi ≤ g) ∧ w3.heap.size ≤ g ∧ m0 < w3.heap.size ∧ n2 < w3.heap.size ∧ w3.heap.size ≤ wc.heap.size from ⟨hlo, hhi, hgo, hg3, hm0, hm2, hbs⟩)
        clear hgc hl1 hl2 hgo hV hlo hhi ho hrt hk hnn hg3 hm0 hm2 hbs hbw
        have zz2 := cell_all z2
        go_upto_region 10 with (at_builtin; refine Kd.R_append_rows raw3 (w0 := wc) wc.heap.size rfl _ _ 24 32 _ 56 rfl Try.underlying24 info32' rfl (by decide) (by decide) _ [] ts (some ad) v.f2.length c2 (fun k => wc.heap.size ≤ k) (fun k => False) rfl rfl HE.out (Kd.C_alloc HRT.out _) (fun _ _ h => h) (fun k hk => hk.elim) (fun k hk => by simp at hk; omega) HB1.out (by simp) (by have := HM.out; have := HI.out; simp; omega) ?_; intro v1 w1 h1 h2 h3 h4; have H1 := Aside0.mk h1; have H2 := Aside0.mk h2; clear h1 h2 h3 h4)
        have hR := H1.out
        have hb := H2.out
        clear zz2 r0 r1 r2 q0 q1 q2 z0 z1 z2 HE HB1 H1 H2
        obtain ⟨adn, capn, rfl⟩ := Kd.R_slice1 hR (by have := HI.out; simp; omega)
        obtain ⟨gn, rfl⟩ := Kd.R_head hR
        obtain ⟨hnl, hncap, _⟩ := Kd.R_reads' hR
        obtain ⟨curN, hcN, hcellsN⟩ := raw_cells hR
        obtain ⟨nn, hn⟩ : ∃ n, n = v.f2.length := ⟨_, rfl⟩
        have hgn : wc.heap.size ≤ gn := hR.1 gn rfl
        have htn : ([] ++ ts).length = nn := HI.out.trans hn.symm
        rw [htn] at hR hncap ⊢
        have hitn : i.toNat < ts.length := by have := HI.out; omega
        obtain ⟨t0, ht0⟩ : ∃ t0, ([] ++ ts)[i.toNat]? = some t0 := ⟨_, List.getElem?_eq_getElem hitn⟩
        obtain ⟨hq0, hq1, hq2⟩ := hcellsN i.toNat t0 ht0
        have CUR1 := blk_below GC.out hb
        have zw0 : w1.cell? ⟨g, 0, none⟩ = some (.int .u64 y.f0) := (blk_cell CUR1 0).trans rfl
        have zw1 : w1.cell? ⟨g, 1, none⟩ = some (.slice G1 y.f1.length h1) := (blk_cell CUR1 1).trans rfl
        have zw2 : w1.cell? ⟨g, 2, none⟩ = some (.slice G2 y.f2.length h2) := (blk_cell CUR1 2).trans rfl
        have cq0 := (blk_cell hcN (i.toNat * 3)).trans hq0
        have cq1 := (blk_cell hcN (i.toNat * 3 + 1)).trans hq1
        have cq2 := (blk_cell hcN (i.toNat * 3 + 2)).trans hq2
        have fq0 := blk_frozen hcN (i.toNat * 3)
        have fq1 := blk_frozen hcN (i.toNat * 3 + 1)
        have fq2 := blk_frozen hcN (i.toNat * 3 + 2)
        have i1n : i < (nn : Int) := by omega
        have NX := Aside0.mk (show nn ≤ 1000000000 by have := HM.out; omega)
        have HNN := Aside0.mk hn
        have HNC := Aside0.mk hncap
        have HGN := Aside0.mk hgn
        have HCN := Aside0.mk hcN
        have HCE := Aside0.mk hcellsN
        have HB2 := Aside0.mk hb
        have hnm : nn ≤ 9223372036854775807 := by have := NX.out; omega
        clear hR hb hnl hncap hcN hcellsN htn hitn ht0 hq0 hq1 hq2 CUR1 hgn hn
        go_upto_region 11 with fail
        change Code.wp _ _ _ _ (w3o w1 gn (i.toNat * 3) (.int .u64 y.f0) (.slice G1 y.f1.length h1) (.slice G2 y.f2.length h2))
        obtain ⟨W, hW⟩ : ∃ W, W = w3o w1 gn (i.toNat * 3) (.int .u64 y.f0) (.slice G1 y.f1.length h1) (.slice G2 y.f2.length h2) := ⟨_, rfl⟩
        have hfar : ∀ k, k ≠ gn → W.heap[k]? = w1.heap[k]? := fun k hk => by rw [hW]; exact (Below.heap_setCell _ ⟨gn, i.toNat * 3 + 2, none⟩ _ k hk).trans ((Below.heap_setCell _ ⟨gn, i.toNat * 3 + 1, none⟩ _ k hk).trans (Below.heap_setCell _ ⟨gn, i.toNat * 3, none⟩ _ k hk))
        have hGW : W.heap[gn]? = some (.cells (set3 curN (i.toNat * 3) (.int .u64 y.f0) (.slice G1 y.f1.length h1) (.slice G2 y.f2.length h2)) 32 (0, 0)) := by rw [hW]; exact blk_set (blk_set (blk_set HCN.out _ _) _ _) _ _
        have hSW : W.heap.size = w1.heap.size := by rw [hW]; simp [w3o, World.setCell]
        have hge : w.heap.size ≤ gn := by have := HGN.out; have := BC.out.size; omega
        have hBW : Below w.heap.size w W := by rw [hW]; exact below_set (below_set (below_set (below_step BC.out HB2.out) hge) hge) hge
        have hne0 : m0 ≠ gn := by have := HGN.out; have := LH.out; omega
        have hne2 : n2 ≠ gn := by have := HGN.out; have := LH.out; omega
        have hX0 := (hfar m0 hne0).trans (blk_below ZW.out HB2.out)
        have hX2 := (hfar n2 hne2).trans (blk_below YW.out HB2.out)
        rw [← hW]
        clear hW cq0 cq1 cq2 fq0 fq1 fq2 zw0 zw1 zw2
        have z0 : W.cell? ⟨m0, 0, none⟩ = some (.int .u64 v.f0) := (blk_cell hX0 0).trans rfl
        have z1 : W.cell? ⟨m0, 1, none⟩ = some (.slice A1 v.f1.length c1) := (blk_cell hX0 1).trans rfl
        have z2 : W.cell? ⟨m0, 2, none⟩ = some (.slice (some ad) v.f2.length c2) := (blk_cell hX0 2).trans rfl
        have q2 := blk_frozen hX0 2
        have FAR := Aside0.mk hfar
        have GW := Aside0.mk hGW
        have SW := Aside0.mk hSW
        have BWW := Aside0.mk hBW
        have X0W := Aside0.mk hX0
        have X2W := Aside0.mk hX2
        have GE := Aside0.mk (show w.heap.size ≤ gn ∧ m0 ≠ gn ∧ n2 ≠ gn from ⟨hge, hne0, hne2⟩)
        clear hfar hGW hSW hBW hX0 hX2 hge hne0 hne2
        go_upto_region 12 with fail
        obtain ⟨W2, hW2⟩ : ∃ W2, W2 = W.setCell ⟨m0, 2, none⟩ (.slice (some ⟨gn, 0, none⟩) nn capn) := ⟨_, rfl⟩
        have hfar2 : ∀ k, k ≠ m0 → W2.heap[k]? = W.heap[k]? := fun k hk => by rw [hW2]; exact Below.heap_setCell _ ⟨m0, 2, none⟩ _ k hk
        have hX0 : W2.heap[m0]? = some (.cells #[.int .u64 v.f0, .slice A1 v.f1.length c1, .slice (some ⟨gn, 0, none⟩) nn capn] 32 (0, 0)) := by rw [hW2]; exact blk_put X0W.out 2 _ rfl
        have hX2 := (hfar2 n2 (by have := NN.out; omega)).trans X2W.out
        have hGW2 := (hfar2 gn (fun e => GE.out.2.1 e.symm)).trans GW.out
        have hSW : W2.heap.size = W.heap.size := by rw [hW2]; simp [World.setCell]
        have hBW : Below w.heap.size w W2 := by rw [hW2]; exact below_set BWW.out (by have := NN.out; omega)
        rw [← hW2]
        clear hW2 z0 z1 z2 q2
        have z0 : W2.cell? ⟨m0, 0, none⟩ = some (.int .u64 v.f0) := (blk_cell hX0 0).trans rfl
        have z1 : W2.cell? ⟨m0, 1, none⟩ = some (.slice A1 v.f1.length c1) := (blk_cell hX0 1).trans rfl
        have z2 : W2.cell? ⟨m0, 2, none⟩ = some (.slice (some ⟨gn, 0, none⟩) nn capn) := (blk_cell hX0 2).trans rfl
        have r0 : W2.cell? ⟨n2, 0, none⟩ = some (.int .u64 0) := (blk_cell hX2 0).trans rfl
        have r1 : W2.cell? ⟨n2, 1, none⟩ = some (.slice none 0 0) := (blk_cell hX2 1).trans rfl
        have r2 : W2.cell? ⟨n2, 2, none⟩ = some (.slice none 0 0) := (blk_cell hX2 2).trans rfl
        have q0 := blk_frozen hX2 0
        have q1 := blk_frozen hX2 1
        have q2 := blk_frozen hX2 2
        have FAR2 := Aside0.mk hfar2
        have GW2 := Aside0.mk hGW2
        have SW2 := Aside0.mk hSW
        have BW2 := Aside0.mk hBW
        have XX2 := Aside0.mk hX2
        have LY := Aside0.mk (show (putT v i y).f2.length = nn by rw [HNN.out]; simp [putT])
        have BF := Aside0.mk (below3 BW2.out (show w.heap.size ≤ n2 by have := NN.out; omega) (.int .u64 v.f0) (.slice A1 v.f1.length c1) (.slice (some ⟨gn, 0, none⟩) nn capn))
        clear hfar2 hGW2 hSW hBW hX0 hX2
        go_wp2_with fail
        refine bodyPost_ret (results_ct (fn := Try.f24) rfl _ _ n2 32 _ (0, 0) _ rfl (blk3 XX2.out (.int .u64 v.f0) (.slice A1 v.f1.length c1) (.slice (some ⟨gn, 0, none⟩) nn capn)) Try.underlying32 rfl (by kernel_rfl)) rfl (GivesR.some_ (y := putT v i y) (C1 := A1) (f1 := c1) (C2 := some ⟨gn, 0, none⟩) (f2 := capn) E.out (by rw [LY.out]; rfl) HC1.out (by rw [LY.out]; exact HNC.out) ?_ BF.out)
        intro V hV hk
        refine ⟨Kd.C_below HR1.out hV, ?_⟩
        have hsz : (Go.Proofs.Ythmcbcofipehhaa.B.w3 W2 n2 (.int .u64 v.f0) (.slice A1 v.f1.length c1) (.slice (some ⟨gn, 0, none⟩) nn capn)).heap.size = w1.heap.size := by simp only [Go.Proofs.Ythmcbcofipehhaa.B.w3, World.setCell, Array.size_setIfInBounds, Array.size_modify]; exact SW2.out.trans SW.out
        have hgl := blk_lt HCN.out
        have hws := HB2.out.size
        have hlh := LH.out
        have hnn := NN.out
        have hbc := BW.out.size
        have hge := GE.out
        have hgg := HGN.out
        have hVk : ∀ k, w.heap.size ≤ k → k < w1.heap.size → k ≠ n2 → k ≠ m0 → V.heap[k]? = W.heap[k]? := fun k k0 k1 k2 k3 => ((hk k k0 (Nat.lt_of_lt_of_eq k1 hsz.symm)).trans (w3_far _ _ _ _ _ k k2)).trans (FAR2.out k k3)
        have hVg := (hVk gn hge.1 hgl (fun e => hge.2.2 e.symm) (fun e => hge.2.1 e.symm)).trans GW.out
        have hYY := VV.out V hV (fun k k0 k1 => ((hVk k (by omega) (by omega) (by omega) (by omega)).trans (FAR.out k (by omega))).trans (HB2.out.block k (by omega)))
        rw [LY.out]
        exact row_turned HNN.out (by have := NX.out; omega) hV HK.out HCE.out (by omega) hVg (k32_mk V y L1.out hYY.1 L2.out hYY.2)
end Go.Proofs.Ythmcbcofipehhaa.B
