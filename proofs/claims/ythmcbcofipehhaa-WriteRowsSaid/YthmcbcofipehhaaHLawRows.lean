import Derived.Test.YthmcbcofipehhaaHWPure
import Derived.Test.YthmcbcofipehhaaHAlive7
namespace Go.Proofs.Ythmcbcofipehhaa.B
open Go.RowKit Go.Proofs.YthmcbcofipehhaaW.PrintWords Go.Proofs.YthmcbcofipehhaaW.PrintLast Go.Proofs.YthmcbcofipehhaaW.PrintMore
set_option linter.unusedVariables false
set_option linter.unusedSimpArgs false
/-- Two values in a block of whatever type, read as a row. -/
theorem twoT {w : World} {g : Nat} {t : TypeId} {x y : S32} {A1 A2 B1 B2 : Option Addr} {c1 c2 d1 d2 : Nat} (h : w.heap[g]? = some (.cells #[.int .u64 x.f0, .slice A1 x.f1.length c1, .slice A2 x.f2.length c2, .int .u64 y.f0, .slice B1 y.f1.length d1, .slice B2 y.f2.length d2] t (0, 0)))
    (hr1 : Kd.C (Kd.int .u8) w A1 x.f1.length x.f1) (hc1 : x.f1.length ≤ c1) (hr2 : Kd.C k32 w A2 x.f2.length x.f2) (hc2 : x.f2.length ≤ c2) (hs1 : Kd.C (Kd.int .u8) w B1 y.f1.length y.f1) (hd1 : y.f1.length ≤ d1) (hs2 : Kd.C k32 w B2 y.f2.length y.f2) (hd2 : y.f2.length ≤ d2) :
    Kd.C k32 w (some ⟨g, 0, none⟩) 2 [x, y] := by
  refine ⟨rfl, by decide, fun _ => ⟨_, rfl, fun j p hj => ?_⟩⟩
  rcases j with _ | _ | j
  · have : p = x := by simpa using hj.symm
    subst this
    refine ⟨_, rfl, k32_mk w p hc1 hr1 hc2 hr2, fun i u hi => ?_⟩
    have hi3 : i < 3 := by have := (List.getElem?_eq_some_iff.1 hi).1; simpa using this
    rw [add_plain]
    show w.cell? ⟨g, 0 * 3 + i, none⟩ = some u
    rw [blk_cell h, ← hi]
    rcases i with _ | _ | _ | i
    · rfl
    · rfl
    · rfl
    · omega
  · have : p = y := by simpa using hj.symm
    subst this
    refine ⟨_, rfl, k32_mk w p hd1 hs1 hd2 hs2, fun i u hi => ?_⟩
    have hi3 : i < 3 := by have := (List.getElem?_eq_some_iff.1 hi).1; simpa using this
    rw [add_plain]
    show w.cell? ⟨g, 1 * 3 + i, none⟩ = some u
    rw [blk_cell h, ← hi]
    rcases i with _ | _ | _ | i
    · rfl
    · rfl
    · rfl
    · omega
  · simp at hj
theorem five (w : World) (o0 o1 o2 o3 o4 : Obj) : ∃ W, W = ((((w.alloc o0).alloc o1).alloc o2).alloc o3).alloc o4 ∧ W.heap[w.heap.size]? = some o0 ∧ W.heap[w.heap.size + 1]? = some o1 ∧ W.heap[w.heap.size + 1 + 1]? = some o2 ∧ W.heap[w.heap.size + 1 + 1 + 1]? = some o3 ∧ W.heap[w.heap.size + 1 + 1 + 1 + 1]? = some o4 ∧ Below w.heap.size w W := by
  have s1 : (w.alloc o0).heap.size = w.heap.size + 1 := World.size_alloc _ _
  have s2 : ((w.alloc o0).alloc o1).heap.size = w.heap.size + 1 + 1 := by rw [World.size_alloc, s1]
  have s3 : (((w.alloc o0).alloc o1).alloc o2).heap.size = w.heap.size + 1 + 1 + 1 := by rw [World.size_alloc, s2]
  have s4 : ((((w.alloc o0).alloc o1).alloc o2).alloc o3).heap.size = w.heap.size + 1 + 1 + 1 + 1 := by rw [World.size_alloc, s3]
  exact ⟨_, rfl, blk_alloc (blk_alloc (blk_alloc (blk_alloc (heap_alloc_new w o0) _) _) _) _, blk_alloc (blk_alloc (blk_alloc (s1 ▸ heap_alloc_new (w.alloc o0) o1) _) _) _, blk_alloc (blk_alloc (s2 ▸ heap_alloc_new ((w.alloc o0).alloc o1) o2) _) _, blk_alloc (s3 ▸ heap_alloc_new (((w.alloc o0).alloc o1).alloc o2) o3) _, s4 ▸ heap_alloc_new ((((w.alloc o0).alloc o1).alloc o2).alloc o3) o4,
    below_alloc (below_alloc (below_alloc (below_alloc (below_alloc (Below.refl _ _) _) _) _) _) _⟩
theorem str_size (a : List Int) : (strOfNums a).size = a.length := by simp [strOfNums, ByteArray.size]
theorem str_append (a b : List Int) : strOfNums (a ++ b) = strOfNums a ++ strOfNums b := by
  apply ByteArray.ext
  simp [strOfNums]
set_option maxHeartbeats 4000000 in
set_option maxRecDepth 100000 in
theorem WriteRows_any (f g : S29) (x y : S32) (okx : OkV x) (oky : OkV y) (A : Option Addr) (c : Nat) (B : Option Addr) (d : Nat) (A1 : Option Addr) (c1 : Nat) (A2 : Option Addr) (c2 : Nat) (B1 : Option Addr) (d1 : Nat) (B2 : Option Addr) (d2 : Nat) (w : World)
  (hr : Kd.C k29 w A f.f5.length f.f5) (hc : f.f5.length ≤ c) (hs : Kd.C k29 w B g.f5.length g.f5) (hd : g.f5.length ≤ d)
  (hr1 : Kd.C (Kd.int .u8) w A1 x.f1.length x.f1) (hc1 : x.f1.length ≤ c1) (hr2 : Kd.C k32 w A2 x.f2.length x.f2) (hc2 : x.f2.length ≤ c2) (hs1 : Kd.C (Kd.int .u8) w B1 y.f1.length y.f1) (hd1 : y.f1.length ≤ d1) (hs2 : Kd.C k32 w B2 y.f2.length y.f2) (hd2 : y.f2.length ≤ d2) :
    Calls Try.prog 6 #[.agg #[.int .i64 f.f0, .int .i64 f.f1, .int .i64 f.f2, .int .i64 f.f3, .int .i64 f.f4, .slice A f.f5.length c], .agg #[.int .i64 g.f0, .int .i64 g.f1, .int .i64 g.f2, .int .i64 g.f3, .int .i64 g.f4, .slice B g.f5.length d],
      .agg #[.int .u64 x.f0, .slice A1 x.f1.length c1, .slice A2 x.f2.length c2, .int .u64 y.f0, .slice B1 y.f1.length d1, .slice B2 y.f2.length d2]] w fun e w' => e = .returned (.bool true) ∧ Below w.heap.size w w' := by
  have hu29 := Try.underlying29
  have hu32 := Try.underlying32
  have hu44 := Try.underlying44
  have HR := Aside0.mk hr
  have HC := Aside0.mk hc
  have HS := Aside0.mk hs
  have HD := Aside0.mk hd
  have HR1 := Aside0.mk hr1
  have HC1 := Aside0.mk hc1
  have HR2 := Aside0.mk hr2
  have HC2 := Aside0.mk hc2
  have HS1 := Aside0.mk hs1
  have HD1 := Aside0.mk hd1
  have HS2 := Aside0.mk hs2
  have HD2 := Aside0.mk hd2
  have OKX := Aside0.mk okx
  have OKY := Aside0.mk oky
  clear hr hc hs hd hr1 hc1 hr2 hc2 hs1 hd1 hs2 hd2 okx oky
  go_enter Try.func6, Try.ntmps6
  go_wp2
  obtain ⟨w5, hw5, b0, b1, b2, b3, b4, b5⟩ := five w (.cells #[.int .i64 f.f0, .int .i64 f.f1, .int .i64 f.f2, .int .i64 f.f3, .int .i64 f.f4, .slice A f.f5.length c] 29) (.cells #[.int .i64 g.f0, .int .i64 g.f1, .int .i64 g.f2, .int .i64 g.f3, .int .i64 g.f4, .slice B g.f5.length d] 29)
    (.cells #[.int .u64 x.f0, .slice A1 x.f1.length c1, .slice A2 x.f2.length c2, .int .u64 y.f0, .slice B1 y.f1.length d1, .slice B2 y.f2.length d2] 44) (.cells #[.int .i64 f.f0, .int .i64 f.f1, .int .i64 f.f2, .int .i64 f.f3, .int .i64 f.f4, .slice A f.f5.length c, .int .i64 g.f0, .int .i64 g.f1, .int .i64 g.f2, .int .i64 g.f3, .int .i64 g.f4, .slice B g.f5.length d] 29)
    (.cells #[.int .i64 3, .int .i64 0, .int .i64 0, .int .i64 0, .int .i64 0, .slice (some ⟨w.heap.size + 1 + 1 + 1, 0, none⟩) 2 2] 29)
  rw [← hw5]
  clear hw5
  obtain ⟨n0, hn0⟩ : ∃ n0, n0 = w.heap.size := ⟨_, rfl⟩
  obtain ⟨n1, hn1⟩ : ∃ n1, n1 = w.heap.size + 1 := ⟨_, rfl⟩
  obtain ⟨n2, hn2⟩ : ∃ n2, n2 = w.heap.size + 1 + 1 := ⟨_, rfl⟩
  obtain ⟨n3, hn3⟩ : ∃ n3, n3 = w.heap.size + 1 + 1 + 1 := ⟨_, rfl⟩
  obtain ⟨n4, hn4⟩ : ∃ n4, n4 = w.heap.size + 1 + 1 + 1 + 1 := ⟨_, rfl⟩
  have B0 := Aside0.mk b0
  have B1' := Aside0.mk b1
  have B2' := Aside0.mk b2
  have B3 := Aside0.mk b3
  have B4 := Aside0.mk b4
  have BB := Aside0.mk b5
  have FR := Aside0.mk (twoF (x := f) (y := g) B3.out (Kd.C_below HR.out b5) HC.out (Kd.C_below HS.out b5) HD.out)
  have VR := Aside0.mk (twoT (x := x) (y := y) B2'.out (Kd.C_below HR1.out b5) HC1.out (Kd.C_below HR2.out b5) HC2.out (Kd.C_below HS1.out b5) HD1.out (Kd.C_below HS2.out b5) HD2.out)
  rw [← hn4, ← hn3] at B4
  rw [← hn3] at FR
  rw [← hn2] at VR B2'
  rw [← hn1] at B1'
  rw [← hn0] at B0
  rw [← hn4, ← hn2, ← hn1, ← hn0]
  clear hn0 hn1 hn2 hn3 hn4
  clear b0 b1 b2 b3 b4 b5
  have z0 : w5.cell? ⟨n4, 0, none⟩ = some (.int .i64 3) := (blk_cell B4.out 0).trans rfl
  have z1 : w5.cell? ⟨n4, 1, none⟩ = some (.int .i64 0) := (blk_cell B4.out 1).trans rfl
  have z2 : w5.cell? ⟨n4, 2, none⟩ = some (.int .i64 0) := (blk_cell B4.out 2).trans rfl
  have z3 : w5.cell? ⟨n4, 3, none⟩ = some (.int .i64 0) := (blk_cell B4.out 3).trans rfl
  have z4 : w5.cell? ⟨n4, 4, none⟩ = some (.int .i64 0) := (blk_cell B4.out 4).trans rfl
  have z5 : w5.cell? ⟨n4, 5, none⟩ = some (.slice (some ⟨n3, 0, none⟩) 2 2) := (blk_cell B4.out 5).trans rfl
  have hs44 : ∀ W : World, (Instr.sliceAt 44 (.pointer (some ⟨n2, 0, none⟩)) none none none).run Try.prog W = .ok (.slice (some ⟨n2, 0, none⟩) 2 2) W := fun W => by go_simp
  by_cases hg : 0 < greatT (row2 f g) [x, y]
  case pos =>
    have gb : decide (0 < greatT (row2 f g) [x, y]) = true := decide_eq_true hg
    clear hg
    have y0 := up_cell z0
    have y1 := up_cell z1
    have y2 := up_cell z2
    have y3 := up_cell z3
    have y4 := up_cell z4
    have y5 := up_cell z5
    refine wp_region_up (by kernel_rfl) (by kernel_rfl) ?_
    repeat (go_big_quiet_step ((first | (go_at_call 20; exact up_of (alive7_any _)) | (go_at_call 10; exact up_of (Great_any (row2 f g) [x, y] _ _ _ _ _ (Kd.C_below FR.out (Up.below _)) (Nat.le_refl _) (Kd.C_below VR.out (Up.below _)) (Nat.le_refl _))) | (go_at_call 21; exact up_of (Check4_any (row2 f g) _ _ _ (Kd.C_below FR.out (Up.below _)) (Nat.le_refl _))))))
    refine wpQuiet_nil ?_
    rintro _ ⟨s, rfl⟩
    have hb6 := s.below
    obtain ⟨w6, hw6⟩ : ∃ w6, w6 = s.val := ⟨_, rfl⟩
    rw [← hw6] at hb6 ⊢
    have BB6 := Aside0.mk (below_step BB.out hb6)
    have HB6 := Aside0.mk hb6
    clear hw6 s y0 y1 y2 y3 y4 y5 hb6 z0 z1 z2 z3 z4 z5 hs44
    go_wp2_with fail
    refine (alive7_any _).mono ?_
    rintro e w7 ⟨rfl, hb⟩
    have BB7 := Aside0.mk (below_step BB6.out hb)
    clear hb
    go_wp2
    go_ret
    exact ⟨rfl, BB7.out⟩
  case neg =>
  have gb : decide (0 < greatT (row2 f g) [x, y]) = false := decide_eq_false hg
  by_cases hk : CheckT (row2 f g) = 0
  case neg =>
    have kb : (CheckT (row2 f g) == 0) = false := by simpa using hk
    have kc : (CheckT (row2 f g) != 0) = true := by simpa using hk
    clear hg hk
    have y0 := up_cell z0
    have y1 := up_cell z1
    have y2 := up_cell z2
    have y3 := up_cell z3
    have y4 := up_cell z4
    have y5 := up_cell z5
    refine wp_region_up (by kernel_rfl) (by kernel_rfl) ?_
    repeat (go_big_quiet_step ((first | (go_at_call 20; exact up_of (alive7_any _)) | (go_at_call 10; exact up_of (Great_any (row2 f g) [x, y] _ _ _ _ _ (Kd.C_below FR.out (Up.below _)) (Nat.le_refl _) (Kd.C_below VR.out (Up.below _)) (Nat.le_refl _))) | (go_at_call 21; exact up_of (Check4_any (row2 f g) _ _ _ (Kd.C_below FR.out (Up.below _)) (Nat.le_refl _))))))
    refine wpQuiet_nil ?_
    rintro _ ⟨s, rfl⟩
    have hb6 := s.below
    obtain ⟨w6, hw6⟩ : ∃ w6, w6 = s.val := ⟨_, rfl⟩
    rw [← hw6] at hb6 ⊢
    have BB6 := Aside0.mk (below_step BB.out hb6)
    have HB6 := Aside0.mk hb6
    clear hw6 s y0 y1 y2 y3 y4 y5 hb6 z0 z1 z2 z3 z4 z5 hs44
    go_wp2_with fail
    refine (alive7_any _).mono ?_
    rintro e w7 ⟨rfl, hb⟩
    have BB7 := Aside0.mk (below_step BB6.out hb)
    clear hb
    go_wp2
    go_ret
    exact ⟨rfl, BB7.out⟩
  case pos =>
    have kb : (CheckT (row2 f g) == 0) = true := by simpa using hk
    have kc : (CheckT (row2 f g) != 0) = false := by simpa using hk
    have GC := Aside0.mk (great_count hg)
    have SA := Aside0.mk (str_append (wrT f x) (wrT g y))
    have LAW := Aside0.mk (rows_law (x := x) (y := y) hk)
    clear hg hk
    have y0 := up_cell z0
    have y1 := up_cell z1
    have y2 := up_cell z2
    have y3 := up_cell z3
    have y4 := up_cell z4
    have y5 := up_cell z5
    refine wp_region_up (by kernel_rfl) (by kernel_rfl) ?_
    repeat (go_big_quiet_step ((first | (go_at_call 20; exact up_of (alive7_any _)) | (go_at_call 10; exact up_of (Great_any (row2 f g) [x, y] _ _ _ _ _ (Kd.C_below FR.out (Up.below _)) (Nat.le_refl _) (Kd.C_below VR.out (Up.below _)) (Nat.le_refl _))) | (go_at_call 21; exact up_of (Check4_any (row2 f g) _ _ _ (Kd.C_below FR.out (Up.below _)) (Nat.le_refl _))))))
    refine wpQuiet_nil ?_
    rintro _ ⟨s, rfl⟩
    have hb6 := s.below
    obtain ⟨w6, hw6⟩ : ∃ w6, w6 = s.val := ⟨_, rfl⟩
    rw [← hw6] at hb6 ⊢
    have BB6 := Aside0.mk (below_step BB.out hb6)
    have HB6 := Aside0.mk hb6
    clear hw6 s y0 y1 y2 y3 y4 y5 hb6 z0 z1 z2 z3 z4 z5 hs44
    have F0 := Aside0.mk (blk_below B0.out HB6.out)
    have F1 := Aside0.mk (blk_below B1'.out HB6.out)
    have F2 := Aside0.mk (blk_below B2'.out HB6.out)
    have F4 := Aside0.mk (blk_below B4.out HB6.out)
    have a0 : w6.cell? ⟨n0, 0, none⟩ = some (.int .i64 f.f0) := (blk_cell F0.out 0).trans rfl
    have a1 : w6.cell? ⟨n0, 1, none⟩ = some (.int .i64 f.f1) := (blk_cell F0.out 1).trans rfl
    have a2 : w6.cell? ⟨n0, 2, none⟩ = some (.int .i64 f.f2) := (blk_cell F0.out 2).trans rfl
    have a3 : w6.cell? ⟨n0, 3, none⟩ = some (.int .i64 f.f3) := (blk_cell F0.out 3).trans rfl
    have a4 : w6.cell? ⟨n0, 4, none⟩ = some (.int .i64 f.f4) := (blk_cell F0.out 4).trans rfl
    have a5 : w6.cell? ⟨n0, 5, none⟩ = some (.slice A f.f5.length c) := (blk_cell F0.out 5).trans rfl
    have e0 : w6.cell? ⟨n2, 0, none⟩ = some (.int .u64 x.f0) := (blk_cell F2.out 0).trans rfl
    have e1 : w6.cell? ⟨n2, 1, none⟩ = some (.slice A1 x.f1.length c1) := (blk_cell F2.out 1).trans rfl
    have e2 : w6.cell? ⟨n2, 2, none⟩ = some (.slice A2 x.f2.length c2) := (blk_cell F2.out 2).trans rfl
    go_wp2_with fail
    refine (Write_any f x OKX.out (by have := wr_few (GC.out x (by simp)) (f := f); omega) A c A1 c1 A2 c2 _ (Kd.C_below HR.out BB6.out) HC.out (Kd.C_below HR1.out BB6.out) HC1.out (Kd.C_below HR2.out BB6.out) HC2.out).mono ?_
    rintro e w7 ⟨⟨va, rfl, hRa⟩, hb⟩
    have BB7 := Aside0.mk (below_step BB6.out hb)
    have HB78 := Aside0.mk hb
    have F1 := Aside0.mk (blk_below F1.out hb)
    have F2 := Aside0.mk (blk_below F2.out hb)
    have F4 := Aside0.mk (blk_below F4.out hb)
    obtain ⟨Aa, ca, rfl, hla, hCa⟩ := Kd.R_reads hRa
    have CA := Aside0.mk hCa
    clear hb a0 a1 a2 a3 a4 a5 e0 e1 e2 hRa hla hCa
    have a0 : w7.cell? ⟨n1, 0, none⟩ = some (.int .i64 g.f0) := (blk_cell F1.out 0).trans rfl
    have a1 : w7.cell? ⟨n1, 1, none⟩ = some (.int .i64 g.f1) := (blk_cell F1.out 1).trans rfl
    have a2 : w7.cell? ⟨n1, 2, none⟩ = some (.int .i64 g.f2) := (blk_cell F1.out 2).trans rfl
    have a3 : w7.cell? ⟨n1, 3, none⟩ = some (.int .i64 g.f3) := (blk_cell F1.out 3).trans rfl
    have a4 : w7.cell? ⟨n1, 4, none⟩ = some (.int .i64 g.f4) := (blk_cell F1.out 4).trans rfl
    have a5 : w7.cell? ⟨n1, 5, none⟩ = some (.slice B g.f5.length d) := (blk_cell F1.out 5).trans rfl
    have e0 : w7.cell? ⟨n2, 3, none⟩ = some (.int .u64 y.f0) := (blk_cell F2.out 3).trans rfl
    have e1 : w7.cell? ⟨n2, 4, none⟩ = some (.slice B1 y.f1.length d1) := (blk_cell F2.out 4).trans rfl
    have e2 : w7.cell? ⟨n2, 5, none⟩ = some (.slice B2 y.f2.length d2) := (blk_cell F2.out 5).trans rfl
    go_wp2_with fail
    refine (Write_any g y OKY.out (by have := wr_few (GC.out y (by simp)) (f := g); omega) B d B1 d1 B2 d2 _ (Kd.C_below HS.out BB7.out) HD.out (Kd.C_below HS1.out BB7.out) HD1.out (Kd.C_below HS2.out BB7.out) HD2.out).mono ?_
    rintro e w8 ⟨⟨vb, rfl, hRb⟩, hb⟩
    have BB8 := Aside0.mk (below_step BB7.out hb)
    have HB89 := Aside0.mk hb
    have F2 := Aside0.mk (blk_below F2.out hb)
    have F4 := Aside0.mk (blk_below F4.out hb)
    have CA := Aside0.mk (Kd.C_below CA.out hb)
    obtain ⟨Ab, cb, rfl, hlb, hCb⟩ := Kd.R_reads hRb
    have CB := Aside0.mk hCb
    clear hb a0 a1 a2 a3 a4 a5 e0 e1 e2 hRb hlb hCb
    have a0 : w8.cell? ⟨n4, 0, none⟩ = some (.int .i64 3) := (blk_cell F4.out 0).trans rfl
    have a1 : w8.cell? ⟨n4, 1, none⟩ = some (.int .i64 0) := (blk_cell F4.out 1).trans rfl
    have a2 : w8.cell? ⟨n4, 2, none⟩ = some (.int .i64 0) := (blk_cell F4.out 2).trans rfl
    have a3 : w8.cell? ⟨n4, 3, none⟩ = some (.int .i64 0) := (blk_cell F4.out 3).trans rfl
    have a4 : w8.cell? ⟨n4, 4, none⟩ = some (.int .i64 0) := (blk_cell F4.out 4).trans rfl
    have a5 : w8.cell? ⟨n4, 5, none⟩ = some (.slice (some ⟨n3, 0, none⟩) 2 2) := (blk_cell F4.out 5).trans rfl
    have hs44 : ∀ W : World, (Instr.sliceAt 44 (.pointer (some ⟨n2, 0, none⟩)) none none none).run Try.prog W = .ok (.slice (some ⟨n2, 0, none⟩) 2 2) W := fun W => by go_simp
    have LEN := Aside0.mk (show (wrT (row2 f g) (val2 x y)).length ≤ 1073741824 by
      have h1 := wr_few (GC.out x (by simp)) (f := f)
      have h2 := wr_few (GC.out y (by simp)) (f := g)
      by_cases h : (sizeT f x).2 = 0 ∧ (sizeT g y).2 = 0
      · rw [(LAW.out.1 h).2, List.length_append]; omega
      · rw [(LAW.out.2 h).2]; simp)
    have OKV := Aside0.mk (show OkV (val2 x y) from OkV.mk (by decide) (by simp) (by intro z hz; simp at hz; rcases hz with rfl | rfl; exact OKX.out; exact OKY.out))
    have ROW := Aside0.mk (Write_any (row2 f g) (val2 x y) OKV.out LEN.out (some ⟨n3, 0, none⟩) 2 none 0 (some ⟨n2, 0, none⟩) 2 w8.drew (Kd.C_drew (Kd.C_below (Kd.C_below FR.out HB6.out) (below_step (HB78.out) HB89.out))) (Nat.le_refl _) (Kd.C_nil _ _) (Nat.le_refl _) (Kd.C_drew (Kd.C_below (Kd.C_below VR.out HB6.out) (below_step (HB78.out) HB89.out))) (Nat.le_refl _))
    go_wp2_with fail
    go_region_with (first | (go_at_call 22; refine ROW.out.mono ?_; rintro e w9 ⟨⟨vc, rfl, hRc⟩, hb⟩; obtain ⟨Ac, cc, rfl, hlc, hCc⟩ := Kd.R_reads hRc; have BB9 := Aside0.mk (below_step BB8.out (below_then (below_drew1 (Below.refl _ _)) (Nat.le_refl _) hb)); have CA := Aside0.mk (Kd.C_below (Kd.C_drew CA.out) hb); have CB := Aside0.mk (Kd.C_below (Kd.C_drew CB.out) hb); have CC := Aside0.mk hCc; clear hb hRc hlc hCc))
    have hca := Kd.C_string (P := Try.prog) (A := Aa) (c := ca) Try.underlying23 Try.underlying5 Try.underlying9 CA.out
    have hcb := Kd.C_string (P := Try.prog) (A := Ab) (c := cb) Try.underlying23 Try.underlying5 Try.underlying9 CB.out
    have hcc := Kd.C_string (P := Try.prog) (A := Ac) (c := cc) Try.underlying23 Try.underlying5 Try.underlying9 CC.out
    clear a0 a1 a2 a3 a4 a5 hs44 ROW
    by_cases h : (sizeT f x).2 = 0 ∧ (sizeT g y).2 = 0
    case pos =>
      obtain ⟨h1, h2⟩ := h
      obtain ⟨L1, L2⟩ := LAW.out.1 ⟨h1, h2⟩
      have hsz : ¬ (9223372036854775807 < (strOfNums (wrT f x)).size + (strOfNums (wrT g y)).size) := by
        have h1 := wr_few (GC.out x (by simp)) (f := f)
        have h2 := wr_few (GC.out y (by simp)) (f := g)
        rw [str_size, str_size]; omega
      have h1b : ((sizeT f x).2 == 0) = true := by simpa using h1
      have h2b : ((sizeT g y).2 == 0) = true := by simpa using h2
      have h3b : ((sizeT (row2 f g) (val2 x y)).2 == 0) = true := by simpa using L1
      have h1c : ((sizeT f x).2 != 0) = false := by simpa using h1
      have h2c : ((sizeT g y).2 != 0) = false := by simpa using h2
      have h3c : ((sizeT (row2 f g) (val2 x y)).2 != 0) = false := by simpa using L1
      have hcc2 : (convert 23 9 (.slice Ac (wrT (row2 f g) (val2 x y)).length cc)).run Try.prog w9 = .ok (.string (strOfNums (wrT f x ++ wrT g y))) w9 := by rw [← L2]; exact hcc
      clear h1 h2 L1 L2 hcc
      go_wp2
      go_ret
      exact ⟨by show Ending.returned (Value.bool ((strOfNums (wrT f x ++ wrT g y)).toList == (strOfNums (wrT f x) ++ strOfNums (wrT g y)).toList)) = _; rw [SA.out]; simp, BB9.out⟩
    case neg =>
      obtain ⟨L1, L2⟩ := LAW.out.2 h
      have h3b : ((sizeT (row2 f g) (val2 x y)).2 == 0) = false := by simpa using L1
      have h3c : ((sizeT (row2 f g) (val2 x y)).2 != 0) = true := by simpa using L1
      have LN := Aside0.mk (show (wrT (row2 f g) (val2 x y)).length = 0 by rw [L2]; rfl)
      have hln : ((wrT (row2 f g) (val2 x y)).length == 0) = true := by rw [LN.out]; rfl
      have hli : (((wrT (row2 f g) (val2 x y)).length : Int) == 0) = true := by rw [LN.out]; rfl
      by_cases h1 : (sizeT f x).2 = 0
      case neg =>
        have h1b : ((sizeT f x).2 == 0) = false := by simpa using h1
        have h1c : ((sizeT f x).2 != 0) = true := by simpa using h1
        clear h h1 L1 L2 hca hcb hcc
        go_wp2
        go_ret
        exact ⟨by first | rfl | (simp [*]; done) | simp, BB9.out⟩
      case pos =>
        have h2 : ¬ (sizeT g y).2 = 0 := fun h2 => h ⟨h1, h2⟩
        have h1b : ((sizeT f x).2 == 0) = true := by simpa using h1
        have h1c : ((sizeT f x).2 != 0) = false := by simpa using h1
        have h2b : ((sizeT g y).2 == 0) = false := by simpa using h2
        have h2c : ((sizeT g y).2 != 0) = true := by simpa using h2
        clear h h1 h2 L1 L2 hca hcb hcc
        go_wp2
        go_ret
        exact ⟨by first | rfl | (simp [*]; done) | simp, BB9.out⟩
theorem WriteRows_row (f : S29) (A : Option Addr) (c : Nat) (g : S29) (B : Option Addr) (d : Nat) (x : S32) (A1 : Option Addr) (c1 : Nat) (A2 : Option Addr) (c2 : Nat) (y : S32) (B1 : Option Addr) (d1 : Nat) (B2 : Option Addr) (d2 : Nat) (w : World)
  (hr : Kd.C k29 w A f.f5.length f.f5) (hc : f.f5.length ≤ c) (hs : Kd.C k29 w B g.f5.length g.f5) (hd : g.f5.length ≤ d)
  (hr1 : Kd.C (Kd.int .u8) w A1 x.f1.length x.f1) (hc1 : x.f1.length ≤ c1) (hr2 : Kd.C k32 w A2 x.f2.length x.f2) (hc2 : x.f2.length ≤ c2) (hs1 : Kd.C (Kd.int .u8) w B1 y.f1.length y.f1) (hd1 : y.f1.length ≤ d1) (hs2 : Kd.C k32 w B2 y.f2.length y.f2) (hd2 : y.f2.length ≤ d2) {p q : Prop} (_ : p) (_ : q) (okx : OkV x) (oky : OkV y) :
    Calls Try.prog 6 #[.agg #[.int .i64 f.f0, .int .i64 f.f1, .int .i64 f.f2, .int .i64 f.f3, .int .i64 f.f4, .slice A f.f5.length c], .agg #[.int .i64 g.f0, .int .i64 g.f1, .int .i64 g.f2, .int .i64 g.f3, .int .i64 g.f4, .slice B g.f5.length d],
      .agg #[.int .u64 x.f0, .slice A1 x.f1.length c1, .slice A2 x.f2.length c2, .int .u64 y.f0, .slice B1 y.f1.length d1, .slice B2 y.f2.length d2]] w fun e w' => e = .returned (.bool true) ∧ Below w.heap.size w w' :=
  WriteRows_any f g x y okx oky A c B d A1 c1 A2 c2 B1 d1 B2 d2 w hr hc hs hd hr1 hc1 hr2 hc2 hs1 hd1 hs2 hd2
end Go.Proofs.Ythmcbcofipehhaa.B
