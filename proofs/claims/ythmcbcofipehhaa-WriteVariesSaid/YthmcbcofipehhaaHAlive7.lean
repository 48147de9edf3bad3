import Derived.Test.YthmcbcofipehhaaHWrite2
import Derived.Test.YthmcbcofipehhaaHAlive
import Derived.Test.YthmcbcofipehhaaHLawSames
namespace Go.Proofs.Ythmcbcofipehhaa.B
open Go.RowKit Go.Proofs.YthmcbcofipehhaaW.PrintWords Go.Proofs.YthmcbcofipehhaaW.PrintLast Go.Proofs.YthmcbcofipehhaaW.PrintMore
set_option linter.unusedVariables false
set_option linter.unusedSimpArgs false
/-- Two forms, laid side by side by the text, read as a row. -/
theorem twoF {w : World} {g : Nat} {x y : S29} {A B : Option Addr} {c d : Nat} (h : w.heap[g]? = some (.cells #[.int .i64 x.f0, .int .i64 x.f1, .int .i64 x.f2, .int .i64 x.f3, .int .i64 x.f4, .slice A x.f5.length c, .int .i64 y.f0, .int .i64 y.f1, .int .i64 y.f2, .int .i64 y.f3, .int .i64 y.f4, .slice B y.f5.length d] 29 (0, 0)))
    (hr : Kd.C k29 w A x.f5.length x.f5) (hc : x.f5.length ≤ c) (hs : Kd.C k29 w B y.f5.length y.f5) (hd : y.f5.length ≤ d) : Kd.C k29 w (some ⟨g, 0, none⟩) 2 [x, y] := by
  refine ⟨rfl, by decide, fun _ => ⟨_, rfl, fun j p hj => ?_⟩⟩
  rcases j with _ | _ | j
  · have : p = x := by simpa using hj.symm
    subst this
    refine ⟨_, rfl, k29_mk w p hc hr, fun i u hi => ?_⟩
    have hi3 : i < 6 := by have := (List.getElem?_eq_some_iff.1 hi).1; simpa using this
    rw [add_plain]
    show w.cell? ⟨g, 0 * 6 + i, none⟩ = some u
    rw [blk_cell h, ← hi]
    rcases i with _ | _ | _ | _ | _ | _ | i
    · rfl
    · rfl
    · rfl
    · rfl
    · rfl
    · rfl
    · omega
  · have : p = y := by simpa using hj.symm
    subst this
    refine ⟨_, rfl, k29_mk w p hd hs, fun i u hi => ?_⟩
    have hi3 : i < 6 := by have := (List.getElem?_eq_some_iff.1 hi).1; simpa using this
    rw [add_plain]
    show w.cell? ⟨g, 1 * 6 + i, none⟩ = some u
    rw [blk_cell h, ← hi]
    rcases i with _ | _ | _ | _ | _ | _ | i
    · rfl
    · rfl
    · rfl
    · rfl
    · rfl
    · rfl
    · omega
  · simp at hj
def f07a : S29 := ⟨2, 1, 0, 9, 1, [⟨0, 1, 0, 0, 0, []⟩]⟩
def f07 : S29 := ⟨3, 0, 0, 0, 0, [⟨0, 2, 0, 0, 0, []⟩, f07a]⟩
def v07 : S32 := lV [nV 258, lV [nV 5, nV 6]]
theorem al7a : (sizeT f07 v07).2 = 0 := by decide +kernel
theorem al7b : wrT f07 v07 = [1, 2, 2, 5, 6] := by decide +kernel
theorem al7c : OkV v07 := by
  refine OkV.mk (by decide) (by simp) ?_
  intro x hx
  simp at hx
  rcases hx with rfl | rfl
  · exact OkV.mk (by decide) (by simp) (by simp)
  · refine OkV.mk (by decide) (by simp) ?_
    intro x hx
    simp at hx
    rcases hx with rfl | rfl <;> exact OkV.mk (by decide) (by simp) (by simp)
def o70 : Obj := .cells #[.int .i64 0, .int .i64 1, .int .i64 0, .int .i64 0, .int .i64 0, .slice none 0 0] 29
def o71 (n : Nat) : Obj := .cells #[.int .i64 0, .int .i64 2, .int .i64 0, .int .i64 0, .int .i64 0, .slice none 0 0, .int .i64 2, .int .i64 1, .int .i64 0, .int .i64 9, .int .i64 1, .slice (some ⟨n, 0, none⟩) 1 1] 29
def o72 (n : Nat) : Obj := .cells #[.int .i64 3, .int .i64 0, .int .i64 0, .int .i64 0, .int .i64 0, .slice (some ⟨n, 0, none⟩) 2 2] 29
def o73 : Obj := .cells #[.int .u64 5, .slice none 0 0, .slice none 0 0, .int .u64 6, .slice none 0 0, .slice none 0 0] 32
def o74 (n : Nat) : Obj := .cells #[.int .u64 258, .slice none 0 0, .slice none 0 0, .int .u64 0, .slice none 0 0, .slice (some ⟨n, 0, none⟩) 2 2] 32
def w7 (w : World) : World := ((((w.alloc o70).alloc (o71 w.heap.size)).alloc (o72 (w.heap.size + 1))).alloc o73).alloc (o74 (w.heap.size + 1 + 1 + 1))
theorem mem7 (w : World) : Kd.C k29 (w7 w) (some ⟨w.heap.size + 1, 0, none⟩) 2 f07.f5 ∧ Kd.C k32 (w7 w) (some ⟨w.heap.size + 1 + 1 + 1 + 1, 0, none⟩) 2 v07.f2 ∧ Below w.heap.size w (w7 w) := by
  have s1 : (w.alloc o70).heap.size = w.heap.size + 1 := World.size_alloc _ _
  have s2 : ((w.alloc o70).alloc (o71 w.heap.size)).heap.size = w.heap.size + 1 + 1 := by rw [World.size_alloc, s1]
  have s3 : (((w.alloc o70).alloc (o71 w.heap.size)).alloc (o72 (w.heap.size + 1))).heap.size = w.heap.size + 1 + 1 + 1 := by rw [World.size_alloc, s2]
  have s4 : ((((w.alloc o70).alloc (o71 w.heap.size)).alloc (o72 (w.heap.size + 1))).alloc o73).heap.size = w.heap.size + 1 + 1 + 1 + 1 := by rw [World.size_alloc, s3]
  have b0 : (w7 w).heap[w.heap.size]? = some o70 := blk_alloc (blk_alloc (blk_alloc (blk_alloc (heap_alloc_new w o70) _) _) _) _
  have b1 : (w7 w).heap[w.heap.size + 1]? = some (o71 w.heap.size) := blk_alloc (blk_alloc (blk_alloc (s1 ▸ heap_alloc_new (w.alloc o70) (o71 w.heap.size)) _) _) _
  have b3 : (w7 w).heap[w.heap.size + 1 + 1 + 1]? = some o73 := blk_alloc (s3 ▸ heap_alloc_new (((w.alloc o70).alloc (o71 w.heap.size)).alloc (o72 (w.heap.size + 1))) o73) _
  have b4 : (w7 w).heap[w.heap.size + 1 + 1 + 1 + 1]? = some (o74 (w.heap.size + 1 + 1 + 1)) := s4 ▸ heap_alloc_new ((((w.alloc o70).alloc (o71 w.heap.size)).alloc (o72 (w.heap.size + 1))).alloc o73) (o74 (w.heap.size + 1 + 1 + 1))
  refine ⟨?_, ?_, below_alloc (below_alloc (below_alloc (below_alloc (below_alloc (Below.refl _ _) _) _) _) _) _⟩
  · exact twoF (x := ⟨0, 2, 0, 0, 0, []⟩) (y := f07a) (A := none) (c := 0) (B := some ⟨w.heap.size, 0, none⟩) (d := 1) b1 (Kd.C_nil _ _) (Nat.le_refl _) (partC b0) (Nat.le_refl _)
  · exact twoC (x := nV 258) (y := lV [nV 5, nV 6]) (A1 := none) (A2 := none) (B1 := none) (B2 := some ⟨w.heap.size + 1 + 1 + 1, 0, none⟩) (c1 := 0) (c2 := 0) (d1 := 0) (d2 := 2) b4 (Kd.C_nil _ _) (Nat.le_refl _) (Kd.C_nil _ _) (Nat.le_refl _) (Kd.C_nil _ _) (Nat.le_refl _) (numsC [5, 6] b3 rfl (by decide)) (Nat.le_refl _)
set_option maxHeartbeats 4000000 in
set_option maxRecDepth 100000 in
theorem alive7_any (w : World) : Calls Try.prog 20 #[] w fun e w' => e = .returned (.bool true) ∧ Below w.heap.size w w' := by
  have hu29 := Try.underlying29
  have hu32 := Try.underlying32
  have MM := Aside0.mk (mem7 w)
  have WR := Aside0.mk (Write_any f07 v07 al7c (by rw [al7b]; decide) (some ⟨w.heap.size + 1, 0, none⟩) 2 none 0 (some ⟨w.heap.size + 1 + 1 + 1 + 1, 0, none⟩) 2 (w7 w) MM.out.1 (Nat.le_refl _) (Kd.C_nil _ _) (Nat.le_refl _) MM.out.2.1 (Nat.le_refl _))
  go_enter Try.func20, Try.ntmps20
  go_wp2_with fail
  refine WR.out.mono ?_
  rintro e w1 ⟨⟨v', rfl, hR⟩, hb⟩
  rw [al7a]
  rw [al7b] at hR
  obtain ⟨A', c', rfl, hl', hC⟩ := Kd.R_reads hR
  have HB1 := Aside0.mk (below_step MM.out.2.2 hb)
  have hstr : strOfNums [1, 2, 2, 5, 6] = { data := #[1, 2, 2, 5, 6] } := by decide +kernel
  have hcv : (convert 23 9 (.slice A' 5 c')).run Try.prog w1 = .ok (.string { data := #[1, 2, 2, 5, 6] }) w1 := hstr ▸ Kd.C_string (P := Try.prog) (A := A') (c := c') Try.underlying23 Try.underlying5 Try.underlying9 hC
  clear hstr
  clear hR hb hl' hC WR MM
  go_wp2
  go_ret
  exact ⟨by first | rfl | (simp; done) | decide +kernel, HB1.out⟩
end Go.Proofs.Ythmcbcofipehhaa.B
