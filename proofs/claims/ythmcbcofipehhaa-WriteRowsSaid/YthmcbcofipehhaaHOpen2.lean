import Derived.Test.YthmcbcofipehhaaHOpen
import Derived.WideShapes
namespace Go.Proofs.Ythmcbcofipehhaa.B
open Go.RowKit Go.WideShapes Go.Proofs.YthmcbcofipehhaaW.PrintWords Go.Proofs.YthmcbcofipehhaaW.PrintLast Go.Proofs.YthmcbcofipehhaaW.PrintMore
set_option linter.unusedVariables false
set_option linter.unusedSimpArgs false
section
variable {H : Type} {enc : TypeId × Value → H} {w : World} {base : Nat} {spare : Nat → Bool} {held : Bool} {d : DataW H} {p : List MemPlace}
theorem okWide_array {P : Program} {w : World} {r : Reach} {base : Nat} {t : TypeId} {v : Value} {n : Nat} {e : TypeId} (ht : P.underlying t = some (.array n e)) (h : Value.okWide P w r base t v) : ∃ cs, v = .agg cs ∧ cs.size = P.cellsOf t := by
  simp only [Value.okWide, ht] at h
  obtain ⟨cs, h1, h2, _⟩ := h
  exact ⟨cs, h1, h2⟩
set_option maxRecDepth 100000 in
/-- Two values that came in as an array. -/
theorem arg_A2 {r : Reach} {b0 : Nat} {v : Value} (hv : Value.okWide Try.prog w r b0 44 v) (h : DataW.Trod enc Try.prog w base spare held 44 v d p) :
    ∃ (x : S32) (A1 : Option Addr) (c1 : Nat) (A2 : Option Addr) (c2 : Nat) (y : S32) (B1 : Option Addr) (d1 : Nat) (B2 : Option Addr) (d2 : Nat),
      v = .agg #[.int .u64 x.f0, .slice A1 x.f1.length c1, .slice A2 x.f2.length c2, .int .u64 y.f0, .slice B1 y.f1.length d1, .slice B2 y.f2.length d2] ∧
      (x.f1.length ≤ c1 ∧ (Kd.int .u8).C w A1 x.f1.length x.f1 ∧ x.f2.length ≤ c2 ∧ k32.C w A2 x.f2.length x.f2 ∧ OkV x) ∧ (y.f1.length ≤ d1 ∧ (Kd.int .u8).C w B1 y.f1.length y.f1 ∧ y.f2.length ≤ d2 ∧ k32.C w B2 y.f2.length y.f2 ∧ OkV y) := by
  obtain ⟨cs, rfl, _⟩ := okWide_array Try.underlying44 hv
  obtain ⟨fuel, hf⟩ := h
  obtain ⟨xs, m, rfl, _, hl, hsz, he⟩ := DataW.trod_array Try.underlying44 hf
  have k3 : Try.prog.cellsOf 32 = 3 := by kernel_rfl
  have k6 : Try.prog.cellsOf 44 = 6 := by kernel_rfl
  rw [k6] at hl
  have h0 := he 0 (by decide)
  have h1 := he 1 (by decide)
  rw [k3, List.getElem?_eq_getElem (by omega)] at h0 h1
  obtain ⟨x, hx, okx⟩ := openV _ _ _ h0
  obtain ⟨y, hy, oky⟩ := openV _ _ _ h1
  obtain ⟨A1, c1, A2, c2, e, l1, r1, l2, r2⟩ := k32_open hx
  obtain ⟨B1, d1, B2, d2, e', l1', r1', l2', r2'⟩ := k32_open hy
  have hc : (Value.agg cs).cells.toList = cs.toList := by simp [Value.cells]
  rw [hc] at hl e e'
  refine ⟨x, A1, c1, A2, c2, y, B1, d1, B2, d2, ?_, ⟨l1, r1, l2, r2, okx⟩, l1', r1', l2', r2', oky⟩
  congr 1
  apply Array.ext'
  have es : cs.toList = (cs.toList.drop (0 * 3)).take 3 ++ (cs.toList.drop (1 * 3)).take 3 := by
    match hcs : cs.toList, hl with
    | [a, b, c, d, e, f], _ => rfl
  rw [es, e, e']
  rfl
end
end Go.Proofs.Ythmcbcofipehhaa.B
