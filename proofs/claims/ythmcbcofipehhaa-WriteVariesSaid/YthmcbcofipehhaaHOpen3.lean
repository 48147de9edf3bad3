import Derived.Test.YthmcbcofipehhaaHOpen
namespace Go.Proofs.Ythmcbcofipehhaa.B
open Go.RowKit Go.WideShapes Go.Proofs.YthmcbcofipehhaaW.PrintWords Go.Proofs.YthmcbcofipehhaaW.PrintLast Go.Proofs.YthmcbcofipehhaaW.PrintMore
set_option linter.unusedVariables false
set_option linter.unusedSimpArgs false
section
variable {H : Type} {enc : TypeId × Value → H} {w : World} {base : Nat} {spare : Nat → Bool} {held : Bool} {d : DataW H} {p : List MemPlace}
theorem open_i3 {n : Nat} {cs : List Value} {y : DataW H × List MemPlace} (h : DataW.trod enc Try.prog w base spare held n 3 cs = some y) : ∃ x : Int, (Kd.int .i64).K w x cs ∧ True := by
  obtain ⟨x, rfl, _, hw⟩ := DataW.trod_int Try.underlying3 h
  exact ⟨x, rfl, trivial⟩
set_option maxRecDepth 100000 in
/-- A row of whole numbers that came in. -/
theorem arg_is {r : Reach} {b0 : Nat} {v : Value} (hv : Value.okWide Try.prog w r b0 37 v) (h : DataW.Trod enc Try.prog w base spare held 37 v d p) :
    ∃ (A : Option Addr) (c : Nat) (xs : List Int), v = .slice A xs.length c ∧ xs.length ≤ c ∧ (Kd.int .i64).C w A xs.length xs ∧ ∀ x ∈ xs, True := by
  obtain ⟨a0, len, cap, rfl⟩ := okWide_slice Try.underlying37 hv
  obtain ⟨fuel, hf⟩ := h
  cases fuel with
  | zero => simp [DataW.trod] at hf
  | succ n =>
    obtain ⟨A, c, xs, e, l1, r1, ok⟩ := open_row (Kd.int .i64) (fun _ => True) Try.underlying37 (by kernel_rfl) n (fun cs y h => open_i3 h) hf
    exact ⟨A, c, xs, by simpa [Value.cells] using e, l1, r1, ok⟩
end
end Go.Proofs.Ythmcbcofipehhaa.B
