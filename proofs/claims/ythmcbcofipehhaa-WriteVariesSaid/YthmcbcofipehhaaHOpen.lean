import Derived.Test.YthmcbcofipehhaaB0
import Derived.Lib.SmallJoins
import Derived.ChangeArms
import Derived.WideShapes
namespace Go.Proofs.Ythmcbcofipehhaa.B
open Go.RowKit Go.WideShapes Go.Proofs.YthmcbcofipehhaaW.PrintWords Go.Proofs.YthmcbcofipehhaaW.PrintLast Go.Proofs.YthmcbcofipehhaaW.PrintMore
set_option linter.unusedVariables false
set_option linter.unusedSimpArgs false
set_option maxRecDepth 100000
section
variable {H : Type} {enc : TypeId × Value → H} {P : Program} {w : World} {base : Nat} {spare : Nat → Bool} {held : Bool}
theorem add_add' (a : Addr) (m i : Nat) : (a.add m).add i = a.add (m + i) := by
  unfold Addr.add
  by_cases hi : i = 0
  · subst hi; simp
  · by_cases hm : m = 0
    · subst hm; simp [hi]
    · have h3 : ¬ m + i = 0 := by omega
      simp only [hi, hm, h3, if_false]
      simp [Nat.add_assoc]
/-- A slice, element by element. -/
theorem open_row {α : Type} (d : Kd α) {t e : TypeId} (okE : α → Prop) (ht : P.underlying t = some (.slice e)) (hc : P.cellsOf e = d.sz) (n : Nat)
    (hE : ∀ cs y, DataW.trod enc P w base spare held n e cs = some y → ∃ x, d.K w x cs ∧ okE x) {cs : List Value} {y : DataW H × List MemPlace} (h : DataW.trod enc P w base spare held (n + 1) t cs = some y) :
    ∃ (A : Option Addr) (c : Nat) (xs : List α), cs = [.slice A xs.length c] ∧ xs.length ≤ c ∧ d.C w A xs.length xs ∧ ∀ x ∈ xs, okE x := by
  rcases DataW.trod_slice ht h with ⟨rfl, _⟩ | ⟨a, len, cap, elems, rest, n', hn, rfl, _, _, hlc, hcm, hel, hcell, _⟩
  · exact ⟨none, 0, [], rfl, Nat.le_refl _, Kd.C_nil _ _, (fun x hx => by cases hx)⟩
  · obtain rfl : n = n' := by omega
    have pick : ∀ i, i < len → ∃ x : α, okE x ∧ ∃ cs, w.cells? base (a.add (i * d.sz)) d.sz = some cs ∧ d.K w x cs := by
      intro i hi
      have h1 := hcell i hi
      rw [List.getElem?_eq_getElem (by omega)] at h1
      obtain ⟨cs, h2, h3⟩ := Option.bind_eq_some_iff.1 h1
      obtain ⟨x, hx, hok⟩ := hE cs _ h3
      rw [hc] at h2
      exact ⟨x, hok, cs, h2, hx⟩
    have hlm : len ≤ maxLen := Nat.le_trans hlc hcm
    have pick2 : ∀ m, m ≤ len → ∃ xs : List α, xs.length = m ∧ (∀ x ∈ xs, okE x) ∧ ∀ i x, xs[i]? = some x → ∃ cs, w.cells? base (a.add (i * d.sz)) d.sz = some cs ∧ d.K w x cs := by
      intro m
      induction m with
      | zero => intro _; exact ⟨[], rfl, (fun x hx => by cases hx), (fun i x hx => by simp at hx)⟩
      | succ m ih =>
        intro hm
        obtain ⟨xs, h1, h2, h3⟩ := ih (by omega)
        obtain ⟨x, hok, cs, h4, h5⟩ := pick m (by omega)
        refine ⟨xs ++ [x], by simp [h1], fun z hz => ?_, fun i z hz => ?_⟩
        · rcases List.mem_append.1 hz with hz | hz
          · exact h2 z hz
          · have : z = x := by simpa using hz
            rw [this]; exact hok
        · rcases Nat.lt_or_ge i m with hi | hi
          · rw [List.getElem?_append_left (by omega)] at hz
            exact h3 i z hz
          · rw [List.getElem?_append_right (by omega), h1] at hz
            have hi0 : i = m := by
              rcases Nat.lt_or_ge (i - m) 1 with h | h
              · omega
              · rw [List.getElem?_eq_none (by simpa using h)] at hz; cases hz
            subst hi0
            have : x = z := by simpa using hz
            subst this
            exact ⟨cs, h4, h5⟩
    obtain ⟨xs, h1, h2, h3⟩ := pick2 len (Nat.le_refl _)
    subst h1
    refine ⟨some a, cap, xs, rfl, hlc, ⟨rfl, by simpa [maxLen] using hlm, fun _ => ⟨a, rfl, fun j p hj => ?_⟩⟩, h2⟩
    obtain ⟨cs, h4, h5⟩ := h3 j p hj
    refine ⟨cs, d.K_len h5, h5, fun i u hi => ?_⟩
    obtain ⟨_, hl, hcs⟩ := World.cells?_some h4
    have hin : i < d.sz := by have := (List.getElem?_eq_some_iff.1 hi).1; omega
    rw [← add_add', hcs i hin]
    exact hi
end
/-- Numbers in their ranges, at every depth. -/
inductive OkV : S32 → Prop
  | mk {n : Int} {b : List Int} {l : List S32} (hn : 0 ≤ n ∧ n ≤ 18446744073709551615) (hb : ∀ x ∈ b, 0 ≤ x ∧ x ≤ 255) (hl : ∀ x ∈ l, OkV x) : OkV ⟨n, b, l⟩
inductive OkF : S29 → Prop
  | mk {k s lo hi st : Int} {l : List S29} (h : ∀ x ∈ [k, s, lo, hi, st], -9223372036854775808 ≤ x ∧ x ≤ 9223372036854775807) (hl : ∀ x ∈ l, OkF x) : OkF ⟨k, s, lo, hi, st, l⟩
section
variable {H : Type} {enc : TypeId × Value → H} {w : World} {base : Nat} {spare : Nat → Bool} {held : Bool}
theorem open_u8 {n : Nat} {cs : List Value} {y : DataW H × List MemPlace} (h : DataW.trod enc Try.prog w base spare held n 5 cs = some y) : ∃ x : Int, (Kd.int .u8).K w x cs ∧ (0 ≤ x ∧ x ≤ 255) := by
  obtain ⟨x, rfl, _, hw⟩ := DataW.trod_int Try.underlying5 h
  simp [Lit.wf] at hw
  exact ⟨x, rfl, hw⟩
theorem open_u64 {n : Nat} {c : Value} {y : DataW H × List MemPlace} (h : DataW.trod enc Try.prog w base spare held n 22 [c] = some y) : ∃ x : Int, c = .int .u64 x ∧ (0 ≤ x ∧ x ≤ 18446744073709551615) := by
  obtain ⟨x, hx, _, hw⟩ := DataW.trod_int Try.underlying22 h
  simp [Lit.wf] at hw
  exact ⟨x, by simpa using hx, hw⟩
theorem open_i64 {n : Nat} {c : Value} {y : DataW H × List MemPlace} (h : DataW.trod enc Try.prog w base spare held n 3 [c] = some y) : ∃ x : Int, c = .int .i64 x ∧ (-9223372036854775808 ≤ x ∧ x ≤ 9223372036854775807) := by
  obtain ⟨x, hx, _, hw⟩ := DataW.trod_int Try.underlying3 h
  simp [Lit.wf] at hw
  exact ⟨x, by simpa using hx, hw⟩
theorem open_b {n : Nat} {cs : List Value} {y : DataW H × List MemPlace} (h : DataW.trod enc Try.prog w base spare held n 23 cs = some y) : ∃ (A : Option Addr) (c : Nat) (xs : List Int), cs = [.slice A xs.length c] ∧ xs.length ≤ c ∧ (Kd.int .u8).C w A xs.length xs ∧ ∀ x ∈ xs, 0 ≤ x ∧ x ≤ 255 := by
  cases n with
  | zero => simp [DataW.trod] at h
  | succ n => exact open_row (Kd.int .u8) (fun x => 0 ≤ x ∧ x ≤ 255) Try.underlying23 (by kernel_rfl) n (fun cs y h => open_u8 h) h
set_option maxRecDepth 100000 in
theorem openV : ∀ (n : Nat) (cs : List Value) (y : DataW H × List MemPlace), DataW.trod enc Try.prog w base spare held n 32 cs = some y → ∃ x : S32, k32.K w x cs ∧ OkV x
  | 0, cs, y, h => by simp [DataW.trod] at h
  | n + 1, cs, y, h => by
    obtain ⟨xs, n', hn, _, hl, hsz, hf⟩ := DataW.trod_struct Try.underlying32 h
    obtain rfl : n = n' := by omega
    have hl3 : cs.length = 3 := hl.trans (by kernel_rfl)
    match cs, hl3 with
    | [c0, c1, c2], _ =>
      have k22 : Try.prog.cellsOf 22 = 1 := by kernel_rfl
      have k23 : Try.prog.cellsOf 23 = 1 := by kernel_rfl
      have k24 : Try.prog.cellsOf 24 = 1 := by kernel_rfl
      have h0 : DataW.trod enc Try.prog w base spare held n 22 (([c0, c1, c2].drop 0).take (Try.prog.cellsOf 22)) = xs[0]? := hf 0 _ rfl
      have h1 : DataW.trod enc Try.prog w base spare held n 23 (([c0, c1, c2].drop 1).take (Try.prog.cellsOf 23)) = xs[1]? := hf 1 _ rfl
      have h2 : DataW.trod enc Try.prog w base spare held n 24 (([c0, c1, c2].drop 2).take (Try.prog.cellsOf 24)) = xs[2]? := hf 2 _ rfl
      have s3 : xs.length = 3 := hsz
      rw [k22] at h0
      rw [k23] at h1
      rw [k24] at h2
      rw [List.getElem?_eq_getElem (by omega)] at h0 h1 h2
      obtain ⟨x, rfl, hx⟩ := open_u64 h0
      obtain ⟨A1, d1, b, e1, l1, r1, ok1⟩ := open_b h1
      have e1' : c1 = .slice A1 b.length d1 := by simpa using e1
      subst e1'
      cases n with
      | zero => simp [DataW.trod] at h2
      | succ n =>
        obtain ⟨A2, d2, l, e2, l2, r2, ok2⟩ := open_row k32 OkV Try.underlying24 (by kernel_rfl) n (fun cs y h => openV n cs y h) h2
        have e2' : c2 = .slice A2 l.length d2 := by simpa using e2
        subst e2'
        exact ⟨⟨x, b, l⟩, k32_mk w ⟨x, b, l⟩ l1 r1 l2 r2, OkV.mk hx ok1 ok2⟩
set_option maxRecDepth 100000 in
theorem openF : ∀ (n : Nat) (cs : List Value) (y : DataW H × List MemPlace), DataW.trod enc Try.prog w base spare held n 29 cs = some y → ∃ x : S29, k29.K w x cs ∧ OkF x
  | 0, cs, y, h => by simp [DataW.trod] at h
  | n + 1, cs, y, h => by
    obtain ⟨xs, n', hn, _, hl, hsz, hf⟩ := DataW.trod_struct Try.underlying29 h
    obtain rfl : n = n' := by omega
    have hl6 : cs.length = 6 := hl.trans (by kernel_rfl)
    match cs, hl6 with
    | [c0, c1, c2, c3, c4, c5], _ =>
      have k3 : Try.prog.cellsOf 3 = 1 := by kernel_rfl
      have k27 : Try.prog.cellsOf 27 = 1 := by kernel_rfl
      have s6 : xs.length = 6 := hsz
      have h0 : DataW.trod enc Try.prog w base spare held n 3 (([c0, c1, c2, c3, c4, c5].drop 0).take (Try.prog.cellsOf 3)) = xs[0]? := hf 0 _ rfl
      rw [k3, List.getElem?_eq_getElem (by omega)] at h0
      obtain ⟨x0, rfl, hx0⟩ := open_i64 h0
      have h1 : DataW.trod enc Try.prog w base spare held n 3 (([.int .i64 x0, c1, c2, c3, c4, c5].drop 1).take (Try.prog.cellsOf 3)) = xs[1]? := hf 1 _ rfl
      rw [k3, List.getElem?_eq_getElem (by omega)] at h1
      obtain ⟨x1, rfl, hx1⟩ := open_i64 h1
      have h2 : DataW.trod enc Try.prog w base spare held n 3 (([.int .i64 x0, .int .i64 x1, c2, c3, c4, c5].drop 2).take (Try.prog.cellsOf 3)) = xs[2]? := hf 2 _ rfl
      rw [k3, List.getElem?_eq_getElem (by omega)] at h2
      obtain ⟨x2, rfl, hx2⟩ := open_i64 h2
      have h3 : DataW.trod enc Try.prog w base spare held n 3 (([.int .i64 x0, .int .i64 x1, .int .i64 x2, c3, c4, c5].drop 3).take (Try.prog.cellsOf 3)) = xs[3]? := hf 3 _ rfl
      rw [k3, List.getElem?_eq_getElem (by omega)] at h3
      obtain ⟨x3, rfl, hx3⟩ := open_i64 h3
      have h4 : DataW.trod enc Try.prog w base spare held n 3 (([.int .i64 x0, .int .i64 x1, .int .i64 x2, .int .i64 x3, c4, c5].drop 4).take (Try.prog.cellsOf 3)) = xs[4]? := hf 4 _ rfl
      rw [k3, List.getElem?_eq_getElem (by omega)] at h4
      obtain ⟨x4, rfl, hx4⟩ := open_i64 h4
      have h5 : DataW.trod enc Try.prog w base spare held n 27 (([.int .i64 x0, .int .i64 x1, .int .i64 x2, .int .i64 x3, .int .i64 x4, c5].drop 5).take (Try.prog.cellsOf 27)) = xs[5]? := hf 5 _ rfl
      rw [k27, List.getElem?_eq_getElem (by omega)] at h5
      cases n with
      | zero => simp [DataW.trod] at h5
      | succ n =>
        obtain ⟨A, d, l, e, l1, r1, ok⟩ := open_row k29 OkF Try.underlying27 (by kernel_rfl) n (fun cs y h => openF n cs y h) h5
        have e' : c5 = .slice A l.length d := by simpa using e
        subst e'
        exact ⟨⟨x0, x1, x2, x3, x4, l⟩, k29_mk w ⟨x0, x1, x2, x3, x4, l⟩ l1 r1, OkF.mk (by simp; exact ⟨hx0, hx1, hx2, hx3, hx4⟩) ok⟩
/-- A value that came in. -/
theorem arg_V {r : Reach} {b0 : Nat} {v : Value} {d : DataW H} {p : List MemPlace} (hv : Value.okWide Try.prog w r b0 32 v) (h : DataW.Trod enc Try.prog w base spare held 32 v d p) :
    ∃ (x : S32) (A1 : Option Addr) (c1 : Nat) (A2 : Option Addr) (c2 : Nat), v = .agg #[.int .u64 x.f0, .slice A1 x.f1.length c1, .slice A2 x.f2.length c2] ∧ x.f1.length ≤ c1 ∧ (Kd.int .u8).C w A1 x.f1.length x.f1 ∧ x.f2.length ≤ c2 ∧ k32.C w A2 x.f2.length x.f2 ∧ OkV x := by
  obtain ⟨cs, rfl, _⟩ := okWide_struct Try.underlying32 hv
  obtain ⟨fuel, hf⟩ := h
  obtain ⟨x, hK, hok⟩ := openV fuel _ _ hf
  obtain ⟨A1, c1, A2, c2, e, l1, r1, l2, r2⟩ := k32_open hK
  have e' : cs = #[.int .u64 x.f0, .slice A1 x.f1.length c1, .slice A2 x.f2.length c2] := by
    apply Array.ext'
    simpa [Value.cells] using e
  exact ⟨x, A1, c1, A2, c2, by rw [e'], l1, r1, l2, r2, hok⟩
theorem arg_F {r : Reach} {b0 : Nat} {v : Value} {d : DataW H} {p : List MemPlace} (hv : Value.okWide Try.prog w r b0 29 v) (h : DataW.Trod enc Try.prog w base spare held 29 v d p) :
    ∃ (x : S29) (A : Option Addr) (c : Nat), v = .agg #[.int .i64 x.f0, .int .i64 x.f1, .int .i64 x.f2, .int .i64 x.f3, .int .i64 x.f4, .slice A x.f5.length c] ∧ x.f5.length ≤ c ∧ k29.C w A x.f5.length x.f5 ∧ OkF x := by
  obtain ⟨cs, rfl, _⟩ := okWide_struct Try.underlying29 hv
  obtain ⟨fuel, hf⟩ := h
  obtain ⟨x, hK, hok⟩ := openF fuel _ _ hf
  obtain ⟨A, c, e, l1, r1⟩ := k29_open hK
  have e' : cs = #[.int .i64 x.f0, .int .i64 x.f1, .int .i64 x.f2, .int .i64 x.f3, .int .i64 x.f4, .slice A x.f5.length c] := by
    apply Array.ext'
    simpa [Value.cells] using e
  exact ⟨x, A, c, by rw [e'], l1, r1, hok⟩
/-- A slice of values that came in. -/
theorem arg_Vs {r : Reach} {b0 : Nat} {v : Value} {d : DataW H} {p : List MemPlace} (hv : Value.okWide Try.prog w r b0 24 v) (h : DataW.Trod enc Try.prog w base spare held 24 v d p) :
    ∃ (A : Option Addr) (c : Nat) (xs : List S32), v = .slice A xs.length c ∧ xs.length ≤ c ∧ k32.C w A xs.length xs ∧ ∀ x ∈ xs, OkV x := by
  obtain ⟨a0, len, cap, rfl⟩ := okWide_slice Try.underlying24 hv
  obtain ⟨fuel, hf⟩ := h
  cases fuel with
  | zero => simp [DataW.trod] at hf
  | succ n =>
    obtain ⟨A, c, xs, e, l1, r1, ok⟩ := open_row k32 OkV Try.underlying24 (by kernel_rfl) n (fun cs y h => openV n cs y h) hf
    exact ⟨A, c, xs, by simpa [Value.cells] using e, l1, r1, ok⟩
theorem arg_b {r : Reach} {b0 : Nat} {v : Value} {d : DataW H} {p : List MemPlace} (hv : Value.okWide Try.prog w r b0 23 v) (h : DataW.Trod enc Try.prog w base spare held 23 v d p) :
    ∃ (A : Option Addr) (c : Nat) (xs : List Int), v = .slice A xs.length c ∧ xs.length ≤ c ∧ (Kd.int .u8).C w A xs.length xs ∧ ∀ x ∈ xs, 0 ≤ x ∧ x ≤ 255 := by
  obtain ⟨a0, len, cap, rfl⟩ := okWide_slice Try.underlying23 hv
  obtain ⟨fuel, hf⟩ := h
  obtain ⟨A, c, xs, e, l1, r1, ok⟩ := open_b hf
  exact ⟨A, c, xs, by simpa [Value.cells] using e, l1, r1, ok⟩
end
end Go.Proofs.Ythmcbcofipehhaa.B
