import Derived.Test.YthmcbcofipehhaaB0
import Derived.Outline
import Derived.IntWalk
import Derived.Maps.Own
import Derived.Maps.OwnOps
import Derived.Maps.Views
namespace Go.Proofs.Ythmcbcofipehhaa.B
open Go.RowKit Go.Maps Go.Proofs.YthmcbcofipehhaaW.PrintWords Go.Proofs.YthmcbcofipehhaaW.PrintLast Go.Proofs.YthmcbcofipehhaaW.PrintMore
set_option linter.unusedVariables false
set_option linter.unusedSimpArgs false

/-! ### value.fields: a map's literal; value.alone -/
theorem ent_own {H : Type} {P : Program} (w : World) {ops : Array Oper} {rest : List Oper} {o : Oper} {a : Act} {Q : Exit → Act → World → Prop}
    (hg : o.guard = none) (m x v : Operand) (t : TypeId) (hop : o.op = Op.insert t m x v)
    (k e : TypeId) (K : Keyed P k) (ht : P.underlying t = some (.map k e)) (R : Value → Option (DataW H × List MemPlace)) (b n : Nat) (D : DataW H)
    (hm : a.eval m = .map (some b)) (hown : w.ownsMap P k R b n D) (hn : n < maxLen) (key val : Value) (kl : Lit) (hx : a.eval x = key) (hv : a.eval v = val) (hkey : keyOf P k key = some kl)
    (d : DataW H) (ps : List MemPlace) (hval : R val = some (d, ps))
    (hK : ∀ w', w'.ownsMap P k R b (n + 1) (D.put kl d) → w.grownBy w' (some b) → wpList P ops Q rest (a.put o.dst undef) w') :
    wpList P ops Q (o :: rest) a w := by
  refine wpList_plain hg fun K' hK' => ?_
  obtain ⟨w', hrun, r1, r2⟩ := hown.update K ht hn hkey hval
  unfold Oper.wp
  simp [execOp, hop, hm, hx, hv, hrun, Result.andThen]
  exact hK' _ _ (hK w' r1 r2)
theorem law3 : Keyed Try.prog 3 := int_keyed Try.underlying3
theorem zero103 (w : World) : (zeroValue 103).run Try.prog w = .ok (.int .i64 0) w := by kernel_rfl
def lit (k : Int) : Lit := .int .i64 k
def fld (k : Int) : DataW Unit := .lit (.int .i64 k)
def fieldsD : DataW Unit := ((((((DataW.map []).put (lit 0) (fld 0)).put (lit 1) (fld 1)).put (lit 4) (fld 1)).put (lit 5) (fld 1)).put (lit 2) (fld 2)).put (lit 3) (fld 2)
def ownK (k : Int) : Int := if k = 0 then 0 else if k = 1 then 1 else if k = 4 then 1 else if k = 5 then 1 else if k = 2 then 2 else if k = 3 then 2 else 0
theorem isl (k : Int) : WideAt.IsKeyLit (lit k) := by simp [lit, WideAt.IsKeyLit]
theorem lit_ne {a b : Int} (h : a ≠ b) : lit a ≠ lit b := by simp [lit, h]
theorem at_fields (k : Int) : fieldsD.atKey (lit k) (fld 0) = fld (ownK k) := by
  have m0 : IsMap (DataW.map ([] : List (Lit × DataW Unit))) := ⟨[], rfl⟩
  have m1 := m0.put (lit 0) (fld 0)
  have m2 := m1.put (lit 1) (fld 1)
  have m3 := m2.put (lit 4) (fld 1)
  have m4 := m3.put (lit 5) (fld 1)
  have m5 := m4.put (lit 2) (fld 2)
  unfold fieldsD
  by_cases k3 : k = 3
  · subst k3
    rw [atKey_put_same m5 (isl _)]; rfl
  rw [atKey_put_other (lit_ne k3)]
  by_cases k2 : k = 2
  · subst k2
    rw [atKey_put_same m4 (isl _)]; rfl
  rw [atKey_put_other (lit_ne k2)]
  by_cases k5 : k = 5
  · subst k5
    rw [atKey_put_same m3 (isl _)]; rfl
  rw [atKey_put_other (lit_ne k5)]
  by_cases k4 : k = 4
  · subst k4
    rw [atKey_put_same m2 (isl _)]; rfl
  rw [atKey_put_other (lit_ne k4)]
  by_cases k1 : k = 1
  · subst k1
    rw [atKey_put_same m1 (isl _)]; rfl
  rw [atKey_put_other (lit_ne k1)]
  by_cases k0 : k = 0
  · subst k0
    rw [atKey_put_same m0 (isl _)]; rfl
  rw [atKey_put_other (lit_ne k0)]
  simp [ownK, k0, k1, k2, k3, k4, k5]
  rfl
set_option maxHeartbeats 1000000 in
set_option maxRecDepth 100000 in
theorem fields_any (w : World) :
    Calls Try.prog 76 #[] w fun e w' => e = .returned (.map (some w.heap.size)) ∧ w'.ownsMap Try.prog 3 (plainElem (H := Unit) Try.prog 103) w.heap.size 6 fieldsD ∧ Below w.heap.size w w' := by
  have hmm := @run_makeMap Try.prog
  have HB := Aside0.mk (Below.refl w.heap.size w)
  have hk : ∀ k : Int, (Lit.int .i64 k).wf = true → keyOf Try.prog 3 (.int .i64 k) = some (lit k) := fun k h => keyOf_int_mk Try.underlying3 h
  have hv : ∀ k : Int, (Lit.int .i64 k).wf = true → plainElem (H := Unit) Try.prog 103 (.int .i64 k) = some (fld k, []) := fun k h => plainElem_int Try.underlying103 h
  have HK := Aside0.mk hk
  have HV := Aside0.mk hv
  clear hk hv
  have HO := Aside0.mk (World.ownsMap_made (H := Unit) w Try.prog 3 (plainElem Try.prog 103))
  have HB1 := Aside0.mk (below_alloc HB.out (.map #[] 0))
  go_enter Try.func76, Try.ntmps76
  go_wp2_with (refine ent_own (H := Unit) _ rfl _ _ _ 104 rfl 3 103 law3 Try.underlying104 (plainElem Try.prog 103) w.heap.size _ _ rfl HO.out (by unfold maxLen; omega) _ _ _ rfl rfl (HK.out _ (by decide +kernel)) _ [] (HV.out _ (by decide +kernel)) ?_; intro w1 ho hg; have n1 := Aside0.mk ho; have n2 := Aside0.mk (HB1.out.grown hg (by first | exact HB1.out.size | simp) (fun j hj => by cases hj; exact Nat.le_refl _)); clear HO HB1 ho hg; have HO := n1; have HB1 := n2; clear n1 n2)
  go_ret
  exact ⟨rfl, HO.out, HB1.out⟩

/-- Is only a kind's field filled? -/
def aloneT (k : Int) (v : S32) : Bool :=
  (ownK k == 0 || v.f0 == 0) && (ownK k == 1 || v.f1.length == 0) && (ownK k == 2 || v.f2.length == 0)
theorem ownK_03 (k : Int) : ownK k = 0 ∨ ownK k = 1 ∨ ownK k = 2 := by
  unfold ownK
  repeat' split
  all_goals simp
set_option maxHeartbeats 4000000 in
set_option maxRecDepth 100000 in
theorem alone_any (k : Int) (hk : (Lit.int .i64 k).wf = true) (v : S32) (A1 : Option Addr) (c1 : Nat) (A2 : Option Addr) (c2 : Nat) (w : World) :
    Calls Try.prog 64 #[.int .i64 k, .agg #[.int .u64 v.f0, .slice A1 v.f1.length c1, .slice A2 v.f2.length c2]] w fun e w' => e = .returned (.bool (aloneT k v)) ∧ Below w.heap.size w w' := by
  have hu32 := Try.underlying32
  have HB := Aside0.mk (Below.refl w.heap.size w)
  have HKEY := Aside0.mk (keyOf_int_mk Try.underlying3 hk : keyOf Try.prog 3 (.int .i64 k) = some (lit k))
  clear hk
  go_enter Try.func64, Try.ntmps64
  go_wp2_with fail
  refine (fields_any _).mono ?_
  rintro e w1 ⟨rfl, ho, hb⟩
  rw [World.size_alloc] at ho
  have BK := Aside0.mk (blk_below (heap_alloc_new w _) hb)
  have HO := Aside0.mk ho
  have HB1 := Aside0.mk (below_step (below_alloc HB.out _) hb)
  clear ho hb HB
  have hcz0 : w1.cell? ⟨w.heap.size, 0, none⟩ = some (.int .u64 v.f0) := (blk_cell BK.out 0).trans rfl
  have hcz1 : w1.cell? ⟨w.heap.size, 1, none⟩ = some (.slice A1 v.f1.length c1) := (blk_cell BK.out 1).trans rfl
  have hcz2 : w1.cell? ⟨w.heap.size, 2, none⟩ = some (.slice A2 v.f2.length c2) := (blk_cell BK.out 2).trans rfl
  have HA := Aside0.mk (at_fields k)
  obtain ⟨o, ho⟩ : ∃ o, o = ownK k := ⟨_, rfl⟩
  have HK03 := ownK_03 k
  have HE := Aside0.mk (show aloneT k v = ((o == 0 || v.f0 == 0) && (o == 1 || v.f1.length == 0) && (o == 2 || v.f2.length == 0)) by rw [ho]; rfl)
  rw [← ho] at HA HK03
  clear ho
  have hv0 : (v.f0 == 0) = true ∨ (v.f0 == 0) = false := by cases (v.f0 == 0) <;> simp
  have go : ∀ c : Int, fieldsD.atKey (lit k) (.lit (.int .i64 0)) = .lit (.int .i64 c) → c = o := by
    intro c h
    have h2 : (fld o : DataW Unit) = .lit (.int .i64 c) := HA.out.symm.trans h
    simp [fld] at h2
    exact h2.symm
  have GO := Aside0.mk go
  clear go
  have hl1 : ((v.f1.length : Int) == 0) = true ∨ ((v.f1.length : Int) == 0) = false := by cases ((v.f1.length : Int) == 0) <;> simp
  have hl2 : ((v.f2.length : Int) == 0) = true ∨ ((v.f2.length : Int) == 0) = false := by cases ((v.f2.length : Int) == 0) <;> simp
  have e1 := Aside0.mk (show (v.f1.length == 0) = ((v.f1.length : Int) == 0) by rw [Bool.eq_iff_iff]; simp)
  have e2 := Aside0.mk (show (v.f2.length == 0) = ((v.f2.length : Int) == 0) by rw [Bool.eq_iff_iff]; simp)
  rcases hl1 with hl1 | hl1 <;> rcases hl2 with hl2 | hl2 <;> rcases hv0 with hv0 | hv0 <;> rcases HK03 with rfl | rfl | rfl
  all_goals
    go_wp2_with (refine wpList_lookup_own_int (H := Unit) _ rfl _ _ 104 rfl 3 103 .i64 law3 Try.underlying104 Try.underlying103 (zero103 _) _ 6 fieldsD rfl HO.out _ _ rfl HKEY.out ?_; intro c hat hwc; have hc := GO.out c hat; clear hat hwc; subst hc)
    go_ret
    refine ⟨?_, HB1.out⟩
    rw [HE.out, e1.out, e2.out, hv0, hl1, hl2]
    try rfl
end Go.Proofs.Ythmcbcofipehhaa.B
