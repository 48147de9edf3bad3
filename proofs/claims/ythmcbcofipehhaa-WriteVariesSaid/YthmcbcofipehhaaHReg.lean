import Derived.StillTail
import Derived.StillTailTactics
import Derived.BigQuiet
import Derived.WalkKit
/-! A region that draws its order, told by a relation for each operation ('R i v w': what operation i's value v is in w), which stays as the world grows: one step an operation serves every order; the last operations may be a forced tail. -/
namespace Go.Proofs.Ythmcbcofipehhaa.Reg
open Go
set_option linter.unusedVariables false
section
variable {P : Program} {ops : Array Oper}
theorem count_set (p p' : Nat → Bool) : ∀ (n i : Nat), i < n → p i = true → p' i = false → (∀ j, j ≠ i → p' j = p j) → (List.range n).countP p = (List.range n).countP p' + 1
  | 0, i, h, _, _, _ => by omega
  | n + 1, i, h, h1, h2, h3 => by
    rw [List.range_succ, List.countP_append, List.countP_append]
    by_cases hi : i = n
    · subst hi
      have e : (List.range i).countP p = (List.range i).countP p' := by
        apply List.countP_congr
        intro j hj
        have := List.mem_range.1 hj
        rw [h3 j (by omega)]
      simp [e, h1, h2]
    · rw [count_set p p' n i (by omega) h1 h2 h3]
      have e : p' n = p n := h3 n (fun h => hi h.symm)
      simp [e]
      omega
/-- The slots of the first n operations are one each, no two the same; an operation waits for earlier ones alone. -/
def dstOk (ops : Array Oper) (n : Nat) : Bool :=
  (List.range n).all fun i => match ops[i]? with
    | some o => o.dst.isSome && (o.after.all fun e => decide (e.on < i)) && (List.range i).all fun j => (ops[j]?).bind (·.dst) != o.dst
    | none => false
def listedTo (n size : Nat) : Array Bool := ((List.range size).map fun i => decide (i < n)).toArray
def relB (ops : Array Oper) (n : Nat) : Bool :=
  decide (n ≤ ops.size) && (decide (n = ops.size) || (Region.sinkB .any ops n && Region.chainB .any ops n)) && Region.seqB .any ops (ops.size - n) n (listedTo n ops.size) && dstOk ops n
/-- Operation i, carried out in whatever state in which what it waits for has been. -/
def RelStep (P : Program) (ops : Array Oper) (Q : Exit → Act → World → Prop) (a0 : Act) (w0 : World) (Ext : World → World → Prop) (R : Nat → Value → World → Prop) (n i : Nat) (o : Oper) : Prop :=
  ∀ (a : Act) (w : World), Ext w0 w → (∀ t, (∀ k (ok : Oper), k < n → ops[k]? = some ok → ok.dst ≠ some t) → a.tmps.getD t undef = a0.tmps.getD t undef) →
    (∀ e ∈ o.after, Region.binds .any e = true → ∀ (oe : Oper) d, ops[e.on]? = some oe → oe.dst = some d → R e.on (a.tmps.getD d undef) w) →
    if Region.wanted o (yielded ops a.tmps) = true then Oper.wp P o a w (fun a' w' => ∃ v, a' = a.put o.dst v ∧ Ext w w' ∧ R i v w') Q else R i undef w
def putsTo : List Oper → (Nat → Value) → Nat → Act → Act
  | [], _, _, a => a
  | o :: l, us, i, a => putsTo l us (i + 1) (a.put o.dst (us i))
theorem put_size (a : Act) (d : Option Tmp) (v : Value) : (a.put d v).tmps.size = a.tmps.size ∧ (a.put d v).defers = a.defers := by cases d <;> simp [Act.put]
theorem getD_put_self {a : Act} {d : Tmp} (h : d < a.tmps.size) (v : Value) : (a.put (some d) v).tmps.getD d undef = v := by simp [Act.put, h]
theorem getD_put_other {a : Act} {d : Option Tmp} {t : Tmp} (h : d ≠ some t) (v : Value) : (a.put d v).tmps.getD t undef = a.tmps.getD t undef := by
  cases d with
  | none => rfl
  | some d =>
    have hne : d ≠ t := fun e => h (by rw [e])
    simp only [Act.put, Array.getD_eq_getD_getElem?, Array.getElem?_setIfInBounds_ne hne]
theorem putsTo_size : ∀ (l : List Oper) (us : Nat → Value) (i : Nat) (a : Act), (putsTo l us i a).tmps.size = a.tmps.size ∧ (putsTo l us i a).defers = a.defers
  | [], _, _, _ => ⟨rfl, rfl⟩
  | o :: l, us, i, a => by
    have h := putsTo_size l us (i + 1) (a.put o.dst (us i))
    have h2 := put_size a o.dst (us i)
    exact ⟨h.1.trans h2.1, h.2.trans h2.2⟩
theorem putsTo_other {t : Tmp} : ∀ (l : List Oper) (us : Nat → Value) (i : Nat) (a : Act), (∀ o ∈ l, o.dst ≠ some t) → (putsTo l us i a).tmps.getD t undef = a.tmps.getD t undef
  | [], _, _, _, _ => rfl
  | o :: l, us, i, a, h => by
    rw [putsTo, putsTo_other l us (i + 1) _ (fun o' ho' => h o' (by simp [ho'])), getD_put_other (h o (by simp))]
theorem putsTo_hit {d : Tmp} : ∀ (l : List Oper) (us : Nat → Value) (i j : Nat) (a : Act) (o : Oper), l[j]? = some o → o.dst = some d → d < a.tmps.size → (∀ k (o' : Oper), j < k → l[k]? = some o' → o'.dst ≠ some d) → (putsTo l us i a).tmps.getD d undef = us (i + j)
  | [], _, _, _, _, _, h, _, _, _ => by simp at h
  | o :: l, us, i, 0, a, o', h, hd, hs, hk => by
    have : o = o' := by simpa using h
    subst this
    rw [putsTo, putsTo_other l us (i + 1) _ (fun o'' ho'' => ?_), hd, getD_put_self hs]
    · rfl
    · obtain ⟨k, hk1⟩ := List.mem_iff_getElem?.1 ho''
      exact hk (k + 1) o'' (by omega) (by simpa using hk1)
  | o :: l, us, i, j + 1, a, o', h, hd, hs, hk => by
    rw [putsTo, putsTo_hit l us (i + 1) j _ o' (by simpa using h) hd (by rw [(put_size _ _ _).1]; exact hs) (fun k o'' h1 h2 => hk (k + 1) o'' (by omega) (by simpa using h2))]
    congr 1
    omega
theorem dstOk_at {ops : Array Oper} {n i : Nat} (h : dstOk ops n = true) (hi : i < n) : ∃ o d, ops[i]? = some o ∧ o.dst = some d ∧ (∀ e ∈ o.after, e.on < i) ∧ ∀ j (oj : Oper), j < i → ops[j]? = some oj → oj.dst ≠ some d := by
  have h1 := List.all_eq_true.1 h i (List.mem_range.2 hi)
  split at h1
  · rename_i o ho
    simp only [Bool.and_eq_true] at h1
    obtain ⟨⟨h2, h3⟩, h4⟩ := h1
    obtain ⟨d, hd⟩ := Option.isSome_iff_exists.1 h2
    refine ⟨o, d, ho, hd, fun e he => ?_, fun j oj hj hoj hdj => ?_⟩
    · have := Array.all_eq_true'.1 h3 e he
      simpa using this
    · have := List.all_eq_true.1 h4 j (List.mem_range.2 hj)
      simp [hoj, hdj, hd] at this
  · cases h1
structure Inv (ops : Array Oper) (n : Nat) (a0 : Act) (w0 : World) (Ext : World → World → Prop) (R : Nat → Value → World → Prop) (listed : Array Bool) (a : Act) (w : World) : Prop where
  head : HeadInv .any ops n listed
  ext : Ext w0 w
  defers : a.defers = a0.defers
  size : a.tmps.size = a0.tmps.size
  free : ∀ t, (∀ k (ok : Oper), k < n → ops[k]? = some ok → listed.getD k false = true → ok.dst ≠ some t) → a.tmps.getD t undef = a0.tmps.getD t undef
  told : ∀ i (o : Oper) d, i < n → ops[i]? = some o → o.dst = some d → listed.getD i false = true → R i (a.tmps.getD d undef) w
theorem getD_set_self (listed : Array Bool) {i : Nat} (h : i < listed.size) : (listed.setIfInBounds i true).getD i false = true := by simp [h]
/-- One operation more. -/
theorem Inv.step {n : Nat} {a0 : Act} {w0 : World} {Ext : World → World → Prop} {R : Nat → Value → World → Prop} {listed : Array Bool} {a : Act} {w : World}
    (htr : ∀ x y z : World, Ext x y → Ext y z → Ext x z) (hmono : ∀ i v x y, Ext x y → R i v x → R i v y) (hD : dstOk ops n = true) (hfit : ∀ i (o : Oper) d, i < n → ops[i]? = some o → o.dst = some d → d < a0.tmps.size)
    (inv : Inv ops n a0 w0 Ext R listed a w) {i : Nat} (hi : i ∈ Region.ready .any ops listed) (hin : i < n) {o : Oper} (ho : ops[i]? = some o) {v : Value} {w' : World} (he : Ext w w') (hR : R i v w') :
    Inv ops n a0 w0 Ext R (listed.setIfInBounds i true) (a.put o.dst v) w' := by
  have hps := put_size a o.dst v
  obtain ⟨o1, d, ho1, hd, _, hlow⟩ := dstOk_at hD hin
  have : o1 = o := Option.some.inj (ho1.symm.trans ho)
  subst this
  have hne : ∀ j (oj : Oper), j < n → j ≠ i → ops[j]? = some oj → oj.dst ≠ some d := by
    intro j oj hj hji hoj hdj
    rcases Nat.lt_or_ge j i with hlt | hge
    · exact hlow j oj hlt hoj hdj
    · obtain ⟨o2, d2, ho2, hd2, _, hl2⟩ := dstOk_at hD hj
      have : o2 = oj := Option.some.inj (ho2.symm.trans hoj)
      subst this
      have : d2 = d := Option.some.inj (hd2.symm.trans hdj)
      subst this
      exact hl2 i o1 (by omega) ho hd
  have hisz : i < listed.size := by rw [inv.head.size]; exact (Array.getElem?_eq_some_iff.1 ho).1
  refine ⟨inv.head.set hi hin, htr _ _ _ inv.ext he, hps.2.trans inv.defers, hps.1.trans inv.size, fun t ht => ?_, fun j oj dj hj hoj hdj hl => ?_⟩
  · have h1 : o1.dst ≠ some t := ht i o1 hin ho (getD_set_self _ hisz)
    rw [getD_put_other h1]
    exact inv.free t (fun k ok hk hok hlk => ht k ok hk hok (getD_set_true hlk))
  · by_cases hji : j = i
    · subst hji
      have : oj = o1 := Option.some.inj (hoj.symm.trans ho)
      subst this
      have : dj = d := Option.some.inj (hdj.symm.trans hd)
      subst this
      rw [hd, getD_put_self (by rw [inv.size]; exact hfit j oj dj hj hoj hdj)]
      exact hR
    · rw [getD_set_ne false (fun h => hji h.symm)] at hl
      rw [getD_put_other (by rw [hd]; intro h; injection h with h; exact hne j oj hj hji hoj (by rw [hdj, h]))]
      exact hmono _ _ _ _ he (inv.told j oj dj hj hoj hdj hl)
/-- What was listed first. -/
theorem Inv.start {n : Nat} {a0 : Act} {w0 w : World} {Ext : World → World → Prop} {R : Nat → Value → World → Prop} (he : Ext w0 w) : Inv ops n a0 w0 Ext R (Array.replicate ops.size false) a0 w := by
  refine ⟨⟨by simp, fun j oj hj hl => ?_, fun t _ ht => ?_⟩, he, rfl, rfl, fun _ _ => rfl, fun i o d _ _ _ hl => ?_⟩
  · rw [getD_replicate_false] at hl; cases hl
  · exact getD_in (by simpa using ht) (getD_replicate_false _ _)
  · rw [getD_replicate_false] at hl; cases hl
theorem relB_parts {n : Nat} (hB : relB ops n = true) : n ≤ ops.size ∧ (n = ops.size ∨ (Region.sinkB .any ops n = true ∧ Region.chainB .any ops n = true)) ∧ Region.seqB .any ops (ops.size - n) n (listedTo n ops.size) = true ∧ dstOk ops n = true := by
  simp only [relB, Bool.and_eq_true, Bool.or_eq_true, decide_eq_true_eq] at hB
  exact ⟨hB.1.1.1, hB.1.1.2, hB.1.2, hB.2⟩
theorem all_listed {n : Nat} {listed : Array Bool} (inv : HeadInv .any ops n listed) (h : ∀ i, i < n → listed.getD i true = true) (hn : n ≤ ops.size) : listed = listedTo n ops.size := by
  apply Array.ext
  · simp [listedTo, inv.size]
  · intro i h1 h2
    have hi : i < ops.size := by rw [← inv.size]; exact h1
    have e : (listedTo n ops.size)[i] = decide (i < n) := by simp [listedTo]
    rw [e]
    by_cases hin : i < n
    · have := h i hin
      simp [h1] at this
      simp [this, hin]
    · have := inv.tail i (by omega) hi
      simp [h1] at this
      simp [this, hin]
/-- The values as they stand in the slots, laid one behind the other. -/
theorem puts_of {n : Nat} {l : List Oper} {a0 a : Act} {w0 w : World} {Ext : World → World → Prop} {R : Nat → Value → World → Prop} {listed : Array Bool} (hn : n ≤ l.length) (hD : dstOk l.toArray n = true) (hfit : ∀ i (o : Oper) d, i < n → l.toArray[i]? = some o → o.dst = some d → d < a0.tmps.size)
    (inv : Inv l.toArray n a0 w0 Ext R listed a w) (hall : ∀ i, i < n → listed.getD i false = true) :
    ∃ us : Nat → Value, a = putsTo (l.take n) us 0 a0 ∧ ∀ i, i < n → R i (us i) w := by
  refine ⟨fun i => match l[i]? with | some o => (match o.dst with | some d => a.tmps.getD d undef | none => undef) | none => undef, ?_, fun i hi => ?_⟩
  · have hs := putsTo_size (l.take n) (fun i => match l[i]? with | some o => (match o.dst with | some d => a.tmps.getD d undef | none => undef) | none => undef) 0 a0
    obtain ⟨tm, df⟩ := a
    have h1 : df = (putsTo (l.take n) (fun i => match l[i]? with | some o => (match o.dst with | some d => tm.getD d undef | none => undef) | none => undef) 0 a0).defers := inv.defers.trans hs.2.symm
    have hsz : tm.size = (putsTo (l.take n) (fun i => match l[i]? with | some o => (match o.dst with | some d => tm.getD d undef | none => undef) | none => undef) 0 a0).tmps.size := inv.size.trans hs.1.symm
    have h2 : tm = (putsTo (l.take n) (fun i => match l[i]? with | some o => (match o.dst with | some d => tm.getD d undef | none => undef) | none => undef) 0 a0).tmps := by
      apply Array.ext hsz
      intro t ht1 ht2
      have key : tm.getD t undef = (putsTo (l.take n) (fun i => match l[i]? with | some o => (match o.dst with | some d => tm.getD d undef | none => undef) | none => undef) 0 a0).tmps.getD t undef := by
        by_cases hex : ∃ j o, j < n ∧ l[j]? = some o ∧ o.dst = some t
        · obtain ⟨j, o, hj, ho, hd⟩ := hex
          have hts : t < a0.tmps.size := hfit j o t hj (by simpa using ho) hd
          rw [putsTo_hit (l.take n) _ 0 j a0 o (by rw [List.getElem?_take_of_lt hj]; exact ho) hd hts (fun k o' hjk hk => ?_)]
          · simp [ho, hd]
          · intro hd'
            have hkn : k < n := by
              rcases Nat.lt_or_ge k n with h | h
              · exact h
              · rw [List.getElem?_take_eq_none h] at hk; cases hk
            rw [List.getElem?_take_of_lt hkn] at hk
            obtain ⟨o2, d2, ho2, hd2, _, hl2⟩ := dstOk_at hD hkn
            have : o2 = o' := Option.some.inj (ho2.symm.trans (by simpa using hk))
            subst this
            have : d2 = t := Option.some.inj (hd2.symm.trans hd')
            subst this
            exact hl2 j o hjk (by simpa using ho) hd
        · rw [putsTo_other _ _ _ _ (fun o ho hd => ?_)]
          · exact inv.free t (fun k ok hk hok _ hd => hex ⟨k, ok, hk, by simpa using hok, hd⟩)
          · obtain ⟨j, hj⟩ := List.mem_iff_getElem?.1 ho
            have hjn : j < n := by
              rcases Nat.lt_or_ge j n with h | h
              · exact h
              · rw [List.getElem?_take_eq_none h] at hj; cases hj
            rw [List.getElem?_take_of_lt hjn] at hj
            exact hex ⟨j, o, hjn, hj, hd⟩
      have e2 : ∀ (xs : Array Value) (h : t < xs.size), xs.getD t undef = xs[t] := fun xs h => by simp [h]
      rw [e2 _ ht1, e2 _ ht2] at key
      exact key
    generalize putsTo (l.take n) (fun i => match l[i]? with | some o => (match o.dst with | some d => tm.getD d undef | none => undef) | none => undef) 0 a0 = b at h1 h2
    obtain ⟨tb, db⟩ := b
    simp only at h1 h2
    rw [h1, h2]
  · obtain ⟨o, d, ho, hd, _⟩ := dstOk_at hD hi
    have ho' : l[i]? = some o := by simpa using ho
    have := inv.told i o d hi ho hd (hall i hi)
    simpa [ho', hd] using this
theorem rel_main {l : List Oper} {n : Nat} {a0 : Act} {w0 : World} {Ext : World → World → Prop} {R : Nat → Value → World → Prop} {Q : Exit → Act → World → Prop}
    (hrefl : ∀ x : World, Ext x x) (htr : ∀ x y z : World, Ext x y → Ext y z → Ext x z) (hmono : ∀ i v x y, Ext x y → R i v x → R i v y) (hB : relB l.toArray n = true) (hfit : ∀ i (o : Oper) d, i < n → l.toArray[i]? = some o → o.dst = some d → d < a0.tmps.size)
    (hstep : ∀ i (o : Oper), i < n → l.toArray[i]? = some o → RelStep P l.toArray Q a0 w0 Ext R n i o)
    (hend : ∀ (us : Nat → Value) w, Ext w0 w → (∀ i, i < n → R i (us i) w) → wpList P l.toArray Q (l.drop n) (putsTo (l.take n) us 0 a0) w) :
    ∀ (c : Nat) (listed : Array Bool) (a : Act) (w : World), (List.range n).countP (fun i => !listed.getD i true) = c → Inv l.toArray n a0 w0 Ext R listed a w → wpAny P .any l.toArray Q (c + (l.length - n)) listed a w := by
  obtain ⟨hn, hsc, hseq, hD⟩ := relB_parts hB
  have hn' : n ≤ l.length := by simpa using hn
  intro c
  induction c with
  | zero =>
    intro listed a w hc inv
    have hall : ∀ i, i < n → listed.getD i true = true := by
      intro i hi
      have h1 := List.countP_eq_zero.1 hc i (List.mem_range.2 hi)
      simpa using h1
    have hall' : ∀ i, i < n → listed.getD i false = true := by
      intro i hi
      have h1 := hall i hi
      have h2 : i < listed.size := by rw [inv.head.size]; simp; omega
      simp [h2] at h1 ⊢
      exact h1
    obtain ⟨us, ha, hus⟩ := puts_of hn' hD hfit inv hall'
    have hl := all_listed inv.head hall hn
    subst hl
    rw [ha]
    have hlen : 0 + (l.length - n) = (l.drop n).length := by simp
    rw [hlen]
    exact wpAny_of_seq (l.drop n) n _ _ _ (fun j => by simp) (by simpa using hseq) (hend us w inv.ext hus)
  | succ c ih =>
    intro listed a w hc inv
    have hex : ∃ i, i < n ∧ listed.getD i true = false := by
      apply Decidable.byContradiction
      intro hno
      have : (List.range n).countP (fun i => !listed.getD i true) = 0 := by
        apply List.countP_eq_zero.2
        intro i hi
        have hi' := List.mem_range.1 hi
        simp only [Bool.not_eq_true', Bool.not_eq_false]
        cases h : listed.getD i true with
        | true => rfl
        | false => exact absurd ⟨i, hi', h⟩ hno
      omega
    have hlow : ∀ i ∈ Region.ready .any l.toArray listed, i < n := by
      intro i hi
      obtain ⟨j, hj, hjl⟩ := hex
      rcases Nat.lt_or_ge i n with h | h
      · exact h
      · rcases hsc with hsz | ⟨hs, hch⟩
        · have := (Array.getElem?_eq_some_iff.1 (mem_ready.1 hi).2.choose_spec.1).1
          omega
        · have hlt : n < l.toArray.size := by
            have := (Array.getElem?_eq_some_iff.1 (mem_ready.1 hi).2.choose_spec.1).1
            omega
          exact absurd hi (tail_waits hs hch hlt inv.head (n - j) j rfl hj hjl i h)
    have hsome : Region.ready .any l.toArray listed ≠ [] := by
      intro hno
      -- the least that isn't listed is ready
      have least : ∀ k, k ≤ n → (∀ i, i < k → listed.getD i true = true) := by
        intro k
        induction k with
        | zero => intro _ i hi; omega
        | succ k ihk =>
          intro hk i hi
          by_cases hik : i < k
          · exact ihk (by omega) i hik
          · have : i = k := by omega
            subst this
            cases hli : listed.getD i true with
            | true => rfl
            | false =>
              obtain ⟨o, d, ho, hd, hed, _⟩ := dstOk_at hD (show i < n by omega)
              have : i ∈ Region.ready .any l.toArray listed := by
                refine mem_ready.2 ⟨hli, o, ho, fun e he _ => ?_⟩
                have h1 := ihk (by omega) e.on (hed e he)
                have h2 : e.on < listed.size := by rw [inv.head.size]; have := hed e he; simp; omega
                simp [h2] at h1 ⊢
                exact h1
              rw [hno] at this
              cases this
      obtain ⟨i, hi, hli⟩ := hex
      rw [least n (Nat.le_refl _) i hi] at hli
      cases hli
    have hf : c + 1 + (l.length - n) = (c + (l.length - n)) + 1 := by omega
    rw [hf]
    refine ⟨fun h => absurd h hsome, fun i hi => ?_⟩
    have hin := hlow i hi
    obtain ⟨hun, o, ho, hdeps⟩ := mem_ready.1 hi
    obtain ⟨o', d', ho', _, hed, _⟩ := dstOk_at hD hin
    have : o' = o := Option.some.inj (ho'.symm.trans ho)
    subst this
    have hst := hstep i o' hin ho a w inv.ext (fun t ht => inv.free t (fun k ok hk hok _ => ht k ok hk hok))
      (fun e he hb oe d hoe hd => inv.told e.on oe d (by have := hed e he; omega) hoe hd (hdeps e he hb))
    have go : ∀ (v : Value) (w' : World), Ext w w' → R i v w' → wpAny P .any l.toArray Q (c + (l.length - n)) (listed.setIfInBounds i true) (a.put o'.dst v) w' := by
      intro v w' he hR
      refine ih _ _ _ ?_ (inv.step htr hmono hD hfit hi hin ho he hR)
      have hisz : i < listed.size := by rw [inv.head.size]; exact (Array.getElem?_eq_some_iff.1 ho).1
      have := count_set (fun j => !listed.getD j true) (fun j => !(listed.setIfInBounds i true).getD j true) n i hin (by simp only [hun]; rfl) (by simp [hisz]) (fun j hj => by
        show (!(listed.setIfInBounds i true).getD j true) = !listed.getD j true
        rw [getD_set_ne true (fun h => hj h.symm)])
      omega
    unfold wpOp
    rw [ho]
    dsimp only
    by_cases hw : Region.wanted o' (yielded l.toArray a.tmps) = true
    · rw [if_pos hw] at hst ⊢
      refine .inl (Oper.wp_mono (fun a' w' h => ?_) hst)
      obtain ⟨v, rfl, he, hR⟩ := h
      exact go v w' he hR
    · rw [if_neg hw] at hst ⊢
      exact go undef w (hrefl w) hst
/-- THE RULE. -/
theorem wp_region_rel {id : Nat} {l : List Oper} {a : Act} {w : World} {Q : Exit → Act → World → Prop} (n : Nat) (Ext : World → World → Prop) (R : Nat → Value → World → Prop) (hm : P.follows .mixedOrders = true) (hB : relB l.toArray n = true)
    (hrefl : ∀ x : World, Ext x x) (htr : ∀ x y z : World, Ext x y → Ext y z → Ext x z) (hmono : ∀ i v x y, Ext x y → R i v x → R i v y) (hdrew : Ext w w.drew)
    (hfit : ∀ i (o : Oper) d, i < n → l.toArray[i]? = some o → o.dst = some d → d < a.tmps.size)
    (hstep : ∀ i (o : Oper), i < n → l.toArray[i]? = some o → RelStep P l.toArray Q a w Ext R n i o)
    (hend : ∀ (us : Nat → Value) w', Ext w w' → (∀ i, i < n → R i (us i) w') → wpList P l.toArray Q (l.drop n) (putsTo (l.take n) us 0 a) w') :
    (Code.region id l.toArray true).wp P Q a w := by
  refine wp_region_any hm ?_
  have hn : n ≤ l.length := by simpa using (relB_parts hB).1
  have hc : (List.range n).countP (fun i => !(Array.replicate l.toArray.size false).getD i true) = n := by
    rw [List.countP_eq_length.2]
    · simp
    · intro i hi
      have := List.mem_range.1 hi
      have h2 : i < l.length := by omega
      simp [h2]
  have := rel_main (P := P) (Q := Q) hrefl htr hmono hB hfit hstep hend n (Array.replicate l.toArray.size false) a w.drew hc (Inv.start hdrew)
  have e : n + (l.length - n) = l.toArray.size := by simp; omega
  rw [e] at this
  exact this
def StepsFrom (P : Program) (ops : Array Oper) (Q : Exit → Act → World → Prop) (a0 : Act) (w0 : World) (Ext : World → World → Prop) (R : Nat → Value → World → Prop) (n : Nat) : Nat → List Oper → Prop
  | _, [] => True
  | i, o :: r => (i < n → RelStep P ops Q a0 w0 Ext R n i o) ∧ StepsFrom P ops Q a0 w0 Ext R n (i + 1) r
theorem StepsFrom.at {ops : Array Oper} {Q : Exit → Act → World → Prop} {a0 : Act} {w0 : World} {Ext : World → World → Prop} {R : Nat → Value → World → Prop} {n : Nat} : ∀ (l : List Oper) (k : Nat), StepsFrom P ops Q a0 w0 Ext R n k l → ∀ i (o : Oper), k + i < n → l[i]? = some o → RelStep P ops Q a0 w0 Ext R n (k + i) o
  | [], _, _, i, o, _, h => by simp at h
  | o :: r, k, hs, 0, o', hi, h => by
    have : o = o' := by simpa using h
    subst this
    exact hs.1 hi
  | o :: r, k, hs, i + 1, o', hi, h => by
    have := StepsFrom.at r (k + 1) hs.2 i o' (by omega) (by simpa using h)
    have e : k + 1 + i = k + (i + 1) := by omega
    rw [e] at this
    exact this
theorem steps_all {l : List Oper} {Q : Exit → Act → World → Prop} {a0 : Act} {w0 : World} {Ext : World → World → Prop} {R : Nat → Value → World → Prop} {n : Nat} (h : StepsFrom P l.toArray Q a0 w0 Ext R n 0 l) : ∀ i (o : Oper), i < n → l.toArray[i]? = some o → RelStep P l.toArray Q a0 w0 Ext R n i o := by
  intro i o hi ho
  have := StepsFrom.at l 0 h i o (by omega) (by simpa using ho)
  simpa using this
theorem yielded_of {ops : Array Oper} {tm : Array Value} {j d : Nat} {b : Bool} (hd : (ops[j]?).bind (·.dst) = some d) (h : tm.getD d undef = .bool b) : yielded ops tm j = some b := by
  have h1 : tm[d]? = some (.bool b) := by
    rw [Array.getD_eq_getD_getElem?] at h
    cases hx : tm[d]? with
    | none => rw [hx] at h; cases h
    | some x => rw [hx] at h; simp at h; rw [h]
  unfold yielded
  rw [hd]
  simp [h1]
theorem fits_all {l : List Oper} {n m : Nat} (h : ((l.take n).all fun o => (o.dst.map fun d => decide (d < m)).getD true) = true) : ∀ i (o : Oper) d, i < n → l.toArray[i]? = some o → o.dst = some d → d < m := by
  intro i o d hi ho hd
  have ho' : (l.take n)[i]? = some o := by rw [List.getElem?_take_of_lt hi]; simpa using ho
  have := List.all_eq_true.1 h o (List.mem_iff_getElem?.2 ⟨i, ho'⟩)
  simpa [hd] using this
theorem slotEq {a : Act} {t : Tmp} {v : Value} (h : a.tmps.getD t undef = v) : a.tmps[t]?.getD undef = v := by rw [← Array.getD_eq_getD_getElem?]; exact h
theorem free_of {l : List Oper} {n t : Nat} (h : ((l.take n).all fun o => o.dst != some t) = true) : ∀ k (ok : Oper), k < n → l.toArray[k]? = some ok → ok.dst ≠ some t := by
  intro k ok hk hok hd
  have hok' : (l.take n)[k]? = some ok := by rw [List.getElem?_take_of_lt hk]; simpa using hok
  have := List.all_eq_true.1 h ok (List.mem_iff_getElem?.2 ⟨k, hok'⟩)
  simp [hd] at this
theorem rel_val {o : Oper} {a : Act} {w w1 : World} {Q : Exit → Act → World → Prop} {Ext : World → World → Prop} {S : Value → World → Prop} (v : Value) (hrun : (execOp a.eval o).run P w = .ok (.value v) w1) (he : Ext w w1) (hR : S v w1) :
    Oper.wp P o a w (fun a' w' => ∃ v, a' = a.put o.dst v ∧ Ext w w' ∧ S v w') Q := by
  unfold Oper.wp
  rw [hrun]
  exact ⟨v, rfl, he, hR⟩
theorem rel_call {o : Oper} {a : Act} {w : World} {Q : Exit → Act → World → Prop} {Ext : World → World → Prop} {S : Value → World → Prop} {f : FuncId} {fn : Func} {as : Array Operand} {ts : Array TypeId} (hf : P.funcs[f]? = some fn) (hname : (fn.name == "runtime.NumGoroutine") = false) (hb : fn.body.isSome = true) (args : Array Value)
    (hop : o.op = .call { callee := .value (.func f), args := as, argTypes := ts }) (hargs : as.map a.eval = args)
    (h : Calls P f args w fun e w' => ∃ v, e = .returned v ∧ Ext w w' ∧ S v w') : Oper.wp P o a w (fun a' w' => ∃ v, a' = a.put o.dst v ∧ Ext w w' ∧ S v w') Q := by
  have h1 : fn.name ≠ "runtime.NumGoroutine" := by simpa using hname
  obtain ⟨c, hc⟩ := Option.isSome_iff_exists.1 hb
  have he : (callFunc f args).run P w = .ok (.enter f args) w := by simp [callFunc, hf, h1, hc]
  have hrun : (execOp a.eval o).run P w = .ok (.enter f args) w := by
    unfold execOp
    simp [hop, resolve, Deferred.ofValue, invoke, Act.eval, hargs, he]
  unfold Oper.wp
  rw [hrun, Oper.upon_enter]
  refine h.mono fun e w' hh => ?_
  obtain ⟨v, rfl, he, hr⟩ := hh
  exact ⟨v, rfl, he, hr⟩
theorem wanted_none {o : Oper} {y : Nat → Option Bool} (h : o.guard = none) : Region.wanted o y = true := by unfold Region.wanted; rw [h]
theorem wanted_some {o : Oper} {ops : Array Oper} {tm : Array Value} {j d : Nat} {b : Bool} (h : o.guard = some (j, b)) (hd : (ops[j]?).bind (·.dst) = some d) (hv : tm.getD d undef = .bool b) : Region.wanted o (yielded ops tm) = true := by
  unfold Region.wanted
  rw [h]
  simp [yielded_of hd hv]
end
end Go.Proofs.Ythmcbcofipehhaa.Reg
