import Derived.Test.YthmcbcofipehhaaHFit
import Derived.Test.YthmcbcofipehhaaHMk
import Derived.StillTailTactics
import Derived.Deep.RegionLaw
namespace Go.Proofs.Ythmcbcofipehhaa.B
open Go.RowKit Go.Proofs.YthmcbcofipehhaaW.PrintWords Go.Proofs.YthmcbcofipehhaaW.PrintLast Go.Proofs.YthmcbcofipehhaaW.PrintMore
set_option linter.unusedVariables false
set_option linter.unusedSimpArgs false

/-! ### a builder: its record, its bytes, its open parts; blocks are told apart by their types -/
def bty (t : TypeId) : Prop := t = 85 ∨ t = 5 ∨ t = 108
/-- New blocks; of the elder ones those of other types stay. -/
structure Fr (w w' : World) : Prop where
  size : w.heap.size ≤ w'.heap.size
  blk : ∀ (i : Nat) (o : Obj), w.heap[i]? = some o → (∀ cs t fr, o = .cells cs t fr → ¬ bty t) → w'.heap[i]? = some o
theorem Fr.refl (w : World) : Fr w w := ⟨Nat.le_refl _, fun _ _ h _ => h⟩
theorem Fr.trans {w w1 w2 : World} (h : Fr w w1) (k : Fr w1 w2) : Fr w w2 := ⟨Nat.le_trans h.size k.size, fun i o ho hn => k.blk i o (h.blk i o ho hn) hn⟩
theorem Fr.of_below {w w1 : World} (h : Below w.heap.size w w1) : Fr w w1 := ⟨h.size, fun i o ho _ => blk_below ho h⟩
theorem Fr.blkc {w w1 : World} (h : Fr w w1) {g : Nat} {cs : Array Value} {t : TypeId} (hb : w.heap[g]? = some (.cells cs t (0, 0))) (ht : ¬ bty t) : w1.heap[g]? = some (.cells cs t (0, 0)) :=
  h.blk g _ hb (fun cs' t' fr e => by injection e with _ e; rw [← e]; exact ht)
theorem Fr.set {w w1 : World} (h : Fr w w1) {g : Nat} {cs : Array Value} {t : TypeId} (hb : w1.heap[g]? = some (.cells cs t (0, 0))) (ht : bty t) (j : Nat) (u : Value) : Fr w (w1.setCell ⟨g, j, none⟩ u) :=
  h.trans ⟨by simp [World.setCell], fun i o ho hn => (Below.heap_setCell w1 ⟨g, j, none⟩ u i (fun e => by have e : i = g := e; subst e; rw [hb] at ho; injection ho with ho; exact hn _ _ _ ho.symm ht)).trans ho⟩
theorem Fr.grown {w w1 w2 : World} (h : Fr w w1) {row : Option Nat} (hg : w1.grownBy w2 row) (hrow : ∀ k, row = some k → ∃ cs t, w1.heap[k]? = some (.cells cs t (0, 0)) ∧ bty t) : Fr w w2 :=
  h.trans ⟨hg.size, fun i o ho hn => (hg.block i (blk_lt ho) (fun e => by obtain ⟨cs, t, hc, ht⟩ := hrow i e.symm; rw [ho] at hc; injection hc with hc; exact hn _ _ _ hc ht)).trans ho⟩
/-- Two numbers. -/
def pk : Kd (Int × Int) where
  sz := 2
  E := []
  K := fun _ x cs => cs = [.int .i64 x.1, .int .i64 x.2]
  M := fun _ _ _ x cs => cs = [.int .i64 x.1, .int .i64 x.2]
  K_len := fun h => by rw [h]; rfl
  K_one := fun h u hu => by
    rw [h] at hu
    rcases List.mem_cons.1 hu with rfl | hu
    · rfl
    · rw [List.mem_singleton.1 hu]; rfl
  K_below := fun _ h => h
  K_of_M := fun h => h
  M_mono := fun _ h => h
  M_bound := fun h => h
  M_move := fun _ h => h
  M_lower := fun _ h => h
structure Bld (w0 w : World) (g : Nat) (m : Int) (bs : List Int) (os : List (Int × Int)) : Prop where
  below : Below w0.heap.size w0 w
  lo : w0.heap.size ≤ g
  blk : ∃ A1 c1 A2 c2, w.heap[g]? = some (.cells #[.slice A1 bs.length c1, .int .i64 m, .slice A2 os.length c2] 85 (0, 0)) ∧ (Kd.int .u8).R 5 w w0.heap.size (fun k => w0.heap.size ≤ k) (.slice A1 bs.length c1) bs ∧ bs.length ≤ c1 ∧ pk.R 108 w w0.heap.size (fun k => w0.heap.size ≤ k) (.slice A2 os.length c2) os ∧ os.length ≤ c2
theorem Bld.of_below {w0 w w1 : World} {g : Nat} {m : Int} {bs : List Int} {os : List (Int × Int)} (h : Bld w0 w g m bs os) (hb : Below w.heap.size w w1) : Bld w0 w1 g m bs os := by
  obtain ⟨h1, h2, A1, c1, A2, c2, h3, h4, h5, h6, h7⟩ := h
  exact ⟨below_step h1 hb, h2, A1, c1, A2, c2, blk_below h3 hb, Kd.R_below h4 hb, h5, Kd.R_below h6 hb, h7⟩
theorem R_apart {α β : Type} {d : Kd α} {d' : Kd β} {e e' : Nat} {w w1 : World} {base base' : Nat} {ok ok' : Nat → Prop} {v v' : Value} {xs : List α} {ys : List β} (h : d.R e w base ok v xs) (h' : d'.R e' w base' ok' v' ys) (hne : ∀ q, q ∈ e :: d.E → q ≠ e') (hg : w.grownBy w1 v'.ownBlock) : d.R e w1 base ok v xs :=
  Kd.R_mono (Kd.R_move (Kd.R_bound h) (fun k hk => hg.block k hk.2.2.1 (fun he => by
    obtain ⟨inner, ho⟩ := Kd.R_own h'
    obtain ⟨cells, hc⟩ := own_typed ho k he.symm
    obtain ⟨_, _, _, q, hq, cells', hc'⟩ := hk
    rw [hc] at hc'
    injection hc' with hc'
    injection hc' with _ hc'
    exact hne q hq hc'.symm))) (fun k hk => hk.1)
theorem R_rowty {α : Type} {d : Kd α} {e : Nat} {w : World} {base : Nat} {ok : Nat → Prop} {v : Value} {xs : List α} (h : d.R e w base ok v xs) (ht : bty e) : ∀ k, v.ownBlock = some k → ∃ cs t, w.heap[k]? = some (.cells cs t (0, 0)) ∧ bty t := by
  intro k hk
  obtain ⟨inner, ho⟩ := Kd.R_own h
  obtain ⟨cells, hc⟩ := own_typed ho k hk
  exact ⟨cells, e, hc, ht⟩
/-- Its bytes have been written, and are laid back. -/
theorem Bld.bytes {w0 w w1 : World} {g : Nat} {m : Int} {bs bs' : List Int} {os : List (Int × Int)} {A1 A2 : Option Addr} {c1 c2 : Nat} {v1 : Value} (hlo : w0.heap.size ≤ g)
    (BK : w.heap[g]? = some (.cells #[.slice A1 bs.length c1, .int .i64 m, .slice A2 os.length c2] 85 (0, 0))) (R1 : (Kd.int .u8).R 5 w w0.heap.size (fun k => w0.heap.size ≤ k) (.slice A1 bs.length c1) bs)
    (R2 : pk.R 108 w w0.heap.size (fun k => w0.heap.size ≤ k) (.slice A2 os.length c2) os) (hc2 : os.length ≤ c2) (hb : Below w0.heap.size w0 w1) (h : (Kd.int .u8).R 5 w1 w0.heap.size (fun k => w0.heap.size ≤ k) v1 bs') (hg : w.grownBy w1 (Value.slice A1 bs.length c1).ownBlock) :
    Bld w0 (w1.setCell ⟨g, 0, none⟩ v1) g m bs' os ∧ Fr w (w1.setCell ⟨g, 0, none⟩ v1) := by
  have hne := Kd.R_ne R1 BK (by decide)
  have BK1 := blk_grown BK hg hne
  obtain ⟨A', c', rfl, hc', _⟩ := Kd.R_reads h
  have R2' := R_apart R2 R1 (fun q hq => by simp [pk] at hq; subst hq; decide) hg
  refine ⟨⟨below_set hb hlo, hlo, A', c', A2, c2, blk_put BK1 0 _ rfl, Kd.R_set h BK1 (fun q hq => ?_) 0 _, hc', Kd.R_set R2' BK1 (fun q hq => ?_) 0 _, hc2⟩, ?_⟩
  · simp [Kd.int, Kd.scalar] at hq; subst hq; decide
  · simp [pk] at hq; subst hq; decide
  · exact ((Fr.refl w).grown hg (R_rowty R1 (.inr (.inl rfl)))).set BK1 (.inl rfl) _ _
/-- Its parts have been written, and are laid back. -/
theorem Bld.parts {w0 w w1 : World} {g : Nat} {m : Int} {bs : List Int} {os os' : List (Int × Int)} {A1 A2 : Option Addr} {c1 c2 : Nat} {v1 : Value} (hlo : w0.heap.size ≤ g)
    (BK : w.heap[g]? = some (.cells #[.slice A1 bs.length c1, .int .i64 m, .slice A2 os.length c2] 85 (0, 0))) (R1 : (Kd.int .u8).R 5 w w0.heap.size (fun k => w0.heap.size ≤ k) (.slice A1 bs.length c1) bs)
    (R2 : pk.R 108 w w0.heap.size (fun k => w0.heap.size ≤ k) (.slice A2 os.length c2) os) (hc1 : bs.length ≤ c1) (hb : Below w0.heap.size w0 w1) (h : pk.R 108 w1 w0.heap.size (fun k => w0.heap.size ≤ k) v1 os') (hg : w.grownBy w1 (Value.slice A2 os.length c2).ownBlock) :
    Bld w0 (w1.setCell ⟨g, 2, none⟩ v1) g m bs os' ∧ Fr w (w1.setCell ⟨g, 2, none⟩ v1) := by
  have hne := Kd.R_ne R2 BK (by decide)
  have BK1 := blk_grown BK hg hne
  obtain ⟨A', c', rfl, hc', _⟩ := Kd.R_reads h
  have R1' := R_apart R1 R2 (fun q hq => by simp [Kd.int, Kd.scalar] at hq; subst hq; decide) hg
  refine ⟨⟨below_set hb hlo, hlo, A1, c1, A', c', blk_put BK1 2 _ rfl, Kd.R_set R1' BK1 (fun q hq => ?_) 2 _, hc1, Kd.R_set h BK1 (fun q hq => ?_) 2 _, hc'⟩, ?_⟩
  · simp [Kd.int, Kd.scalar] at hq; subst hq; decide
  · simp [pk] at hq; subst hq; decide
  · exact ((Fr.refl w).grown hg (R_rowty R2 (.inr (.inr rfl)))).set BK1 (.inl rfl) _ _
theorem bytes_blk {w w1 : World} {B g : Nat} {bs : List Int} {A1 : Option Addr} {c1 : Nat} {cs : Array Value} (BK : w.heap[g]? = some (.cells cs 85 (0, 0))) (R1 : (Kd.int .u8).R 5 w B (fun k => B ≤ k) (.slice A1 bs.length c1) bs) (hg : w.grownBy w1 (Value.slice A1 bs.length c1).ownBlock) : w1.heap[g]? = some (.cells cs 85 (0, 0)) :=
  blk_grown BK hg (Kd.R_ne R1 BK (by decide))
theorem parts_blk {w w1 : World} {B g : Nat} {os : List (Int × Int)} {A1 : Option Addr} {c1 : Nat} {cs : Array Value} (BK : w.heap[g]? = some (.cells cs 85 (0, 0))) (R1 : pk.R 108 w B (fun k => B ≤ k) (.slice A1 os.length c1) os) (hg : w.grownBy w1 (Value.slice A1 os.length c1).ownBlock) : w1.heap[g]? = some (.cells cs 85 (0, 0)) :=
  blk_grown BK hg (Kd.R_ne R1 BK (by decide))
set_option maxHeartbeats 1000000 in
theorem New_any (w0 w : World) (hb : Below w0.heap.size w0 w) :
    Calls Try.prog 38 #[.int .i64 1073741824] w fun e w' => ∃ g, e = .returned (.tuple #[.pointer (some ⟨g, 0, none⟩), .int .i64 0]) ∧ Bld w0 w' g 1073741824 [] [] ∧ Fr w w' := by
  have HB := Aside0.mk hb
  clear hb
  go_enter Try.func38, Try.ntmps38
  go_wp2
  go_ret2
  exact ⟨_, rfl, ⟨below_alloc HB.out _, HB.out.size, none, 0, none, 0, heap_alloc_new _ _, Kd.R_nil _ _ _ _ _, Nat.le_refl _, Kd.R_nil _ _ _ _ _, Nat.le_refl _⟩, Fr.of_below (below_alloc (Below.refl _ _) _)⟩
set_option maxHeartbeats 1000000 in
set_option maxRecDepth 100000 in
theorem BBytes_any (w0 w : World) (g : Nat) (m : Int) (bs : List Int) (os : List (Int × Int)) (x : List Int) (A : Option Addr) (c : Nat) (hb : Bld w0 w g m bs os) (hr : Kd.C (Kd.int .u8) w A x.length x) (hc : x.length ≤ c) (hm : m ≤ 1073741824) (hl : (bs.length : Int) + x.length ≤ m) :
    Calls Try.prog 54 #[.pointer (some ⟨g, 0, none⟩), .slice A x.length c] w fun e w' => e = .returned (.int .i64 0) ∧ Bld w0 w' g m (bs ++ x) os ∧ Fr w w' := by
  have hu85 := Try.underlying85
  obtain ⟨hbel, hlo, A1, c1, A2, c2, hblk, hR1, hc1, hR2, hc2⟩ := hb
  have hz0 : w.cell? ⟨g, 0, none⟩ = some (.slice A1 bs.length c1) := (blk_cell hblk 0).trans rfl
  have hz1 : w.cell? ⟨g, 1, none⟩ = some (.int .i64 m) := (blk_cell hblk 1).trans rfl
  have HR := Aside0.mk hr
  have HC := Aside0.mk hc
  have BL := Aside0.mk hbel
  have LO := Aside0.mk hlo
  have BK := Aside0.mk hblk
  have R1 := Aside0.mk hR1
  have R2 := Aside0.mk hR2
  have C2 := Aside0.mk hc2
  have HL := Aside0.mk hl
  have HM := Aside0.mk hm
  have hs : IntKind.i64.wrap (m - (bs.length : Int)) = m - (bs.length : Int) := IntWalk.i64_in _ (by omega)
  have hd : decide (m - (bs.length : Int) < (x.length : Int)) = false := decide_eq_false (by omega)
  clear hr hc hbel hlo hblk hR1 hR2 hc1 hc2 hl hm
  go_enter Try.func54, Try.ntmps54
  go_wp2
  go_quiet (fail)
  go_wp2_with (at_builtin; (refine Kd.R_append_rows (Kd.int .u8) (w0 := w0) w0.heap.size rfl _ _ 23 5 (.int .u8 0) 1 rfl Try.underlying23 info5' rfl (by decide) (by decide) _ bs x A x.length c (fun k => w0.heap.size ≤ k) (fun k => False) rfl rfl ?_ ?_ (fun _ _ h => h) (fun k hk => hk.elim) ?_ ?_ ?_ ?_ ?_); exact Kd.R_drewN R1.out _; exact Kd.C_drewN HR.out _; exact fun k hk => Nat.le_trans BL.out.size hk; exact pw_below_drewN BL.out _; exact BL.out.size; (have h1 := HL.out; have h2 := HM.out; omega); intro v1 w1 h1 h2 h3 h4; have H1 := Aside0.mk (Bld.bytes LO.out (blk_drewN BK.out _) (Kd.R_drewN R1.out _) (Kd.R_drewN R2.out _) C2.out h2 h1 h3); have BK1 := bytes_blk (blk_drewN BK.out _) (Kd.R_drewN R1.out _) h3; have hcz : w1.cell? ⟨g, 0, none⟩ = some (.slice A1 bs.length c1) := (blk_cell BK1 0).trans rfl; have hfz := blk_frozen BK1 0; obtain ⟨A3, c3, rfl, _, _⟩ := Kd.R_reads h1; clear BK1 h1 h2 h3 h4)
  go_ret
  have H := H1.out
  rw [List.length_append] at H
  exact ⟨rfl, H.1, (Fr.of_below (pw_below_drewN (Below.refl _ _) _)).trans H.2⟩
/-! ### a number's bytes -/
def dig (x : Int) (k : Nat) : Int := x / 256 ^ k % 256
/-- A number's last bytes, the highest first. -/
def be (s : Int) (x : Int) : List Int := (List.range s.toNat).reverse.map (dig x)
def c8 (x : Int) (i k : Nat) : Value := .int .u8 (if k < i then dig x k else 0)
def cells8 (x : Int) (i : Nat) : Array Value := #[c8 x i 7, c8 x i 6, c8 x i 5, c8 x i 4, c8 x i 3, c8 x i 2, c8 x i 1, c8 x i 0]
theorem results_c {P : Program} {fn : Func} {p : Tmp} {ty : TypeId} (h : fn.results = #[.cell p ty]) (tmps : Array Value) (w : World) (g : Nat) (t : TypeId) (cs : Array Value) (fr : Nat × Nat) (d : TypeDesc)
    (hp : tmps.getD p undef = .pointer (some ⟨g, 0, none⟩)) (hg : w.heap[g]? = some (.cells cs t fr))
    (hu : P.underlying ty = some d) (hd : (match d with | .struct _ | .array _ _ => true | _ => false) = true) (hi : (P.info? ty).map (·.size) = some cs.size) :
    (results fn tmps).run P w = .ok (.agg cs) w := by
  have hp' : tmps[p]?.getD undef = .pointer (some ⟨g, 0, none⟩) := by simpa using hp
  simp [results, h, hp', asAddr, run_loadVar_row w g t ty cs fr d hg hu hd hi]
def w8 (w : World) (g : Nat) (x : Int) : World := (((((((w.setCell ⟨g, 0, none⟩ (.int .u8 (dig x 7))).setCell ⟨g, 1, none⟩ (.int .u8 (dig x 6))).setCell ⟨g, 2, none⟩ (.int .u8 (dig x 5))).setCell ⟨g, 3, none⟩ (.int .u8 (dig x 4))).setCell ⟨g, 4, none⟩ (.int .u8 (dig x 3))).setCell ⟨g, 5, none⟩ (.int .u8 (dig x 2))).setCell ⟨g, 6, none⟩ (.int .u8 (dig x 1))).setCell ⟨g, 7, none⟩ (.int .u8 (dig x 0))
theorem blk8 {w : World} {g : Nat} {x : Int} (h : w.heap[g]? = some (.cells (cells8 x 0) 99 (0, 0))) : (w8 w g x).heap[g]? = some (.cells (cells8 x 8) 99 (0, 0)) := by
  have h0 := blk_put h 0 (.int .u8 (dig x 7)) rfl
  have h1 := blk_put h0 1 (.int .u8 (dig x 6)) rfl
  have h2 := blk_put h1 2 (.int .u8 (dig x 5)) rfl
  have h3 := blk_put h2 3 (.int .u8 (dig x 4)) rfl
  have h4 := blk_put h3 4 (.int .u8 (dig x 3)) rfl
  have h5 := blk_put h4 5 (.int .u8 (dig x 2)) rfl
  have h6 := blk_put h5 6 (.int .u8 (dig x 1)) rfl
  exact blk_put h6 7 (.int .u8 (dig x 0)) (by simp [cells8, c8])
theorem below8 {w W : World} (h : Below w.heap.size w W) {g : Nat} (hg : w.heap.size ≤ g) (x : Int) : Below w.heap.size w (w8 W g x) :=
  below_set (below_set (below_set (below_set (below_set (below_set (below_set (below_set h hg) hg) hg) hg) hg) hg) hg) hg
set_option maxHeartbeats 4000000 in
set_option maxRecDepth 100000 in
theorem lay_any (x : Int) (h0 : 0 ≤ x) (h1 : x ≤ 18446744073709551615) (w : World) :
    Calls Try.prog 67 #[.int .u64 x] w fun e w' => e = .returned (.agg (cells8 x 8)) ∧ Below w.heap.size w w' := by
  have hu99 := Try.underlying99
  have HB := Aside0.mk (Below.refl w.heap.size w)
  have H0 := Aside0.mk h0
  have H1 := Aside0.mk h1
  clear h0 h1
  go_enter Try.func67, Try.ntmps67
  go_wp2
  go_loopg [4, 5] (9) (fun kq v4 v5 w' => ∃ (i : Nat), v5 = .int .i64 i ∧ Aside0 (i ≤ 8) ∧ Aside0 (kq + i = 9) ∧ Aside0 (w'.heap[w.heap.size + 1]? = some (.cells (cells8 x i) 99 (0, 0))) ∧ Aside0 (w'.heap[w.heap.size]? = some (.cells (cells8 x 0) 99 (0, 0))) ∧ Aside0 (Below w.heap.size w w'))
  case atStart => exact ⟨0, rfl, ⟨by omega⟩, ⟨rfl⟩, ⟨box2 _ _ _⟩, ⟨blk_alloc (heap_alloc_new _ _) _⟩, ⟨below_alloc (below_alloc HB.out _) _⟩⟩
  case round =>
    clear HB
    obtain ⟨i, rfl, I8, HK, BK, B0, HB⟩ := hrel
    have hi := I8.out
    have hi : i = 0 ∨ i = 1 ∨ i = 2 ∨ i = 3 ∨ i = 4 ∨ i = 5 ∨ i = 6 ∨ i = 7 ∨ i = 8 := by omega
    rcases hi with rfl | rfl | rfl | rfl | rfl | rfl | rfl | rfl | rfl
    · obtain ⟨k1, rfl⟩ : ∃ m, gk = m + 1 := ⟨gk - 1, by have := HK.out; omega⟩
      have hz : wr.cell? ⟨w.heap.size + 1, 7, none⟩ = some (c8 x 0 0) := (blk_cell BK.out 7).trans rfl
      have hfz := blk_frozen BK.out 7
      have BK2 := Aside0.mk (blk_put BK.out 7 (.int .u8 ((x) % 256)) (show (cells8 x 0).setIfInBounds 7 (.int .u8 ((x) % 256)) = cells8 x 1 by simp [cells8, c8, dig]))
      have B02 := blk_far (p := ⟨w.heap.size + 1, 7, none⟩) B0.out (by simp) (.int .u8 ((x) % 256))
      have HB2 := Aside0.mk (below_set (g := w.heap.size + 1) (j := 7) (v := (.int .u8 ((x) % 256))) HB.out (by omega))
      go_wp2
      go_roundg (k1)
      case measure => have := HK.out; omega
      case rel => exact ⟨1, rfl, ⟨by omega⟩, ⟨by have := HK.out; omega⟩, BK2, ⟨B02⟩, HB2⟩
    · obtain ⟨k1, rfl⟩ : ∃ m, gk = m + 1 := ⟨gk - 1, by have := HK.out; omega⟩
      have hz : wr.cell? ⟨w.heap.size + 1, 6, none⟩ = some (c8 x 1 1) := (blk_cell BK.out 6).trans rfl
      have hfz := blk_frozen BK.out 6
      have BK2 := Aside0.mk (blk_put BK.out 6 (.int .u8 ((x / 256) % 256)) (show (cells8 x 1).setIfInBounds 6 (.int .u8 ((x / 256) % 256)) = cells8 x 2 by simp [cells8, c8, dig]))
      have B02 := blk_far (p := ⟨w.heap.size + 1, 6, none⟩) B0.out (by simp) (.int .u8 ((x / 256) % 256))
      have HB2 := Aside0.mk (below_set (g := w.heap.size + 1) (j := 6) (v := (.int .u8 ((x / 256) % 256))) HB.out (by omega))
      go_wp2
      go_roundg (k1)
      case measure => have := HK.out; omega
      case rel => exact ⟨2, rfl, ⟨by omega⟩, ⟨by have := HK.out; omega⟩, BK2, ⟨B02⟩, HB2⟩
    · obtain ⟨k1, rfl⟩ : ∃ m, gk = m + 1 := ⟨gk - 1, by have := HK.out; omega⟩
      have hz : wr.cell? ⟨w.heap.size + 1, 5, none⟩ = some (c8 x 2 2) := (blk_cell BK.out 5).trans rfl
      have hfz := blk_frozen BK.out 5
      have BK2 := Aside0.mk (blk_put BK.out 5 (.int .u8 ((x / 65536) % 256)) (show (cells8 x 2).setIfInBounds 5 (.int .u8 ((x / 65536) % 256)) = cells8 x 3 by simp [cells8, c8, dig]))
      have B02 := blk_far (p := ⟨w.heap.size + 1, 5, none⟩) B0.out (by simp) (.int .u8 ((x / 65536) % 256))
      have HB2 := Aside0.mk (below_set (g := w.heap.size + 1) (j := 5) (v := (.int .u8 ((x / 65536) % 256))) HB.out (by omega))
      go_wp2
      go_roundg (k1)
      case measure => have := HK.out; omega
      case rel => exact ⟨3, rfl, ⟨by omega⟩, ⟨by have := HK.out; omega⟩, BK2, ⟨B02⟩, HB2⟩
    · obtain ⟨k1, rfl⟩ : ∃ m, gk = m + 1 := ⟨gk - 1, by have := HK.out; omega⟩
      have hz : wr.cell? ⟨w.heap.size + 1, 4, none⟩ = some (c8 x 3 3) := (blk_cell BK.out 4).trans rfl
      have hfz := blk_frozen BK.out 4
      have BK2 := Aside0.mk (blk_put BK.out 4 (.int .u8 ((x / 16777216) % 256)) (show (cells8 x 3).setIfInBounds 4 (.int .u8 ((x / 16777216) % 256)) = cells8 x 4 by simp [cells8, c8, dig]))
      have B02 := blk_far (p := ⟨w.heap.size + 1, 4, none⟩) B0.out (by simp) (.int .u8 ((x / 16777216) % 256))
      have HB2 := Aside0.mk (below_set (g := w.heap.size + 1) (j := 4) (v := (.int .u8 ((x / 16777216) % 256))) HB.out (by omega))
      go_wp2
      go_roundg (k1)
      case measure => have := HK.out; omega
      case rel => exact ⟨4, rfl, ⟨by omega⟩, ⟨by have := HK.out; omega⟩, BK2, ⟨B02⟩, HB2⟩
    · obtain ⟨k1, rfl⟩ : ∃ m, gk = m + 1 := ⟨gk - 1, by have := HK.out; omega⟩
      have hz : wr.cell? ⟨w.heap.size + 1, 3, none⟩ = some (c8 x 4 4) := (blk_cell BK.out 3).trans rfl
      have hfz := blk_frozen BK.out 3
      have BK2 := Aside0.mk (blk_put BK.out 3 (.int .u8 ((x / 4294967296) % 256)) (show (cells8 x 4).setIfInBounds 3 (.int .u8 ((x / 4294967296) % 256)) = cells8 x 5 by simp [cells8, c8, dig]))
      have B02 := blk_far (p := ⟨w.heap.size + 1, 3, none⟩) B0.out (by simp) (.int .u8 ((x / 4294967296) % 256))
      have HB2 := Aside0.mk (below_set (g := w.heap.size + 1) (j := 3) (v := (.int .u8 ((x / 4294967296) % 256))) HB.out (by omega))
      go_wp2
      go_roundg (k1)
      case measure => have := HK.out; omega
      case rel => exact ⟨5, rfl, ⟨by omega⟩, ⟨by have := HK.out; omega⟩, BK2, ⟨B02⟩, HB2⟩
    · obtain ⟨k1, rfl⟩ : ∃ m, gk = m + 1 := ⟨gk - 1, by have := HK.out; omega⟩
      have hz : wr.cell? ⟨w.heap.size + 1, 2, none⟩ = some (c8 x 5 5) := (blk_cell BK.out 2).trans rfl
      have hfz := blk_frozen BK.out 2
      have BK2 := Aside0.mk (blk_put BK.out 2 (.int .u8 ((x / 1099511627776) % 256)) (show (cells8 x 5).setIfInBounds 2 (.int .u8 ((x / 1099511627776) % 256)) = cells8 x 6 by simp [cells8, c8, dig]))
      have B02 := blk_far (p := ⟨w.heap.size + 1, 2, none⟩) B0.out (by simp) (.int .u8 ((x / 1099511627776) % 256))
      have HB2 := Aside0.mk (below_set (g := w.heap.size + 1) (j := 2) (v := (.int .u8 ((x / 1099511627776) % 256))) HB.out (by omega))
      go_wp2
      go_roundg (k1)
      case measure => have := HK.out; omega
      case rel => exact ⟨6, rfl, ⟨by omega⟩, ⟨by have := HK.out; omega⟩, BK2, ⟨B02⟩, HB2⟩
    · obtain ⟨k1, rfl⟩ : ∃ m, gk = m + 1 := ⟨gk - 1, by have := HK.out; omega⟩
      have hz : wr.cell? ⟨w.heap.size + 1, 1, none⟩ = some (c8 x 6 6) := (blk_cell BK.out 1).trans rfl
      have hfz := blk_frozen BK.out 1
      have BK2 := Aside0.mk (blk_put BK.out 1 (.int .u8 ((x / 281474976710656) % 256)) (show (cells8 x 6).setIfInBounds 1 (.int .u8 ((x / 281474976710656) % 256)) = cells8 x 7 by simp [cells8, c8, dig]))
      have B02 := blk_far (p := ⟨w.heap.size + 1, 1, none⟩) B0.out (by simp) (.int .u8 ((x / 281474976710656) % 256))
      have HB2 := Aside0.mk (below_set (g := w.heap.size + 1) (j := 1) (v := (.int .u8 ((x / 281474976710656) % 256))) HB.out (by omega))
      go_wp2
      go_roundg (k1)
      case measure => have := HK.out; omega
      case rel => exact ⟨7, rfl, ⟨by omega⟩, ⟨by have := HK.out; omega⟩, BK2, ⟨B02⟩, HB2⟩
    · obtain ⟨k1, rfl⟩ : ∃ m, gk = m + 1 := ⟨gk - 1, by have := HK.out; omega⟩
      have hz : wr.cell? ⟨w.heap.size + 1, 0, none⟩ = some (c8 x 7 7) := (blk_cell BK.out 0).trans rfl
      have hfz := blk_frozen BK.out 0
      have BK2 := Aside0.mk (blk_put BK.out 0 (.int .u8 ((x / 72057594037927936) % 256)) (show (cells8 x 7).setIfInBounds 0 (.int .u8 ((x / 72057594037927936) % 256)) = cells8 x 8 by simp [cells8, c8, dig]))
      have B02 := blk_far (p := ⟨w.heap.size + 1, 0, none⟩) B0.out (by simp) (.int .u8 ((x / 72057594037927936) % 256))
      have HB2 := Aside0.mk (below_set (g := w.heap.size + 1) (j := 0) (v := (.int .u8 ((x / 72057594037927936) % 256))) HB.out (by omega))
      go_wp2
      go_roundg (k1)
      case measure => have := HK.out; omega
      case rel => exact ⟨8, rfl, ⟨by omega⟩, ⟨by have := HK.out; omega⟩, BK2, ⟨B02⟩, HB2⟩
    · have hz0 : wr.cell? ⟨w.heap.size + 1, 0, none⟩ = some (.int .u8 (dig x 7)) := (blk_cell BK.out 0).trans rfl
      have hz1 : wr.cell? ⟨w.heap.size + 1, 1, none⟩ = some (.int .u8 (dig x 6)) := (blk_cell BK.out 1).trans rfl
      have hz2 : wr.cell? ⟨w.heap.size + 1, 2, none⟩ = some (.int .u8 (dig x 5)) := (blk_cell BK.out 2).trans rfl
      have hz3 : wr.cell? ⟨w.heap.size + 1, 3, none⟩ = some (.int .u8 (dig x 4)) := (blk_cell BK.out 3).trans rfl
      have hz4 : wr.cell? ⟨w.heap.size + 1, 4, none⟩ = some (.int .u8 (dig x 3)) := (blk_cell BK.out 4).trans rfl
      have hz5 : wr.cell? ⟨w.heap.size + 1, 5, none⟩ = some (.int .u8 (dig x 2)) := (blk_cell BK.out 5).trans rfl
      have hz6 : wr.cell? ⟨w.heap.size + 1, 6, none⟩ = some (.int .u8 (dig x 1)) := (blk_cell BK.out 6).trans rfl
      have hz7 : wr.cell? ⟨w.heap.size + 1, 7, none⟩ = some (.int .u8 (dig x 0)) := (blk_cell BK.out 7).trans rfl
      have hy0 : wr.cell? ⟨w.heap.size, 0, none⟩ = some (.int .u8 0) := (blk_cell B0.out 0).trans rfl
      have hf0 := blk_frozen B0.out 0
      have hy1 : wr.cell? ⟨w.heap.size, 1, none⟩ = some (.int .u8 0) := (blk_cell B0.out 1).trans rfl
      have hf1 := blk_frozen B0.out 1
      have hy2 : wr.cell? ⟨w.heap.size, 2, none⟩ = some (.int .u8 0) := (blk_cell B0.out 2).trans rfl
      have hf2 := blk_frozen B0.out 2
      have hy3 : wr.cell? ⟨w.heap.size, 3, none⟩ = some (.int .u8 0) := (blk_cell B0.out 3).trans rfl
      have hf3 := blk_frozen B0.out 3
      have hy4 : wr.cell? ⟨w.heap.size, 4, none⟩ = some (.int .u8 0) := (blk_cell B0.out 4).trans rfl
      have hf4 := blk_frozen B0.out 4
      have hy5 : wr.cell? ⟨w.heap.size, 5, none⟩ = some (.int .u8 0) := (blk_cell B0.out 5).trans rfl
      have hf5 := blk_frozen B0.out 5
      have hy6 : wr.cell? ⟨w.heap.size, 6, none⟩ = some (.int .u8 0) := (blk_cell B0.out 6).trans rfl
      have hf6 := blk_frozen B0.out 6
      have hy7 : wr.cell? ⟨w.heap.size, 7, none⟩ = some (.int .u8 0) := (blk_cell B0.out 7).trans rfl
      have hf7 := blk_frozen B0.out 7
      go_wp2
      exact bodyPost_ret (v := .agg (cells8 x 8)) (results_c rfl _ _ w.heap.size 99 _ (0, 0) _ rfl (blk8 B0.out) Try.underlying99 rfl (by kernel_rfl)) rfl ⟨rfl, below8 HB.out (Nat.le_refl _) x⟩
end Go.Proofs.Ythmcbcofipehhaa.B
