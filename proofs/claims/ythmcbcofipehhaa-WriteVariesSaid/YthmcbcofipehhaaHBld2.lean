import Derived.Test.YthmcbcofipehhaaHBld
namespace Go.Proofs.Ythmcbcofipehhaa.B
open Go.RowKit Go.Proofs.YthmcbcofipehhaaW.PrintWords Go.Proofs.YthmcbcofipehhaaW.PrintLast Go.Proofs.YthmcbcofipehhaaW.PrintMore
set_option linter.unusedVariables false
set_option linter.unusedSimpArgs false
theorem C_cells {w : World} {g : Nat} {cs : Array Value} {t : TypeId} (hb : w.heap[g]? = some (.cells cs t (0, 0))) (o : Nat) (xs : List Int) (hm : xs.length ≤ 9223372036854775807) (h : ∀ (j : Nat) (x : Int), xs[j]? = some x → cs[o + j]? = some (.int .u8 x)) :
    (Kd.int .u8).C w (some ⟨g, o, none⟩) xs.length xs := by
  refine ⟨rfl, hm, fun _ => ⟨_, rfl, fun j p hj => ⟨[.int .u8 p], rfl, rfl, fun i u hi => ?_⟩⟩⟩
  have hi0 : i = 0 := by have := (List.getElem?_eq_some_iff.1 hi).1; simp at this; exact this
  subst hi0
  have hu : u = .int .u8 p := by simpa using hi.symm
  subst hu
  have ea : (⟨g, o, none⟩ : Addr).add (j * (Kd.int .u8).sz + 0) = ⟨g, o + j, none⟩ := by
    show (⟨g, o, none⟩ : Addr).add (j * 1 + 0) = _
    unfold Addr.add
    split <;> simp_all
  rw [ea, blk_cell hb]
  exact h j p hj
theorem be_length (s x : Int) : (be s x).length = s.toNat := by simp [be]
theorem be_1 (x : Int) : be 1 x = [dig x 0] := rfl
theorem be_2 (x : Int) : be 2 x = [dig x 1, dig x 0] := rfl
theorem be_3 (x : Int) : be 3 x = [dig x 2, dig x 1, dig x 0] := rfl
theorem be_4 (x : Int) : be 4 x = [dig x 3, dig x 2, dig x 1, dig x 0] := rfl
theorem be_8 (x : Int) : be 8 x = [dig x 7, dig x 6, dig x 5, dig x 4, dig x 3, dig x 2, dig x 1, dig x 0] := rfl
/-- The last bytes of the eight. -/
theorem C_be {w : World} {g : Nat} {x : Int} (hb : w.heap[g]? = some (.cells (cells8 x 8) 99 (0, 0))) (s : Nat) (h1 : s = 1 ∨ s = 2 ∨ s = 3 ∨ s = 4 ∨ s = 8) : (Kd.int .u8).C w (some ⟨g, 8 - s, none⟩) s (be s x) := by
  have e : s = (be s x).length := by rw [be_length]; omega
  have := C_cells hb (8 - s) (be s x) (by rw [← e]; omega) (fun j y hj => by
    have hj' := (List.getElem?_eq_some_iff.1 hj).1
    rw [← e] at hj'
    rcases h1 with rfl | rfl | rfl | rfl | rfl
    · obtain rfl : j = 0 := by omega
      have : y = dig x 0 := by simpa [be_1] using hj.symm
      subst this; rfl
    · have : j = 0 ∨ j = 1 := by omega
      rcases this with rfl | rfl
      · have : y = dig x 1 := by simpa [be_2] using hj.symm
        subst this; rfl
      · have : y = dig x 0 := by simpa [be_2] using hj.symm
        subst this; rfl
    · have : j = 0 ∨ j = 1 ∨ j = 2 := by omega
      rcases this with rfl | rfl | rfl
      · have : y = dig x 2 := by simpa [be_3] using hj.symm
        subst this; rfl
      · have : y = dig x 1 := by simpa [be_3] using hj.symm
        subst this; rfl
      · have : y = dig x 0 := by simpa [be_3] using hj.symm
        subst this; rfl
    · have : j = 0 ∨ j = 1 ∨ j = 2 ∨ j = 3 := by omega
      rcases this with rfl | rfl | rfl | rfl
      · have : y = dig x 3 := by simpa [be_4] using hj.symm
        subst this; rfl
      · have : y = dig x 2 := by simpa [be_4] using hj.symm
        subst this; rfl
      · have : y = dig x 1 := by simpa [be_4] using hj.symm
        subst this; rfl
      · have : y = dig x 0 := by simpa [be_4] using hj.symm
        subst this; rfl
    · have : j = 0 ∨ j = 1 ∨ j = 2 ∨ j = 3 ∨ j = 4 ∨ j = 5 ∨ j = 6 ∨ j = 7 := by omega
      rcases this with rfl | rfl | rfl | rfl | rfl | rfl | rfl | rfl
      · have : y = dig x 7 := by simpa [be_8] using hj.symm
        subst this; rfl
      · have : y = dig x 6 := by simpa [be_8] using hj.symm
        subst this; rfl
      · have : y = dig x 5 := by simpa [be_8] using hj.symm
        subst this; rfl
      · have : y = dig x 4 := by simpa [be_8] using hj.symm
        subst this; rfl
      · have : y = dig x 3 := by simpa [be_8] using hj.symm
        subst this; rfl
      · have : y = dig x 2 := by simpa [be_8] using hj.symm
        subst this; rfl
      · have : y = dig x 1 := by simpa [be_8] using hj.symm
        subst this; rfl
      · have : y = dig x 0 := by simpa [be_8] using hj.symm
        subst this; rfl)
  rw [← e] at this
  exact this
theorem lay_lit (x : Int) (h0 : 0 ≤ x) (h1 : x ≤ 18446744073709551615) (w : World) :
    Calls Try.prog 67 #[.int .u64 x] w fun e w' => e = .returned (.agg #[.int .u8 (dig x 7), .int .u8 (dig x 6), .int .u8 (dig x 5), .int .u8 (dig x 4), .int .u8 (dig x 3), .int .u8 (dig x 2), .int .u8 (dig x 1), .int .u8 (dig x 0)]) ∧ Below w.heap.size w w' :=
  (lay_any x h0 h1 w).mono fun e w' h => h
theorem shr_lit (x : Int) : shr .u64 x (8 * 1) = x / 256 ∧ shr .u64 x (8 * 2) = x / 65536 ∧ shr .u64 x (8 * 3) = x / 16777216 ∧ shr .u64 x (8 * 4) = x / 4294967296 := ⟨rfl, rfl, rfl, rfl⟩
set_option maxHeartbeats 4000000 in
set_option maxRecDepth 100000 in
theorem BNumber_any (w0 w : World) (g : Nat) (m : Int) (bs : List Int) (os : List (Int × Int)) (s x : Int) (hs : s = 1 ∨ s = 2 ∨ s = 3 ∨ s = 4 ∨ s = 8) (h0 : 0 ≤ x) (h1 : x ≤ 18446744073709551615) (hf : s < 8 → shr .u64 x (8 * s) = 0) (hb : Bld w0 w g m bs os) (hm : m ≤ 1073741824) (hl : (bs.length : Int) + s ≤ m) :
    Calls Try.prog 51 #[.pointer (some ⟨g, 0, none⟩), .int .i64 s, .int .u64 x] w fun e w' => e = .returned (.int .i64 0) ∧ Bld w0 w' g m (bs ++ be s x) os ∧ Fr w w' := by
  have hu99 := Try.underlying99
  have HB := Aside0.mk hb
  have HL := Aside0.mk hl
  have HM := Aside0.mk hm
  have H0 := Aside0.mk h0
  have H1 := Aside0.mk h1
  have SH := Aside0.mk (shr_lit x)
  clear hb hl hm h0 h1
  rcases hs with rfl | rfl | rfl | rfl | rfl
  · have hq : (x / 256 != 0) = false := by have h := hf (by decide); rw [SH.out.1] at h; simpa using h
    clear hf
    go_enter Try.func51, Try.ntmps51
    go_wp2_with fail
    refine (lay_lit x H0.out H1.out _).mono ?_
    rintro e w1 ⟨rfl, hb⟩
    have HB1 := Aside0.mk (HB.out.of_below hb)
    have HF := Aside0.mk (Fr.of_below hb)
    clear hb
    go_wp2_with fail
    refine (BBytes_any w0 _ g m bs os (be 1 x) _ 1 (HB1.out.of_below (below_alloc (Below.refl _ _) _)) (C_be (heap_alloc_new _ _) 1 (by decide)) (Nat.le_refl _) HM.out (by have := HL.out; rw [be_length]; omega)).mono ?_
    rintro e w2 ⟨rfl, hb2, hf2⟩
    have HB2 := Aside0.mk hb2
    have HF2 := Aside0.mk hf2
    clear hb2 hf2
    go_wp2
    go_ret
    exact ⟨rfl, HB2.out, (HF.out.trans (Fr.of_below (below_alloc (Below.refl _ _) _))).trans HF2.out⟩
  · have hq : (x / 65536 != 0) = false := by have h := hf (by decide); rw [SH.out.2.1] at h; simpa using h
    clear hf
    go_enter Try.func51, Try.ntmps51
    go_wp2_with fail
    refine (lay_lit x H0.out H1.out _).mono ?_
    rintro e w1 ⟨rfl, hb⟩
    have HB1 := Aside0.mk (HB.out.of_below hb)
    have HF := Aside0.mk (Fr.of_below hb)
    clear hb
    go_wp2_with fail
    refine (BBytes_any w0 _ g m bs os (be 2 x) _ 2 (HB1.out.of_below (below_alloc (Below.refl _ _) _)) (C_be (heap_alloc_new _ _) 2 (by decide)) (Nat.le_refl _) HM.out (by have := HL.out; rw [be_length]; omega)).mono ?_
    rintro e w2 ⟨rfl, hb2, hf2⟩
    have HB2 := Aside0.mk hb2
    have HF2 := Aside0.mk hf2
    clear hb2 hf2
    go_wp2
    go_ret
    exact ⟨rfl, HB2.out, (HF.out.trans (Fr.of_below (below_alloc (Below.refl _ _) _))).trans HF2.out⟩
  · have hq : (x / 16777216 != 0) = false := by have h := hf (by decide); rw [SH.out.2.2.1] at h; simpa using h
    clear hf
    go_enter Try.func51, Try.ntmps51
    go_wp2_with fail
    refine (lay_lit x H0.out H1.out _).mono ?_
    rintro e w1 ⟨rfl, hb⟩
    have HB1 := Aside0.mk (HB.out.of_below hb)
    have HF := Aside0.mk (Fr.of_below hb)
    clear hb
    go_wp2_with fail
    refine (BBytes_any w0 _ g m bs os (be 3 x) _ 3 (HB1.out.of_below (below_alloc (Below.refl _ _) _)) (C_be (heap_alloc_new _ _) 3 (by decide)) (Nat.le_refl _) HM.out (by have := HL.out; rw [be_length]; omega)).mono ?_
    rintro e w2 ⟨rfl, hb2, hf2⟩
    have HB2 := Aside0.mk hb2
    have HF2 := Aside0.mk hf2
    clear hb2 hf2
    go_wp2
    go_ret
    exact ⟨rfl, HB2.out, (HF.out.trans (Fr.of_below (below_alloc (Below.refl _ _) _))).trans HF2.out⟩
  · have hq : (x / 4294967296 != 0) = false := by have h := hf (by decide); rw [SH.out.2.2.2] at h; simpa using h
    clear hf
    go_enter Try.func51, Try.ntmps51
    go_wp2_with fail
    refine (lay_lit x H0.out H1.out _).mono ?_
    rintro e w1 ⟨rfl, hb⟩
    have HB1 := Aside0.mk (HB.out.of_below hb)
    have HF := Aside0.mk (Fr.of_below hb)
    clear hb
    go_wp2_with fail
    refine (BBytes_any w0 _ g m bs os (be 4 x) _ 4 (HB1.out.of_below (below_alloc (Below.refl _ _) _)) (C_be (heap_alloc_new _ _) 4 (by decide)) (Nat.le_refl _) HM.out (by have := HL.out; rw [be_length]; omega)).mono ?_
    rintro e w2 ⟨rfl, hb2, hf2⟩
    have HB2 := Aside0.mk hb2
    have HF2 := Aside0.mk hf2
    clear hb2 hf2
    go_wp2
    go_ret
    exact ⟨rfl, HB2.out, (HF.out.trans (Fr.of_below (below_alloc (Below.refl _ _) _))).trans HF2.out⟩
  · skip
    clear hf
    go_enter Try.func51, Try.ntmps51
    go_wp2_with fail
    refine (lay_lit x H0.out H1.out _).mono ?_
    rintro e w1 ⟨rfl, hb⟩
    have HB1 := Aside0.mk (HB.out.of_below hb)
    have HF := Aside0.mk (Fr.of_below hb)
    clear hb
    go_wp2_with fail
    refine (BBytes_any w0 _ g m bs os (be 8 x) _ 8 (HB1.out.of_below (below_alloc (Below.refl _ _) _)) (C_be (heap_alloc_new _ _) 8 (by decide)) (Nat.le_refl _) HM.out (by have := HL.out; rw [be_length]; omega)).mono ?_
    rintro e w2 ⟨rfl, hb2, hf2⟩
    have HB2 := Aside0.mk hb2
    have HF2 := Aside0.mk hf2
    clear hb2 hf2
    go_wp2
    go_ret
    exact ⟨rfl, HB2.out, (HF.out.trans (Fr.of_below (below_alloc (Below.refl _ _) _))).trans HF2.out⟩
theorem info108 : (Try.prog.info? 108).map (fun i => (i.zero, i.size, i.bytes)) = some (some (.agg #[.int .i64 0, .int .i64 0]), 2, 16) := by kernel_rfl
theorem C_pair {w : World} {g : Nat} {t : TypeId} (x y : Int) (hb : w.heap[g]? = some (.cells #[.int .i64 x, .int .i64 y] t (0, 0))) : pk.C w (some ⟨g, 0, none⟩) 1 [(x, y)] := by
  refine ⟨rfl, by decide, fun _ => ⟨_, rfl, fun j p hj => ?_⟩⟩
  have hj0 : j = 0 := by have := (List.getElem?_eq_some_iff.1 hj).1; simp at this; exact this
  subst hj0
  have hp : p = (x, y) := by simpa using hj.symm
  subst hp
  refine ⟨[.int .i64 x, .int .i64 y], rfl, rfl, fun i u hi => ?_⟩
  have hi2 : i = 0 ∨ i = 1 := by have := (List.getElem?_eq_some_iff.1 hi).1; simp at this; omega
  rw [add_plain, blk_cell hb]
  rcases hi2 with rfl | rfl
  · exact hi
  · exact hi
def zs (s : Int) : List Int := List.replicate s.toNat 0
theorem C_zeros {w : World} {g : Nat} (hb : w.heap[g]? = some (.cells #[.int .u8 0, .int .u8 0, .int .u8 0] 106 (0, 0))) (s : Nat) (hs : s = 1 ∨ s = 2 ∨ s = 3) : (Kd.int .u8).C w (some ⟨g, 0, none⟩) s (zs s) := by
  have e : s = (zs s).length := by simp [zs]
  have := C_cells hb 0 (zs s) (by rw [← e]; omega) (fun j y hj => by
    have hj' := (List.getElem?_eq_some_iff.1 hj).1
    rw [← e] at hj'
    have hy : y = 0 := by
      have := List.mem_of_getElem? hj
      simp [zs] at this
      exact this.2
    subst hy
    have : j = 0 ∨ j = 1 ∨ j = 2 := by omega
    rcases this with rfl | rfl | rfl <;> rfl)
  rw [← e] at this
  exact this
set_option maxHeartbeats 4000000 in
set_option maxRecDepth 100000 in
theorem BOpen_any (w0 w : World) (g : Nat) (m : Int) (bs : List Int) (os : List (Int × Int)) (s : Int) (hs : s = 1 ∨ s = 2 ∨ s = 3) (hb : Bld w0 w g m bs os) (hm : m ≤ 1073741824) (hl : (bs.length : Int) + s ≤ m) (ho : os.length ≤ 1073741824) :
    Calls Try.prog 68 #[.pointer (some ⟨g, 0, none⟩), .int .i64 s] w fun e w' => e = .returned (.int .i64 0) ∧ Bld w0 w' g m (bs ++ zs s) (os ++ [((bs.length : Int) + s, s)]) ∧ Fr w w' := by
  have hu85 := Try.underlying85
  have hu106 := Try.underlying106
  have hu108 := Try.underlying108
  have HB := Aside0.mk hb
  have HL := Aside0.mk hl
  have HM := Aside0.mk hm
  have HO := Aside0.mk ho
  clear hb hl hm ho
  rcases hs with rfl | rfl | rfl
  · go_enter Try.func68, Try.ntmps68
    go_wp2_with fail
    refine (BBytes_any w0 _ g m bs os (zs 1) _ 3 (HB.out.of_below (below_alloc (Below.refl _ _) _)) (C_zeros (heap_alloc_new _ _) 1 (by decide)) (by decide) HM.out (by have := HL.out; simp [zs]; omega)).mono ?_
    rintro e w2 ⟨rfl, hb2, hf2⟩
    have HF2 := Aside0.mk ((Fr.of_below (below_alloc (Below.refl _ _) _)).trans hf2)
    obtain ⟨hbel, hlo, A1, c1, A2, c2, hblk, hR1, hc1, hR2, hc2⟩ := hb2
    have hz0 : w2.cell? ⟨g, 0, none⟩ = some (.slice A1 (bs ++ zs 1).length c1) := (blk_cell hblk 0).trans rfl
    have hz2 : w2.cell? ⟨g, 2, none⟩ = some (.slice A2 os.length c2) := (blk_cell hblk 2).trans rfl
    have hza : ∀ o, (w2.alloc o).cell? ⟨g, 2, none⟩ = some (.slice A2 os.length c2) := fun o => (blk_cell (blk_alloc hblk o) 2).trans rfl
    have BL := Aside0.mk hbel
    have LO := Aside0.mk hlo
    have BK := Aside0.mk hblk
    have R1 := Aside0.mk hR1
    have R2 := Aside0.mk hR2
    have C1 := Aside0.mk hc1
    clear hf2 hbel hlo hblk hR1 hR2 hc1 hc2
    go_wp2
    go_region_law ((refine Kd.R_append_rows_step pk (w0 := w0) w0.heap.size (by simp [Region.wanted]) (.tmp 27) (.tmp 35) 83 108 _ 16 rfl Try.underlying83 info108 rfl (by decide) (by decide) _ os [(_, 1)] (some ⟨w2.heap.size, 0, none⟩) 1 1 (fun k => w0.heap.size ≤ k) (fun _ => False) (by simp [Act.eval, Act.put]) (by simp [Act.eval, Act.put]) (Kd.R_alloc (Kd.R_drew R2.out) _) (C_pair _ _ (heap_alloc_new w2.drew _)) (fun _ _ h => h) (fun k hk => hk.elim) (fun k hk => by have := BL.out.size; simp at hk; omega) (below_alloc (below_drew1 BL.out) _) (by have := BL.out.size; simp; omega) (by have := HO.out; omega) ?_; intro v1 w1 h1 h2 h3 h4; have H1 := Aside0.mk (Bld.parts LO.out (blk_alloc (blk_drew BK.out) _) (Kd.R_alloc (Kd.R_drew R1.out) _) (Kd.R_alloc (Kd.R_drew R2.out) _) C1.out h2 h1 h3); have BK1 := parts_blk (blk_alloc (blk_drew BK.out) _) (Kd.R_alloc (Kd.R_drew R2.out) _) h3; have hcz : w1.cell? ⟨g, 2, none⟩ = some (.slice A2 os.length c2) := (blk_cell BK1 2).trans rfl; have hfz := blk_frozen BK1 2; obtain ⟨A3, c3, rfl, _, _⟩ := Kd.R_reads h1; clear BK1 h1 h2 h3 h4))
    all_goals
      go_wp2
      go_ret
      have H := H1.out
      simp only [List.length_append, List.length_cons, List.length_nil, zs, List.length_replicate] at H
      exact ⟨rfl, H.1, HF2.out.trans ((Fr.of_below (below_alloc (below_drew1 (Below.refl _ _)) _)).trans H.2)⟩
  · go_enter Try.func68, Try.ntmps68
    go_wp2_with fail
    refine (BBytes_any w0 _ g m bs os (zs 2) _ 3 (HB.out.of_below (below_alloc (Below.refl _ _) _)) (C_zeros (heap_alloc_new _ _) 2 (by decide)) (by decide) HM.out (by have := HL.out; simp [zs]; omega)).mono ?_
    rintro e w2 ⟨rfl, hb2, hf2⟩
    have HF2 := Aside0.mk ((Fr.of_below (below_alloc (Below.refl _ _) _)).trans hf2)
    obtain ⟨hbel, hlo, A1, c1, A2, c2, hblk, hR1, hc1, hR2, hc2⟩ := hb2
    have hz0 : w2.cell? ⟨g, 0, none⟩ = some (.slice A1 (bs ++ zs 2).length c1) := (blk_cell hblk 0).trans rfl
    have hz2 : w2.cell? ⟨g, 2, none⟩ = some (.slice A2 os.length c2) := (blk_cell hblk 2).trans rfl
    have hza : ∀ o, (w2.alloc o).cell? ⟨g, 2, none⟩ = some (.slice A2 os.length c2) := fun o => (blk_cell (blk_alloc hblk o) 2).trans rfl
    have BL := Aside0.mk hbel
    have LO := Aside0.mk hlo
    have BK := Aside0.mk hblk
    have R1 := Aside0.mk hR1
    have R2 := Aside0.mk hR2
    have C1 := Aside0.mk hc1
    clear hf2 hbel hlo hblk hR1 hR2 hc1 hc2
    go_wp2
    go_region_law ((refine Kd.R_append_rows_step pk (w0 := w0) w0.heap.size (by simp [Region.wanted]) (.tmp 27) (.tmp 35) 83 108 _ 16 rfl Try.underlying83 info108 rfl (by decide) (by decide) _ os [(_, 2)] (some ⟨w2.heap.size, 0, none⟩) 1 1 (fun k => w0.heap.size ≤ k) (fun _ => False) (by simp [Act.eval, Act.put]) (by simp [Act.eval, Act.put]) (Kd.R_alloc (Kd.R_drew R2.out) _) (C_pair _ _ (heap_alloc_new w2.drew _)) (fun _ _ h => h) (fun k hk => hk.elim) (fun k hk => by have := BL.out.size; simp at hk; omega) (below_alloc (below_drew1 BL.out) _) (by have := BL.out.size; simp; omega) (by have := HO.out; omega) ?_; intro v1 w1 h1 h2 h3 h4; have H1 := Aside0.mk (Bld.parts LO.out (blk_alloc (blk_drew BK.out) _) (Kd.R_alloc (Kd.R_drew R1.out) _) (Kd.R_alloc (Kd.R_drew R2.out) _) C1.out h2 h1 h3); have BK1 := parts_blk (blk_alloc (blk_drew BK.out) _) (Kd.R_alloc (Kd.R_drew R2.out) _) h3; have hcz : w1.cell? ⟨g, 2, none⟩ = some (.slice A2 os.length c2) := (blk_cell BK1 2).trans rfl; have hfz := blk_frozen BK1 2; obtain ⟨A3, c3, rfl, _, _⟩ := Kd.R_reads h1; clear BK1 h1 h2 h3 h4))
    all_goals
      go_wp2
      go_ret
      have H := H1.out
      simp only [List.length_append, List.length_cons, List.length_nil, zs, List.length_replicate] at H
      exact ⟨rfl, H.1, HF2.out.trans ((Fr.of_below (below_alloc (below_drew1 (Below.refl _ _)) _)).trans H.2)⟩
  · go_enter Try.func68, Try.ntmps68
    go_wp2_with fail
    refine (BBytes_any w0 _ g m bs os (zs 3) _ 3 (HB.out.of_below (below_alloc (Below.refl _ _) _)) (C_zeros (heap_alloc_new _ _) 3 (by decide)) (by decide) HM.out (by have := HL.out; simp [zs]; omega)).mono ?_
    rintro e w2 ⟨rfl, hb2, hf2⟩
    have HF2 := Aside0.mk ((Fr.of_below (below_alloc (Below.refl _ _) _)).trans hf2)
    obtain ⟨hbel, hlo, A1, c1, A2, c2, hblk, hR1, hc1, hR2, hc2⟩ := hb2
    have hz0 : w2.cell? ⟨g, 0, none⟩ = some (.slice A1 (bs ++ zs 3).length c1) := (blk_cell hblk 0).trans rfl
    have hz2 : w2.cell? ⟨g, 2, none⟩ = some (.slice A2 os.length c2) := (blk_cell hblk 2).trans rfl
    have hza : ∀ o, (w2.alloc o).cell? ⟨g, 2, none⟩ = some (.slice A2 os.length c2) := fun o => (blk_cell (blk_alloc hblk o) 2).trans rfl
    have BL := Aside0.mk hbel
    have LO := Aside0.mk hlo
    have BK := Aside0.mk hblk
    have R1 := Aside0.mk hR1
    have R2 := Aside0.mk hR2
    have C1 := Aside0.mk hc1
    clear hf2 hbel hlo hblk hR1 hR2 hc1 hc2
    go_wp2
    go_region_law ((refine Kd.R_append_rows_step pk (w0 := w0) w0.heap.size (by simp [Region.wanted]) (.tmp 27) (.tmp 35) 83 108 _ 16 rfl Try.underlying83 info108 rfl (by decide) (by decide) _ os [(_, 3)] (some ⟨w2.heap.size, 0, none⟩) 1 1 (fun k => w0.heap.size ≤ k) (fun _ => False) (by simp [Act.eval, Act.put]) (by simp [Act.eval, Act.put]) (Kd.R_alloc (Kd.R_drew R2.out) _) (C_pair _ _ (heap_alloc_new w2.drew _)) (fun _ _ h => h) (fun k hk => hk.elim) (fun k hk => by have := BL.out.size; simp at hk; omega) (below_alloc (below_drew1 BL.out) _) (by have := BL.out.size; simp; omega) (by have := HO.out; omega) ?_; intro v1 w1 h1 h2 h3 h4; have H1 := Aside0.mk (Bld.parts LO.out (blk_alloc (blk_drew BK.out) _) (Kd.R_alloc (Kd.R_drew R1.out) _) (Kd.R_alloc (Kd.R_drew R2.out) _) C1.out h2 h1 h3); have BK1 := parts_blk (blk_alloc (blk_drew BK.out) _) (Kd.R_alloc (Kd.R_drew R2.out) _) h3; have hcz : w1.cell? ⟨g, 2, none⟩ = some (.slice A2 os.length c2) := (blk_cell BK1 2).trans rfl; have hfz := blk_frozen BK1 2; obtain ⟨A3, c3, rfl, _, _⟩ := Kd.R_reads h1; clear BK1 h1 h2 h3 h4))
    all_goals
      go_wp2
      go_ret
      have H := H1.out
      simp only [List.length_append, List.length_cons, List.length_nil, zs, List.length_replicate] at H
      exact ⟨rfl, H.1, HF2.out.trans ((Fr.of_below (below_alloc (below_drew1 (Below.refl _ _)) _)).trans H.2)⟩
end Go.Proofs.Ythmcbcofipehhaa.B
