import Derived.Test.YthmcbcofipehhaaHWrite
namespace Go.Proofs.Ythmcbcofipehhaa.B
open Go.RowKit Go.Proofs.YthmcbcofipehhaaW.PrintWords Go.Proofs.YthmcbcofipehhaaW.PrintLast Go.Proofs.YthmcbcofipehhaaW.PrintMore
set_option linter.unusedVariables false
set_option linter.unusedSimpArgs false
theorem topT_shr {s L : Int} (hs : s = 1 ∨ s = 2 ∨ s = 3) (h0 : 0 ≤ L) (h : L ≤ topT s) : shr .i64 L (8 * s) = 0 := by
  rcases hs with rfl | rfl | rfl
  · rw [(shr_litI L).1]; have : topT 1 = 255 := rfl; omega
  · rw [(shr_litI L).2.1]; have : topT 2 = 65535 := rfl; omega
  · rw [(shr_litI L).2.2]; have : topT 3 = 16777215 := rfl; omega
theorem OkV_f0 {x : S32} (h : OkV x) : 0 ≤ x.f0 ∧ x.f0 ≤ 18446744073709551615 := by cases h with | mk hn hb hl => exact hn
theorem OkV_f2 {x : S32} (h : OkV x) : ∀ y ∈ x.f2, OkV y := by cases h with | mk hn hb hl => exact hl
theorem box3 (w : World) (o1 o2 o3 : Obj) : (((w.alloc o1).alloc o2).alloc o3).heap[w.heap.size + 2]? = some o3 := by
  have h := heap_alloc_new ((w.alloc o1).alloc o2) o3
  rwa [World.size_alloc, World.size_alloc] at h
set_option maxHeartbeats 4000000 in
set_option maxRecDepth 100000 in
theorem lay_ok (N : Nat) : ∀ (x : S32), SizeOf.sizeOf x < N → OkV x → LayOk x := by
  induction N with
  | zero => intro x h; omega
  | succ N ih =>
  intro x hN hok f hck hf A c A1 c1 A2 c2 w0 w g m bs os hr hc hr1 hc1 hr2 hc2 hb hm ho hl
  have hu29 := Try.underlying29
  have hu32 := Try.underlying32
  have hmf : ∀ (fn : Fn) (first cap : Array Value) (w : World), (Instr.makeFunc fn first cap).run Try.prog w = .ok (.func fn first cap) w := fun _ _ _ _ => rfl
  have HX : ∀ y, y ∈ x.f2 → LayOk y := fun y hy => ih y (by have := List.sizeOf_lt_of_mem hy; obtain ⟨n, b, l⟩ := x; simp at hN; dsimp only at this; omega) (OkV_f2 hok y hy)
  have HXX := Aside0.mk HX
  have h64 := Aside0.mk (OkV_f0 hok)
  have hK := fit_kinds hck
  have HR := Aside0.mk hr
  have HC := Aside0.mk hc
  have HR1 := Aside0.mk hr1
  have HC1 := Aside0.mk hc1
  have HR2 := Aside0.mk hr2
  have HC2 := Aside0.mk hc2
  have HB := Aside0.mk hb
  have HM := Aside0.mk hm
  have HO := Aside0.mk ho
  have HL := Aside0.mk hl
  have CK := Aside0.mk hck
  have FT := Aside0.mk hf
  have l1 := Kd.C_max hr1
  have B3 := Aside0.mk (show Below w.heap.size w (((w.alloc (.cells #[.pointer (some ⟨g, 0, none⟩)] 68)).alloc (.cells #[.int .i64 f.f0, .int .i64 f.f1, .int .i64 f.f2, .int .i64 f.f3, .int .i64 f.f4, .slice A f.f5.length c] 29)).alloc (.cells #[.int .u64 x.f0, .slice A1 x.f1.length c1, .slice A2 x.f2.length c2] 32)) from below_alloc (below_alloc (below_alloc (Below.refl _ _) _) _) _)
  have P1 := Aside0.mk (blk_alloc (blk_alloc (heap_alloc_new w (.cells #[.pointer (some ⟨g, 0, none⟩)] 68)) (.cells #[.int .i64 f.f0, .int .i64 f.f1, .int .i64 f.f2, .int .i64 f.f3, .int .i64 f.f4, .slice A f.f5.length c] 29)) (.cells #[.int .u64 x.f0, .slice A1 x.f1.length c1, .slice A2 x.f2.length c2] 32))
  have P2 := Aside0.mk (blk_alloc (box2 w (.cells #[.pointer (some ⟨g, 0, none⟩)] 68) (.cells #[.int .i64 f.f0, .int .i64 f.f1, .int .i64 f.f2, .int .i64 f.f3, .int .i64 f.f4, .slice A f.f5.length c] 29)) (.cells #[.int .u64 x.f0, .slice A1 x.f1.length c1, .slice A2 x.f2.length c2] 32))
  have P3 := Aside0.mk (box3 w (.cells #[.pointer (some ⟨g, 0, none⟩)] 68) (.cells #[.int .i64 f.f0, .int .i64 f.f1, .int .i64 f.f2, .int .i64 f.f3, .int .i64 f.f4, .slice A f.f5.length c] 29) (.cells #[.int .u64 x.f0, .slice A1 x.f1.length c1, .slice A2 x.f2.length c2] 32))
  clear hr hc hr1 hc1 hr2 hc2 hb hm ho hl hck hf HX ih hN hok
  rcases hK with k | k | k | k | k | k
  · have OT := Aside0.mk (show outT f x = be f.f1 x.f0 by rw [outT_eq, if_pos k])
    have F0 := Aside0.mk (fit0 CK.out FT.out k)
    have kb : (f.f0 == 0) = true := by simpa using k
    clear k
    go_enter Try.func39, Try.ntmps39
    go_wp2_with fail
    refine (BNumber_any w0 _ g m bs os f.f1 x.f0 F0.out.1 h64.out.1 h64.out.2 F0.out.2.1 (HB.out.of_below B3.out) HM.out (by have := HL.out; rw [OT.out, be_length] at this; have := F0.out.1; omega)).mono ?_
    rintro e w1 ⟨rfl, hb1, hf1⟩
    have HB1 := Aside0.mk hb1
    have HF1 := Aside0.mk ((Fr.of_below B3.out).trans hf1)
    clear hb1 hf1
    go_wp2
    go_ret
    exact ⟨rfl, OT.out ▸ HB1.out, HF1.out⟩
  · have OT := Aside0.mk (show outT f x = be f.f1 x.f1.length ++ x.f1 by rw [outT_eq, if_neg (by omega), if_pos k])
    have F1 := Aside0.mk (fit1 CK.out FT.out k)
    have kb : (f.f0 == 0) = false := by simp [k]
    have kc : (f.f0 == 1) = true := by simpa using k
    clear k
    go_enter Try.func39, Try.ntmps39
    go_wp2_with fail
    refine (inside53 w.heap.size (w.heap.size + 2) w0 _ g m bs x.f1 os f.f1 F1.out.1 (topT_shr F1.out.1 (by omega) F1.out.2.1) (HB.out.of_below B3.out) HM.out HO.out (by have := HL.out; rw [OT.out, List.length_append, be_length] at this; have := F1.out.1; omega) ?_).mono ?_
    · intro W hbW hfW
      exact do53 _ _ x A1 c1 (.slice A2 x.f2.length c2) w0 W g m _ _ (hfW.blkc P1.out (by unfold bty; decide)) (hfW.blkc P3.out (by unfold bty; decide)) HR1.out HC1.out hbW HM.out (by have := HL.out; rw [OT.out, List.length_append, be_length] at this; have := F1.out.1; simp [zs]; omega)
    rintro e w1 ⟨rfl, hb1, hf1⟩
    have HB1 := Aside0.mk hb1
    have HF1 := Aside0.mk ((Fr.of_below B3.out).trans hf1)
    clear hb1 hf1
    go_wp2
    go_ret
    exact ⟨rfl, OT.out ▸ HB1.out, HF1.out⟩
  · have OT := Aside0.mk (show outT f x = be f.f1 (outL f x.f2 0).length ++ outL f x.f2 0 by rw [outT_eq, if_neg (by omega), if_neg (by omega), if_pos k])
    have F2 := Aside0.mk (fit2 CK.out FT.out k)
    have LE := Aside0.mk (fitL_len f CK.out (.inl k) (by have := F2.out.2.2.2.1; omega) x.f2 0 0 F2.out.2.1 (by omega) (by have := HL.out; rw [OT.out, List.length_append] at this; have := HM.out; omega))
    have kb : (f.f0 == 0) = false := by simp [k]
    have kc : (f.f0 == 1) = false := by simp [k]
    have kd : (f.f0 == 2) = true := by simpa using k
    have K := Aside0.mk k
    clear k
    go_enter Try.func39, Try.ntmps39
    go_wp2_with fail
    refine (inside55 w.heap.size (w.heap.size + 1) (w.heap.size + 2) w0 _ g m bs (outL f x.f2 0) os f.f1 F2.out.1 (topT_shr F2.out.1 (by omega) (by have := F2.out.2.2.1; have := LE.out; omega)) (HB.out.of_below B3.out) HM.out HO.out (by have := HL.out; rw [OT.out, List.length_append, be_length] at this; have := F2.out.1; omega) ?_).mono ?_
    · intro W hbW hfW
      exact do55 _ _ _ f x HXX.out CK.out K.out (by have := F2.out.2.2.2.1; omega) F2.out.2.1 A c A2 c2 (.slice A1 x.f1.length c1) w0 W g m _ _ (hfW.blkc P1.out (by unfold bty; decide)) (hfW.blkc P2.out (by unfold bty; decide)) (hfW.blkc P3.out (by unfold bty; decide)) HR.out HC.out HR2.out HC2.out hbW HM.out (by have := HO.out; have := F2.out.1; simp [zs]; omega) (by have := HL.out; rw [OT.out, List.length_append, be_length] at this; have := F2.out.1; simp [zs]; omega)
    rintro e w1 ⟨rfl, hb1, hf1⟩
    have HB1 := Aside0.mk hb1
    have HF1 := Aside0.mk ((Fr.of_below B3.out).trans hf1)
    clear hb1 hf1
    go_wp2
    go_ret
    exact ⟨rfl, OT.out ▸ HB1.out, HF1.out⟩
  · have OT := Aside0.mk (show outT f x = outL f x.f2 0 by rw [outT_eq, if_neg (by omega), if_neg (by omega), if_neg (by omega), if_pos k])
    have F3 := Aside0.mk (fit3 FT.out k)
    have kb : (f.f0 == 0) = false := by simp [k]
    have kc : (f.f0 == 1) = false := by simp [k]
    have kd : (f.f0 == 2) = false := by simp [k]
    have ke : (f.f0 == 3) = true := by simpa using k
    have K := Aside0.mk k
    clear k
    go_enter Try.func39, Try.ntmps39
    go_wp2_with fail
    refine (all_any f x.f2 HXX.out CK.out (.inr K.out) (by have := F3.out.2.1; omega) F3.out.1 A c A2 c2 w0 _ g m bs os HR.out HC.out HR2.out HC2.out (HB.out.of_below B3.out) HM.out HO.out (by have := HL.out; rw [OT.out] at this; exact this)).mono ?_
    rintro e w1 ⟨rfl, hb1, hf1⟩
    have HB1 := Aside0.mk hb1
    have HF1 := Aside0.mk ((Fr.of_below B3.out).trans hf1)
    clear hb1 hf1
    go_wp2
    go_ret
    exact ⟨rfl, OT.out ▸ HB1.out, HF1.out⟩
  all_goals
    have OT := Aside0.mk (show outT f x = x.f1 by rw [outT_eq, if_neg (by omega), if_neg (by omega), if_neg (by omega), if_neg (by omega)])
    have kb : (f.f0 == 0) = false := by simp [k]
    have kc : (f.f0 == 1) = false := by simp [k]
    have kd : (f.f0 == 2) = false := by simp [k]
    have ke : (f.f0 == 3) = false := by simp [k]
    clear k
    go_enter Try.func39, Try.ntmps39
    go_wp2_with fail
    refine (BBytes_any w0 _ g m bs os x.f1 A1 c1 (HB.out.of_below B3.out) (Kd.C_below (Kd.C_below HR1.out HB.out.below) B3.out) HC1.out HM.out (by have := HL.out; rw [OT.out] at this; exact this)).mono ?_
    rintro e w1 ⟨rfl, hb1, hf1⟩
    have HB1 := Aside0.mk hb1
    have HF1 := Aside0.mk ((Fr.of_below B3.out).trans hf1)
    clear hb1 hf1
    go_wp2
    go_ret
    exact ⟨rfl, OT.out ▸ HB1.out, HF1.out⟩
/-- write.Write: the bytes, or none. -/
def wrT (f : S29) (v : S32) : List Int := if (sizeT f v).2 = 0 then outT f v else []
theorem sizeT_0 {f : S29} {v : S32} (h : (sizeT f v).2 = 0) : CheckT f = 0 ∧ checkT f = 0 ∧ (fitT f v).2 = 0 := by
  unfold sizeT at h
  by_cases c0 : CheckT f = 0
  · rw [if_neg (by simp [c0])] at h
    refine ⟨c0, ?_, ?_⟩
    · unfold CheckT at c0
      split at c0
      · exact absurd c0 (by decide)
      · exact c0
    · by_cases e0 : (fitT f v).2 = 0
      · exact e0
      · rw [if_pos e0] at h; exact absurd h e0
  · rw [if_pos c0] at h; exact absurd h c0
set_option maxHeartbeats 4000000 in
set_option maxRecDepth 100000 in
theorem Write_any (f : S29) (v : S32) (hok : OkV v) (hl : (wrT f v).length ≤ 1073741824) (A : Option Addr) (c : Nat) (A1 : Option Addr) (c1 : Nat) (A2 : Option Addr) (c2 : Nat) (w : World) (hr : Kd.C k29 w A f.f5.length f.f5) (hc : f.f5.length ≤ c) (hr1 : Kd.C (Kd.int .u8) w A1 v.f1.length v.f1) (hc1 : v.f1.length ≤ c1) (hr2 : Kd.C k32 w A2 v.f2.length v.f2) (hc2 : v.f2.length ≤ c2) :
    Calls Try.prog 22 #[.agg #[.int .i64 f.f0, .int .i64 f.f1, .int .i64 f.f2, .int .i64 f.f3, .int .i64 f.f4, .slice A f.f5.length c], .agg #[.int .u64 v.f0, .slice A1 v.f1.length c1, .slice A2 v.f2.length c2]] w
      fun e w' => (∃ v' : Value, e = .returned (.tuple #[v', .int .i64 (sizeT f v).2]) ∧ (Kd.int .u8).R 5 w' w.heap.size (fun k => w.heap.size ≤ k) v' (wrT f v)) ∧ Below w.heap.size w w' := by
  have hu29 := Try.underlying29
  have hu32 := Try.underlying32
  have HR := Aside0.mk hr
  have HC := Aside0.mk hc
  have HR1 := Aside0.mk hr1
  have HC1 := Aside0.mk hc1
  have HR2 := Aside0.mk hr2
  have HC2 := Aside0.mk hc2
  have HL := Aside0.mk hl
  have OK := Aside0.mk hok
  clear hr hc hr1 hc1 hr2 hc2 hl hok
  have HB := Aside0.mk (Below.refl w.heap.size w)
  go_enter Try.func22, Try.ntmps22
  go_wp2_with fail
  refine (Fits_any f v A c A1 c1 A2 c2 _ (Kd.C_alloc (Kd.C_alloc HR.out _) _) HC.out (Kd.C_alloc (Kd.C_alloc HR1.out _) _) HC1.out (Kd.C_alloc (Kd.C_alloc HR2.out _) _) HC2.out).mono ?_
  rintro e w1 ⟨rfl, hb⟩
  have BF := Aside0.mk (blk_below (blk_alloc (heap_alloc_new w _) _) hb)
  have BV := Aside0.mk (blk_below (box2 _ _ _) hb)
  have HB1 := Aside0.mk (below_step (below_alloc (below_alloc HB.out _) _) hb)
  clear hb
  by_cases e0 : (sizeT f v).2 = 0
  case neg =>
    have e0b : ((sizeT f v).2 == 0) = false := by simpa using e0
    have e0c : ((sizeT f v).2 != 0) = true := by simpa using e0
    have E := Aside0.mk (show wrT f v = [] by rw [wrT, if_neg e0])
    clear e0
    go_wp2
    go_ret2
    rw [E.out]
    exact ⟨⟨_, rfl, Kd.R_nil _ _ _ _ _⟩, HB1.out⟩
  case pos =>
  have E := Aside0.mk (show wrT f v = outT f v by rw [wrT, if_pos e0])
  have S0 := Aside0.mk (sizeT_0 e0)
  have E0 := Aside0.mk e0
  rw [e0]
  clear e0
  go_wp2_with fail
  refine (New_any w1 w1 (Below.refl _ _)).mono ?_
  rintro e w2 ⟨g, rfl, hb2, hf2⟩
  have BF2 := Aside0.mk (hf2.blkc BF.out (by unfold bty; decide))
  have BV2 := Aside0.mk (hf2.blkc BV.out (by unfold bty; decide))
  have HB2 := Aside0.mk hb2
  clear hb2 hf2 BF BV
  have hz0 : w2.cell? ⟨w.heap.size, 0, none⟩ = some (.int .i64 f.f0) := (blk_cell BF2.out 0).trans rfl
  have hz1 : w2.cell? ⟨w.heap.size, 1, none⟩ = some (.int .i64 f.f1) := (blk_cell BF2.out 1).trans rfl
  have hz2 : w2.cell? ⟨w.heap.size, 2, none⟩ = some (.int .i64 f.f2) := (blk_cell BF2.out 2).trans rfl
  have hz3 : w2.cell? ⟨w.heap.size, 3, none⟩ = some (.int .i64 f.f3) := (blk_cell BF2.out 3).trans rfl
  have hz4 : w2.cell? ⟨w.heap.size, 4, none⟩ = some (.int .i64 f.f4) := (blk_cell BF2.out 4).trans rfl
  have hz5 : w2.cell? ⟨w.heap.size, 5, none⟩ = some (.slice A f.f5.length c) := (blk_cell BF2.out 5).trans rfl
  have hy0 : w2.cell? ⟨w.heap.size + 1, 0, none⟩ = some (.int .u64 v.f0) := (blk_cell BV2.out 0).trans rfl
  have hy1 : w2.cell? ⟨w.heap.size + 1, 1, none⟩ = some (.slice A1 v.f1.length c1) := (blk_cell BV2.out 1).trans rfl
  have hy2 : w2.cell? ⟨w.heap.size + 1, 2, none⟩ = some (.slice A2 v.f2.length c2) := (blk_cell BV2.out 2).trans rfl
  have LEN := Aside0.mk (show (outT f v).length ≤ 1073741824 from E.out ▸ HL.out)
  go_wp2_with fail
  refine (lay_ok _ v (Nat.lt_succ_self _) OK.out f S0.out.2.1 S0.out.2.2 A c A1 c1 A2 c2 w1 w2 g 1073741824 [] [] (Kd.C_below HR.out HB1.out) HC.out (Kd.C_below HR1.out HB1.out) HC1.out (Kd.C_below HR2.out HB1.out) HC2.out HB2.out (by decide) (Nat.le_refl _) (by have := LEN.out; simp; omega)).mono ?_
  rintro e w3 ⟨rfl, hb3, hf3⟩
  rw [List.nil_append] at hb3
  have HB3 := Aside0.mk hb3
  clear hb3 hf3 hz0 hz1 hz2 hz3 hz4 hz5 hy0 hy1 hy2 BF2 BV2
  go_wp2_with fail
  refine (BDone_any w1 w3 g 1073741824 (outT f v) HB3.out LEN.out).mono ?_
  rintro e w4 ⟨v', rfl, hR, hb4⟩
  have le1 := HB1.out.size
  have le3 := HB3.out.below.size
  have HR4 := Aside0.mk (Kd.R_mono (Kd.R_lower hR (show w.heap.size ≤ w3.heap.size by omega)) (fun k (hk : w3.heap.size ≤ k) => (show w.heap.size ≤ k by omega)))
  have HB4 := Aside0.mk (below_step (below_step HB1.out HB3.out.below) hb4)
  clear hR hb4 le1 le3
  go_wp2
  go_ret2
  rw [E.out]
  exact ⟨⟨v', by rw [E0.out]; try rfl, HR4.out⟩, HB4.out⟩
end Go.Proofs.Ythmcbcofipehhaa.B
