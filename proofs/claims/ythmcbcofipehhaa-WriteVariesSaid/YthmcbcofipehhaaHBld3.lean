import Derived.Test.YthmcbcofipehhaaHBld2
import Derived.Laws.CopyOwn
namespace Go.Proofs.Ythmcbcofipehhaa.B
open Go.RowKit Go.Proofs.YthmcbcofipehhaaW.PrintWords Go.Proofs.YthmcbcofipehhaaW.PrintLast Go.Proofs.YthmcbcofipehhaaW.PrintMore
set_option linter.unusedVariables false
set_option linter.unusedSimpArgs false
theorem R_inner {w : World} {base : Nat} {ok : Nat → Prop} {v : Value} {xs : List Int} (h : (Kd.int .u8).R 5 w base ok v xs) : w.ownsRow base 5 1 v xs.length (nums .u8 xs) := by
  obtain ⟨_, inner, ho, hr⟩ := h
  have hl : inner.length = xs.length := by have := hr.1; simpa [Kd.int, Kd.scalar] using this
  have : inner = nums .u8 xs := by
    apply List.ext_getElem?
    intro j
    rcases Nat.lt_or_ge j xs.length with hj | hj
    · have h1 : (inner.drop (j * 1)).take 1 = [.int .u8 xs[j]] := hr.2 j _ (List.getElem?_eq_getElem hj)
      have hj2 : j < inner.length := by omega
      rw [Nat.mul_one, List.drop_eq_getElem_cons hj2, List.take_succ_cons, List.take_zero] at h1
      have h2 : inner[j] = .int .u8 xs[j] := (List.cons.inj h1).1
      rw [List.getElem?_eq_getElem hj2, h2]
      simp [nums, hj]
    · rw [List.getElem?_eq_none (by omega), List.getElem?_eq_none (by simp [nums]; omega)]
  rw [← this]
  exact ho
theorem R_outer {w : World} {base : Nat} {ok : Nat → Prop} {v : Value} {xs : List Int} (h : w.ownsRow base 5 1 v xs.length (nums .u8 xs)) (hok : ∀ k, v.ownBlock = some k → ok k) : (Kd.int .u8).R 5 w base ok v xs := by
  refine ⟨hok, nums .u8 xs, h, by simp [nums, Kd.int, Kd.scalar], fun j p hp => ?_⟩
  show ((nums .u8 xs).drop (j * 1)).take 1 = [.int .u8 p]
  have hj := (List.getElem?_eq_some_iff.1 hp).1
  have hj2 : j < (nums .u8 xs).length := by simpa [nums] using hj
  rw [Nat.mul_one, List.drop_eq_getElem_cons hj2]
  have : xs[j] = p := by rw [List.getElem?_eq_getElem hj] at hp; exact Option.some.inj hp
  simp [nums, this]
/-- Bytes of a row of one's own, written over. -/
theorem R_splice {w : World} {base : Nat} {ok : Nat → Prop} {gb n cap : Nat} {xs ys : List Int} (hn : n = xs.length) (h : (Kd.int .u8).R 5 w base ok (.slice (some ⟨gb, 0, none⟩) n cap) xs) (o : Nat) (ho : o + ys.length ≤ xs.length) :
    ∃ cur : Array Value, w.heap[gb]? = some (.cells cur 5 (0, 0)) ∧ o + (nums .u8 ys).length ≤ cur.size ∧
      (Kd.int .u8).R 5 (w.setRow gb (cur.toList.take o ++ (nums .u8 ys ++ cur.toList.drop (o + (nums .u8 ys).length))).toArray) base ok (.slice (some ⟨gb, 0, none⟩) n cap) (xs.take o ++ ys ++ xs.drop (o + ys.length)) ∧
      w.grownBy (w.setRow gb (cur.toList.take o ++ (nums .u8 ys ++ cur.toList.drop (o + (nums .u8 ys).length))).toArray) (some gb) := by
  subst hn
  have hi := R_inner h
  rcases hi.2 with ⟨he, _⟩ | ⟨g, cap', cur, he, hb, hg, hc, hm, hs, ht⟩
  · cases he
  · have e1 : gb = g := by simpa using congrArg (fun v => match v with | Value.slice (some a) _ _ => a.block | _ => 0) he
    have e2 : cap = cap' := by simpa using congrArg (fun v => match v with | Value.slice _ _ c => c | _ => 0) he
    subst e1 e2
    have hcl : cur.toList.length = cap := by simp [hs]
    have hnl : (nums .u8 ys).length = ys.length := nums_length _ _
    rw [hnl]
    have ht' : cur.toList.take xs.length = nums .u8 xs := by simpa using ht
    have hlen : (xs.take o ++ ys ++ xs.drop (o + ys.length)).length = xs.length := by simp; omega
    refine ⟨cur, hg, by omega, R_outer ?_ (fun k hk => h.1 k hk), ⟨rfl, rfl, rfl, by simp [World.setRow], fun k _ hk => setRow_other w gb k _ (fun e => hk (by rw [e]))⟩⟩
    rw [hlen]
    refine ⟨by rw [nums_length, hlen]; omega, .inr ⟨gb, cap, _, rfl, hb, setRow_heap w gb cur _ 5 _ hg, hc, hm, ?_, ?_⟩⟩
    · simp; omega
    · apply List.ext_getElem?
      intro j
      have hx : ∀ j, j < xs.length → cur.toList[j]? = (nums .u8 xs)[j]? := by
        intro j hj
        rw [← ht', List.getElem?_take_of_lt hj]
      rw [Nat.mul_one]
      rcases Nat.lt_or_ge j xs.length with hj | hj
      · rw [List.getElem?_take_of_lt hj, List.toList_toArray]
        simp only [nums, List.map_append, List.map_take, List.map_drop]
        simp only [nums] at hx
        rcases Nat.lt_or_ge j o with h1 | h1
        · rw [List.getElem?_append_left (by simp; omega), List.append_assoc, List.getElem?_append_left (by simp; omega), List.getElem?_take_of_lt h1, List.getElem?_take_of_lt h1, hx j hj]
        · have ho1 : (cur.toList.take o).length = o := by simp; omega
          have ho2 : ((xs.map fun x => Value.int .u8 x).take o).length = o := by simp; omega
          rw [List.getElem?_append_right (by rw [ho1]; exact h1), ho1, List.append_assoc]
          conv => rhs; rw [List.getElem?_append_right (by rw [ho2]; exact h1), ho2]
          rcases Nat.lt_or_ge (j - o) ys.length with h2 | h2
          · rw [List.getElem?_append_left (by simpa using h2), List.getElem?_append_left (by simpa using h2)]
          · rw [List.getElem?_append_right (by simpa using h2), List.getElem?_append_right (by simpa using h2), List.getElem?_drop, List.getElem?_drop, List.length_map]
            rw [hx _ (by omega)]
      · rw [List.getElem?_eq_none (by simp; omega), List.getElem?_eq_none (by rw [nums_length]; omega)]
theorem info5s : (Try.prog.info? 5).map (·.size) = some 1 := by kernel_rfl
theorem cut5 (A : Option Addr) (n c : Nat) (lo hi' : Int) (h0 : 0 ≤ lo) (h1 : lo ≤ hi') (h2 : hi' ≤ n) (hc : n ≤ c) :
    ∀ W : World, (Instr.slice 23 (.slice A n c) (some (.int .i64 lo)) (some (.int .i64 hi')) none).run Try.prog W = .ok (.slice (if c = lo.toNat then A else A.map (·.add (lo.toNat * 1))) (hi'.toNat - lo.toNat) (c - lo.toNat)) W := by
  obtain ⟨i0, hi, hz⟩ := Option.map_eq_some_iff.1 info5s
  exact cut_mid 23 5 .i64 .i64 Try.underlying23 hi 1 hz A n c lo hi' h0 h1 h2 hc
theorem info108s : (Try.prog.info? 108).map (·.size) = some 2 := by kernel_rfl
theorem cut108 (A : Option Addr) (n c : Nat) (j : Int) (h0 : 0 ≤ j) (h1 : j ≤ n) (hc : n ≤ c) :
    ∀ W : World, (Instr.slice 83 (.slice A n c) none (some (.int .i64 j)) none).run Try.prog W = .ok (.slice A j.toNat c) W := by
  obtain ⟨i0, hi, hz⟩ := Option.map_eq_some_iff.1 info108s
  exact cut_to 83 108 .i64 Try.underlying83 hi A n c j h0 h1 hc
theorem Bld.parts_n {w0 w w1 : World} {g nb no : Nat} {m : Int} {bs : List Int} {os os' : List (Int × Int)} {A1 A2 : Option Addr} {c1 c2 : Nat} {v1 : Value} (hlo : w0.heap.size ≤ g) (hnb : nb = bs.length) (hno : no = os.length)
    (BK : w.heap[g]? = some (.cells #[.slice A1 nb c1, .int .i64 m, .slice A2 no c2] 85 (0, 0))) (R1 : (Kd.int .u8).R 5 w w0.heap.size (fun k => w0.heap.size ≤ k) (.slice A1 nb c1) bs)
    (R2 : pk.R 108 w w0.heap.size (fun k => w0.heap.size ≤ k) (.slice A2 no c2) os) (hc1 : nb ≤ c1) (hb : Below w0.heap.size w0 w1) (h : pk.R 108 w1 w0.heap.size (fun k => w0.heap.size ≤ k) v1 os') (hg : w.grownBy w1 (Value.slice A2 no c2).ownBlock) :
    Bld w0 (w1.setCell ⟨g, 2, none⟩ v1) g m bs os' ∧ Fr w (w1.setCell ⟨g, 2, none⟩ v1) := by
  subst hnb hno
  exact Bld.parts hlo BK R1 R2 hc1 hb h hg
theorem own_some (gb n c : Nat) : (Value.slice (some ⟨gb, 0, none⟩) n c).ownBlock = some gb := rfl
theorem row_blk {w w1 : World} {B g : Nat} {ok : Nat → Prop} {v : Value} {bs : List Int} {cs : Array Value} (BK : w.heap[g]? = some (.cells cs 85 (0, 0))) (R1 : (Kd.int .u8).R 5 w B ok v bs) (hg : w.grownBy w1 v.ownBlock) : w1.heap[g]? = some (.cells cs 85 (0, 0)) :=
  blk_grown BK hg (Kd.R_ne R1 BK (by decide))
theorem nums_one (xs : List Int) : ∀ v ∈ nums .u8 xs, v.oneCell' = true := by
  intro v hv
  simp only [nums, List.mem_map] at hv
  obtain ⟨x, _, rfl⟩ := hv
  rfl
theorem C_src {w : World} {ad : Addr} {n : Nat} {xs : List Int} (h : (Kd.int .u8).C w (some ad) n xs) : ∀ (j : Nat) (v : Value), (nums .u8 xs)[j]? = some v → w.cell? (ad.add j) = some v := by
  intro j v hv
  have hj := (List.getElem?_eq_some_iff.1 hv).1
  rw [nums_length] at hj
  obtain ⟨ad', e, hc⟩ := h.2.2 (by have := h.1; omega)
  injection e with e
  subst e
  obtain ⟨c, hs, hr, hcell⟩ := hc j _ (List.getElem?_eq_getElem hj)
  have hr' : c = [.int .u8 xs[j]] := hr
  subst hr'
  have hv' : v = .int .u8 xs[j] := by simpa [nums, hj] using hv.symm
  subst hv'
  have := hcell 0 _ rfl
  simpa [Kd.int, Kd.scalar] using this
theorem shr_litI (x : Int) : shr .i64 x (8 * 1) = x / 256 ∧ shr .i64 x (8 * 2) = x / 65536 ∧ shr .i64 x (8 * 3) = x / 16777216 := ⟨rfl, rfl, rfl⟩
set_option maxHeartbeats 4000000 in
set_option maxRecDepth 100000 in
theorem BClose_any (w0 w : World) (g : Nat) (m : Int) (pre body : List Int) (os : List (Int × Int)) (s : Int) (hs : s = 1 ∨ s = 2 ∨ s = 3) (hf : shr .i64 body.length (8 * s) = 0) (hb : Bld w0 w g m (pre ++ zs s ++ body) (os ++ [((pre.length : Int) + s, s)])) (hm : m ≤ 1073741824) (hl : (pre.length : Int) + s + body.length ≤ m) (ho : os.length ≤ 1073741824) :
    Calls Try.prog 69 #[.pointer (some ⟨g, 0, none⟩)] w fun e w' => e = .returned (.int .i64 0) ∧ Bld w0 w' g m (pre ++ be s body.length ++ body) os ∧ Fr w w' := by
  have hu85 := Try.underlying85
  have hu99 := Try.underlying99
  have hu108 := Try.underlying108
  have HL := Aside0.mk hl
  have HM := Aside0.mk hm
  have HO := Aside0.mk ho
  obtain ⟨hbel, hlo, A1, c1, A2, c2, hblk, hR1, hc1, hR2, hc2⟩ := hb
  obtain ⟨nb, hnb⟩ : ∃ nb, nb = (pre ++ zs s ++ body).length := ⟨_, rfl⟩
  have hnb2 : nb = pre.length + s.toNat + body.length := by rw [hnb]; simp [zs]; omega
  obtain ⟨no, hno⟩ : ∃ no, no = (os ++ [((pre.length : Int) + s, s)]).length := ⟨_, rfl⟩
  have hno2 : no = os.length + 1 := by rw [hno]; simp
  rw [← hnb] at hblk hR1 hc1
  rw [← hno] at hblk hR2 hc2
  obtain ⟨ad2, cs2, hA2, hcl2, hK2, hcell2⟩ := (Kd.R_reads' hR2).2.2.get_ (0, 0) (os.length : Int) (by omega) (by omega)
  subst hA2
  obtain ⟨g2, rfl⟩ := Kd.R_head hR2
  obtain ⟨ad1, c1', he1⟩ := Kd.R_slice1 hR1 (by rw [← hnb]; omega)
  obtain rfl : A1 = some ad1 := by injection he1
  obtain ⟨gb, rfl⟩ := Kd.R_head hR1
  clear he1
  have hpk : (os ++ [((pre.length : Int) + s, s)]).getD ((os.length : Int).toNat) (0, 0) = ((pre.length : Int) + s, s) := by simp
  rw [hpk] at hK2
  have hK2' : cs2 = [.int .i64 ((pre.length : Int) + s), .int .i64 s] := hK2
  obtain ⟨F, hF⟩ : ∃ F : Int, F = (pre.length : Int) + s := ⟨_, rfl⟩
  rw [← hF] at hK2' hR2
  obtain ⟨j, hj⟩ : ∃ j : Int, (no : Int) - 1 = j := ⟨_, rfl⟩
  have hjl : j = (os.length : Int) := by omega
  have j0 : 0 ≤ j := by omega
  have j1 : j < (no : Int) := by omega
  have hx0 : w.cell? ⟨g2, j.toNat * 2, none⟩ = some (.int .i64 F) := by
    have := hcell2 0 (.int .i64 F) (by rw [hK2']; rfl)
    rw [add_plain] at this
    rw [hjl]; exact this
  have hx1 : w.cell? ⟨g2, j.toNat * 2 + 1, none⟩ = some (.int .i64 s) := by
    have := hcell2 1 (.int .i64 s) (by rw [hK2']; rfl)
    rw [add_plain] at this
    rw [hjl]; exact this
  obtain ⟨L, hL⟩ : ∃ L : Int, (nb : Int) - F = L := ⟨_, rfl⟩
  have hLl : L = (body.length : Int) := by omega
  have hF0 : 0 ≤ F := by omega
  have hF1 : F ≤ (nb : Int) := by omega
  have hL0 : 0 ≤ L := by omega
  have hL1 : L ≤ 1073741824 := by omega
  rw [← hLl] at hf
  have hz0 : w.cell? ⟨g, 0, none⟩ = some (.slice (some ⟨gb, 0, none⟩) nb c1) := (blk_cell hblk 0).trans rfl
  have hz2 : w.cell? ⟨g, 2, none⟩ = some (.slice (some ⟨g2, 0, none⟩) no c2) := (blk_cell hblk 2).trans rfl
  have BL := Aside0.mk hbel
  have LO := Aside0.mk hlo
  have BK := Aside0.mk hblk
  have R1 := Aside0.mk hR1
  have R2 := Aside0.mk hR2
  have C1 := Aside0.mk hc1
  have C2 := Aside0.mk hc2
  have NB := Aside0.mk hnb2
  have NO := Aside0.mk hno2
  have HF := Aside0.mk hF
  have LL := Aside0.mk hLl
  have JL := Aside0.mk hjl
  have SH := Aside0.mk (shr_litI L)
  have L0 := Aside0.mk hL0
  have L1 := Aside0.mk (show L ≤ 18446744073709551615 by omega)
  have HNB := Aside0.mk hnb
  have NO2 := Aside0.mk (show no = (os ++ [(F, s)]).length by rw [hno]; simp)
  have no1 : (no : Int) ≤ 1073741825 := by omega
  have nb1 : (nb : Int) ≤ 1073741824 := by omega
  clear hbel hlo hblk hR1 hR2 hc1 hc2 hnb2 hno2 hF hLl hjl hpk hK2 hK2' hcell2 hcl2 hl hm ho hnb hno
  rcases hs with rfl | rfl | rfl
  · have hq : (L / 256 != 0) = false := by have h := hf; rw [SH.out.1] at h; simpa using h
    clear hf
    go_enter Try.func69, Try.ntmps69
    go_wp2
    obtain ⟨w5, hw5⟩ : ∃ w5, w5 = w.alloc (.cells #[.int .i64 F, .int .i64 1] 108) := ⟨_, rfl⟩
    have B5 := Aside0.mk (show Below w.heap.size w w5 by rw [hw5]; exact below_alloc (Below.refl _ _) _)
    have P5 := Aside0.mk (show w5.heap[w.heap.size]? = some (.cells #[.int .i64 F, .int .i64 1] 108 (0, 0)) by rw [hw5]; exact heap_alloc_new _ _)
    rw [← hw5]
    clear hw5 hz0 hz2 hx0 hx1
    have K5 := Aside0.mk (blk_below BK.out B5.out)
    have z0 : w5.cell? ⟨g, 0, none⟩ = some (.slice (some ⟨gb, 0, none⟩) nb c1) := (blk_cell K5.out 0).trans rfl
    have z2 : w5.cell? ⟨g, 2, none⟩ = some (.slice (some ⟨g2, 0, none⟩) no c2) := (blk_cell K5.out 2).trans rfl
    have p0 : w5.cell? ⟨w.heap.size, 0, none⟩ = some (.int .i64 F) := (blk_cell P5.out 0).trans rfl
    have p1 : w5.cell? ⟨w.heap.size, 1, none⟩ = some (.int .i64 1) := (blk_cell P5.out 1).trans rfl
    go_quiet (fail)
    go_wp2_with fail
    refine (lay_lit L L0.out L1.out _).mono ?_
    rintro e w6 ⟨rfl, hb⟩
    have B6 := Aside0.mk (below_step B5.out (below_step (pw_below_drewN (Below.refl _ _) _) hb))
    have K6 := Aside0.mk (blk_below (blk_drewN K5.out _) hb)
    have P6 := Aside0.mk (blk_below (blk_drewN P5.out _) hb)
    clear hb z0 z2 p0 p1
    have z0 : w6.cell? ⟨g, 0, none⟩ = some (.slice (some ⟨gb, 0, none⟩) nb c1) := (blk_cell K6.out 0).trans rfl
    have z2 : w6.cell? ⟨g, 2, none⟩ = some (.slice (some ⟨g2, 0, none⟩) no c2) := (blk_cell K6.out 2).trans rfl
    have p0 : w6.cell? ⟨w.heap.size, 0, none⟩ = some (.int .i64 F) := (blk_cell P6.out 0).trans rfl
    have p1 : w6.cell? ⟨w.heap.size, 1, none⟩ = some (.int .i64 1) := (blk_cell P6.out 1).trans rfl
    go_wp2_with fail
    obtain ⟨w7, hw7⟩ : ∃ w7, w7 = w6.alloc (.cells #[.int .u8 (dig L 7), .int .u8 (dig L 6), .int .u8 (dig L 5), .int .u8 (dig L 4), .int .u8 (dig L 3), .int .u8 (dig L 2), .int .u8 (dig L 1), .int .u8 (dig L 0)] 99) := ⟨_, rfl⟩
    have b67 : Below w6.heap.size w6 w7 := by rw [hw7]; exact below_alloc (Below.refl _ _) _
    have B7 := Aside0.mk (below_step B6.out b67)
    have K7 := Aside0.mk (blk_below K6.out b67)
    have P7 := Aside0.mk (blk_below P6.out b67)
    have L7 := Aside0.mk (show w7.heap[w6.heap.size]? = some (.cells (cells8 L 8) 99 (0, 0)) by rw [hw7]; exact heap_alloc_new _ _)
    have R17 := Aside0.mk (Kd.R_below R1.out B7.out)
    have R27 := Aside0.mk (Kd.R_below R2.out B7.out)
    rw [← hw7]
    clear hw7 b67 z0 z2 p0 p1
    have z0 : w7.cell? ⟨g, 0, none⟩ = some (.slice (some ⟨gb, 0, none⟩) nb c1) := (blk_cell K7.out 0).trans rfl
    have p0 : w7.cell? ⟨w.heap.size, 0, none⟩ = some (.int .i64 F) := (blk_cell P7.out 0).trans rfl
    have p1 : w7.cell? ⟨w.heap.size, 1, none⟩ = some (.int .i64 1) := (blk_cell P7.out 1).trans rfl
    obtain ⟨lo, hlo⟩ : ∃ lo : Int, F - 1 = lo := ⟨_, rfl⟩
    have hlo0 : 0 ≤ lo := by have := HF.out; omega
    have hlo1 : lo ≤ F := by omega
    have hw8 : IntKind.i64.wrap 7 = 7 := by decide +kernel
    have hlow : IntKind.i64.wrap lo = lo := IntWalk.i64_in _ (by omega)
    have hcut := cut5 (some ⟨gb, 0, none⟩) nb c1 lo F hlo0 hlo1 (by have := NB.out; have := LL.out; omega) C1.out
    have e1 : (if c1 = lo.toNat then (some ⟨gb, 0, none⟩ : Option Addr) else (some ⟨gb, 0, none⟩ : Option Addr).map (·.add (lo.toNat * 1))) = some ⟨gb, lo.toNat, none⟩ := by
      have := C1.out
      rw [if_neg (by omega)]
      simp [add_plain]
    have e2 : F.toNat - lo.toNat = 1 := by omega
    rw [e1, e2] at hcut
    clear e1 e2
    obtain ⟨cur, hgb, hfit, hR3, hg3⟩ := R_splice (ys := be 1 L) HNB.out (Kd.R_drew R17.out) lo.toNat (by rw [be_length]; have := HF.out; simp [zs]; omega)
    refine wp_region_still_tail 16 (by kernel_rfl) (by kernel_rfl) ?_
    simp only [List.take_succ_cons, List.take_zero, List.drop_succ_cons, List.drop_zero]
    change wpStill Try.prog _ w7.drew (fun a' => wpList Try.prog _ _ _ a' w7.drew) _ _
    repeat still_step
    refine wpStill_nil ?_
    refine wpList_copy_own rfl (.tmp 52) (.tmp 56) 23 23 rfl 5 Try.underlying23 info5s gb lo.toNat 1 (c1 - lo.toNat) ⟨w6.heap.size, 7, none⟩ 1 1 rfl rfl cur 5 hgb (nums .u8 (be 1 L)) rfl ?_ hfit (nums_one _) ?_
    · exact C_src (C_be (blk_drew L7.out) 1 (by decide))
    have hg4 := hg3
    rw [← own_some gb nb c1] at hg4
    have K8 := row_blk (blk_drew K7.out) (Kd.R_drew R17.out) hg4
    have R28 := R_apart (Kd.R_drew R27.out) (Kd.R_drew R17.out) (fun q hq => by simp [pk] at hq; subst hq; decide) hg4
    have B8 := pw_below_grown (below_drew1 (below_step BL.out B7.out)) _ (show w0.heap.size ≤ w7.drew.heap.size from (below_step BL.out B7.out).size) hg3 (fun k hk => by injection hk with hk; subst hk; exact R17.out.1 _ rfl)
    have F8 := (Fr.of_below (below_drew1 B7.out)).grown hg3 (R_rowty (Kd.R_drew R17.out) (.inr (.inl rfl)))
    clear hg4
    generalize hW : w7.drew.setRow gb _ = w8 at *
    clear hW z0 p0 p1 hgb hfit hg3 hcut
    have hls : pre ++ be 1 L ++ body = (pre ++ zs 1 ++ body).take lo.toNat ++ be 1 L ++ (pre ++ zs 1 ++ body).drop (lo.toNat + (be 1 L).length) := by
      have e : lo.toNat = pre.length := by have := HF.out; omega
      rw [e, be_length]
      have e2 : pre.length + ((1 : Int)).toNat = (pre ++ zs 1).length := by simp [zs]
      rw [e2, List.drop_left, List.append_assoc pre (zs 1) body, List.take_left]
    have hnl : nb = (pre ++ be 1 L ++ body).length := by have := NB.out; simp [be_length]; simp at this; omega
    rw [← hls] at hR3
    have R18 := hR3
    have z2 : w8.cell? ⟨g, 2, none⟩ = some (.slice (some ⟨g2, 0, none⟩) no c2) := (blk_cell K8 2).trans rfl
    have f2 := blk_frozen K8 2
    have hcut2 := cut108 (some ⟨g2, 0, none⟩) no c2 j j0 (by omega) C2.out
    have jn : j.toNat = os.length := by have := JL.out; omega
    have R28' := Kd.R_take (m := j.toNat) R28 (by simp; omega)
    have e3 : (os ++ [(F, 1)]).take j.toNat = os := by rw [jn, List.take_left]
    rw [e3] at R28'
    have FIN := Bld.parts_n (os' := os) (v1 := .slice (some ⟨g2, 0, none⟩) j.toNat c2) (bs := pre ++ be 1 L ++ body) (w := w8) (w1 := w8) (os := os ++ [(F, 1)]) LO.out hnl NO2.out K8 R18 R28 C1.out B8 R28' ⟨rfl, rfl, rfl, Nat.le_refl _, fun _ _ _ => rfl⟩
    have FIN2 := Aside0.mk FIN
    have F82 := Aside0.mk F8
    clear FIN R28' R28 R18 hR3 K8 B8 F8 hls hnl e3 jn
    go_wp2
    go_ret
    rw [← LL.out]
    exact ⟨rfl, FIN2.out.1, F82.out.trans FIN2.out.2⟩
  · have hq : (L / 65536 != 0) = false := by have h := hf; rw [SH.out.2.1] at h; simpa using h
    clear hf
    go_enter Try.func69, Try.ntmps69
    go_wp2
    obtain ⟨w5, hw5⟩ : ∃ w5, w5 = w.alloc (.cells #[.int .i64 F, .int .i64 2] 108) := ⟨_, rfl⟩
    have B5 := Aside0.mk (show Below w.heap.size w w5 by rw [hw5]; exact below_alloc (Below.refl _ _) _)
    have P5 := Aside0.mk (show w5.heap[w.heap.size]? = some (.cells #[.int .i64 F, .int .i64 2] 108 (0, 0)) by rw [hw5]; exact heap_alloc_new _ _)
    rw [← hw5]
    clear hw5 hz0 hz2 hx0 hx1
    have K5 := Aside0.mk (blk_below BK.out B5.out)
    have z0 : w5.cell? ⟨g, 0, none⟩ = some (.slice (some ⟨gb, 0, none⟩) nb c1) := (blk_cell K5.out 0).trans rfl
    have z2 : w5.cell? ⟨g, 2, none⟩ = some (.slice (some ⟨g2, 0, none⟩) no c2) := (blk_cell K5.out 2).trans rfl
    have p0 : w5.cell? ⟨w.heap.size, 0, none⟩ = some (.int .i64 F) := (blk_cell P5.out 0).trans rfl
    have p1 : w5.cell? ⟨w.heap.size, 1, none⟩ = some (.int .i64 2) := (blk_cell P5.out 1).trans rfl
    go_quiet (fail)
    go_wp2_with fail
    refine (lay_lit L L0.out L1.out _).mono ?_
    rintro e w6 ⟨rfl, hb⟩
    have B6 := Aside0.mk (below_step B5.out (below_step (pw_below_drewN (Below.refl _ _) _) hb))
    have K6 := Aside0.mk (blk_below (blk_drewN K5.out _) hb)
    have P6 := Aside0.mk (blk_below (blk_drewN P5.out _) hb)
    clear hb z0 z2 p0 p1
    have z0 : w6.cell? ⟨g, 0, none⟩ = some (.slice (some ⟨gb, 0, none⟩) nb c1) := (blk_cell K6.out 0).trans rfl
    have z2 : w6.cell? ⟨g, 2, none⟩ = some (.slice (some ⟨g2, 0, none⟩) no c2) := (blk_cell K6.out 2).trans rfl
    have p0 : w6.cell? ⟨w.heap.size, 0, none⟩ = some (.int .i64 F) := (blk_cell P6.out 0).trans rfl
    have p1 : w6.cell? ⟨w.heap.size, 1, none⟩ = some (.int .i64 2) := (blk_cell P6.out 1).trans rfl
    go_wp2_with fail
    obtain ⟨w7, hw7⟩ : ∃ w7, w7 = w6.alloc (.cells #[.int .u8 (dig L 7), .int .u8 (dig L 6), .int .u8 (dig L 5), .int .u8 (dig L 4), .int .u8 (dig L 3), .int .u8 (dig L 2), .int .u8 (dig L 1), .int .u8 (dig L 0)] 99) := ⟨_, rfl⟩
    have b67 : Below w6.heap.size w6 w7 := by rw [hw7]; exact below_alloc (Below.refl _ _) _
    have B7 := Aside0.mk (below_step B6.out b67)
    have K7 := Aside0.mk (blk_below K6.out b67)
    have P7 := Aside0.mk (blk_below P6.out b67)
    have L7 := Aside0.mk (show w7.heap[w6.heap.size]? = some (.cells (cells8 L 8) 99 (0, 0)) by rw [hw7]; exact heap_alloc_new _ _)
    have R17 := Aside0.mk (Kd.R_below R1.out B7.out)
    have R27 := Aside0.mk (Kd.R_below R2.out B7.out)
    rw [← hw7]
    clear hw7 b67 z0 z2 p0 p1
    have z0 : w7.cell? ⟨g, 0, none⟩ = some (.slice (some ⟨gb, 0, none⟩) nb c1) := (blk_cell K7.out 0).trans rfl
    have p0 : w7.cell? ⟨w.heap.size, 0, none⟩ = some (.int .i64 F) := (blk_cell P7.out 0).trans rfl
    have p1 : w7.cell? ⟨w.heap.size, 1, none⟩ = some (.int .i64 2) := (blk_cell P7.out 1).trans rfl
    obtain ⟨lo, hlo⟩ : ∃ lo : Int, F - 2 = lo := ⟨_, rfl⟩
    have hlo0 : 0 ≤ lo := by have := HF.out; omega
    have hlo1 : lo ≤ F := by omega
    have hw8 : IntKind.i64.wrap 6 = 6 := by decide +kernel
    have hlow : IntKind.i64.wrap lo = lo := IntWalk.i64_in _ (by omega)
    have hcut := cut5 (some ⟨gb, 0, none⟩) nb c1 lo F hlo0 hlo1 (by have := NB.out; have := LL.out; omega) C1.out
    have e1 : (if c1 = lo.toNat then (some ⟨gb, 0, none⟩ : Option Addr) else (some ⟨gb, 0, none⟩ : Option Addr).map (·.add (lo.toNat * 1))) = some ⟨gb, lo.toNat, none⟩ := by
      have := C1.out
      rw [if_neg (by omega)]
      simp [add_plain]
    have e2 : F.toNat - lo.toNat = 2 := by omega
    rw [e1, e2] at hcut
    clear e1 e2
    obtain ⟨cur, hgb, hfit, hR3, hg3⟩ := R_splice (ys := be 2 L) HNB.out (Kd.R_drew R17.out) lo.toNat (by rw [be_length]; have := HF.out; simp [zs]; omega)
    refine wp_region_still_tail 16 (by kernel_rfl) (by kernel_rfl) ?_
    simp only [List.take_succ_cons, List.take_zero, List.drop_succ_cons, List.drop_zero]
    change wpStill Try.prog _ w7.drew (fun a' => wpList Try.prog _ _ _ a' w7.drew) _ _
    repeat still_step
    refine wpStill_nil ?_
    refine wpList_copy_own rfl (.tmp 52) (.tmp 56) 23 23 rfl 5 Try.underlying23 info5s gb lo.toNat 2 (c1 - lo.toNat) ⟨w6.heap.size, 6, none⟩ 2 2 rfl rfl cur 5 hgb (nums .u8 (be 2 L)) rfl ?_ hfit (nums_one _) ?_
    · exact C_src (C_be (blk_drew L7.out) 2 (by decide))
    have hg4 := hg3
    rw [← own_some gb nb c1] at hg4
    have K8 := row_blk (blk_drew K7.out) (Kd.R_drew R17.out) hg4
    have R28 := R_apart (Kd.R_drew R27.out) (Kd.R_drew R17.out) (fun q hq => by simp [pk] at hq; subst hq; decide) hg4
    have B8 := pw_below_grown (below_drew1 (below_step BL.out B7.out)) _ (show w0.heap.size ≤ w7.drew.heap.size from (below_step BL.out B7.out).size) hg3 (fun k hk => by injection hk with hk; subst hk; exact R17.out.1 _ rfl)
    have F8 := (Fr.of_below (below_drew1 B7.out)).grown hg3 (R_rowty (Kd.R_drew R17.out) (.inr (.inl rfl)))
    clear hg4
    generalize hW : w7.drew.setRow gb _ = w8 at *
    clear hW z0 p0 p1 hgb hfit hg3 hcut
    have hls : pre ++ be 2 L ++ body = (pre ++ zs 2 ++ body).take lo.toNat ++ be 2 L ++ (pre ++ zs 2 ++ body).drop (lo.toNat + (be 2 L).length) := by
      have e : lo.toNat = pre.length := by have := HF.out; omega
      rw [e, be_length]
      have e2 : pre.length + ((2 : Int)).toNat = (pre ++ zs 2).length := by simp [zs]
      rw [e2, List.drop_left, List.append_assoc pre (zs 2) body, List.take_left]
    have hnl : nb = (pre ++ be 2 L ++ body).length := by have := NB.out; simp [be_length]; simp at this; omega
    rw [← hls] at hR3
    have R18 := hR3
    have z2 : w8.cell? ⟨g, 2, none⟩ = some (.slice (some ⟨g2, 0, none⟩) no c2) := (blk_cell K8 2).trans rfl
    have f2 := blk_frozen K8 2
    have hcut2 := cut108 (some ⟨g2, 0, none⟩) no c2 j j0 (by omega) C2.out
    have jn : j.toNat = os.length := by have := JL.out; omega
    have R28' := Kd.R_take (m := j.toNat) R28 (by simp; omega)
    have e3 : (os ++ [(F, 2)]).take j.toNat = os := by rw [jn, List.take_left]
    rw [e3] at R28'
    have FIN := Bld.parts_n (os' := os) (v1 := .slice (some ⟨g2, 0, none⟩) j.toNat c2) (bs := pre ++ be 2 L ++ body) (w := w8) (w1 := w8) (os := os ++ [(F, 2)]) LO.out hnl NO2.out K8 R18 R28 C1.out B8 R28' ⟨rfl, rfl, rfl, Nat.le_refl _, fun _ _ _ => rfl⟩
    have FIN2 := Aside0.mk FIN
    have F82 := Aside0.mk F8
    clear FIN R28' R28 R18 hR3 K8 B8 F8 hls hnl e3 jn
    go_wp2
    go_ret
    rw [← LL.out]
    exact ⟨rfl, FIN2.out.1, F82.out.trans FIN2.out.2⟩
  · have hq : (L / 16777216 != 0) = false := by have h := hf; rw [SH.out.2.2] at h; simpa using h
    clear hf
    go_enter Try.func69, Try.ntmps69
    go_wp2
    obtain ⟨w5, hw5⟩ : ∃ w5, w5 = w.alloc (.cells #[.int .i64 F, .int .i64 3] 108) := ⟨_, rfl⟩
    have B5 := Aside0.mk (show Below w.heap.size w w5 by rw [hw5]; exact below_alloc (Below.refl _ _) _)
    have P5 := Aside0.mk (show w5.heap[w.heap.size]? = some (.cells #[.int .i64 F, .int .i64 3] 108 (0, 0)) by rw [hw5]; exact heap_alloc_new _ _)
    rw [← hw5]
    clear hw5 hz0 hz2 hx0 hx1
    have K5 := Aside0.mk (blk_below BK.out B5.out)
    have z0 : w5.cell? ⟨g, 0, none⟩ = some (.slice (some ⟨gb, 0, none⟩) nb c1) := (blk_cell K5.out 0).trans rfl
    have z2 : w5.cell? ⟨g, 2, none⟩ = some (.slice (some ⟨g2, 0, none⟩) no c2) := (blk_cell K5.out 2).trans rfl
    have p0 : w5.cell? ⟨w.heap.size, 0, none⟩ = some (.int .i64 F) := (blk_cell P5.out 0).trans rfl
    have p1 : w5.cell? ⟨w.heap.size, 1, none⟩ = some (.int .i64 3) := (blk_cell P5.out 1).trans rfl
    go_quiet (fail)
    go_wp2_with fail
    refine (lay_lit L L0.out L1.out _).mono ?_
    rintro e w6 ⟨rfl, hb⟩
    have B6 := Aside0.mk (below_step B5.out (below_step (pw_below_drewN (Below.refl _ _) _) hb))
    have K6 := Aside0.mk (blk_below (blk_drewN K5.out _) hb)
    have P6 := Aside0.mk (blk_below (blk_drewN P5.out _) hb)
    clear hb z0 z2 p0 p1
    have z0 : w6.cell? ⟨g, 0, none⟩ = some (.slice (some ⟨gb, 0, none⟩) nb c1) := (blk_cell K6.out 0).trans rfl
    have z2 : w6.cell? ⟨g, 2, none⟩ = some (.slice (some ⟨g2, 0, none⟩) no c2) := (blk_cell K6.out 2).trans rfl
    have p0 : w6.cell? ⟨w.heap.size, 0, none⟩ = some (.int .i64 F) := (blk_cell P6.out 0).trans rfl
    have p1 : w6.cell? ⟨w.heap.size, 1, none⟩ = some (.int .i64 3) := (blk_cell P6.out 1).trans rfl
    go_wp2_with fail
    obtain ⟨w7, hw7⟩ : ∃ w7, w7 = w6.alloc (.cells #[.int .u8 (dig L 7), .int .u8 (dig L 6), .int .u8 (dig L 5), .int .u8 (dig L 4), .int .u8 (dig L 3), .int .u8 (dig L 2), .int .u8 (dig L 1), .int .u8 (dig L 0)] 99) := ⟨_, rfl⟩
    have b67 : Below w6.heap.size w6 w7 := by rw [hw7]; exact below_alloc (Below.refl _ _) _
    have B7 := Aside0.mk (below_step B6.out b67)
    have K7 := Aside0.mk (blk_below K6.out b67)
    have P7 := Aside0.mk (blk_below P6.out b67)
    have L7 := Aside0.mk (show w7.heap[w6.heap.size]? = some (.cells (cells8 L 8) 99 (0, 0)) by rw [hw7]; exact heap_alloc_new _ _)
    have R17 := Aside0.mk (Kd.R_below R1.out B7.out)
    have R27 := Aside0.mk (Kd.R_below R2.out B7.out)
    rw [← hw7]
    clear hw7 b67 z0 z2 p0 p1
    have z0 : w7.cell? ⟨g, 0, none⟩ = some (.slice (some ⟨gb, 0, none⟩) nb c1) := (blk_cell K7.out 0).trans rfl
    have p0 : w7.cell? ⟨w.heap.size, 0, none⟩ = some (.int .i64 F) := (blk_cell P7.out 0).trans rfl
    have p1 : w7.cell? ⟨w.heap.size, 1, none⟩ = some (.int .i64 3) := (blk_cell P7.out 1).trans rfl
    obtain ⟨lo, hlo⟩ : ∃ lo : Int, F - 3 = lo := ⟨_, rfl⟩
    have hlo0 : 0 ≤ lo := by have := HF.out; omega
    have hlo1 : lo ≤ F := by omega
    have hw8 : IntKind.i64.wrap 5 = 5 := by decide +kernel
    have hlow : IntKind.i64.wrap lo = lo := IntWalk.i64_in _ (by omega)
    have hcut := cut5 (some ⟨gb, 0, none⟩) nb c1 lo F hlo0 hlo1 (by have := NB.out; have := LL.out; omega) C1.out
    have e1 : (if c1 = lo.toNat then (some ⟨gb, 0, none⟩ : Option Addr) else (some ⟨gb, 0, none⟩ : Option Addr).map (·.add (lo.toNat * 1))) = some ⟨gb, lo.toNat, none⟩ := by
      have := C1.out
      rw [if_neg (by omega)]
      simp [add_plain]
    have e2 : F.toNat - lo.toNat = 3 := by omega
    rw [e1, e2] at hcut
    clear e1 e2
    obtain ⟨cur, hgb, hfit, hR3, hg3⟩ := R_splice (ys := be 3 L) HNB.out (Kd.R_drew R17.out) lo.toNat (by rw [be_length]; have := HF.out; simp [zs]; omega)
    refine wp_region_still_tail 16 (by kernel_rfl) (by kernel_rfl) ?_
    simp only [List.take_succ_cons, List.take_zero, List.drop_succ_cons, List.drop_zero]
    change wpStill Try.prog _ w7.drew (fun a' => wpList Try.prog _ _ _ a' w7.drew) _ _
    repeat still_step
    refine wpStill_nil ?_
    refine wpList_copy_own rfl (.tmp 52) (.tmp 56) 23 23 rfl 5 Try.underlying23 info5s gb lo.toNat 3 (c1 - lo.toNat) ⟨w6.heap.size, 5, none⟩ 3 3 rfl rfl cur 5 hgb (nums .u8 (be 3 L)) rfl ?_ hfit (nums_one _) ?_
    · exact C_src (C_be (blk_drew L7.out) 3 (by decide))
    have hg4 := hg3
    rw [← own_some gb nb c1] at hg4
    have K8 := row_blk (blk_drew K7.out) (Kd.R_drew R17.out) hg4
    have R28 := R_apart (Kd.R_drew R27.out) (Kd.R_drew R17.out) (fun q hq => by simp [pk] at hq; subst hq; decide) hg4
    have B8 := pw_below_grown (below_drew1 (below_step BL.out B7.out)) _ (show w0.heap.size ≤ w7.drew.heap.size from (below_step BL.out B7.out).size) hg3 (fun k hk => by injection hk with hk; subst hk; exact R17.out.1 _ rfl)
    have F8 := (Fr.of_below (below_drew1 B7.out)).grown hg3 (R_rowty (Kd.R_drew R17.out) (.inr (.inl rfl)))
    clear hg4
    generalize hW : w7.drew.setRow gb _ = w8 at *
    clear hW z0 p0 p1 hgb hfit hg3 hcut
    have hls : pre ++ be 3 L ++ body = (pre ++ zs 3 ++ body).take lo.toNat ++ be 3 L ++ (pre ++ zs 3 ++ body).drop (lo.toNat + (be 3 L).length) := by
      have e : lo.toNat = pre.length := by have := HF.out; omega
      rw [e, be_length]
      have e2 : pre.length + ((3 : Int)).toNat = (pre ++ zs 3).length := by simp [zs]
      rw [e2, List.drop_left, List.append_assoc pre (zs 3) body, List.take_left]
    have hnl : nb = (pre ++ be 3 L ++ body).length := by have := NB.out; simp [be_length]; simp at this; omega
    rw [← hls] at hR3
    have R18 := hR3
    have z2 : w8.cell? ⟨g, 2, none⟩ = some (.slice (some ⟨g2, 0, none⟩) no c2) := (blk_cell K8 2).trans rfl
    have f2 := blk_frozen K8 2
    have hcut2 := cut108 (some ⟨g2, 0, none⟩) no c2 j j0 (by omega) C2.out
    have jn : j.toNat = os.length := by have := JL.out; omega
    have R28' := Kd.R_take (m := j.toNat) R28 (by simp; omega)
    have e3 : (os ++ [(F, 3)]).take j.toNat = os := by rw [jn, List.take_left]
    rw [e3] at R28'
    have FIN := Bld.parts_n (os' := os) (v1 := .slice (some ⟨g2, 0, none⟩) j.toNat c2) (bs := pre ++ be 3 L ++ body) (w := w8) (w1 := w8) (os := os ++ [(F, 3)]) LO.out hnl NO2.out K8 R18 R28 C1.out B8 R28' ⟨rfl, rfl, rfl, Nat.le_refl _, fun _ _ _ => rfl⟩
    have FIN2 := Aside0.mk FIN
    have F82 := Aside0.mk F8
    clear FIN R28' R28 R18 hR3 K8 B8 F8 hls hnl e3 jn
    go_wp2
    go_ret
    rw [← LL.out]
    exact ⟨rfl, FIN2.out.1, F82.out.trans FIN2.out.2⟩
end Go.Proofs.Ythmcbcofipehhaa.B
