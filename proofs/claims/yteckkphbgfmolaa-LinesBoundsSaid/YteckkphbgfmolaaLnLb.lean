/- Layer 8: LinesBounds. -/
import Derived.Test.YteckkphbgfmolaaLnP
import Derived.Test.YteckkphbgfmolaaOpens
namespace Go.Proofs.Yteckkphbgfmolaa.K
open Go.RowKit Go.Proofs.YteckkphbgfmolaaW.PrintWords Go.Proofs.YteckkphbgfmolaaW.PrintLast Go.Proofs.YteckkphbgfmolaaW.PrintMore Go.Proofs.Yteckkphbgfmolaa.Pure
set_option linter.unusedVariables false
set_option linter.unusedSimpArgs false
set_option maxRecDepth 100000 in
set_option maxHeartbeats 4000000 in
theorem bounds_no (A1 : Option Addr) (c1 : Nat) (A3 : Option Addr) (c3 : Nat) (n : Nd) (width : Int) (w : World) (hr1 : Kd.C (Kd.int .i64) w A1 n.f1.length n.f1) (hc1 : n.f1.length ≤ c1) (hr3 : Kd.C (Kd.int .i64) w A3 n.f3.length n.f3) (hc3 : n.f3.length ≤ c3) (hR : rightB (cutN n) = false) :
    Calls Try.prog 7 #[.agg (nodeC A1 c1 A3 c3 n), .int .i64 width] w fun e w' => e = .returned (.bool true) ∧ Below w.heap.size w w' := by
  have hk1 := nodeK A1 c1 A3 c3 n
  have hk2 := nodeK A1 c1 A3 c3 (cutN n)
  have hcut := fun (V : World) (hV : Below w.heap.size w V) => cut_any A1 c1 A3 c3 n V (Kd.C_below hr1 hV) hc1 (Kd.C_below hr3 hV) hc3
  have hd3 := cutN_C hr3
  have hdc := cutN_le (n := n) hc3
  have HBOX := Lib.hid (fun (V : World) (hV : Below w.heap.size w V) => box_no A1 c1 A3 c3 (cutN n) width V (Kd.C_below hr1 hV) hc1 (Kd.C_below hd3 hV) hdc hR)
  have HBRK := Lib.hid (fun (V : World) (hV : Below w.heap.size w V) => break_no A1 c1 A3 c3 (cutN n) width V (Kd.C_below hr1 hV) hc1 (Kd.C_below hd3 hV) hdc hR)
  unfold boxZ at HBOX
  clear hR
  have HK1 := Lib.hid hk1
  have HK2 := Lib.hid hk2
  have HCUT := Lib.hid hcut
  clear hk1 hk2 hcut hr1 hr3 hc1 hc3 hd3 hdc
  generalize nodeC A1 c1 A3 c3 (cutN n) = cs2 at *
  generalize nodeC A1 c1 A3 c3 n = cs at *
  go_enter Try.func7, Try.ntmps7
  go_upto_region 3 with (first | (refine wpList_load_mid rfl 35 _ rfl _ _ rfl _ _ hrow1 Try.underlying35 rfl HK1.out.len ?_) | (go_at_call 10; refine (shown_any _).mono ?_; rintro e w1 ⟨rfl, hb⟩; have HBK1 := Lib.hid (Blk.below (Blk.new w 35 cs) hb (by simp)); have HB := Lib.hid (((Below.refl _ w).alloc (Nat.le_refl _) (.cells cs 35)).trans (hb.mono (by simp))); clear hb; have hrow1 := Blk.range HBK1.out) | (go_at_call 11; refine (HCUT.out _ HB.out).mono ?_; rintro e w2 ⟨rfl, hb⟩; have n0_ := Lib.hid (Blk.below HBK1.out hb (Blk.lt HBK1.out)); have n1_ := Lib.hid (HB.out.trans (hb.mono HB.out.size)); clear HBK1 HB; have HBK1 := n0_; have HB := n1_; clear n0_ n1_ hb hrow1; have hT := Blk.there HBK1.out cs2.size (by rw [HK1.out.size, HK2.out.size]; exact Nat.le_refl _)) | (refine wpList_store_mid rfl 35 _ _ rfl (w.heap.size) 0 cs2 rfl rfl hT HK2.out.len2 HK2.out.one ?_; have HBK := Lib.hid (show Blk _ _ _ cs2 from HBK1.out.setCells cs2.toList (by rw [Array.length_toList, HK1.out.size, HK2.out.size])); have n1_ := Lib.hid (below_setCells' (b := w.heap.size) (Nat.le_refl _) cs2.toList 0 HB.out); clear HB; have HB := n1_; clear n1_ HBK1 hT; generalize w2.setCells w.heap.size 0 cs2.toList = w3 at HBK HB ⊢; have hrow := Blk.range HBK.out))
  go_upto_region 4 with (first | (refine wpList_load_mid rfl 35 _ rfl _ _ rfl _ _ hrow Try.underlying35 rfl HK2.out.len ?_) | (go_at_call 13; refine (HBOX.out _ HB.out).mono ?_; rintro e w5 ⟨rfl, hb⟩; have n_HBK := Lib.hid (Blk.below HBK.out hb (Blk.lt HBK.out)); have n_HB := Lib.hid (HB.out.trans (hb.mono HB.out.size)); clear hb HB HBK; have HBK := n_HBK; have HB := n_HB; clear n_HB n_HBK; replace hrow := Blk.range HBK.out))
  have HKN := Lib.hid (Blk.new w5 43 #[.int .i64 0, .int .i64 0, .int .i64 0, .int .i64 0, .bool false])
  have n_HBK := Lib.hid (Blk.alloc HBK.out (.cells #[.int .i64 0, .int .i64 0, .int .i64 0, .int .i64 0, .bool false] 43))
  have n_HB := Lib.hid (HB.out.alloc HB.out.size (.cells #[.int .i64 0, .int .i64 0, .int .i64 0, .int .i64 0, .bool false] 43))
  clear HB hrow HBK
  have HBK := n_HBK
  have HB := n_HB
  clear n_HB n_HBK
  generalize w5.alloc (.cells #[.int .i64 0, .int .i64 0, .int .i64 0, .int .i64 0, .bool false] 43) = w6 at HB HKN HBK ⊢
  generalize w5.heap.size = N at *
  have hrow := Blk.range HBK.out
  go_wp2_with (first | (refine wpList_load_mid rfl 35 _ rfl _ _ rfl _ _ hrow Try.underlying35 rfl HK2.out.len ?_) | (go_at_call 12; refine (HBRK.out _ HB.out).mono ?_; rintro e w5 ⟨rfl, hb⟩; have n_HBK := Lib.hid (Blk.below HBK.out hb (Blk.lt HBK.out)); have n_HB := Lib.hid (HB.out.trans (hb.mono HB.out.size)); clear hb HB HBK; have HBK := n_HBK; have HB := n_HB; clear n_HB n_HBK; replace hrow := Blk.range HBK.out))
  go_ret
  exact ⟨rfl, HB.out⟩
set_option maxRecDepth 100000 in
set_option maxHeartbeats 4000000 in
theorem bounds_yes (A1 : Option Addr) (c1 : Nat) (A3 : Option Addr) (c3 : Nat) (n : Nd) (width : Int) (w : World) (hr1 : Kd.C (Kd.int .i64) w A1 n.f1.length n.f1) (hc1 : n.f1.length ≤ c1) (hr3 : Kd.C (Kd.int .i64) w A3 n.f3.length n.f3) (hc3 : n.f3.length ≤ c3) (hR : rightB (cutN n) = true) :
    Calls Try.prog 7 #[.agg (nodeC A1 c1 A3 c3 n), .int .i64 width] w fun e w' => e = .returned (.bool true) ∧ Below w.heap.size w w' := by
  have hk1 := nodeK A1 c1 A3 c3 n
  have hk2 := nodeK A1 c1 A3 c3 (cutN n)
  have hcut := fun (V : World) (hV : Below w.heap.size w V) => cut_any A1 c1 A3 c3 n V (Kd.C_below hr1 hV) hc1 (Kd.C_below hr3 hV) hc3
  have hd3 := cutN_C hr3
  have hdc := cutN_le (n := n) hc3
  have HBOX := Lib.hid (fun (V : World) (hV : Below w.heap.size w V) => box_any A1 c1 A3 c3 (cutN n) width V (Kd.C_below hr1 hV) hc1 (Kd.C_below hd3 hV) hdc)
  have HBRK := Lib.hid (fun (V : World) (hV : Below w.heap.size w V) => break_any A1 c1 A3 c3 (cutN n) width V (Kd.C_below hr1 hV) hc1 (Kd.C_below hd3 hV) hdc)
  have hb1 : boxE (cutN n) width = (boxC (cutN n) width, 0) := by unfold boxE; rw [if_pos hR]
  have hb2 : linesE (cutN n) width = (linesP (cutN n) width, 0) := by unfold linesE; rw [if_pos hR]
  have hlm := least_most (txt_of hR)
  obtain ⟨-, hl, -, h5, -⟩ := right_facts hR
  have hpos := linesP_pos (n := cutN n) (width := width)
  have hpb : IntKind.i64.wrap (((linesP (cutN n) width).length : Int) * (cutN n).f5) = (cutN n).f5 * ((linesP (cutN n) width).length : Int) := by
    have h1 : 0 ≤ (cutN n).f5 * ((linesP (cutN n) width).length : Int) := Int.mul_nonneg h5.1 (by omega)
    have h2 : (cutN n).f5 * ((linesP (cutN n) width).length : Int) ≤ 1073741824 * 10000 := Int.mul_le_mul h5.2 (by have := Nat.le_trans (linesN_len (cutN n).f3 (cutN n).f4 width (cutN n).f3.length 0) hl; unfold linesP; omega) (by omega) (by omega)
    rw [Int.mul_comm]
    exact IntWalk.i64_in _ (by omega)
  rw [hb1] at HBOX
  rw [hb2] at HBRK
  unfold boxC at HBOX
  dsimp only at HBOX HBRK
  have hdc0 : decide (0 < (linesP (cutN n) width).length) = decide (0 < (cutN n).f3.length) := by simp only [hpos]
  rw [hdc0] at HBOX
  have hbs : 0 ≤ (if 0 < (linesP (cutN n) width).length then (cutN n).f5 - (cutN n).f5 / 4 else 0) ∧ (if 0 < (linesP (cutN n) width).length then (cutN n).f5 - (cutN n).f5 / 4 else 0) ≤ (cutN n).f5 := by split <;> omega
  generalize (if 0 < (linesP (cutN n) width).length then (cutN n).f5 - (cutN n).f5 / 4 else 0) = bs at *
  clear hb1 hb2 hpos hR hdc0
  have Q31 := Lib.hid (show (nodeC A1 c1 A3 c3 (cutN n))[31]? = some (.slice A3 (cutN n).f3.length c3) from rfl)
  have Q33 := Lib.hid (show (nodeC A1 c1 A3 c3 (cutN n))[33]? = some (.int .i64 (cutN n).f5) from rfl)
  have HK1 := Lib.hid hk1
  have HK2 := Lib.hid hk2
  have HCUT := Lib.hid hcut
  clear hk1 hk2 hcut hr1 hr3 hc1 hc3 hd3 hdc
  generalize nodeC A1 c1 A3 c3 (cutN n) = cs2 at *
  generalize nodeC A1 c1 A3 c3 n = cs at *
  generalize (cutN n).f3.foldl mx 0 = lst at *
  generalize wideP (cutN n).f3 (cutN n).f4 0 (cutN n).f3.length = mst at *
  generalize (cutN n).f5 = hi at *
  generalize (cutN n).f3.length = len at *
  have HBRK2 := Lib.hid (fun V hV => (HBRK.out V hV).mono (R' := fun e w' => ∃ A c, e = .returned (.tuple #[.slice A (linesP (cutN n) width).length c, .int .i64 0]) ∧ Below V.heap.size V w') (by rintro e w' ⟨A, c, rfl, -, hb⟩; exact ⟨A, c, rfl, hb⟩))
  clear HBRK
  generalize (linesP (cutN n) width).length = nl at *
  generalize hi * (nl : Int) = pr at *
  have hd1 : decide (0 ≤ lst) = true := decide_eq_true hlm.1
  have hd2 : decide (lst ≤ mst) = true := decide_eq_true hlm.2
  have hd3 : decide (0 ≤ bs) = true := decide_eq_true hbs.1
  have hd4 : decide (bs ≤ hi) = true := decide_eq_true hbs.2
  clear hl h5 hlm hbs
  go_enter Try.func7, Try.ntmps7
  go_upto_region 3 with (first | (refine wpList_load_mid rfl 35 _ rfl _ _ rfl _ _ hrow1 Try.underlying35 rfl HK1.out.len ?_) | (go_at_call 10; refine (shown_any _).mono ?_; rintro e w1 ⟨rfl, hb⟩; have HBK1 := Lib.hid (Blk.below (Blk.new w 35 cs) hb (by simp)); have HB := Lib.hid (((Below.refl _ w).alloc (Nat.le_refl _) (.cells cs 35)).trans (hb.mono (by simp))); clear hb; have hrow1 := Blk.range HBK1.out) | (go_at_call 11; refine (HCUT.out _ HB.out).mono ?_; rintro e w2 ⟨rfl, hb⟩; have n0_ := Lib.hid (Blk.below HBK1.out hb (Blk.lt HBK1.out)); have n1_ := Lib.hid (HB.out.trans (hb.mono HB.out.size)); clear HBK1 HB; have HBK1 := n0_; have HB := n1_; clear n0_ n1_ hb hrow1; have hT := Blk.there HBK1.out cs2.size (by rw [HK1.out.size, HK2.out.size]; exact Nat.le_refl _)) | (refine wpList_store_mid rfl 35 _ _ rfl (w.heap.size) 0 cs2 rfl rfl hT HK2.out.len2 HK2.out.one ?_; have HBK := Lib.hid (show Blk _ _ _ cs2 from HBK1.out.setCells cs2.toList (by rw [Array.length_toList, HK1.out.size, HK2.out.size])); have n1_ := Lib.hid (below_setCells' (b := w.heap.size) (Nat.le_refl _) cs2.toList 0 HB.out); clear HB; have HB := n1_; clear n1_ HBK1 hT; generalize w2.setCells w.heap.size 0 cs2.toList = w3 at HBK HB ⊢; have hrow := Blk.range HBK.out))
  go_upto_region 4 with (first | (refine wpList_load_mid rfl 35 _ rfl _ _ rfl _ _ hrow Try.underlying35 rfl HK2.out.len ?_) | (go_at_call 13; refine (HBOX.out _ HB.out).mono ?_; rintro e w5 ⟨rfl, hb⟩; have n_HBK := Lib.hid (Blk.below HBK.out hb (Blk.lt HBK.out)); have n_HB := Lib.hid (HB.out.trans (hb.mono HB.out.size)); clear hb HB HBK; have HBK := n_HBK; have HB := n_HB; clear n_HB n_HBK; replace hrow := Blk.range HBK.out))
  have HKN := Lib.hid (Blk.new w5 43 #[.int .i64 lst, .int .i64 mst, .int .i64 pr, .int .i64 bs, .bool (decide (0 < len))])
  have n_HBK := Lib.hid (Blk.alloc HBK.out (.cells #[.int .i64 lst, .int .i64 mst, .int .i64 pr, .int .i64 bs, .bool (decide (0 < len))] 43))
  have n_HB := Lib.hid (HB.out.alloc HB.out.size (.cells #[.int .i64 lst, .int .i64 mst, .int .i64 pr, .int .i64 bs, .bool (decide (0 < len))] 43))
  clear HB hrow HBK
  have HBK := n_HBK
  have HB := n_HB
  clear n_HB n_HBK
  generalize w5.alloc (.cells #[.int .i64 lst, .int .i64 mst, .int .i64 pr, .int .i64 bs, .bool (decide (0 < len))] 43) = w6 at HB HKN HBK ⊢
  generalize w5.heap.size = N at *
  have hrow := Blk.range HBK.out
  go_upto_region 5 with (first | (refine wpList_load_mid rfl 35 _ rfl _ _ rfl _ _ hrow Try.underlying35 rfl HK2.out.len ?_) | (go_at_call 12; refine (HBRK2.out _ HB.out).mono ?_; rintro e w5 ⟨A, c, rfl, hb⟩; have n_HBK := Lib.hid (Blk.below HBK.out hb (Blk.lt HBK.out)); have n_HKN := Lib.hid (Blk.below HKN.out hb (Blk.lt HKN.out)); have n_HB := Lib.hid (HB.out.trans (hb.mono HB.out.size)); clear hb HB HBK HKN; have HBK := n_HBK; have HKN := n_HKN; have HB := n_HB; clear n_HB n_HBK n_HKN; replace hrow := Blk.range HBK.out))
  have y0_ : w5.cell? ⟨N, 0, none⟩ = some (.int .i64 lst) := Blk.cell HKN.out 0
  have y1_ : w5.cell? ⟨N, 1, none⟩ = some (.int .i64 mst) := Blk.cell HKN.out 1
  have y2_ : w5.cell? ⟨N, 2, none⟩ = some (.int .i64 pr) := Blk.cell HKN.out 2
  have y3_ : w5.cell? ⟨N, 3, none⟩ = some (.int .i64 bs) := Blk.cell HKN.out 3
  have y4_ : w5.cell? ⟨N, 4, none⟩ = some (.bool (decide (0 < len))) := Blk.cell HKN.out 4
  have y31 : w5.cell? ⟨w.heap.size, 31, none⟩ = some (.slice A3 len c3) := (Blk.cell HBK.out 31).trans Q31.out
  have y33 : w5.cell? ⟨w.heap.size, 33, none⟩ = some (.int .i64 hi) := (Blk.cell HBK.out 33).trans Q33.out
  go_wp2
  go_ret
  exact ⟨by simp, HB.out⟩
theorem bounds_any (A1 : Option Addr) (c1 : Nat) (A3 : Option Addr) (c3 : Nat) (n : Nd) (width : Int) (w : World) (hr1 : Kd.C (Kd.int .i64) w A1 n.f1.length n.f1) (hc1 : n.f1.length ≤ c1) (hr3 : Kd.C (Kd.int .i64) w A3 n.f3.length n.f3) (hc3 : n.f3.length ≤ c3) : Calls Try.prog 7 #[.agg (nodeC A1 c1 A3 c3 n), .int .i64 width] w fun e w' => e = .returned (.bool true) ∧ Below w.heap.size w w' := by
  by_cases hR : rightB (cutN n) = true
  · exact bounds_yes A1 c1 A3 c3 n width w hr1 hc1 hr3 hc3 hR
  · exact bounds_no A1 c1 A3 c3 n width w hr1 hc1 hr3 hc3 (by simpa using hR)
def purflinglaw08_LinesBounds.f (a0_0 : Int) (l0_1 : List Int) (a0_2 : Int) (a0_3 : Int) (a0_4 : Int) (a0_5 : Int) (a0_6 : Int) (a0_7 : Int) (a0_8 : Int) (a0_9 : Int) (a0_10 : Int) (a0_11 : Int) (a0_12 : Int) (a0_13 : Int) (a0_14 : Int) (a0_15 : Int) (a0_16 : Int) (a0_17 : Int) (a0_18 : Int) (a0_19 : Int) (a0_20 : Int) (a0_21 : Int) (a0_22 : Int) (a0_23 : Int) (a0_24 : Int) (a0_25 : Bool) (a0_26 : Bool) (a0_27 : Int) (a0_28 : Int) (a0_29 : Bool) (a0_30 : Bool) (l0_31 : List Int) (a0_32 : Int) (a0_33 : Int) (width : Int) : Option Bool := some true
theorem purflinglaw08_LinesBounds.calls (a0_0 : Int) (A0_1 : Option Addr) (c0_1 : Nat) (l0_1 : List Int) (a0_2 : Int) (a0_3 : Int) (a0_4 : Int) (a0_5 : Int) (a0_6 : Int) (a0_7 : Int) (a0_8 : Int) (a0_9 : Int) (a0_10 : Int) (a0_11 : Int) (a0_12 : Int) (a0_13 : Int) (a0_14 : Int) (a0_15 : Int) (a0_16 : Int) (a0_17 : Int) (a0_18 : Int) (a0_19 : Int) (a0_20 : Int) (a0_21 : Int) (a0_22 : Int) (a0_23 : Int) (a0_24 : Int) (a0_25 : Bool) (a0_26 : Bool) (a0_27 : Int) (a0_28 : Int) (a0_29 : Bool) (a0_30 : Bool) (A0_31 : Option Addr) (c0_31 : Nat) (l0_31 : List Int) (a0_32 : Int) (a0_33 : Int) (width : Int) (r : Bool) (w : World) (hr0_1 : Kd.C (Kd.int .i64) w A0_1 l0_1.length l0_1) (hc0_1 : l0_1.length ≤ c0_1) (hr0_31 : Kd.C (Kd.int .i64) w A0_31 l0_31.length l0_31) (hc0_31 : l0_31.length ≤ c0_31) (h : purflinglaw08_LinesBounds.f a0_0 l0_1 a0_2 a0_3 a0_4 a0_5 a0_6 a0_7 a0_8 a0_9 a0_10 a0_11 a0_12 a0_13 a0_14 a0_15 a0_16 a0_17 a0_18 a0_19 a0_20 a0_21 a0_22 a0_23 a0_24 a0_25 a0_26 a0_27 a0_28 a0_29 a0_30 l0_31 a0_32 a0_33 width = some r) :
    Calls Try.prog 7 #[.agg #[.int .i64 a0_0, .slice A0_1 l0_1.length c0_1, .int .i64 a0_2, .int .i64 a0_3, .int .i64 a0_4, .int .i64 a0_5, .int .i64 a0_6, .int .i64 a0_7, .int .i64 a0_8, .int .i64 a0_9, .int .i64 a0_10, .int .i64 a0_11, .int .u32 a0_12, .int .i64 a0_13, .int .i64 a0_14, .int .u32 a0_15, .int .i64 a0_16, .int .i64 a0_17, .int .u32 a0_18, .int .i64 a0_19, .int .i64 a0_20, .int .u32 a0_21, .int .i64 a0_22, .int .i64 a0_23, .int .i64 a0_24, .bool a0_25, .bool a0_26, .int .i64 a0_27, .int .i64 a0_28, .bool a0_29, .bool a0_30, .slice A0_31 l0_31.length c0_31, .int .i64 a0_32, .int .i64 a0_33], .int .i64 width] w fun e w' => e = .returned (.bool r) ∧ Below w.heap.size w w' := by
  cases h
  exact bounds_any A0_1 c0_1 A0_31 c0_31 (⟨a0_0, l0_1, ⟨⟨a0_2, a0_3⟩, ⟨a0_4, a0_5⟩, ⟨a0_6, a0_7, a0_8, a0_9⟩, ⟨⟨a0_10, a0_11, a0_12⟩, ⟨a0_13, a0_14, a0_15⟩, ⟨a0_16, a0_17, a0_18⟩, ⟨a0_19, a0_20, a0_21⟩⟩, a0_22, a0_23, a0_24, a0_25, a0_26, ⟨a0_27, a0_28⟩, a0_29, a0_30⟩, l0_31, a0_32, a0_33⟩ : Nd) width w hr0_1 hc0_1 hr0_31 hc0_31
end Go.Proofs.Yteckkphbgfmolaa.K
namespace Go.Proofs.Yteckkphbgfmolaa.Pure
open Go.RowKit Go.Proofs.Yteckkphbgfmolaa.K
set_option linter.unusedVariables false
theorem linesBounds_pure (n : Nd) (width : Int) (hn : good_35 n) (hg0 : (Lit.int .i64 width).wf = true) : purflinglaw08_LinesBounds.f (n.f0) (n.f1) (n.f2.f0.f0) (n.f2.f0.f1) (n.f2.f1.f0) (n.f2.f1.f1) (n.f2.f2.f0) (n.f2.f2.f1) (n.f2.f2.f2) (n.f2.f2.f3) (n.f2.f3.f0.f0) (n.f2.f3.f0.f1) (n.f2.f3.f0.f2) (n.f2.f3.f1.f0) (n.f2.f3.f1.f1) (n.f2.f3.f1.f2) (n.f2.f3.f2.f0) (n.f2.f3.f2.f1) (n.f2.f3.f2.f2) (n.f2.f3.f3.f0) (n.f2.f3.f3.f1) (n.f2.f3.f3.f2) (n.f2.f4) (n.f2.f5) (n.f2.f6) (n.f2.f7) (n.f2.f8) (n.f2.f9.f0) (n.f2.f9.f1) (n.f2.f10) (n.f2.f11) (n.f3) (n.f4) (n.f5) width = some true := rfl
end Go.Proofs.Yteckkphbgfmolaa.Pure
