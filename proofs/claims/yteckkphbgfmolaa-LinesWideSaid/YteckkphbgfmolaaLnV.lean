/- Layer 8: LinesWide. -/
import Derived.Test.YteckkphbgfmolaaLnQ
import Derived.Test.YteckkphbgfmolaaLnX
import Derived.Test.YteckkphbgfmolaaOpens
namespace Go.Proofs.Yteckkphbgfmolaa.K
open Go.RowKit Go.Proofs.YteckkphbgfmolaaW.PrintWords Go.Proofs.YteckkphbgfmolaaW.PrintLast Go.Proofs.YteckkphbgfmolaaW.PrintMore Go.Proofs.Yteckkphbgfmolaa.Pure
set_option linter.unusedVariables false
set_option linter.unusedSimpArgs false
set_option maxRecDepth 100000 in
set_option maxHeartbeats 4000000 in
theorem widel_no (A1 : Option Addr) (c1 : Nat) (A3 : Option Addr) (c3 : Nat) (n : Nd) (fr tw : Int) (w : World) (hr1 : Kd.C (Kd.int .i64) w A1 n.f1.length n.f1) (hc1 : n.f1.length ≤ c1) (hr3 : Kd.C (Kd.int .i64) w A3 n.f3.length n.f3) (hc3 : n.f3.length ≤ c3) (hR : rightB (cutN n) = false) :
    Calls Try.prog 4 #[.agg (nodeC A1 c1 A3 c3 n), .int .i64 fr, .int .i64 tw] w fun e w' => e = .returned (.bool true) ∧ Below w.heap.size w w' := by
  have hk1 := nodeK A1 c1 A3 c3 n
  have hk2 := nodeK A1 c1 A3 c3 (cutN n)
  have hcut := fun (V : World) (hV : Below w.heap.size w V) => cut_any A1 c1 A3 c3 n V (Kd.C_below hr1 hV) hc1 (Kd.C_below hr3 hV) hc3
  have hd3 := cutN_C hr3
  have hdc := cutN_le (n := n) hc3
  have HW := Lib.hid (fun (V : World) (hV : Below w.heap.size w V) => wide_any A1 c1 A3 c3 (cutN n) fr tw V (Kd.C_below hr1 hV) hc1 (Kd.C_below hd3 hV) hdc)
  have HLS := Lib.hid (fun (V : World) (hV : Below w.heap.size w V) => least_any A1 c1 A3 c3 (cutN n) V (Kd.C_below hr1 hV) hc1 (Kd.C_below hd3 hV) hdc)
  have HMS := Lib.hid (fun (V : World) (hV : Below w.heap.size w V) => most_any A1 c1 A3 c3 (cutN n) V (Kd.C_below hr1 hV) hc1 (Kd.C_below hd3 hV) hdc)
  have HRR := Lib.hid (fun (V : World) (hV : Below w.heap.size w V) => rright_any A1 c1 A3 c3 (cutN n) V (Kd.C_below hr1 hV) hc1 (Kd.C_below hd3 hV) hdc)
  rw [hR] at HRR
  have e1 : widesP (cutN n) fr tw = (0, 90) := by unfold widesP; rw [hR]; rfl
  have e2 : leastP (cutN n) = (0, 90) := by unfold leastP; rw [hR]; rfl
  have e3 : widesP (cutN n) 0 (cutN n).f3.length = (0, 90) := by unfold widesP; rw [hR]; rfl
  rw [e1] at HW
  rw [e2] at HLS
  rw [e3] at HMS
  dsimp only at HW HLS HMS
  clear hR e1 e2 e3
  have HK1 := Lib.hid hk1
  have HK2 := Lib.hid hk2
  have HCUT := Lib.hid hcut
  clear hk1 hk2 hcut hr1 hr3 hc1 hc3 hd3 hdc
  generalize nodeC A1 c1 A3 c3 (cutN n) = cs2 at *
  generalize nodeC A1 c1 A3 c3 n = cs at *
  go_enter Try.func4, Try.ntmps4
  go_upto_region 3 with (first | (refine wpList_load_mid rfl 35 _ rfl _ _ rfl _ _ hrow1 Try.underlying35 rfl HK1.out.len ?_) | (go_at_call 10; refine (shown_any _).mono ?_; rintro e w1 ⟨rfl, hb⟩; have HBK1 := Lib.hid (Blk.below (Blk.new w 35 cs) hb (by simp)); have HB := Lib.hid (((Below.refl _ w).alloc (Nat.le_refl _) (.cells cs 35)).trans (hb.mono (by simp))); clear hb; have hrow1 := Blk.range HBK1.out) | (go_at_call 11; refine (HCUT.out _ HB.out).mono ?_; rintro e w2 ⟨rfl, hb⟩; have n0_ := Lib.hid (Blk.below HBK1.out hb (Blk.lt HBK1.out)); have n1_ := Lib.hid (HB.out.trans (hb.mono HB.out.size)); clear HBK1 HB; have HBK1 := n0_; have HB := n1_; clear n0_ n1_ hb hrow1; have hT := Blk.there HBK1.out cs2.size (by rw [HK1.out.size, HK2.out.size]; exact Nat.le_refl _)) | (refine wpList_store_mid rfl 35 _ _ rfl (w.heap.size) 0 cs2 rfl rfl hT HK2.out.len2 HK2.out.one ?_; have HBK := Lib.hid (show Blk _ _ _ cs2 from HBK1.out.setCells cs2.toList (by rw [Array.length_toList, HK1.out.size, HK2.out.size])); have n1_ := Lib.hid (below_setCells' (b := w.heap.size) (Nat.le_refl _) cs2.toList 0 HB.out); clear HB; have HB := n1_; clear n1_ HBK1 hT; generalize w2.setCells w.heap.size 0 cs2.toList = w3 at HBK HB ⊢; have hrow := Blk.range HBK.out))
  go_wp2_with (first | (refine wpList_load_mid rfl 35 _ rfl _ _ rfl _ _ hrow Try.underlying35 rfl HK2.out.len ?_) | (go_at_call 19; refine (HW.out _ HB.out).mono ?_; rintro e w5 ⟨rfl, hb⟩; have n_HBK := Lib.hid (Blk.below HBK.out hb (Blk.lt HBK.out)); have n_HB := Lib.hid (HB.out.trans (hb.mono HB.out.size)); clear hb HB HBK; have HBK := n_HBK; have HB := n_HB; clear n_HB n_HBK; replace hrow := Blk.range HBK.out) | (go_at_call 20; refine (HLS.out _ HB.out).mono ?_; rintro e w5 ⟨rfl, hb⟩; have n_HBK := Lib.hid (Blk.below HBK.out hb (Blk.lt HBK.out)); have n_HB := Lib.hid (HB.out.trans (hb.mono HB.out.size)); clear hb HB HBK; have HBK := n_HBK; have HB := n_HB; clear n_HB n_HBK; replace hrow := Blk.range HBK.out) | (go_at_call 21; refine (HMS.out _ HB.out).mono ?_; rintro e w5 ⟨rfl, hb⟩; have n_HBK := Lib.hid (Blk.below HBK.out hb (Blk.lt HBK.out)); have n_HB := Lib.hid (HB.out.trans (hb.mono HB.out.size)); clear hb HB HBK; have HBK := n_HBK; have HB := n_HB; clear n_HB n_HBK; replace hrow := Blk.range HBK.out) | (go_at_call 14; refine (HRR.out _ HB.out).mono ?_; rintro e w5 ⟨rfl, hb⟩; have n_HBK := Lib.hid (Blk.below HBK.out hb (Blk.lt HBK.out)); have n_HB := Lib.hid (HB.out.trans (hb.mono HB.out.size)); clear hb HB HBK; have HBK := n_HBK; have HB := n_HB; clear n_HB n_HBK; replace hrow := Blk.range HBK.out))
  go_ret
  exact ⟨rfl, HB.out⟩
set_option maxRecDepth 100000 in
set_option maxHeartbeats 4000000 in
theorem widel_out0 (A1 : Option Addr) (c1 : Nat) (A3 : Option Addr) (c3 : Nat) (n : Nd) (fr tw : Int) (w : World) (hr1 : Kd.C (Kd.int .i64) w A1 n.f1.length n.f1) (hc1 : n.f1.length ≤ c1) (hr3 : Kd.C (Kd.int .i64) w A3 n.f3.length n.f3) (hc3 : n.f3.length ≤ c3) (hR : rightB (cutN n) = true) (h1 : fr < 0) :
    Calls Try.prog 4 #[.agg (nodeC A1 c1 A3 c3 n), .int .i64 fr, .int .i64 tw] w fun e w' => e = .returned (.bool true) ∧ Below w.heap.size w w' := by
  have hk1 := nodeK A1 c1 A3 c3 n
  have hk2 := nodeK A1 c1 A3 c3 (cutN n)
  have hcut := fun (V : World) (hV : Below w.heap.size w V) => cut_any A1 c1 A3 c3 n V (Kd.C_below hr1 hV) hc1 (Kd.C_below hr3 hV) hc3
  have hd3 := cutN_C hr3
  have hdc := cutN_le (n := n) hc3
  have HW := Lib.hid (fun (V : World) (hV : Below w.heap.size w V) => wide_any A1 c1 A3 c3 (cutN n) fr tw V (Kd.C_below hr1 hV) hc1 (Kd.C_below hd3 hV) hdc)
  have HLS := Lib.hid (fun (V : World) (hV : Below w.heap.size w V) => least_any A1 c1 A3 c3 (cutN n) V (Kd.C_below hr1 hV) hc1 (Kd.C_below hd3 hV) hdc)
  have HMS := Lib.hid (fun (V : World) (hV : Below w.heap.size w V) => most_any A1 c1 A3 c3 (cutN n) V (Kd.C_below hr1 hV) hc1 (Kd.C_below hd3 hV) hdc)
  have HRR := Lib.hid (fun (V : World) (hV : Below w.heap.size w V) => rright_any A1 c1 A3 c3 (cutN n) V (Kd.C_below hr1 hV) hc1 (Kd.C_below hd3 hV) hdc)
  have HRL := Lib.hid (fun (V : World) (hV : Below w.heap.size w V) => rleast_any A1 c1 A3 c3 (cutN n) V (Kd.C_below hr1 hV) hc1 (Kd.C_below hd3 hV) hdc hR)
  have HRM := Lib.hid (fun (V : World) (hV : Below w.heap.size w V) => rmost_any A1 c1 A3 c3 (cutN n) V (Kd.C_below hr1 hV) hc1 (Kd.C_below hd3 hV) hdc hR)
  rw [hR] at HRR
  have e2 : leastP (cutN n) = ((cutN n).f3.foldl mx 0, 0) := by unfold leastP; rw [if_pos hR]
  have e3 : widesP (cutN n) 0 (cutN n).f3.length = (wideP (cutN n).f3 (cutN n).f4 0 (cutN n).f3.length, 0) := by
    unfold widesP placesB; rw [hR, decide_eq_true (Int.le_refl 0), decide_eq_true (show (0 : Int) ≤ (cutN n).f3.length by omega), decide_eq_true (Int.le_refl _)]; rfl
  rw [e2] at HLS
  rw [e3] at HMS
  dsimp only at HLS HMS
  clear e2 e3
  have e1 : widesP (cutN n) fr tw = (0, 90) := by
    unfold widesP placesB
    rw [if_neg]
    rw [hR]
    simp only [Bool.true_and, Bool.and_eq_true, decide_eq_true_eq]
    omega
  rw [e1] at HW
  dsimp only at HW
  clear e1
  clear hR
  have Q31 := Lib.hid (show (nodeC A1 c1 A3 c3 (cutN n))[31]? = some (.slice A3 (cutN n).f3.length c3) from rfl)
  have HK1 := Lib.hid hk1
  have HK2 := Lib.hid hk2
  have HCUT := Lib.hid hcut
  clear hk1 hk2 hcut hr1 hr3 hc1 hc3 hd3 hdc
  generalize nodeC A1 c1 A3 c3 (cutN n) = cs2 at *
  generalize nodeC A1 c1 A3 c3 n = cs at *
  generalize (cutN n).f3.foldl mx 0 = lst at *
  generalize wideP (cutN n).f3 (cutN n).f4 0 (cutN n).f3.length = mst at *
  generalize (cutN n).f3.length = len at *
  have hd1 : decide (fr < 0) = true := decide_eq_true h1
  go_enter Try.func4, Try.ntmps4
  go_upto_region 3 with (first | (refine wpList_load_mid rfl 35 _ rfl _ _ rfl _ _ hrow1 Try.underlying35 rfl HK1.out.len ?_) | (go_at_call 10; refine (shown_any _).mono ?_; rintro e w1 ⟨rfl, hb⟩; have HBK1 := Lib.hid (Blk.below (Blk.new w 35 cs) hb (by simp)); have HB := Lib.hid (((Below.refl _ w).alloc (Nat.le_refl _) (.cells cs 35)).trans (hb.mono (by simp))); clear hb; have hrow1 := Blk.range HBK1.out) | (go_at_call 11; refine (HCUT.out _ HB.out).mono ?_; rintro e w2 ⟨rfl, hb⟩; have n0_ := Lib.hid (Blk.below HBK1.out hb (Blk.lt HBK1.out)); have n1_ := Lib.hid (HB.out.trans (hb.mono HB.out.size)); clear HBK1 HB; have HBK1 := n0_; have HB := n1_; clear n0_ n1_ hb hrow1; have hT := Blk.there HBK1.out cs2.size (by rw [HK1.out.size, HK2.out.size]; exact Nat.le_refl _)) | (refine wpList_store_mid rfl 35 _ _ rfl (w.heap.size) 0 cs2 rfl rfl hT HK2.out.len2 HK2.out.one ?_; have HBK := Lib.hid (show Blk _ _ _ cs2 from HBK1.out.setCells cs2.toList (by rw [Array.length_toList, HK1.out.size, HK2.out.size])); have n1_ := Lib.hid (below_setCells' (b := w.heap.size) (Nat.le_refl _) cs2.toList 0 HB.out); clear HB; have HB := n1_; clear n1_ HBK1 hT; generalize w2.setCells w.heap.size 0 cs2.toList = w3 at HBK HB ⊢; have hrow := Blk.range HBK.out))
  go_upto_region 7 with (first | (refine wpList_load_mid rfl 35 _ rfl _ _ rfl _ _ hrow Try.underlying35 rfl HK2.out.len ?_) | (go_at_call 19; refine (HW.out _ HB.out).mono ?_; rintro e w5 ⟨rfl, hb⟩; have n_HBK := Lib.hid (Blk.below HBK.out hb (Blk.lt HBK.out)); have n_HB := Lib.hid (HB.out.trans (hb.mono HB.out.size)); clear hb HB HBK; have HBK := n_HBK; have HB := n_HB; clear n_HB n_HBK; replace hrow := Blk.range HBK.out) | (go_at_call 20; refine (HLS.out _ HB.out).mono ?_; rintro e w5 ⟨rfl, hb⟩; have n_HBK := Lib.hid (Blk.below HBK.out hb (Blk.lt HBK.out)); have n_HB := Lib.hid (HB.out.trans (hb.mono HB.out.size)); clear hb HB HBK; have HBK := n_HBK; have HB := n_HB; clear n_HB n_HBK; replace hrow := Blk.range HBK.out) | (go_at_call 21; refine (HMS.out _ HB.out).mono ?_; rintro e w5 ⟨rfl, hb⟩; have n_HBK := Lib.hid (Blk.below HBK.out hb (Blk.lt HBK.out)); have n_HB := Lib.hid (HB.out.trans (hb.mono HB.out.size)); clear hb HB HBK; have HBK := n_HBK; have HB := n_HB; clear n_HB n_HBK; replace hrow := Blk.range HBK.out) | (go_at_call 14; refine (HRR.out _ HB.out).mono ?_; rintro e w5 ⟨rfl, hb⟩; have n_HBK := Lib.hid (Blk.below HBK.out hb (Blk.lt HBK.out)); have n_HB := Lib.hid (HB.out.trans (hb.mono HB.out.size)); clear hb HB HBK; have HBK := n_HBK; have HB := n_HB; clear n_HB n_HBK; replace hrow := Blk.range HBK.out))
  go_upto_region 11 with (first | ((try (refine gate_guard (by rfl) ?_; dsimp only)); refine wpList_load_mid rfl 35 _ rfl _ _ rfl _ _ hrow Try.underlying35 rfl HK2.out.len ?_) | ((try (refine gate_guard (by rfl) ?_; dsimp only)); go_at_call 22; refine (HRL.out _ HB.out).mono ?_; rintro e w5 ⟨rfl, hb⟩; have n_HBK := Lib.hid (Blk.below HBK.out hb (Blk.lt HBK.out)); have n_HB := Lib.hid (HB.out.trans (hb.mono HB.out.size)); clear hb HB HBK; have HBK := n_HBK; have HB := n_HB; clear n_HB n_HBK; replace hrow := Blk.range HBK.out) | ((try (refine gate_guard (by rfl) ?_; dsimp only)); go_at_call 23; refine (HRM.out _ HB.out).mono ?_; rintro e w5 ⟨rfl, hb⟩; have n_HBK := Lib.hid (Blk.below HBK.out hb (Blk.lt HBK.out)); have n_HB := Lib.hid (HB.out.trans (hb.mono HB.out.size)); clear hb HB HBK; have HBK := n_HBK; have HB := n_HB; clear n_HB n_HBK; replace hrow := Blk.range HBK.out))
  have y31 : w5.cell? ⟨w.heap.size, 31, none⟩ = some (.slice A3 len c3) := (Blk.cell HBK.out 31).trans Q31.out
  go_wp2
  go_ret
  exact ⟨by simp, HB.out⟩
set_option maxRecDepth 100000 in
set_option maxHeartbeats 4000000 in
theorem widel_out1 (A1 : Option Addr) (c1 : Nat) (A3 : Option Addr) (c3 : Nat) (n : Nd) (fr tw : Int) (w : World) (hr1 : Kd.C (Kd.int .i64) w A1 n.f1.length n.f1) (hc1 : n.f1.length ≤ c1) (hr3 : Kd.C (Kd.int .i64) w A3 n.f3.length n.f3) (hc3 : n.f3.length ≤ c3) (hR : rightB (cutN n) = true) (h1 : ¬ fr < 0) (h2 : tw < fr) :
    Calls Try.prog 4 #[.agg (nodeC A1 c1 A3 c3 n), .int .i64 fr, .int .i64 tw] w fun e w' => e = .returned (.bool true) ∧ Below w.heap.size w w' := by
  have hk1 := nodeK A1 c1 A3 c3 n
  have hk2 := nodeK A1 c1 A3 c3 (cutN n)
  have hcut := fun (V : World) (hV : Below w.heap.size w V) => cut_any A1 c1 A3 c3 n V (Kd.C_below hr1 hV) hc1 (Kd.C_below hr3 hV) hc3
  have hd3 := cutN_C hr3
  have hdc := cutN_le (n := n) hc3
  have HW := Lib.hid (fun (V : World) (hV : Below w.heap.size w V) => wide_any A1 c1 A3 c3 (cutN n) fr tw V (Kd.C_below hr1 hV) hc1 (Kd.C_below hd3 hV) hdc)
  have HLS := Lib.hid (fun (V : World) (hV : Below w.heap.size w V) => least_any A1 c1 A3 c3 (cutN n) V (Kd.C_below hr1 hV) hc1 (Kd.C_below hd3 hV) hdc)
  have HMS := Lib.hid (fun (V : World) (hV : Below w.heap.size w V) => most_any A1 c1 A3 c3 (cutN n) V (Kd.C_below hr1 hV) hc1 (Kd.C_below hd3 hV) hdc)
  have HRR := Lib.hid (fun (V : World) (hV : Below w.heap.size w V) => rright_any A1 c1 A3 c3 (cutN n) V (Kd.C_below hr1 hV) hc1 (Kd.C_below hd3 hV) hdc)
  have HRL := Lib.hid (fun (V : World) (hV : Below w.heap.size w V) => rleast_any A1 c1 A3 c3 (cutN n) V (Kd.C_below hr1 hV) hc1 (Kd.C_below hd3 hV) hdc hR)
  have HRM := Lib.hid (fun (V : World) (hV : Below w.heap.size w V) => rmost_any A1 c1 A3 c3 (cutN n) V (Kd.C_below hr1 hV) hc1 (Kd.C_below hd3 hV) hdc hR)
  rw [hR] at HRR
  have e2 : leastP (cutN n) = ((cutN n).f3.foldl mx 0, 0) := by unfold leastP; rw [if_pos hR]
  have e3 : widesP (cutN n) 0 (cutN n).f3.length = (wideP (cutN n).f3 (cutN n).f4 0 (cutN n).f3.length, 0) := by
    unfold widesP placesB; rw [hR, decide_eq_true (Int.le_refl 0), decide_eq_true (show (0 : Int) ≤ (cutN n).f3.length by omega), decide_eq_true (Int.le_refl _)]; rfl
  rw [e2] at HLS
  rw [e3] at HMS
  dsimp only at HLS HMS
  clear e2 e3
  have e1 : widesP (cutN n) fr tw = (0, 90) := by
    unfold widesP placesB
    rw [if_neg]
    rw [hR]
    simp only [Bool.true_and, Bool.and_eq_true, decide_eq_true_eq]
    omega
  rw [e1] at HW
  dsimp only at HW
  clear e1
  clear hR
  have Q31 := Lib.hid (show (nodeC A1 c1 A3 c3 (cutN n))[31]? = some (.slice A3 (cutN n).f3.length c3) from rfl)
  have HK1 := Lib.hid hk1
  have HK2 := Lib.hid hk2
  have HCUT := Lib.hid hcut
  clear hk1 hk2 hcut hr1 hr3 hc1 hc3 hd3 hdc
  generalize nodeC A1 c1 A3 c3 (cutN n) = cs2 at *
  generalize nodeC A1 c1 A3 c3 n = cs at *
  generalize (cutN n).f3.foldl mx 0 = lst at *
  generalize wideP (cutN n).f3 (cutN n).f4 0 (cutN n).f3.length = mst at *
  generalize (cutN n).f3.length = len at *
  have hd1 : decide (fr < 0) = false := decide_eq_false h1
  have hd2 : decide (tw < fr) = true := decide_eq_true h2
  go_enter Try.func4, Try.ntmps4
  go_upto_region 3 with (first | (refine wpList_load_mid rfl 35 _ rfl _ _ rfl _ _ hrow1 Try.underlying35 rfl HK1.out.len ?_) | (go_at_call 10; refine (shown_any _).mono ?_; rintro e w1 ⟨rfl, hb⟩; have HBK1 := Lib.hid (Blk.below (Blk.new w 35 cs) hb (by simp)); have HB := Lib.hid (((Below.refl _ w).alloc (Nat.le_refl _) (.cells cs 35)).trans (hb.mono (by simp))); clear hb; have hrow1 := Blk.range HBK1.out) | (go_at_call 11; refine (HCUT.out _ HB.out).mono ?_; rintro e w2 ⟨rfl, hb⟩; have n0_ := Lib.hid (Blk.below HBK1.out hb (Blk.lt HBK1.out)); have n1_ := Lib.hid (HB.out.trans (hb.mono HB.out.size)); clear HBK1 HB; have HBK1 := n0_; have HB := n1_; clear n0_ n1_ hb hrow1; have hT := Blk.there HBK1.out cs2.size (by rw [HK1.out.size, HK2.out.size]; exact Nat.le_refl _)) | (refine wpList_store_mid rfl 35 _ _ rfl (w.heap.size) 0 cs2 rfl rfl hT HK2.out.len2 HK2.out.one ?_; have HBK := Lib.hid (show Blk _ _ _ cs2 from HBK1.out.setCells cs2.toList (by rw [Array.length_toList, HK1.out.size, HK2.out.size])); have n1_ := Lib.hid (below_setCells' (b := w.heap.size) (Nat.le_refl _) cs2.toList 0 HB.out); clear HB; have HB := n1_; clear n1_ HBK1 hT; generalize w2.setCells w.heap.size 0 cs2.toList = w3 at HBK HB ⊢; have hrow := Blk.range HBK.out))
  go_upto_region 7 with (first | (refine wpList_load_mid rfl 35 _ rfl _ _ rfl _ _ hrow Try.underlying35 rfl HK2.out.len ?_) | (go_at_call 19; refine (HW.out _ HB.out).mono ?_; rintro e w5 ⟨rfl, hb⟩; have n_HBK := Lib.hid (Blk.below HBK.out hb (Blk.lt HBK.out)); have n_HB := Lib.hid (HB.out.trans (hb.mono HB.out.size)); clear hb HB HBK; have HBK := n_HBK; have HB := n_HB; clear n_HB n_HBK; replace hrow := Blk.range HBK.out) | (go_at_call 20; refine (HLS.out _ HB.out).mono ?_; rintro e w5 ⟨rfl, hb⟩; have n_HBK := Lib.hid (Blk.below HBK.out hb (Blk.lt HBK.out)); have n_HB := Lib.hid (HB.out.trans (hb.mono HB.out.size)); clear hb HB HBK; have HBK := n_HBK; have HB := n_HB; clear n_HB n_HBK; replace hrow := Blk.range HBK.out) | (go_at_call 21; refine (HMS.out _ HB.out).mono ?_; rintro e w5 ⟨rfl, hb⟩; have n_HBK := Lib.hid (Blk.below HBK.out hb (Blk.lt HBK.out)); have n_HB := Lib.hid (HB.out.trans (hb.mono HB.out.size)); clear hb HB HBK; have HBK := n_HBK; have HB := n_HB; clear n_HB n_HBK; replace hrow := Blk.range HBK.out) | (go_at_call 14; refine (HRR.out _ HB.out).mono ?_; rintro e w5 ⟨rfl, hb⟩; have n_HBK := Lib.hid (Blk.below HBK.out hb (Blk.lt HBK.out)); have n_HB := Lib.hid (HB.out.trans (hb.mono HB.out.size)); clear hb HB HBK; have HBK := n_HBK; have HB := n_HB; clear n_HB n_HBK; replace hrow := Blk.range HBK.out))
  go_upto_region 11 with (first | ((try (refine gate_guard (by rfl) ?_; dsimp only)); refine wpList_load_mid rfl 35 _ rfl _ _ rfl _ _ hrow Try.underlying35 rfl HK2.out.len ?_) | ((try (refine gate_guard (by rfl) ?_; dsimp only)); go_at_call 22; refine (HRL.out _ HB.out).mono ?_; rintro e w5 ⟨rfl, hb⟩; have n_HBK := Lib.hid (Blk.below HBK.out hb (Blk.lt HBK.out)); have n_HB := Lib.hid (HB.out.trans (hb.mono HB.out.size)); clear hb HB HBK; have HBK := n_HBK; have HB := n_HB; clear n_HB n_HBK; replace hrow := Blk.range HBK.out) | ((try (refine gate_guard (by rfl) ?_; dsimp only)); go_at_call 23; refine (HRM.out _ HB.out).mono ?_; rintro e w5 ⟨rfl, hb⟩; have n_HBK := Lib.hid (Blk.below HBK.out hb (Blk.lt HBK.out)); have n_HB := Lib.hid (HB.out.trans (hb.mono HB.out.size)); clear hb HB HBK; have HBK := n_HBK; have HB := n_HB; clear n_HB n_HBK; replace hrow := Blk.range HBK.out))
  have y31 : w5.cell? ⟨w.heap.size, 31, none⟩ = some (.slice A3 len c3) := (Blk.cell HBK.out 31).trans Q31.out
  go_wp2
  go_ret
  exact ⟨by simp, HB.out⟩
set_option maxRecDepth 100000 in
set_option maxHeartbeats 4000000 in
theorem widel_out2 (A1 : Option Addr) (c1 : Nat) (A3 : Option Addr) (c3 : Nat) (n : Nd) (fr tw : Int) (w : World) (hr1 : Kd.C (Kd.int .i64) w A1 n.f1.length n.f1) (hc1 : n.f1.length ≤ c1) (hr3 : Kd.C (Kd.int .i64) w A3 n.f3.length n.f3) (hc3 : n.f3.length ≤ c3) (hR : rightB (cutN n) = true) (h1 : ¬ fr < 0) (h2 : ¬ tw < fr) (h3 : ((cutN n).f3.length : Int) < tw) :
    Calls Try.prog 4 #[.agg (nodeC A1 c1 A3 c3 n), .int .i64 fr, .int .i64 tw] w fun e w' => e = .returned (.bool true) ∧ Below w.heap.size w w' := by
  have hk1 := nodeK A1 c1 A3 c3 n
  have hk2 := nodeK A1 c1 A3 c3 (cutN n)
  have hcut := fun (V : World) (hV : Below w.heap.size w V) => cut_any A1 c1 A3 c3 n V (Kd.C_below hr1 hV) hc1 (Kd.C_below hr3 hV) hc3
  have hd3 := cutN_C hr3
  have hdc := cutN_le (n := n) hc3
  have HW := Lib.hid (fun (V : World) (hV : Below w.heap.size w V) => wide_any A1 c1 A3 c3 (cutN n) fr tw V (Kd.C_below hr1 hV) hc1 (Kd.C_below hd3 hV) hdc)
  have HLS := Lib.hid (fun (V : World) (hV : Below w.heap.size w V) => least_any A1 c1 A3 c3 (cutN n) V (Kd.C_below hr1 hV) hc1 (Kd.C_below hd3 hV) hdc)
  have HMS := Lib.hid (fun (V : World) (hV : Below w.heap.size w V) => most_any A1 c1 A3 c3 (cutN n) V (Kd.C_below hr1 hV) hc1 (Kd.C_below hd3 hV) hdc)
  have HRR := Lib.hid (fun (V : World) (hV : Below w.heap.size w V) => rright_any A1 c1 A3 c3 (cutN n) V (Kd.C_below hr1 hV) hc1 (Kd.C_below hd3 hV) hdc)
  have HRL := Lib.hid (fun (V : World) (hV : Below w.heap.size w V) => rleast_any A1 c1 A3 c3 (cutN n) V (Kd.C_below hr1 hV) hc1 (Kd.C_below hd3 hV) hdc hR)
  have HRM := Lib.hid (fun (V : World) (hV : Below w.heap.size w V) => rmost_any A1 c1 A3 c3 (cutN n) V (Kd.C_below hr1 hV) hc1 (Kd.C_below hd3 hV) hdc hR)
  rw [hR] at HRR
  have e2 : leastP (cutN n) = ((cutN n).f3.foldl mx 0, 0) := by unfold leastP; rw [if_pos hR]
  have e3 : widesP (cutN n) 0 (cutN n).f3.length = (wideP (cutN n).f3 (cutN n).f4 0 (cutN n).f3.length, 0) := by
    unfold widesP placesB; rw [hR, decide_eq_true (Int.le_refl 0), decide_eq_true (show (0 : Int) ≤ (cutN n).f3.length by omega), decide_eq_true (Int.le_refl _)]; rfl
  rw [e2] at HLS
  rw [e3] at HMS
  dsimp only at HLS HMS
  clear e2 e3
  have e1 : widesP (cutN n) fr tw = (0, 90) := by
    unfold widesP placesB
    rw [if_neg]
    rw [hR]
    simp only [Bool.true_and, Bool.and_eq_true, decide_eq_true_eq]
    omega
  rw [e1] at HW
  dsimp only at HW
  clear e1
  clear hR
  have Q31 := Lib.hid (show (nodeC A1 c1 A3 c3 (cutN n))[31]? = some (.slice A3 (cutN n).f3.length c3) from rfl)
  have HK1 := Lib.hid hk1
  have HK2 := Lib.hid hk2
  have HCUT := Lib.hid hcut
  clear hk1 hk2 hcut hr1 hr3 hc1 hc3 hd3 hdc
  generalize nodeC A1 c1 A3 c3 (cutN n) = cs2 at *
  generalize nodeC A1 c1 A3 c3 n = cs at *
  generalize (cutN n).f3.foldl mx 0 = lst at *
  generalize wideP (cutN n).f3 (cutN n).f4 0 (cutN n).f3.length = mst at *
  generalize (cutN n).f3.length = len at *
  have hd1 : decide (fr < 0) = false := decide_eq_false h1
  have hd2 : decide (tw < fr) = false := decide_eq_false h2
  have hd3 : decide ((len : Int) < tw) = true := decide_eq_true h3
  go_enter Try.func4, Try.ntmps4
  go_upto_region 3 with (first | (refine wpList_load_mid rfl 35 _ rfl _ _ rfl _ _ hrow1 Try.underlying35 rfl HK1.out.len ?_) | (go_at_call 10; refine (shown_any _).mono ?_; rintro e w1 ⟨rfl, hb⟩; have HBK1 := Lib.hid (Blk.below (Blk.new w 35 cs) hb (by simp)); have HB := Lib.hid (((Below.refl _ w).alloc (Nat.le_refl _) (.cells cs 35)).trans (hb.mono (by simp))); clear hb; have hrow1 := Blk.range HBK1.out) | (go_at_call 11; refine (HCUT.out _ HB.out).mono ?_; rintro e w2 ⟨rfl, hb⟩; have n0_ := Lib.hid (Blk.below HBK1.out hb (Blk.lt HBK1.out)); have n1_ := Lib.hid (HB.out.trans (hb.mono HB.out.size)); clear HBK1 HB; have HBK1 := n0_; have HB := n1_; clear n0_ n1_ hb hrow1; have hT := Blk.there HBK1.out cs2.size (by rw [HK1.out.size, HK2.out.size]; exact Nat.le_refl _)) | (refine wpList_store_mid rfl 35 _ _ rfl (w.heap.size) 0 cs2 rfl rfl hT HK2.out.len2 HK2.out.one ?_; have HBK := Lib.hid (show Blk _ _ _ cs2 from HBK1.out.setCells cs2.toList (by rw [Array.length_toList, HK1.out.size, HK2.out.size])); have n1_ := Lib.hid (below_setCells' (b := w.heap.size) (Nat.le_refl _) cs2.toList 0 HB.out); clear HB; have HB := n1_; clear n1_ HBK1 hT; generalize w2.setCells w.heap.size 0 cs2.toList = w3 at HBK HB ⊢; have hrow := Blk.range HBK.out))
  go_upto_region 7 with (first | (refine wpList_load_mid rfl 35 _ rfl _ _ rfl _ _ hrow Try.underlying35 rfl HK2.out.len ?_) | (go_at_call 19; refine (HW.out _ HB.out).mono ?_; rintro e w5 ⟨rfl, hb⟩; have n_HBK := Lib.hid (Blk.below HBK.out hb (Blk.lt HBK.out)); have n_HB := Lib.hid (HB.out.trans (hb.mono HB.out.size)); clear hb HB HBK; have HBK := n_HBK; have HB := n_HB; clear n_HB n_HBK; replace hrow := Blk.range HBK.out) | (go_at_call 20; refine (HLS.out _ HB.out).mono ?_; rintro e w5 ⟨rfl, hb⟩; have n_HBK := Lib.hid (Blk.below HBK.out hb (Blk.lt HBK.out)); have n_HB := Lib.hid (HB.out.trans (hb.mono HB.out.size)); clear hb HB HBK; have HBK := n_HBK; have HB := n_HB; clear n_HB n_HBK; replace hrow := Blk.range HBK.out) | (go_at_call 21; refine (HMS.out _ HB.out).mono ?_; rintro e w5 ⟨rfl, hb⟩; have n_HBK := Lib.hid (Blk.below HBK.out hb (Blk.lt HBK.out)); have n_HB := Lib.hid (HB.out.trans (hb.mono HB.out.size)); clear hb HB HBK; have HBK := n_HBK; have HB := n_HB; clear n_HB n_HBK; replace hrow := Blk.range HBK.out) | (go_at_call 14; refine (HRR.out _ HB.out).mono ?_; rintro e w5 ⟨rfl, hb⟩; have n_HBK := Lib.hid (Blk.below HBK.out hb (Blk.lt HBK.out)); have n_HB := Lib.hid (HB.out.trans (hb.mono HB.out.size)); clear hb HB HBK; have HBK := n_HBK; have HB := n_HB; clear n_HB n_HBK; replace hrow := Blk.range HBK.out))
  go_upto_region 11 with (first | ((try (refine gate_guard (by rfl) ?_; dsimp only)); refine wpList_load_mid rfl 35 _ rfl _ _ rfl _ _ hrow Try.underlying35 rfl HK2.out.len ?_) | ((try (refine gate_guard (by rfl) ?_; dsimp only)); go_at_call 22; refine (HRL.out _ HB.out).mono ?_; rintro e w5 ⟨rfl, hb⟩; have n_HBK := Lib.hid (Blk.below HBK.out hb (Blk.lt HBK.out)); have n_HB := Lib.hid (HB.out.trans (hb.mono HB.out.size)); clear hb HB HBK; have HBK := n_HBK; have HB := n_HB; clear n_HB n_HBK; replace hrow := Blk.range HBK.out) | ((try (refine gate_guard (by rfl) ?_; dsimp only)); go_at_call 23; refine (HRM.out _ HB.out).mono ?_; rintro e w5 ⟨rfl, hb⟩; have n_HBK := Lib.hid (Blk.below HBK.out hb (Blk.lt HBK.out)); have n_HB := Lib.hid (HB.out.trans (hb.mono HB.out.size)); clear hb HB HBK; have HBK := n_HBK; have HB := n_HB; clear n_HB n_HBK; replace hrow := Blk.range HBK.out))
  have y31 : w5.cell? ⟨w.heap.size, 31, none⟩ = some (.slice A3 len c3) := (Blk.cell HBK.out 31).trans Q31.out
  go_wp2
  go_ret
  exact ⟨by simp, HB.out⟩
set_option maxRecDepth 100000 in
set_option maxHeartbeats 4000000 in
theorem widel_in (A1 : Option Addr) (c1 : Nat) (A3 : Option Addr) (c3 : Nat) (n : Nd) (fr tw : Int) (w : World) (hr1 : Kd.C (Kd.int .i64) w A1 n.f1.length n.f1) (hc1 : n.f1.length ≤ c1) (hr3 : Kd.C (Kd.int .i64) w A3 n.f3.length n.f3) (hc3 : n.f3.length ≤ c3) (hR : rightB (cutN n) = true) (h1 : ¬ fr < 0) (h2 : ¬ tw < fr) (h3 : ¬ ((cutN n).f3.length : Int) < tw) :
    Calls Try.prog 4 #[.agg (nodeC A1 c1 A3 c3 n), .int .i64 fr, .int .i64 tw] w fun e w' => e = .returned (.bool true) ∧ Below w.heap.size w w' := by
  have hk1 := nodeK A1 c1 A3 c3 n
  have hk2 := nodeK A1 c1 A3 c3 (cutN n)
  have hcut := fun (V : World) (hV : Below w.heap.size w V) => cut_any A1 c1 A3 c3 n V (Kd.C_below hr1 hV) hc1 (Kd.C_below hr3 hV) hc3
  have hd3 := cutN_C hr3
  have hdc := cutN_le (n := n) hc3
  have HW := Lib.hid (fun (V : World) (hV : Below w.heap.size w V) => wide_any A1 c1 A3 c3 (cutN n) fr tw V (Kd.C_below hr1 hV) hc1 (Kd.C_below hd3 hV) hdc)
  have HLS := Lib.hid (fun (V : World) (hV : Below w.heap.size w V) => least_any A1 c1 A3 c3 (cutN n) V (Kd.C_below hr1 hV) hc1 (Kd.C_below hd3 hV) hdc)
  have HMS := Lib.hid (fun (V : World) (hV : Below w.heap.size w V) => most_any A1 c1 A3 c3 (cutN n) V (Kd.C_below hr1 hV) hc1 (Kd.C_below hd3 hV) hdc)
  have HRR := Lib.hid (fun (V : World) (hV : Below w.heap.size w V) => rright_any A1 c1 A3 c3 (cutN n) V (Kd.C_below hr1 hV) hc1 (Kd.C_below hd3 hV) hdc)
  have HRL := Lib.hid (fun (V : World) (hV : Below w.heap.size w V) => rleast_any A1 c1 A3 c3 (cutN n) V (Kd.C_below hr1 hV) hc1 (Kd.C_below hd3 hV) hdc hR)
  have HRM := Lib.hid (fun (V : World) (hV : Below w.heap.size w V) => rmost_any A1 c1 A3 c3 (cutN n) V (Kd.C_below hr1 hV) hc1 (Kd.C_below hd3 hV) hdc hR)
  have HRW := Lib.hid (fun (V : World) (hV : Below w.heap.size w V) => rwide_any A1 c1 A3 c3 (cutN n) V (Kd.C_below hr1 hV) hc1 (Kd.C_below hd3 hV) hdc hR fr.toNat tw.toNat (by omega) (by omega))
  rw [hR] at HRR
  have e2 : leastP (cutN n) = ((cutN n).f3.foldl mx 0, 0) := by unfold leastP; rw [if_pos hR]
  have e3 : widesP (cutN n) 0 (cutN n).f3.length = (wideP (cutN n).f3 (cutN n).f4 0 (cutN n).f3.length, 0) := by
    unfold widesP placesB; rw [hR, decide_eq_true (Int.le_refl 0), decide_eq_true (show (0 : Int) ≤ (cutN n).f3.length by omega), decide_eq_true (Int.le_refl _)]; rfl
  rw [e2] at HLS
  rw [e3] at HMS
  dsimp only at HLS HMS
  clear e2 e3
  have e1 : widesP (cutN n) fr tw = (wideP (cutN n).f3 (cutN n).f4 fr.toNat tw.toNat, 0) := widesP_of hR (by omega) (by omega) (by omega)
  rw [e1] at HW
  have e4 : ((fr.toNat : Nat) : Int) = fr := Int.toNat_of_nonneg (by omega)
  have e5 : ((tw.toNat : Nat) : Int) = tw := Int.toNat_of_nonneg (by omega)
  rw [e4, e5] at HRW
  dsimp only at HW
  generalize wideP (cutN n).f3 (cutN n).f4 fr.toNat tw.toNat = wd at HW HRW
  clear e1 e4 e5
  clear hR
  have Q31 := Lib.hid (show (nodeC A1 c1 A3 c3 (cutN n))[31]? = some (.slice A3 (cutN n).f3.length c3) from rfl)
  have HK1 := Lib.hid hk1
  have HK2 := Lib.hid hk2
  have HCUT := Lib.hid hcut
  clear hk1 hk2 hcut hr1 hr3 hc1 hc3 hd3 hdc
  generalize nodeC A1 c1 A3 c3 (cutN n) = cs2 at *
  generalize nodeC A1 c1 A3 c3 n = cs at *
  generalize (cutN n).f3.foldl mx 0 = lst at *
  generalize wideP (cutN n).f3 (cutN n).f4 0 (cutN n).f3.length = mst at *
  generalize (cutN n).f3.length = len at *
  have hd1 : decide (fr < 0) = false := decide_eq_false h1
  have hd2 : decide (tw < fr) = false := decide_eq_false h2
  have hd3 : decide ((len : Int) < tw) = false := decide_eq_false h3
  go_enter Try.func4, Try.ntmps4
  go_upto_region 3 with (first | (refine wpList_load_mid rfl 35 _ rfl _ _ rfl _ _ hrow1 Try.underlying35 rfl HK1.out.len ?_) | (go_at_call 10; refine (shown_any _).mono ?_; rintro e w1 ⟨rfl, hb⟩; have HBK1 := Lib.hid (Blk.below (Blk.new w 35 cs) hb (by simp)); have HB := Lib.hid (((Below.refl _ w).alloc (Nat.le_refl _) (.cells cs 35)).trans (hb.mono (by simp))); clear hb; have hrow1 := Blk.range HBK1.out) | (go_at_call 11; refine (HCUT.out _ HB.out).mono ?_; rintro e w2 ⟨rfl, hb⟩; have n0_ := Lib.hid (Blk.below HBK1.out hb (Blk.lt HBK1.out)); have n1_ := Lib.hid (HB.out.trans (hb.mono HB.out.size)); clear HBK1 HB; have HBK1 := n0_; have HB := n1_; clear n0_ n1_ hb hrow1; have hT := Blk.there HBK1.out cs2.size (by rw [HK1.out.size, HK2.out.size]; exact Nat.le_refl _)) | (refine wpList_store_mid rfl 35 _ _ rfl (w.heap.size) 0 cs2 rfl rfl hT HK2.out.len2 HK2.out.one ?_; have HBK := Lib.hid (show Blk _ _ _ cs2 from HBK1.out.setCells cs2.toList (by rw [Array.length_toList, HK1.out.size, HK2.out.size])); have n1_ := Lib.hid (below_setCells' (b := w.heap.size) (Nat.le_refl _) cs2.toList 0 HB.out); clear HB; have HB := n1_; clear n1_ HBK1 hT; generalize w2.setCells w.heap.size 0 cs2.toList = w3 at HBK HB ⊢; have hrow := Blk.range HBK.out))
  go_upto_region 7 with (first | (refine wpList_load_mid rfl 35 _ rfl _ _ rfl _ _ hrow Try.underlying35 rfl HK2.out.len ?_) | (go_at_call 19; refine (HW.out _ HB.out).mono ?_; rintro e w5 ⟨rfl, hb⟩; have n_HBK := Lib.hid (Blk.below HBK.out hb (Blk.lt HBK.out)); have n_HB := Lib.hid (HB.out.trans (hb.mono HB.out.size)); clear hb HB HBK; have HBK := n_HBK; have HB := n_HB; clear n_HB n_HBK; replace hrow := Blk.range HBK.out) | (go_at_call 20; refine (HLS.out _ HB.out).mono ?_; rintro e w5 ⟨rfl, hb⟩; have n_HBK := Lib.hid (Blk.below HBK.out hb (Blk.lt HBK.out)); have n_HB := Lib.hid (HB.out.trans (hb.mono HB.out.size)); clear hb HB HBK; have HBK := n_HBK; have HB := n_HB; clear n_HB n_HBK; replace hrow := Blk.range HBK.out) | (go_at_call 21; refine (HMS.out _ HB.out).mono ?_; rintro e w5 ⟨rfl, hb⟩; have n_HBK := Lib.hid (Blk.below HBK.out hb (Blk.lt HBK.out)); have n_HB := Lib.hid (HB.out.trans (hb.mono HB.out.size)); clear hb HB HBK; have HBK := n_HBK; have HB := n_HB; clear n_HB n_HBK; replace hrow := Blk.range HBK.out) | (go_at_call 14; refine (HRR.out _ HB.out).mono ?_; rintro e w5 ⟨rfl, hb⟩; have n_HBK := Lib.hid (Blk.below HBK.out hb (Blk.lt HBK.out)); have n_HB := Lib.hid (HB.out.trans (hb.mono HB.out.size)); clear hb HB HBK; have HBK := n_HBK; have HB := n_HB; clear n_HB n_HBK; replace hrow := Blk.range HBK.out))
  go_upto_region 11 with (first | ((try (refine gate_guard (by rfl) ?_; dsimp only)); refine wpList_load_mid rfl 35 _ rfl _ _ rfl _ _ hrow Try.underlying35 rfl HK2.out.len ?_) | ((try (refine gate_guard (by rfl) ?_; dsimp only)); go_at_call 22; refine (HRL.out _ HB.out).mono ?_; rintro e w5 ⟨rfl, hb⟩; have n_HBK := Lib.hid (Blk.below HBK.out hb (Blk.lt HBK.out)); have n_HB := Lib.hid (HB.out.trans (hb.mono HB.out.size)); clear hb HB HBK; have HBK := n_HBK; have HB := n_HB; clear n_HB n_HBK; replace hrow := Blk.range HBK.out) | ((try (refine gate_guard (by rfl) ?_; dsimp only)); go_at_call 23; refine (HRM.out _ HB.out).mono ?_; rintro e w5 ⟨rfl, hb⟩; have n_HBK := Lib.hid (Blk.below HBK.out hb (Blk.lt HBK.out)); have n_HB := Lib.hid (HB.out.trans (hb.mono HB.out.size)); clear hb HB HBK; have HBK := n_HBK; have HB := n_HB; clear n_HB n_HBK; replace hrow := Blk.range HBK.out))
  have y31 : w5.cell? ⟨w.heap.size, 31, none⟩ = some (.slice A3 len c3) := (Blk.cell HBK.out 31).trans Q31.out
  go_wp2_with (first | ((try (refine gate_guard (by rfl) ?_; dsimp only)); refine wpList_load_mid rfl 35 _ rfl _ _ rfl _ _ hrow Try.underlying35 rfl HK2.out.len ?_) | ((try (refine gate_guard (by rfl) ?_; dsimp only)); go_at_call 24; refine (HRW.out _ HB.out).mono ?_; rintro e w5 ⟨rfl, hb⟩; have n_HBK := Lib.hid (Blk.below HBK.out hb (Blk.lt HBK.out)); have n_HB := Lib.hid (HB.out.trans (hb.mono HB.out.size)); clear hb HB HBK; have HBK := n_HBK; have HB := n_HB; clear n_HB n_HBK; replace hrow := Blk.range HBK.out))
  go_ret
  exact ⟨by simp, HB.out⟩
theorem widel_any (A1 : Option Addr) (c1 : Nat) (A3 : Option Addr) (c3 : Nat) (n : Nd) (fr tw : Int) (w : World) (hr1 : Kd.C (Kd.int .i64) w A1 n.f1.length n.f1) (hc1 : n.f1.length ≤ c1) (hr3 : Kd.C (Kd.int .i64) w A3 n.f3.length n.f3) (hc3 : n.f3.length ≤ c3) : Calls Try.prog 4 #[.agg (nodeC A1 c1 A3 c3 n), .int .i64 fr, .int .i64 tw] w fun e w' => e = .returned (.bool true) ∧ Below w.heap.size w w' := by
  by_cases hR : rightB (cutN n) = true
  · by_cases h1 : fr < 0
    · exact widel_out0 A1 c1 A3 c3 n fr tw w hr1 hc1 hr3 hc3 hR h1
    by_cases h2 : tw < fr
    · exact widel_out1 A1 c1 A3 c3 n fr tw w hr1 hc1 hr3 hc3 hR h1 h2
    by_cases h3 : ((cutN n).f3.length : Int) < tw
    · exact widel_out2 A1 c1 A3 c3 n fr tw w hr1 hc1 hr3 hc3 hR h1 h2 h3
    · exact widel_in A1 c1 A3 c3 n fr tw w hr1 hc1 hr3 hc3 hR h1 h2 h3
  · exact widel_no A1 c1 A3 c3 n fr tw w hr1 hc1 hr3 hc3 (by simpa using hR)
def purflinglaw08_LinesWide.f (a0_0 : Int) (l0_1 : List Int) (a0_2 : Int) (a0_3 : Int) (a0_4 : Int) (a0_5 : Int) (a0_6 : Int) (a0_7 : Int) (a0_8 : Int) (a0_9 : Int) (a0_10 : Int) (a0_11 : Int) (a0_12 : Int) (a0_13 : Int) (a0_14 : Int) (a0_15 : Int) (a0_16 : Int) (a0_17 : Int) (a0_18 : Int) (a0_19 : Int) (a0_20 : Int) (a0_21 : Int) (a0_22 : Int) (a0_23 : Int) (a0_24 : Int) (a0_25 : Bool) (a0_26 : Bool) (a0_27 : Int) (a0_28 : Int) (a0_29 : Bool) (a0_30 : Bool) (l0_31 : List Int) (a0_32 : Int) (a0_33 : Int) (fr : Int) (tw : Int) : Option Bool := some true
theorem purflinglaw08_LinesWide.calls (a0_0 : Int) (A0_1 : Option Addr) (c0_1 : Nat) (l0_1 : List Int) (a0_2 : Int) (a0_3 : Int) (a0_4 : Int) (a0_5 : Int) (a0_6 : Int) (a0_7 : Int) (a0_8 : Int) (a0_9 : Int) (a0_10 : Int) (a0_11 : Int) (a0_12 : Int) (a0_13 : Int) (a0_14 : Int) (a0_15 : Int) (a0_16 : Int) (a0_17 : Int) (a0_18 : Int) (a0_19 : Int) (a0_20 : Int) (a0_21 : Int) (a0_22 : Int) (a0_23 : Int) (a0_24 : Int) (a0_25 : Bool) (a0_26 : Bool) (a0_27 : Int) (a0_28 : Int) (a0_29 : Bool) (a0_30 : Bool) (A0_31 : Option Addr) (c0_31 : Nat) (l0_31 : List Int) (a0_32 : Int) (a0_33 : Int) (fr : Int) (tw : Int) (r : Bool) (w : World) (hr0_1 : Kd.C (Kd.int .i64) w A0_1 l0_1.length l0_1) (hc0_1 : l0_1.length ≤ c0_1) (hr0_31 : Kd.C (Kd.int .i64) w A0_31 l0_31.length l0_31) (hc0_31 : l0_31.length ≤ c0_31) (h : purflinglaw08_LinesWide.f a0_0 l0_1 a0_2 a0_3 a0_4 a0_5 a0_6 a0_7 a0_8 a0_9 a0_10 a0_11 a0_12 a0_13 a0_14 a0_15 a0_16 a0_17 a0_18 a0_19 a0_20 a0_21 a0_22 a0_23 a0_24 a0_25 a0_26 a0_27 a0_28 a0_29 a0_30 l0_31 a0_32 a0_33 fr tw = some r) :
    Calls Try.prog 4 #[.agg #[.int .i64 a0_0, .slice A0_1 l0_1.length c0_1, .int .i64 a0_2, .int .i64 a0_3, .int .i64 a0_4, .int .i64 a0_5, .int .i64 a0_6, .int .i64 a0_7, .int .i64 a0_8, .int .i64 a0_9, .int .i64 a0_10, .int .i64 a0_11, .int .u32 a0_12, .int .i64 a0_13, .int .i64 a0_14, .int .u32 a0_15, .int .i64 a0_16, .int .i64 a0_17, .int .u32 a0_18, .int .i64 a0_19, .int .i64 a0_20, .int .u32 a0_21, .int .i64 a0_22, .int .i64 a0_23, .int .i64 a0_24, .bool a0_25, .bool a0_26, .int .i64 a0_27, .int .i64 a0_28, .bool a0_29, .bool a0_30, .slice A0_31 l0_31.length c0_31, .int .i64 a0_32, .int .i64 a0_33], .int .i64 fr, .int .i64 tw] w fun e w' => e = .returned (.bool r) ∧ Below w.heap.size w w' := by
  cases h
  exact widel_any A0_1 c0_1 A0_31 c0_31 (⟨a0_0, l0_1, ⟨⟨a0_2, a0_3⟩, ⟨a0_4, a0_5⟩, ⟨a0_6, a0_7, a0_8, a0_9⟩, ⟨⟨a0_10, a0_11, a0_12⟩, ⟨a0_13, a0_14, a0_15⟩, ⟨a0_16, a0_17, a0_18⟩, ⟨a0_19, a0_20, a0_21⟩⟩, a0_22, a0_23, a0_24, a0_25, a0_26, ⟨a0_27, a0_28⟩, a0_29, a0_30⟩, l0_31, a0_32, a0_33⟩ : Nd) fr tw w hr0_1 hc0_1 hr0_31 hc0_31
end Go.Proofs.Yteckkphbgfmolaa.K
namespace Go.Proofs.Yteckkphbgfmolaa.Pure
open Go.RowKit Go.Proofs.Yteckkphbgfmolaa.K
set_option linter.unusedVariables false
theorem linesWide_pure (n : Nd) (fr : Int) (tw : Int) (hn : good_35 n) (hg0 : (Lit.int .i64 fr).wf = true) (hg1 : (Lit.int .i64 tw).wf = true) : purflinglaw08_LinesWide.f (n.f0) (n.f1) (n.f2.f0.f0) (n.f2.f0.f1) (n.f2.f1.f0) (n.f2.f1.f1) (n.f2.f2.f0) (n.f2.f2.f1) (n.f2.f2.f2) (n.f2.f2.f3) (n.f2.f3.f0.f0) (n.f2.f3.f0.f1) (n.f2.f3.f0.f2) (n.f2.f3.f1.f0) (n.f2.f3.f1.f1) (n.f2.f3.f1.f2) (n.f2.f3.f2.f0) (n.f2.f3.f2.f1) (n.f2.f3.f2.f2) (n.f2.f3.f3.f0) (n.f2.f3.f3.f1) (n.f2.f3.f3.f2) (n.f2.f4) (n.f2.f5) (n.f2.f6) (n.f2.f7) (n.f2.f8) (n.f2.f9.f0) (n.f2.f9.f1) (n.f2.f10) (n.f2.f11) (n.f3) (n.f4) (n.f5) fr tw = some true := rfl
end Go.Proofs.Yteckkphbgfmolaa.Pure
