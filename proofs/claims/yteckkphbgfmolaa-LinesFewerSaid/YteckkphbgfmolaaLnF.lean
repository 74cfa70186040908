/- Layer 8: LinesFewer. -/
import Derived.Test.YteckkphbgfmolaaLnP
import Derived.Test.YteckkphbgfmolaaOpens
namespace Go.Proofs.Yteckkphbgfmolaa.K
open Go.RowKit Go.Proofs.YteckkphbgfmolaaW.PrintWords Go.Proofs.YteckkphbgfmolaaW.PrintLast Go.Proofs.YteckkphbgfmolaaW.PrintMore Go.Proofs.Yteckkphbgfmolaa.Pure
set_option linter.unusedVariables false
set_option linter.unusedSimpArgs false
set_option maxRecDepth 100000 in
set_option maxHeartbeats 4000000 in
theorem fewer_gt (A1 : Option Addr) (c1 : Nat) (A3 : Option Addr) (c3 : Nat) (n : Nd) (a b : Int) (w : World) (hr1 : Kd.C (Kd.int .i64) w A1 n.f1.length n.f1) (hc1 : n.f1.length ≤ c1) (hr3 : Kd.C (Kd.int .i64) w A3 n.f3.length n.f3) (hc3 : n.f3.length ≤ c3) (hab : b < a) :
    Calls Try.prog 6 #[.agg (nodeC A1 c1 A3 c3 n), .int .i64 a, .int .i64 b] w fun e w' => e = .returned (.bool true) ∧ Below w.heap.size w w' := by
  have hk1 := nodeK A1 c1 A3 c3 n
  have hk2 := nodeK A1 c1 A3 c3 (cutN n)
  have hcut := fun (V : World) (hV : Below w.heap.size w V) => cut_any A1 c1 A3 c3 n V (Kd.C_below hr1 hV) hc1 (Kd.C_below hr3 hV) hc3
  have hd3 := cutN_C hr3
  have hdc := cutN_le (n := n) hc3
  have HK1 := Lib.hid hk1
  have HK2 := Lib.hid hk2
  have HCUT := Lib.hid hcut
  clear hk1 hk2 hcut hr1 hr3 hc1 hc3 hd3 hdc
  generalize nodeC A1 c1 A3 c3 (cutN n) = cs2 at *
  generalize nodeC A1 c1 A3 c3 n = cs at *
  have hd : decide (b < a) = true := decide_eq_true hab
  go_enter Try.func6, Try.ntmps6
  go_upto_region 3 with (first | (refine wpList_load_mid rfl 35 _ rfl _ _ rfl _ _ hrow1 Try.underlying35 rfl HK1.out.len ?_) | (go_at_call 10; refine (shown_any _).mono ?_; rintro e w1 ⟨rfl, hb⟩; have HBK1 := Lib.hid (Blk.below (Blk.new w 35 cs) hb (by simp)); have HB := Lib.hid (((Below.refl _ w).alloc (Nat.le_refl _) (.cells cs 35)).trans (hb.mono (by simp))); clear hb; have hrow1 := Blk.range HBK1.out) | (go_at_call 11; refine (HCUT.out _ HB.out).mono ?_; rintro e w2 ⟨rfl, hb⟩; have n0_ := Lib.hid (Blk.below HBK1.out hb (Blk.lt HBK1.out)); have n1_ := Lib.hid (HB.out.trans (hb.mono HB.out.size)); clear HBK1 HB; have HBK1 := n0_; have HB := n1_; clear n0_ n1_ hb hrow1; have hT := Blk.there HBK1.out cs2.size (by rw [HK1.out.size, HK2.out.size]; exact Nat.le_refl _)) | (refine wpList_store_mid rfl 35 _ _ rfl (w.heap.size) 0 cs2 rfl rfl hT HK2.out.len2 HK2.out.one ?_; have HBK := Lib.hid (show Blk _ _ _ cs2 from HBK1.out.setCells cs2.toList (by rw [Array.length_toList, HK1.out.size, HK2.out.size])); have n1_ := Lib.hid (below_setCells' (b := w.heap.size) (Nat.le_refl _) cs2.toList 0 HB.out); clear HB; have HB := n1_; clear n1_ HBK1 hT; generalize w2.setCells w.heap.size 0 cs2.toList = w3 at HBK HB ⊢; have hrow := Blk.range HBK.out))
  go_wp2
  go_ret
  exact ⟨rfl, HB.out⟩
set_option maxRecDepth 100000 in
set_option maxHeartbeats 4000000 in
theorem fewer_no (A1 : Option Addr) (c1 : Nat) (A3 : Option Addr) (c3 : Nat) (n : Nd) (a b : Int) (w : World) (hr1 : Kd.C (Kd.int .i64) w A1 n.f1.length n.f1) (hc1 : n.f1.length ≤ c1) (hr3 : Kd.C (Kd.int .i64) w A3 n.f3.length n.f3) (hc3 : n.f3.length ≤ c3) (hab : ¬ b < a) (hR : rightB (cutN n) = false) :
    Calls Try.prog 6 #[.agg (nodeC A1 c1 A3 c3 n), .int .i64 a, .int .i64 b] w fun e w' => e = .returned (.bool true) ∧ Below w.heap.size w w' := by
  have hk1 := nodeK A1 c1 A3 c3 n
  have hk2 := nodeK A1 c1 A3 c3 (cutN n)
  have hcut := fun (V : World) (hV : Below w.heap.size w V) => cut_any A1 c1 A3 c3 n V (Kd.C_below hr1 hV) hc1 (Kd.C_below hr3 hV) hc3
  have hd3 := cutN_C hr3
  have hdc := cutN_le (n := n) hc3
  have HRT := Lib.hid (fun (V : World) (hV : Below w.heap.size w V) => right_any A1 c1 A3 c3 (cutN n) V (Kd.C_below hr1 hV) hc1 (Kd.C_below hd3 hV) hdc)
  rw [hR] at HRT
  clear hR
  have HK1 := Lib.hid hk1
  have HK2 := Lib.hid hk2
  have HCUT := Lib.hid hcut
  clear hk1 hk2 hcut hr1 hr3 hc1 hc3 hd3 hdc
  generalize nodeC A1 c1 A3 c3 (cutN n) = cs2 at *
  generalize nodeC A1 c1 A3 c3 n = cs at *
  have hd : decide (b < a) = false := decide_eq_false hab
  go_enter Try.func6, Try.ntmps6
  go_upto_region 3 with (first | (refine wpList_load_mid rfl 35 _ rfl _ _ rfl _ _ hrow1 Try.underlying35 rfl HK1.out.len ?_) | (go_at_call 10; refine (shown_any _).mono ?_; rintro e w1 ⟨rfl, hb⟩; have HBK1 := Lib.hid (Blk.below (Blk.new w 35 cs) hb (by simp)); have HB := Lib.hid (((Below.refl _ w).alloc (Nat.le_refl _) (.cells cs 35)).trans (hb.mono (by simp))); clear hb; have hrow1 := Blk.range HBK1.out) | (go_at_call 11; refine (HCUT.out _ HB.out).mono ?_; rintro e w2 ⟨rfl, hb⟩; have n0_ := Lib.hid (Blk.below HBK1.out hb (Blk.lt HBK1.out)); have n1_ := Lib.hid (HB.out.trans (hb.mono HB.out.size)); clear HBK1 HB; have HBK1 := n0_; have HB := n1_; clear n0_ n1_ hb hrow1; have hT := Blk.there HBK1.out cs2.size (by rw [HK1.out.size, HK2.out.size]; exact Nat.le_refl _)) | (refine wpList_store_mid rfl 35 _ _ rfl (w.heap.size) 0 cs2 rfl rfl hT HK2.out.len2 HK2.out.one ?_; have HBK := Lib.hid (show Blk _ _ _ cs2 from HBK1.out.setCells cs2.toList (by rw [Array.length_toList, HK1.out.size, HK2.out.size])); have n1_ := Lib.hid (below_setCells' (b := w.heap.size) (Nat.le_refl _) cs2.toList 0 HB.out); clear HB; have HB := n1_; clear n1_ HBK1 hT; generalize w2.setCells w.heap.size 0 cs2.toList = w3 at HBK HB ⊢; have hrow := Blk.range HBK.out))
  go_wp2_with (first | ((try (refine gate_guard (by rfl) ?_; dsimp only)); refine wpList_load_mid rfl 35 _ rfl _ _ rfl _ _ hrow Try.underlying35 rfl HK2.out.len ?_) | ((try (refine gate_guard (by rfl) ?_; dsimp only)); go_at_call 15; refine (HRT.out _ HB.out).mono ?_; rintro e w5 ⟨rfl, hb⟩; have n_HBK := Lib.hid (Blk.below HBK.out hb (Blk.lt HBK.out)); have n_HB := Lib.hid (HB.out.trans (hb.mono HB.out.size)); clear hb HB HBK; have HBK := n_HBK; have HB := n_HB; clear n_HB n_HBK; replace hrow := Blk.range HBK.out))
  go_ret
  exact ⟨rfl, HB.out⟩
set_option maxRecDepth 100000 in
set_option maxHeartbeats 4000000 in
theorem fewer_yes (A1 : Option Addr) (c1 : Nat) (A3 : Option Addr) (c3 : Nat) (n : Nd) (a b : Int) (w : World) (hr1 : Kd.C (Kd.int .i64) w A1 n.f1.length n.f1) (hc1 : n.f1.length ≤ c1) (hr3 : Kd.C (Kd.int .i64) w A3 n.f3.length n.f3) (hc3 : n.f3.length ≤ c3) (hab : ¬ b < a) (hR : rightB (cutN n) = true) :
    Calls Try.prog 6 #[.agg (nodeC A1 c1 A3 c3 n), .int .i64 a, .int .i64 b] w fun e w' => e = .returned (.bool true) ∧ Below w.heap.size w w' := by
  have hk1 := nodeK A1 c1 A3 c3 n
  have hk2 := nodeK A1 c1 A3 c3 (cutN n)
  have hcut := fun (V : World) (hV : Below w.heap.size w V) => cut_any A1 c1 A3 c3 n V (Kd.C_below hr1 hV) hc1 (Kd.C_below hr3 hV) hc3
  have hd3 := cutN_C hr3
  have hdc := cutN_le (n := n) hc3
  have HRT := Lib.hid (fun (V : World) (hV : Below w.heap.size w V) => right_any A1 c1 A3 c3 (cutN n) V (Kd.C_below hr1 hV) hc1 (Kd.C_below hd3 hV) hdc)
  have HBA := Lib.hid (fun (V : World) (hV : Below w.heap.size w V) => break_yes A1 c1 A3 c3 (cutN n) a V (Kd.C_below hr1 hV) hc1 (Kd.C_below hd3 hV) hdc hR)
  have HBB := Lib.hid (fun (V : World) (hV : Below w.heap.size w V) => break_yes A1 c1 A3 c3 (cutN n) b V (Kd.C_below hr1 hV) hc1 (Kd.C_below hd3 hV) hdc hR)
  have HBM := Lib.hid (fun (V : World) (hV : Below w.heap.size w V) => break_yes A1 c1 A3 c3 (cutN n) (wideP (cutN n).f3 (cutN n).f4 0 (cutN n).f3.length) V (Kd.C_below hr1 hV) hc1 (Kd.C_below hd3 hV) hdc hR)
  have HMST := Lib.hid (fun (V : World) (hV : Below w.heap.size w V) => most_any A1 c1 A3 c3 (cutN n) V (Kd.C_below hr1 hV) hc1 (Kd.C_below hd3 hV) hdc)
  rw [hR] at HRT
  have he3 : widesP (cutN n) 0 (cutN n).f3.length = (wideP (cutN n).f3 (cutN n).f4 0 (cutN n).f3.length, 0) := by
    unfold widesP placesB; rw [hR, decide_eq_true (Int.le_refl 0), decide_eq_true (show (0 : Int) ≤ (cutN n).f3.length by omega), decide_eq_true (Int.le_refl _)]; rfl
  rw [he3] at HMST
  dsimp only at HMST
  have hfew : (linesP (cutN n) b).length ≤ (linesP (cutN n) a).length := linesN_fewer (txt_of hR) (by omega) _ _ 0 0 (Nat.le_refl _) (by omega)
  have hmst : (linesP (cutN n) (wideP (cutN n).f3 (cutN n).f4 0 (cutN n).f3.length)).length = mn (cutN n).f3.length 1 := linesN_most (txt_of hR)
  clear hR he3
  have Q31 := Lib.hid (show (nodeC A1 c1 A3 c3 (cutN n))[31]? = some (.slice A3 (cutN n).f3.length c3) from rfl)
  have HK1 := Lib.hid hk1
  have HK2 := Lib.hid hk2
  have HCUT := Lib.hid hcut
  clear hk1 hk2 hcut hr1 hr3 hc1 hc3 hd3 hdc
  generalize nodeC A1 c1 A3 c3 (cutN n) = cs2 at *
  generalize nodeC A1 c1 A3 c3 n = cs at *
  generalize wideP (cutN n).f3 (cutN n).f4 0 (cutN n).f3.length = mst at *
  generalize (cutN n).f3.length = len at *
  have HBA2 := Lib.hid (fun V hV => (HBA.out V hV).mono (R' := fun e w' => ∃ A c, e = .returned (.tuple #[.slice A (linesP (cutN n) a).length c, .int .i64 0]) ∧ Below V.heap.size V w') (by rintro e w' ⟨v, rfl, h, hb⟩; obtain ⟨A, c, rfl⟩ := Kd.R_slice h; exact ⟨A, c, by rw [List.length_map], hb⟩))
  have HBB2 := Lib.hid (fun V hV => (HBB.out V hV).mono (R' := fun e w' => ∃ A c, e = .returned (.tuple #[.slice A (linesP (cutN n) b).length c, .int .i64 0]) ∧ Below V.heap.size V w') (by rintro e w' ⟨v, rfl, h, hb⟩; obtain ⟨A, c, rfl⟩ := Kd.R_slice h; exact ⟨A, c, by rw [List.length_map], hb⟩))
  have HBM2 := Lib.hid (fun V hV => (HBM.out V hV).mono (R' := fun e w' => ∃ A c, e = .returned (.tuple #[.slice A (linesP (cutN n) mst).length c, .int .i64 0]) ∧ Below V.heap.size V w') (by rintro e w' ⟨v, rfl, h, hb⟩; obtain ⟨A, c, rfl⟩ := Kd.R_slice h; exact ⟨A, c, by rw [List.length_map], hb⟩))
  clear HBA HBB HBM
  generalize (linesP (cutN n) a).length = na at *
  generalize (linesP (cutN n) b).length = nb at *
  generalize (linesP (cutN n) mst).length = nm at *
  have hd : decide (b < a) = false := decide_eq_false hab
  have hd1 : decide (nb ≤ na) = true := decide_eq_true hfew
  have HMN := Lib.hid hmst
  clear hfew hmst hab
  go_enter Try.func6, Try.ntmps6
  go_upto_region 3 with (first | (refine wpList_load_mid rfl 35 _ rfl _ _ rfl _ _ hrow1 Try.underlying35 rfl HK1.out.len ?_) | (go_at_call 10; refine (shown_any _).mono ?_; rintro e w1 ⟨rfl, hb⟩; have HBK1 := Lib.hid (Blk.below (Blk.new w 35 cs) hb (by simp)); have HB := Lib.hid (((Below.refl _ w).alloc (Nat.le_refl _) (.cells cs 35)).trans (hb.mono (by simp))); clear hb; have hrow1 := Blk.range HBK1.out) | (go_at_call 11; refine (HCUT.out _ HB.out).mono ?_; rintro e w2 ⟨rfl, hb⟩; have n0_ := Lib.hid (Blk.below HBK1.out hb (Blk.lt HBK1.out)); have n1_ := Lib.hid (HB.out.trans (hb.mono HB.out.size)); clear HBK1 HB; have HBK1 := n0_; have HB := n1_; clear n0_ n1_ hb hrow1; have hT := Blk.there HBK1.out cs2.size (by rw [HK1.out.size, HK2.out.size]; exact Nat.le_refl _)) | (refine wpList_store_mid rfl 35 _ _ rfl (w.heap.size) 0 cs2 rfl rfl hT HK2.out.len2 HK2.out.one ?_; have HBK := Lib.hid (show Blk _ _ _ cs2 from HBK1.out.setCells cs2.toList (by rw [Array.length_toList, HK1.out.size, HK2.out.size])); have n1_ := Lib.hid (below_setCells' (b := w.heap.size) (Nat.le_refl _) cs2.toList 0 HB.out); clear HB; have HB := n1_; clear n1_ HBK1 hT; generalize w2.setCells w.heap.size 0 cs2.toList = w3 at HBK HB ⊢; have hrow := Blk.range HBK.out))
  go_upto_region 5 with (first | ((try (refine gate_guard (by rfl) ?_; dsimp only)); refine wpList_load_mid rfl 35 _ rfl _ _ rfl _ _ hrow Try.underlying35 rfl HK2.out.len ?_) | ((try (refine gate_guard (by rfl) ?_; dsimp only)); go_at_call 15; refine (HRT.out _ HB.out).mono ?_; rintro e w5 ⟨rfl, hb⟩; have n_HBK := Lib.hid (Blk.below HBK.out hb (Blk.lt HBK.out)); have n_HB := Lib.hid (HB.out.trans (hb.mono HB.out.size)); clear hb HB HBK; have HBK := n_HBK; have HB := n_HB; clear n_HB n_HBK; replace hrow := Blk.range HBK.out))
  go_upto_region 6 with (first | (refine wpList_load_mid rfl 35 _ rfl _ _ rfl _ _ hrow Try.underlying35 rfl HK2.out.len ?_) | (go_at_call 12; refine (HBA2.out _ HB.out).mono ?_; rintro e w5 ⟨A, c, rfl, hb⟩; have n_HBK := Lib.hid (Blk.below HBK.out hb (Blk.lt HBK.out)); have n_HB := Lib.hid (HB.out.trans (hb.mono HB.out.size)); clear hb HB HBK; have HBK := n_HBK; have HB := n_HB; clear n_HB n_HBK; replace hrow := Blk.range HBK.out))
  go_upto_region 7 with (first | (refine wpList_load_mid rfl 35 _ rfl _ _ rfl _ _ hrow Try.underlying35 rfl HK2.out.len ?_) | (go_at_call 12; refine (HBB2.out _ HB.out).mono ?_; rintro e w5 ⟨A', c', rfl, hb⟩; have n_HBK := Lib.hid (Blk.below HBK.out hb (Blk.lt HBK.out)); have n_HB := Lib.hid (HB.out.trans (hb.mono HB.out.size)); clear hb HB HBK; have HBK := n_HBK; have HB := n_HB; clear n_HB n_HBK; replace hrow := Blk.range HBK.out))
  go_upto_region 8 with (first | (refine wpList_load_mid rfl 35 _ rfl _ _ rfl _ _ hrow Try.underlying35 rfl HK2.out.len ?_) | (go_at_call 21; refine (HMST.out _ HB.out).mono ?_; rintro e w5 ⟨rfl, hb⟩; have n_HBK := Lib.hid (Blk.below HBK.out hb (Blk.lt HBK.out)); have n_HB := Lib.hid (HB.out.trans (hb.mono HB.out.size)); clear hb HB HBK; have HBK := n_HBK; have HB := n_HB; clear n_HB n_HBK; replace hrow := Blk.range HBK.out))
  go_upto_region 9 with (first | (refine wpList_load_mid rfl 35 _ rfl _ _ rfl _ _ hrow Try.underlying35 rfl HK2.out.len ?_) | (go_at_call 12; refine (HBM2.out _ HB.out).mono ?_; rintro e w5 ⟨A'', c'', rfl, hb⟩; have n_HBK := Lib.hid (Blk.below HBK.out hb (Blk.lt HBK.out)); have n_HB := Lib.hid (HB.out.trans (hb.mono HB.out.size)); clear hb HB HBK; have HBK := n_HBK; have HB := n_HB; clear n_HB n_HBK; replace hrow := Blk.range HBK.out))
  have y31 : w5.cell? ⟨w.heap.size, 31, none⟩ = some (.slice A3 len c3) := (Blk.cell HBK.out 31).trans Q31.out
  have hm2 : ((nm : Int) == (if (1 : Int) < (len : Int) then 1 else (len : Int))) = true := by rw [HMN.out]; unfold mn; exact beq_self_eq_true _
  go_wp2
  all_goals (go_ret; exact ⟨by simp, HB.out⟩)
theorem fewer_any (A1 : Option Addr) (c1 : Nat) (A3 : Option Addr) (c3 : Nat) (n : Nd) (a b : Int) (w : World) (hr1 : Kd.C (Kd.int .i64) w A1 n.f1.length n.f1) (hc1 : n.f1.length ≤ c1) (hr3 : Kd.C (Kd.int .i64) w A3 n.f3.length n.f3) (hc3 : n.f3.length ≤ c3) : Calls Try.prog 6 #[.agg (nodeC A1 c1 A3 c3 n), .int .i64 a, .int .i64 b] w fun e w' => e = .returned (.bool true) ∧ Below w.heap.size w w' := by
  by_cases hab : b < a
  · exact fewer_gt A1 c1 A3 c3 n a b w hr1 hc1 hr3 hc3 hab
  by_cases hR : rightB (cutN n) = true
  · exact fewer_yes A1 c1 A3 c3 n a b w hr1 hc1 hr3 hc3 hab hR
  · exact fewer_no A1 c1 A3 c3 n a b w hr1 hc1 hr3 hc3 hab (by simpa using hR)
def purflinglaw08_LinesFewer.f (a0_0 : Int) (l0_1 : List Int) (a0_2 : Int) (a0_3 : Int) (a0_4 : Int) (a0_5 : Int) (a0_6 : Int) (a0_7 : Int) (a0_8 : Int) (a0_9 : Int) (a0_10 : Int) (a0_11 : Int) (a0_12 : Int) (a0_13 : Int) (a0_14 : Int) (a0_15 : Int) (a0_16 : Int) (a0_17 : Int) (a0_18 : Int) (a0_19 : Int) (a0_20 : Int) (a0_21 : Int) (a0_22 : Int) (a0_23 : Int) (a0_24 : Int) (a0_25 : Bool) (a0_26 : Bool) (a0_27 : Int) (a0_28 : Int) (a0_29 : Bool) (a0_30 : Bool) (l0_31 : List Int) (a0_32 : Int) (a0_33 : Int) (a : Int) (b : Int) : Option Bool := some true
theorem purflinglaw08_LinesFewer.calls (a0_0 : Int) (A0_1 : Option Addr) (c0_1 : Nat) (l0_1 : List Int) (a0_2 : Int) (a0_3 : Int) (a0_4 : Int) (a0_5 : Int) (a0_6 : Int) (a0_7 : Int) (a0_8 : Int) (a0_9 : Int) (a0_10 : Int) (a0_11 : Int) (a0_12 : Int) (a0_13 : Int) (a0_14 : Int) (a0_15 : Int) (a0_16 : Int) (a0_17 : Int) (a0_18 : Int) (a0_19 : Int) (a0_20 : Int) (a0_21 : Int) (a0_22 : Int) (a0_23 : Int) (a0_24 : Int) (a0_25 : Bool) (a0_26 : Bool) (a0_27 : Int) (a0_28 : Int) (a0_29 : Bool) (a0_30 : Bool) (A0_31 : Option Addr) (c0_31 : Nat) (l0_31 : List Int) (a0_32 : Int) (a0_33 : Int) (a : Int) (b : Int) (r : Bool) (w : World) (hr0_1 : Kd.C (Kd.int .i64) w A0_1 l0_1.length l0_1) (hc0_1 : l0_1.length ≤ c0_1) (hr0_31 : Kd.C (Kd.int .i64) w A0_31 l0_31.length l0_31) (hc0_31 : l0_31.length ≤ c0_31) (h : purflinglaw08_LinesFewer.f a0_0 l0_1 a0_2 a0_3 a0_4 a0_5 a0_6 a0_7 a0_8 a0_9 a0_10 a0_11 a0_12 a0_13 a0_14 a0_15 a0_16 a0_17 a0_18 a0_19 a0_20 a0_21 a0_22 a0_23 a0_24 a0_25 a0_26 a0_27 a0_28 a0_29 a0_30 l0_31 a0_32 a0_33 a b = some r) :
    Calls Try.prog 6 #[.agg #[.int .i64 a0_0, .slice A0_1 l0_1.length c0_1, .int .i64 a0_2, .int .i64 a0_3, .int .i64 a0_4, .int .i64 a0_5, .int .i64 a0_6, .int .i64 a0_7, .int .i64 a0_8, .int .i64 a0_9, .int .i64 a0_10, .int .i64 a0_11, .int .u32 a0_12, .int .i64 a0_13, .int .i64 a0_14, .int .u32 a0_15, .int .i64 a0_16, .int .i64 a0_17, .int .u32 a0_18, .int .i64 a0_19, .int .i64 a0_20, .int .u32 a0_21, .int .i64 a0_22, .int .i64 a0_23, .int .i64 a0_24, .bool a0_25, .bool a0_26, .int .i64 a0_27, .int .i64 a0_28, .bool a0_29, .bool a0_30, .slice A0_31 l0_31.length c0_31, .int .i64 a0_32, .int .i64 a0_33], .int .i64 a, .int .i64 b] w fun e w' => e = .returned (.bool r) ∧ Below w.heap.size w w' := by
  cases h
  exact fewer_any A0_1 c0_1 A0_31 c0_31 (⟨a0_0, l0_1, ⟨⟨a0_2, a0_3⟩, ⟨a0_4, a0_5⟩, ⟨a0_6, a0_7, a0_8, a0_9⟩, ⟨⟨a0_10, a0_11, a0_12⟩, ⟨a0_13, a0_14, a0_15⟩, ⟨a0_16, a0_17, a0_18⟩, ⟨a0_19, a0_20, a0_21⟩⟩, a0_22, a0_23, a0_24, a0_25, a0_26, ⟨a0_27, a0_28⟩, a0_29, a0_30⟩, l0_31, a0_32, a0_33⟩ : Nd) a b w hr0_1 hc0_1 hr0_31 hc0_31
end Go.Proofs.Yteckkphbgfmolaa.K
namespace Go.Proofs.Yteckkphbgfmolaa.Pure
open Go.RowKit Go.Proofs.Yteckkphbgfmolaa.K
set_option linter.unusedVariables false
theorem linesFewer_pure (n : Nd) (a : Int) (b : Int) (hn : good_35 n) (hg0 : (Lit.int .i64 a).wf = true) (hg1 : (Lit.int .i64 b).wf = true) : purflinglaw08_LinesFewer.f (n.f0) (n.f1) (n.f2.f0.f0) (n.f2.f0.f1) (n.f2.f1.f0) (n.f2.f1.f1) (n.f2.f2.f0) (n.f2.f2.f1) (n.f2.f2.f2) (n.f2.f2.f3) (n.f2.f3.f0.f0) (n.f2.f3.f0.f1) (n.f2.f3.f0.f2) (n.f2.f3.f1.f0) (n.f2.f3.f1.f1) (n.f2.f3.f1.f2) (n.f2.f3.f2.f0) (n.f2.f3.f2.f1) (n.f2.f3.f2.f2) (n.f2.f3.f3.f0) (n.f2.f3.f3.f1) (n.f2.f3.f3.f2) (n.f2.f4) (n.f2.f5) (n.f2.f6) (n.f2.f7) (n.f2.f8) (n.f2.f9.f0) (n.f2.f9.f1) (n.f2.f10) (n.f2.f11) (n.f3) (n.f4) (n.f5) a b = some true := rfl
end Go.Proofs.Yteckkphbgfmolaa.Pure
