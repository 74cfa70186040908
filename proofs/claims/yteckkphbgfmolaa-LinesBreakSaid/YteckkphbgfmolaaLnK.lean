/- Layer 8: LinesBreak. -/
import Derived.Test.YteckkphbgfmolaaLnQ
import Derived.Test.YteckkphbgfmolaaLnY
import Derived.Test.YteckkphbgfmolaaHeld
import Derived.Test.YteckkphbgfmolaaOpens
namespace Go.Proofs.Yteckkphbgfmolaa.K
open Go.RowKit Go.Proofs.YteckkphbgfmolaaW.PrintWords Go.Proofs.YteckkphbgfmolaaW.PrintLast Go.Proofs.YteckkphbgfmolaaW.PrintMore Go.Proofs.Yteckkphbgfmolaa.Pure
set_option linter.unusedVariables false
set_option linter.unusedSimpArgs false
end Go.Proofs.Yteckkphbgfmolaa.K
namespace Go.Proofs.Yteckkphbgfmolaa.Pure
open Go.RowKit Go.Proofs.Yteckkphbgfmolaa.K Go.Proofs.YteckkphbgfmolaaW.PrintWords Go.Proofs.YteckkphbgfmolaaW.PrintLast Go.Proofs.YteckkphbgfmolaaW.PrintMore
set_option linter.unusedVariables false
set_option linter.unusedSimpArgs false
theorem same_l0 (l : List S57) (hl : l.length ≤ 10000) : ∀ (d j : Nat), j + d = l.length → Ev (fun k => purflingref08_Same.l0 k l l (j : Int)) true
  | 0, j, h => Ev.step (fun k => by rw [purflingref08_Same.l0]) (ev_neg (by omega) (ev_now rfl))
  | d + 1, j, h => by
    refine Ev.step (fun k => by rw [purflingref08_Same.l0]) (ev_pos (by omega) (ev_pos (by omega) (ev_pos (by omega) (ev_neg (by simp) ?_))))
    rw [up_ok (by omega)]
    exact same_l0 l hl d (j + 1) (by omega)
theorem same_self (l : List S57) (hl : l.length ≤ 10000) : ∃ k, purflingref08_Same.f k l l = some true := by
  have h : Ev (fun k => purflingref08_Same.f k l l) true := by
    unfold purflingref08_Same.f
    exact ev_pos rfl (same_l0 l hl l.length 0 (by omega))
  exact h.rounds
end Go.Proofs.Yteckkphbgfmolaa.Pure
namespace Go.Proofs.Yteckkphbgfmolaa.K
open Go.RowKit Go.Proofs.YteckkphbgfmolaaW.PrintWords Go.Proofs.YteckkphbgfmolaaW.PrintLast Go.Proofs.YteckkphbgfmolaaW.PrintMore Go.Proofs.Yteckkphbgfmolaa.Pure
set_option linter.unusedVariables false
set_option linter.unusedSimpArgs false
section
variable {F : Fence} {n : Nat} {P : Program} {ops : Array Oper} {Q : Exit → Act → World → Prop} {md : Region.Mode} {S : World → Prop}
theorem takeH2 {i : Nat} {d : Tmp} {oi : Oper} {v : Value} {fuel : Nat} {listed : Array Bool} {a : Act} {w : World} (hi : ops[i]? = some oi) (hdst : oi.dst = some d) (hd : noDefer ops = true)
    (hs : Region.noSelect ops = true) (hf : Region.free md ops listed i = true) (hr : (Region.ready md ops listed).contains i = true)
    (hQ : ∀ c a w, Q (.panic c) (a.put oi.dst v) w → Q (.panic c) a w) (hy : YieldsH P ops S oi v a) (hS : S w)
    (h : wpAnyInH F n P md ops Q S fuel (listed.setIfInBounds i true) { tmps := a.tmps.setIfInBounds d v, defers := a.defers } w) : wpAnyInH F n P md ops Q S (fuel + 1) listed a w :=
  takeH hi hd hs hf hr hQ hy hS (by unfold Act.put; rw [hdst]; exact h)
end
attribute [local go_sem high] eqBox
set_option maxRecDepth 100000 in
set_option maxHeartbeats 4000000 in
theorem breakl_no (A1 : Option Addr) (c1 : Nat) (A3 : Option Addr) (c3 : Nat) (n : Nd) (width : Int) (w : World) (hr1 : Kd.C (Kd.int .i64) w A1 n.f1.length n.f1) (hc1 : n.f1.length ≤ c1) (hr3 : Kd.C (Kd.int .i64) w A3 n.f3.length n.f3) (hc3 : n.f3.length ≤ c3) (hR : rightB (cutN n) = false) :
    Calls Try.prog 3 #[.agg (nodeC A1 c1 A3 c3 n), .int .i64 width] w fun e w' => e = .returned (.bool true) ∧ Below w.heap.size w w' := by
  have hk1 := nodeK A1 c1 A3 c3 n
  have hk2 := nodeK A1 c1 A3 c3 (cutN n)
  have hcut := fun (V : World) (hV : Below w.heap.size w V) => cut_any A1 c1 A3 c3 n V (Kd.C_below hr1 hV) hc1 (Kd.C_below hr3 hV) hc3
  have hd3 := cutN_C hr3
  have hdc := cutN_le (n := n) hc3
  have HBOX := Lib.hid (fun (V : World) (hV : Below w.heap.size w V) => box_no A1 c1 A3 c3 (cutN n) width V (Kd.C_below hr1 hV) hc1 (Kd.C_below hd3 hV) hdc hR)
  have HBRK := Lib.hid (fun (V : World) (hV : Below w.heap.size w V) => break_no A1 c1 A3 c3 (cutN n) width V (Kd.C_below hr1 hV) hc1 (Kd.C_below hd3 hV) hdc hR)
  have HRR := Lib.hid (fun (V : World) (hV : Below w.heap.size w V) => rright_any A1 c1 A3 c3 (cutN n) V (Kd.C_below hr1 hV) hc1 (Kd.C_below hd3 hV) hdc)
  have HRT := Lib.hid (fun (V : World) (hV : Below w.heap.size w V) => right_any A1 c1 A3 c3 (cutN n) V (Kd.C_below hr1 hV) hc1 (Kd.C_below hd3 hV) hdc)
  rw [hR] at HRR HRT
  unfold boxZ at HBOX
  clear hR
  have HK1 := Lib.hid hk1
  have HK2 := Lib.hid hk2
  have HCUT := Lib.hid hcut
  clear hk1 hk2 hcut hr1 hr3 hc1 hc3 hd3 hdc
  generalize nodeC A1 c1 A3 c3 (cutN n) = cs2 at *
  generalize nodeC A1 c1 A3 c3 n = cs at *
  go_enter Try.func3, Try.ntmps3
  go_upto_region 3 with (first | (refine wpList_load_mid rfl 35 _ rfl _ _ rfl _ _ hrow1 Try.underlying35 rfl HK1.out.len ?_) | (go_at_call 10; refine (shown_any _).mono ?_; rintro e w1 ⟨rfl, hb⟩; have HBK1 := Lib.hid (Blk.below (Blk.new w 35 cs) hb (by simp)); have HB := Lib.hid (((Below.refl _ w).alloc (Nat.le_refl _) (.cells cs 35)).trans (hb.mono (by simp))); clear hb; have hrow1 := Blk.range HBK1.out) | (go_at_call 11; refine (HCUT.out _ HB.out).mono ?_; rintro e w2 ⟨rfl, hb⟩; have n0_ := Lib.hid (Blk.below HBK1.out hb (Blk.lt HBK1.out)); have n1_ := Lib.hid (HB.out.trans (hb.mono HB.out.size)); clear HBK1 HB; have HBK1 := n0_; have HB := n1_; clear n0_ n1_ hb hrow1; have hT := Blk.there HBK1.out cs2.size (by rw [HK1.out.size, HK2.out.size]; exact Nat.le_refl _)) | (refine wpList_store_mid rfl 35 _ _ rfl (w.heap.size) 0 cs2 rfl rfl hT HK2.out.len2 HK2.out.one ?_; have HBK := Lib.hid (show Blk _ _ _ cs2 from HBK1.out.setCells cs2.toList (by rw [Array.length_toList, HK1.out.size, HK2.out.size])); have n1_ := Lib.hid (below_setCells' (b := w.heap.size) (Nat.le_refl _) cs2.toList 0 HB.out); clear HB; have HB := n1_; clear n1_ HBK1 hT; generalize w2.setCells w.heap.size 0 cs2.toList = w3 at HBK HB ⊢; have hrow := Blk.range HBK.out))
  go_upto_region 4 with (first | (refine wpList_load_mid rfl 35 _ rfl _ _ rfl _ _ hrow Try.underlying35 rfl HK2.out.len ?_) | (go_at_call 12; refine (HBRK.out _ HB.out).mono ?_; rintro e w5 ⟨rfl, hb⟩; have n_HBK := Lib.hid (Blk.below HBK.out hb (Blk.lt HBK.out)); have n_HB := Lib.hid (HB.out.trans (hb.mono HB.out.size)); clear hb HB HBK; have HBK := n_HBK; have HB := n_HB; clear n_HB n_HBK; replace hrow := Blk.range HBK.out))
  go_upto_region 5 with (first | (refine wpList_load_mid rfl 35 _ rfl _ _ rfl _ _ hrow Try.underlying35 rfl HK2.out.len ?_) | (go_at_call 13; refine (HBOX.out _ HB.out).mono ?_; rintro e w5 ⟨rfl, hb⟩; have n_HBK := Lib.hid (Blk.below HBK.out hb (Blk.lt HBK.out)); have n_HB := Lib.hid (HB.out.trans (hb.mono HB.out.size)); clear hb HB HBK; have HBK := n_HBK; have HB := n_HB; clear n_HB n_HBK; replace hrow := Blk.range HBK.out))
  have HKN := Lib.hid (Blk.new w5 43 #[.int .i64 0, .int .i64 0, .int .i64 0, .int .i64 0, .bool false])
  have n_HBK := Lib.hid (Blk.alloc HBK.out (.cells #[.int .i64 0, .int .i64 0, .int .i64 0, .int .i64 0, .bool false] 43))
  have n_HB := Lib.hid (HB.out.alloc HB.out.size (.cells #[.int .i64 0, .int .i64 0, .int .i64 0, .int .i64 0, .bool false] 43))
  clear HB hrow HBK
  have HBK := n_HBK
  have HB := n_HB
  clear n_HB n_HBK
  generalize w5.alloc (.cells #[.int .i64 0, .int .i64 0, .int .i64 0, .int .i64 0, .bool false] 43) = w6 at HB HKN HBK ⊢
  generalize w5.heap.size = N at *
  have hrow := Blk.range HBK.out
  go_upto_region 6 with (first | (refine wpList_load_mid rfl 35 _ rfl _ _ rfl _ _ hrow Try.underlying35 rfl HK2.out.len ?_) | (go_at_call 14; refine (HRR.out _ HB.out).mono ?_; rintro e w5 ⟨rfl, hb⟩; have n_HBK := Lib.hid (Blk.below HBK.out hb (Blk.lt HBK.out)); have n_HKN := Lib.hid (Blk.below HKN.out hb (Blk.lt HKN.out)); have n_HB := Lib.hid (HB.out.trans (hb.mono HB.out.size)); clear hb HB HBK HKN; have HBK := n_HBK; have HKN := n_HKN; have HB := n_HB; clear n_HB n_HBK n_HKN; replace hrow := Blk.range HBK.out))
  go_wp2_with (first | ((try (refine gate_guard (by rfl) ?_; dsimp only)); refine wpList_load_mid rfl 35 _ rfl _ _ rfl _ _ hrow Try.underlying35 rfl HK2.out.len ?_) | ((try (refine gate_guard (by rfl) ?_; dsimp only)); refine wpList_load_mid rfl 43 _ rfl _ _ rfl _ _ hrowB Try.underlying43 rfl (box_len2 ..) ?_) | ((try (refine gate_guard (by rfl) ?_; dsimp only)); go_at_call 15; refine (HRT.out _ HB.out).mono ?_; rintro e w5 ⟨rfl, hb⟩; have n_HBK := Lib.hid (Blk.below HBK.out hb (Blk.lt HBK.out)); have n_HKN := Lib.hid (Blk.below HKN.out hb (Blk.lt HKN.out)); have n_HB := Lib.hid (HB.out.trans (hb.mono HB.out.size)); clear hb HB HBK HKN; have HBK := n_HBK; have HKN := n_HKN; have HB := n_HB; clear n_HB n_HBK n_HKN; replace hrow := Blk.range HBK.out; have hrowB := Blk.range HKN.out))
  go_ret
  exact ⟨by simp, HB.out⟩
set_option maxRecDepth 100000 in
set_option maxHeartbeats 4000000 in
theorem breakl_yes (A1 : Option Addr) (c1 : Nat) (A3 : Option Addr) (c3 : Nat) (n : Nd) (width : Int) (w : World) (hr1 : Kd.C (Kd.int .i64) w A1 n.f1.length n.f1) (hc1 : n.f1.length ≤ c1) (hr3 : Kd.C (Kd.int .i64) w A3 n.f3.length n.f3) (hc3 : n.f3.length ≤ c3) (hR : rightB (cutN n) = true) :
    Calls Try.prog 3 #[.agg (nodeC A1 c1 A3 c3 n), .int .i64 width] w fun e w' => e = .returned (.bool true) ∧ Below w.heap.size w w' := by
  have hk1 := nodeK A1 c1 A3 c3 n
  have hk2 := nodeK A1 c1 A3 c3 (cutN n)
  have hcut := fun (V : World) (hV : Below w.heap.size w V) => cut_any A1 c1 A3 c3 n V (Kd.C_below hr1 hV) hc1 (Kd.C_below hr3 hV) hc3
  have hd3 := cutN_C hr3
  have hdc := cutN_le (n := n) hc3
  have HBOX := Lib.hid (fun (V : World) (hV : Below w.heap.size w V) => box_any A1 c1 A3 c3 (cutN n) width V (Kd.C_below hr1 hV) hc1 (Kd.C_below hd3 hV) hdc)
  have HBRK := Lib.hid (fun (V : World) (hV : Below w.heap.size w V) => break_yes A1 c1 A3 c3 (cutN n) width V (Kd.C_below hr1 hV) hc1 (Kd.C_below hd3 hV) hdc hR)
  have HRR := Lib.hid (fun (V : World) (hV : Below w.heap.size w V) => rright_any A1 c1 A3 c3 (cutN n) V (Kd.C_below hr1 hV) hc1 (Kd.C_below hd3 hV) hdc)
  have HRT := Lib.hid (fun (V : World) (hV : Below w.heap.size w V) => right_any A1 c1 A3 c3 (cutN n) V (Kd.C_below hr1 hV) hc1 (Kd.C_below hd3 hV) hdc)
  have HRB := Lib.hid (fun (V : World) (hV : Below w.heap.size w V) => refbreak_yes A1 c1 A3 c3 (cutN n) width V (Kd.C_below hr1 hV) hc1 (Kd.C_below hd3 hV) hdc hR)
  have HRX := Lib.hid (fun (V : World) (hV : Below w.heap.size w V) => refbox_any A1 c1 A3 c3 (cutN n) width V (Kd.C_below hr1 hV) hc1 (Kd.C_below hd3 hV) hdc hR)
  rw [hR] at HRR HRT
  have hb1 : boxE (cutN n) width = (boxC (cutN n) width, 0) := by unfold boxE; rw [if_pos hR]
  rw [hb1] at HBOX
  unfold boxC at HBOX HRX
  dsimp only at HBOX
  have hlen : (linesP (cutN n) width).length ≤ 10000 := by
    obtain ⟨-, hl, -⟩ := right_facts hR
    exact Nat.le_trans (linesN_len _ _ _ _ _) hl
  clear hb1 hR
  have HK1 := Lib.hid hk1
  have HK2 := Lib.hid hk2
  have HCUT := Lib.hid hcut
  clear hk1 hk2 hcut hr1 hr3 hc1 hc3 hd3 hdc
  generalize nodeC A1 c1 A3 c3 (cutN n) = cs2 at *
  generalize nodeC A1 c1 A3 c3 n = cs at *
  generalize (cutN n).f3.foldl mx 0 = lst at *
  generalize wideP (cutN n).f3 (cutN n).f4 0 (cutN n).f3.length = mst at *
  generalize (if 0 < (linesP (cutN n) width).length then (cutN n).f5 - (cutN n).f5 / 4 else 0) = bs at *
  generalize decide (0 < (linesP (cutN n) width).length) = hb0 at *
  generalize (cutN n).f5 * ((linesP (cutN n) width).length : Int) = pr at *
  have hsame := same_self ((linesP (cutN n) width).map lineS) (by rw [List.length_map]; omega)
  generalize (linesP (cutN n) width).map lineS = ls at *
  have HSAME := Lib.hid hsame
  clear hlen hsame
  go_enter Try.func3, Try.ntmps3
  go_upto_region 3 with (first | (refine wpList_load_mid rfl 35 _ rfl _ _ rfl _ _ hrow1 Try.underlying35 rfl HK1.out.len ?_) | (go_at_call 10; refine (shown_any _).mono ?_; rintro e w1 ⟨rfl, hb⟩; have HBK1 := Lib.hid (Blk.below (Blk.new w 35 cs) hb (by simp)); have HB := Lib.hid (((Below.refl _ w).alloc (Nat.le_refl _) (.cells cs 35)).trans (hb.mono (by simp))); clear hb; have hrow1 := Blk.range HBK1.out) | (go_at_call 11; refine (HCUT.out _ HB.out).mono ?_; rintro e w2 ⟨rfl, hb⟩; have n0_ := Lib.hid (Blk.below HBK1.out hb (Blk.lt HBK1.out)); have n1_ := Lib.hid (HB.out.trans (hb.mono HB.out.size)); clear HBK1 HB; have HBK1 := n0_; have HB := n1_; clear n0_ n1_ hb hrow1; have hT := Blk.there HBK1.out cs2.size (by rw [HK1.out.size, HK2.out.size]; exact Nat.le_refl _)) | (refine wpList_store_mid rfl 35 _ _ rfl (w.heap.size) 0 cs2 rfl rfl hT HK2.out.len2 HK2.out.one ?_; have HBK := Lib.hid (show Blk _ _ _ cs2 from HBK1.out.setCells cs2.toList (by rw [Array.length_toList, HK1.out.size, HK2.out.size])); have n1_ := Lib.hid (below_setCells' (b := w.heap.size) (Nat.le_refl _) cs2.toList 0 HB.out); clear HB; have HB := n1_; clear n1_ HBK1 hT; generalize w2.setCells w.heap.size 0 cs2.toList = w3 at HBK HB ⊢; have hrow := Blk.range HBK.out))
  go_upto_region 4 with (first | (refine wpList_load_mid rfl 35 _ rfl _ _ rfl _ _ hrow Try.underlying35 rfl HK2.out.len ?_) | (go_at_call 12; refine (HBRK.out _ HB.out).mono ?_; rintro e w5 ⟨v, rfl, hr, hb⟩; have n_HBK := Lib.hid (Blk.below HBK.out hb (Blk.lt HBK.out)); have n_HB := Lib.hid (HB.out.trans (hb.mono HB.out.size)); clear hb HB HBK; have HBK := n_HBK; have HB := n_HB; clear n_HB n_HBK; replace hrow := Blk.range HBK.out; have HR := Lib.hid hr; clear hr))
  obtain ⟨A, c, rfl⟩ := Kd.R_slice HR.out
  go_upto_region 5 with (first | (refine wpList_load_mid rfl 35 _ rfl _ _ rfl _ _ hrow Try.underlying35 rfl HK2.out.len ?_) | (go_at_call 13; refine (HBOX.out _ HB.out).mono ?_; rintro e w5 ⟨rfl, hb⟩; have n_HBK := Lib.hid (Blk.below HBK.out hb (Blk.lt HBK.out)); have n_HR := Lib.hid (Kd.R_below HR.out hb); have n_HB := Lib.hid (HB.out.trans (hb.mono HB.out.size)); clear hb HB HBK HR; have HBK := n_HBK; have HR := n_HR; have HB := n_HB; clear n_HB n_HBK n_HR; replace hrow := Blk.range HBK.out))
  have HKN := Lib.hid (Blk.new w5 43 #[.int .i64 lst, .int .i64 mst, .int .i64 pr, .int .i64 bs, .bool hb0])
  have n_HBK := Lib.hid (Blk.alloc HBK.out (.cells #[.int .i64 lst, .int .i64 mst, .int .i64 pr, .int .i64 bs, .bool hb0] 43))
  have n_HR := Lib.hid (Kd.R_alloc HR.out (.cells #[.int .i64 lst, .int .i64 mst, .int .i64 pr, .int .i64 bs, .bool hb0] 43))
  have n_HB := Lib.hid (HB.out.alloc HB.out.size (.cells #[.int .i64 lst, .int .i64 mst, .int .i64 pr, .int .i64 bs, .bool hb0] 43))
  clear HB hrow HBK HR
  have HBK := n_HBK
  have HR := n_HR
  have HB := n_HB
  clear n_HB n_HBK n_HR
  generalize w5.alloc (.cells #[.int .i64 lst, .int .i64 mst, .int .i64 pr, .int .i64 bs, .bool hb0] 43) = w6 at HB HKN HBK HR ⊢
  generalize w5.heap.size = N at *
  have hrow := Blk.range HBK.out
  go_upto_region 6 with (first | (refine wpList_load_mid rfl 35 _ rfl _ _ rfl _ _ hrow Try.underlying35 rfl HK2.out.len ?_) | (go_at_call 14; refine (HRR.out _ HB.out).mono ?_; rintro e w5 ⟨rfl, hb⟩; have n_HBK := Lib.hid (Blk.below HBK.out hb (Blk.lt HBK.out)); have n_HKN := Lib.hid (Blk.below HKN.out hb (Blk.lt HKN.out)); have n_HR := Lib.hid (Kd.R_below HR.out hb); have n_HB := Lib.hid (HB.out.trans (hb.mono HB.out.size)); clear hb HB HBK HKN HR; have HBK := n_HBK; have HKN := n_HKN; have HR := n_HR; have HB := n_HB; clear n_HB n_HBK n_HKN n_HR; replace hrow := Blk.range HBK.out))
  go_upto_region 8 with fail
  have n_HBK := Lib.hid (Blk.drew HBK.out)
  have n_HKN := Lib.hid (Blk.drew HKN.out)
  have n_HB := Lib.hid HB.out.drew
  have n_HR := Lib.hid (Kd.R_drew HR.out)
  clear HBK HKN HB HR hrow
  have HBK := n_HBK; have HKN := n_HKN; have HB := n_HB; have HR := n_HR
  clear n_HBK n_HKN n_HB n_HR
  refine (wpIn_wide (n := 0)).1 ?_
  refine beginH (fun V : World => V.rangeAt w.heap.size 0 cs2.toList ∧ V.rangeAt N 0 [.int .i64 lst, .int .i64 mst, .int .i64 pr, .int .i64 bs, .bool hb0]) (by kernel_rfl) ?_
  generalize w5.drew = V0 at HBK HKN HB HR ⊢
  have HS : (fun V : World => V.rangeAt w.heap.size 0 cs2.toList ∧ V.rangeAt N 0 [.int .i64 lst, .int .i64 mst, .int .i64 pr, .int .i64 bs, .bool hb0]) V0 := ⟨Blk.range HBK.out, Blk.range HKN.out⟩
  (refine takeH2 (i := 0) (d := 54) (v := ?_) rfl rfl (by kernel_rfl) (by kernel_rfl) (by kernel_rfl) (by kernel_rfl) (fun _ _ _ h => h) ⟨Or.inl ⟨by kernel_rfl, ?_⟩, fun _ => rfl⟩ HS ?_; rotate_left; (focus (rintro wS ⟨s1, s2⟩; go_simp; try (with_reducible rfl))); (simp only [List.setIfInBounds_toArray, List.set_cons_zero, List.set_cons_succ]))
  (refine takeH2 (i := 1) (d := 55) (v := ?_) rfl rfl (by kernel_rfl) (by kernel_rfl) (by kernel_rfl) (by kernel_rfl) (fun _ _ _ h => h) ⟨Or.inl ⟨by kernel_rfl, ?_⟩, fun _ => rfl⟩ HS ?_; rotate_left; (focus (rintro wS ⟨s1, s2⟩; go_simp; try (with_reducible rfl))); (simp only [List.setIfInBounds_toArray, List.set_cons_zero, List.set_cons_succ]))
  (refine takeH2 (i := 2) (d := 56) (v := .agg cs2) rfl rfl (by kernel_rfl) (by kernel_rfl) (by kernel_rfl) (by kernel_rfl) (fun _ _ _ h => h) ⟨yieldsIf_load_mid (by kernel_rfl) 35 _ rfl _ _ rfl cs2.toList _ (fun w h => h.1) Try.underlying35 rfl HK2.out.len, fun _ => rfl⟩ HS ?_; (simp only [List.setIfInBounds_toArray, List.set_cons_zero, List.set_cons_succ]))
  (refine oneH (i := 3) rfl (by kernel_rfl) (fun K hK => ?_); go_simp)
  refine (callsIn_wide.2 (HRT.out _ HB.out)).mono ?_
  rintro e v5 ⟨rfl, hb⟩
  dsimp only
  have n_HBK := Lib.hid (Blk.below HBK.out hb (Blk.lt HBK.out))
  have n_HKN := Lib.hid (Blk.below HKN.out hb (Blk.lt HKN.out))
  have n_HR := Lib.hid (Kd.R_below HR.out hb)
  have n_HB := Lib.hid (HB.out.trans (hb.mono HB.out.size))
  clear hb HB HS HBK HKN HR
  have HBK := n_HBK
  have HKN := n_HKN
  have HR := n_HR
  have HB := n_HB
  clear n_HB n_HBK n_HKN n_HR
  have HS : (fun V : World => V.rangeAt w.heap.size 0 cs2.toList ∧ V.rangeAt N 0 [.int .i64 lst, .int .i64 mst, .int .i64 pr, .int .i64 bs, .bool hb0]) v5 := ⟨Blk.range HBK.out, Blk.range HKN.out⟩
  (refine hK _ _ ⟨HS, ?_⟩; clear hK K; (try simp only [Act.put, List.setIfInBounds_toArray, List.set_cons_zero, List.set_cons_succ]))
  (refine takeH2 (i := 4) (d := 58) (v := ?_) rfl rfl (by kernel_rfl) (by kernel_rfl) (by kernel_rfl) (by kernel_rfl) (fun _ _ _ h => h) ⟨Or.inl ⟨by kernel_rfl, ?_⟩, fun _ => rfl⟩ HS ?_; rotate_left; (focus (rintro wS ⟨s1, s2⟩; go_simp; try (with_reducible rfl))); (simp only [List.setIfInBounds_toArray, List.set_cons_zero, List.set_cons_succ]))
  (refine takeH2 (i := 5) (d := 59) (v := ?_) rfl rfl (by kernel_rfl) (by kernel_rfl) (by kernel_rfl) (by kernel_rfl) (fun _ _ _ h => h) ⟨Or.inl ⟨by kernel_rfl, ?_⟩, fun _ => rfl⟩ HS ?_; rotate_left; (focus (rintro wS ⟨s1, s2⟩; go_simp; try (with_reducible rfl))); (simp only [List.setIfInBounds_toArray, List.set_cons_zero, List.set_cons_succ]))
  (refine takeH2 (i := 6) (d := 60) (v := ?_) rfl rfl (by kernel_rfl) (by kernel_rfl) (by kernel_rfl) (by kernel_rfl) (fun _ _ _ h => h) ⟨Or.inl ⟨by kernel_rfl, ?_⟩, fun _ => rfl⟩ HS ?_; rotate_left; (focus (rintro wS ⟨s1, s2⟩; go_simp; try (with_reducible rfl))); (simp only [List.setIfInBounds_toArray, List.set_cons_zero, List.set_cons_succ]))
  (refine takeH2 (i := 7) (d := 61) (v := ?_) rfl rfl (by kernel_rfl) (by kernel_rfl) (by kernel_rfl) (by kernel_rfl) (fun _ _ _ h => h) ⟨Or.inl ⟨by kernel_rfl, ?_⟩, fun _ => rfl⟩ HS ?_; rotate_left; (focus (rintro wS ⟨s1, s2⟩; go_simp; try (with_reducible rfl))); (simp only [List.setIfInBounds_toArray, List.set_cons_zero, List.set_cons_succ]))
  (refine takeH2 (i := 8) (d := 62) (v := ?_) rfl rfl (by kernel_rfl) (by kernel_rfl) (by kernel_rfl) (by kernel_rfl) (fun _ _ _ h => h) ⟨Or.inl ⟨by kernel_rfl, ?_⟩, fun _ => rfl⟩ HS ?_; rotate_left; (focus (rintro wS ⟨s1, s2⟩; go_simp; try (with_reducible rfl))); (simp only [List.setIfInBounds_toArray, List.set_cons_zero, List.set_cons_succ]))
  (refine takeH2 (i := 9) (d := 63) (v := ?_) rfl rfl (by kernel_rfl) (by kernel_rfl) (by kernel_rfl) (by kernel_rfl) (fun _ _ _ h => h) ⟨Or.inl ⟨by kernel_rfl, ?_⟩, fun _ => rfl⟩ HS ?_; rotate_left; (focus (rintro wS ⟨s1, s2⟩; go_simp; try (with_reducible rfl))); (simp only [List.setIfInBounds_toArray, List.set_cons_zero, List.set_cons_succ]))
  (refine takeH2 (i := 10) (d := 64) (v := ?_) rfl rfl (by kernel_rfl) (by kernel_rfl) (by kernel_rfl) (by kernel_rfl) (fun _ _ _ h => h) ⟨Or.inl ⟨by kernel_rfl, ?_⟩, fun _ => rfl⟩ HS ?_; rotate_left; (focus (rintro wS ⟨s1, s2⟩; go_simp; try (with_reducible rfl))); (simp only [List.setIfInBounds_toArray, List.set_cons_zero, List.set_cons_succ]))
  (refine takeH2 (i := 11) (d := 65) (v := ?_) rfl rfl (by kernel_rfl) (by kernel_rfl) (by kernel_rfl) (by kernel_rfl) (fun _ _ _ h => h) ⟨Or.inl ⟨by kernel_rfl, ?_⟩, fun _ => rfl⟩ HS ?_; rotate_left; (focus (rintro wS ⟨s1, s2⟩; go_simp; try (with_reducible rfl))); (simp only [List.setIfInBounds_toArray, List.set_cons_zero, List.set_cons_succ]))
  (refine takeH2 (i := 12) (d := 66) (v := ?_) rfl rfl (by kernel_rfl) (by kernel_rfl) (by kernel_rfl) (by kernel_rfl) (fun _ _ _ h => h) ⟨Or.inl ⟨by kernel_rfl, ?_⟩, fun _ => rfl⟩ HS ?_; rotate_left; (focus (rintro wS ⟨s1, s2⟩; go_simp; try (with_reducible rfl))); (simp only [List.setIfInBounds_toArray, List.set_cons_zero, List.set_cons_succ]))
  (refine takeH2 (i := 13) (d := 67) (v := ?_) rfl rfl (by kernel_rfl) (by kernel_rfl) (by kernel_rfl) (by kernel_rfl) (fun _ _ _ h => h) ⟨Or.inl ⟨by kernel_rfl, ?_⟩, fun _ => rfl⟩ HS ?_; rotate_left; (focus (rintro wS ⟨s1, s2⟩; go_simp; try (with_reducible rfl))); (simp only [List.setIfInBounds_toArray, List.set_cons_zero, List.set_cons_succ]))
  (refine takeH2 (i := 14) (d := 68) (v := ?_) rfl rfl (by kernel_rfl) (by kernel_rfl) (by kernel_rfl) (by kernel_rfl) (fun _ _ _ h => h) ⟨Or.inl ⟨by kernel_rfl, ?_⟩, fun _ => rfl⟩ HS ?_; rotate_left; (focus (rintro wS ⟨s1, s2⟩; go_simp; try (with_reducible rfl))); (simp only [List.setIfInBounds_toArray, List.set_cons_zero, List.set_cons_succ]))
  (refine takeH2 (i := 15) (d := 69) (v := .agg cs2) rfl rfl (by kernel_rfl) (by kernel_rfl) (by kernel_rfl) (by kernel_rfl) (fun _ _ _ h => h) ⟨yieldsIf_load_mid (by kernel_rfl) 35 _ rfl _ _ rfl cs2.toList _ (fun w h => h.1) Try.underlying35 rfl HK2.out.len, fun _ => rfl⟩ HS ?_; (simp only [List.setIfInBounds_toArray, List.set_cons_zero, List.set_cons_succ]))
  (refine takeH2 (i := 16) (d := 70) (v := ?_) rfl rfl (by kernel_rfl) (by kernel_rfl) (by kernel_rfl) (by kernel_rfl) (fun _ _ _ h => h) ⟨Or.inl ⟨by kernel_rfl, ?_⟩, fun _ => rfl⟩ HS ?_; rotate_left; (focus (rintro wS ⟨s1, s2⟩; go_simp; try (with_reducible rfl))); (simp only [List.setIfInBounds_toArray, List.set_cons_zero, List.set_cons_succ]))
  (refine oneH (i := 17) rfl (by kernel_rfl) (fun K hK => ?_); go_simp)
  refine (callsIn_wide.2 (HRB.out _ HB.out)).mono ?_
  rintro e v5 ⟨v, rfl, hr, hb⟩
  dsimp only
  have n_HBK := Lib.hid (Blk.below HBK.out hb (Blk.lt HBK.out))
  have n_HKN := Lib.hid (Blk.below HKN.out hb (Blk.lt HKN.out))
  have n_HR := Lib.hid (Kd.R_below HR.out hb)
  have n_HB := Lib.hid (HB.out.trans (hb.mono HB.out.size))
  clear hb HB HS HBK HKN HR
  have HBK := n_HBK
  have HKN := n_HKN
  have HR := n_HR
  have HB := n_HB
  clear n_HB n_HBK n_HKN n_HR
  have HR2 := Lib.hid hr
  clear hr
  obtain ⟨A', c', rfl⟩ := Kd.R_slice HR2.out
  have HS : (fun V : World => V.rangeAt w.heap.size 0 cs2.toList ∧ V.rangeAt N 0 [.int .i64 lst, .int .i64 mst, .int .i64 pr, .int .i64 bs, .bool hb0]) v5 := ⟨Blk.range HBK.out, Blk.range HKN.out⟩
  (refine hK _ _ ⟨HS, ?_⟩; clear hK K; (try simp only [Act.put, List.setIfInBounds_toArray, List.set_cons_zero, List.set_cons_succ]))
  (refine oneH (i := 18) rfl (by kernel_rfl) (fun K hK => ?_); go_simp)
  have hq1 := Kd.R_reads' HR.out
  have hq2 := Kd.R_reads' HR2.out
  obtain ⟨k, hk⟩ := HSAME.out
  have HSM := Lib.hid (same_yes A c A' c' ls v5 k hq1.2.2 hq1.2.1 hq2.2.2 hq2.2.1 hk)
  clear hq1 hq2 hk HSAME
  refine (callsIn_wide.2 (HSM.out )).mono ?_
  rintro e v5 ⟨rfl, hb⟩
  dsimp only
  have n_HBK := Lib.hid (Blk.below HBK.out hb.below (Blk.lt HBK.out))
  have n_HKN := Lib.hid (Blk.below HKN.out hb.below (Blk.lt HKN.out))
  have n_HB := Lib.hid (HB.out.trans (hb.below.mono HB.out.size))
  clear hb HB HS HBK HKN
  have HBK := n_HBK
  have HKN := n_HKN
  have HB := n_HB
  clear n_HB n_HBK n_HKN
  have HS : (fun V : World => V.rangeAt w.heap.size 0 cs2.toList ∧ V.rangeAt N 0 [.int .i64 lst, .int .i64 mst, .int .i64 pr, .int .i64 bs, .bool hb0]) v5 := ⟨Blk.range HBK.out, Blk.range HKN.out⟩
  (refine hK _ _ ⟨HS, ?_⟩; clear hK K; (try simp only [Act.put, List.setIfInBounds_toArray, List.set_cons_zero, List.set_cons_succ]))
  (refine takeH2 (i := 19) (d := 73) (v := ?_) rfl rfl (by kernel_rfl) (by kernel_rfl) (by kernel_rfl) (by kernel_rfl) (fun _ _ _ h => h) ⟨Or.inl ⟨by kernel_rfl, ?_⟩, fun _ => rfl⟩ HS ?_; rotate_left; (focus (rintro wS ⟨s1, s2⟩; go_simp; try (with_reducible rfl))); (simp only [List.setIfInBounds_toArray, List.set_cons_zero, List.set_cons_succ]))
  (refine takeH2 (i := 20) (d := 74) (v := ?_) rfl rfl (by kernel_rfl) (by kernel_rfl) (by kernel_rfl) (by kernel_rfl) (fun _ _ _ h => h) ⟨Or.inl ⟨by kernel_rfl, ?_⟩, fun _ => rfl⟩ HS ?_; rotate_left; (focus (rintro wS ⟨s1, s2⟩; go_simp; try (with_reducible rfl))); (simp only [List.setIfInBounds_toArray, List.set_cons_zero, List.set_cons_succ]))
  (refine takeH2 (i := 21) (d := 75) (v := .agg #[.int .i64 lst, .int .i64 mst, .int .i64 pr, .int .i64 bs, .bool hb0]) rfl rfl (by kernel_rfl) (by kernel_rfl) (by kernel_rfl) (by kernel_rfl) (fun _ _ _ h => h) ⟨yieldsIf_load_mid (by kernel_rfl) 43 _ rfl _ _ rfl [.int .i64 lst, .int .i64 mst, .int .i64 pr, .int .i64 bs, .bool hb0] _ (fun w h => h.2) Try.underlying43 rfl (box_len2 ..), fun _ => rfl⟩ HS ?_; (simp only [List.setIfInBounds_toArray, List.set_cons_zero, List.set_cons_succ]))
  (refine takeH2 (i := 22) (d := 76) (v := .agg cs2) rfl rfl (by kernel_rfl) (by kernel_rfl) (by kernel_rfl) (by kernel_rfl) (fun _ _ _ h => h) ⟨yieldsIf_load_mid (by kernel_rfl) 35 _ rfl _ _ rfl cs2.toList _ (fun w h => h.1) Try.underlying35 rfl HK2.out.len, fun _ => rfl⟩ HS ?_; (simp only [List.setIfInBounds_toArray, List.set_cons_zero, List.set_cons_succ]))
  (refine takeH2 (i := 23) (d := 77) (v := ?_) rfl rfl (by kernel_rfl) (by kernel_rfl) (by kernel_rfl) (by kernel_rfl) (fun _ _ _ h => h) ⟨Or.inl ⟨by kernel_rfl, ?_⟩, fun _ => rfl⟩ HS ?_; rotate_left; (focus (rintro wS ⟨s1, s2⟩; go_simp; try (with_reducible rfl))); (simp only [List.setIfInBounds_toArray, List.set_cons_zero, List.set_cons_succ]))
  (refine oneH (i := 24) rfl (by kernel_rfl) (fun K hK => ?_); go_simp)
  refine (callsIn_wide.2 (HRX.out _ HB.out)).mono ?_
  rintro e v5 ⟨rfl, hb⟩
  dsimp only
  have n_HBK := Lib.hid (Blk.below HBK.out hb (Blk.lt HBK.out))
  have n_HKN := Lib.hid (Blk.below HKN.out hb (Blk.lt HKN.out))
  have n_HB := Lib.hid (HB.out.trans (hb.mono HB.out.size))
  clear hb HB HS HBK HKN
  have HBK := n_HBK
  have HKN := n_HKN
  have HB := n_HB
  clear n_HB n_HBK n_HKN
  have HS : (fun V : World => V.rangeAt w.heap.size 0 cs2.toList ∧ V.rangeAt N 0 [.int .i64 lst, .int .i64 mst, .int .i64 pr, .int .i64 bs, .bool hb0]) v5 := ⟨Blk.range HBK.out, Blk.range HKN.out⟩
  (refine hK _ _ ⟨HS, ?_⟩; clear hK K; (try simp only [Act.put, List.setIfInBounds_toArray, List.set_cons_zero, List.set_cons_succ]))
  (refine takeH2 (i := 25) (d := 79) (v := ?_) rfl rfl (by kernel_rfl) (by kernel_rfl) (by kernel_rfl) (by kernel_rfl) (fun _ _ _ h => h) ⟨Or.inl ⟨by kernel_rfl, ?_⟩, fun _ => rfl⟩ HS ?_; rotate_left; (focus (rintro wS ⟨s1, s2⟩; go_simp; try (with_reducible rfl))); (simp only [List.setIfInBounds_toArray, List.set_cons_zero, List.set_cons_succ]))
  (refine takeH2 (i := 26) (d := 80) (v := ?_) rfl rfl (by kernel_rfl) (by kernel_rfl) (by kernel_rfl) (by kernel_rfl) (fun _ _ _ h => h) ⟨Or.inl ⟨by kernel_rfl, ?_⟩, fun _ => rfl⟩ HS ?_; rotate_left; (focus (rintro wS ⟨s1, s2⟩; go_simp; try (with_reducible rfl))); (simp only [List.setIfInBounds_toArray, List.set_cons_zero, List.set_cons_succ]))
  (refine takeH2 (i := 27) (d := 4) (v := ?_) rfl rfl (by kernel_rfl) (by kernel_rfl) (by kernel_rfl) (by kernel_rfl) (fun _ _ _ h => h) ⟨Or.inl ⟨by kernel_rfl, ?_⟩, fun _ => rfl⟩ HS ?_; rotate_left; (focus (rintro wS ⟨s1, s2⟩; go_simp; try (with_reducible rfl))); (simp only [List.setIfInBounds_toArray, List.set_cons_zero, List.set_cons_succ]))
  (refine doneH (by kernel_rfl) ?_ _)
  simp only [Exit.then]
  go_wp2
  go_ret
  exact ⟨by simp, HB.out⟩
theorem breakl_any (A1 : Option Addr) (c1 : Nat) (A3 : Option Addr) (c3 : Nat) (n : Nd) (width : Int) (w : World) (hr1 : Kd.C (Kd.int .i64) w A1 n.f1.length n.f1) (hc1 : n.f1.length ≤ c1) (hr3 : Kd.C (Kd.int .i64) w A3 n.f3.length n.f3) (hc3 : n.f3.length ≤ c3) : Calls Try.prog 3 #[.agg (nodeC A1 c1 A3 c3 n), .int .i64 width] w fun e w' => e = .returned (.bool true) ∧ Below w.heap.size w w' := by
  by_cases hR : rightB (cutN n) = true
  · exact breakl_yes A1 c1 A3 c3 n width w hr1 hc1 hr3 hc3 hR
  · exact breakl_no A1 c1 A3 c3 n width w hr1 hc1 hr3 hc3 (by simpa using hR)
def purflinglaw08_LinesBreak.f (a0_0 : Int) (l0_1 : List Int) (a0_2 : Int) (a0_3 : Int) (a0_4 : Int) (a0_5 : Int) (a0_6 : Int) (a0_7 : Int) (a0_8 : Int) (a0_9 : Int) (a0_10 : Int) (a0_11 : Int) (a0_12 : Int) (a0_13 : Int) (a0_14 : Int) (a0_15 : Int) (a0_16 : Int) (a0_17 : Int) (a0_18 : Int) (a0_19 : Int) (a0_20 : Int) (a0_21 : Int) (a0_22 : Int) (a0_23 : Int) (a0_24 : Int) (a0_25 : Bool) (a0_26 : Bool) (a0_27 : Int) (a0_28 : Int) (a0_29 : Bool) (a0_30 : Bool) (l0_31 : List Int) (a0_32 : Int) (a0_33 : Int) (width : Int) : Option Bool := some true
theorem purflinglaw08_LinesBreak.calls (a0_0 : Int) (A0_1 : Option Addr) (c0_1 : Nat) (l0_1 : List Int) (a0_2 : Int) (a0_3 : Int) (a0_4 : Int) (a0_5 : Int) (a0_6 : Int) (a0_7 : Int) (a0_8 : Int) (a0_9 : Int) (a0_10 : Int) (a0_11 : Int) (a0_12 : Int) (a0_13 : Int) (a0_14 : Int) (a0_15 : Int) (a0_16 : Int) (a0_17 : Int) (a0_18 : Int) (a0_19 : Int) (a0_20 : Int) (a0_21 : Int) (a0_22 : Int) (a0_23 : Int) (a0_24 : Int) (a0_25 : Bool) (a0_26 : Bool) (a0_27 : Int) (a0_28 : Int) (a0_29 : Bool) (a0_30 : Bool) (A0_31 : Option Addr) (c0_31 : Nat) (l0_31 : List Int) (a0_32 : Int) (a0_33 : Int) (width : Int) (r : Bool) (w : World) (hr0_1 : Kd.C (Kd.int .i64) w A0_1 l0_1.length l0_1) (hc0_1 : l0_1.length ≤ c0_1) (hr0_31 : Kd.C (Kd.int .i64) w A0_31 l0_31.length l0_31) (hc0_31 : l0_31.length ≤ c0_31) (h : purflinglaw08_LinesBreak.f a0_0 l0_1 a0_2 a0_3 a0_4 a0_5 a0_6 a0_7 a0_8 a0_9 a0_10 a0_11 a0_12 a0_13 a0_14 a0_15 a0_16 a0_17 a0_18 a0_19 a0_20 a0_21 a0_22 a0_23 a0_24 a0_25 a0_26 a0_27 a0_28 a0_29 a0_30 l0_31 a0_32 a0_33 width = some r) :
    Calls Try.prog 3 #[.agg #[.int .i64 a0_0, .slice A0_1 l0_1.length c0_1, .int .i64 a0_2, .int .i64 a0_3, .int .i64 a0_4, .int .i64 a0_5, .int .i64 a0_6, .int .i64 a0_7, .int .i64 a0_8, .int .i64 a0_9, .int .i64 a0_10, .int .i64 a0_11, .int .u32 a0_12, .int .i64 a0_13, .int .i64 a0_14, .int .u32 a0_15, .int .i64 a0_16, .int .i64 a0_17, .int .u32 a0_18, .int .i64 a0_19, .int .i64 a0_20, .int .u32 a0_21, .int .i64 a0_22, .int .i64 a0_23, .int .i64 a0_24, .bool a0_25, .bool a0_26, .int .i64 a0_27, .int .i64 a0_28, .bool a0_29, .bool a0_30, .slice A0_31 l0_31.length c0_31, .int .i64 a0_32, .int .i64 a0_33], .int .i64 width] w fun e w' => e = .returned (.bool r) ∧ Below w.heap.size w w' := by
  cases h
  exact breakl_any A0_1 c0_1 A0_31 c0_31 (⟨a0_0, l0_1, ⟨⟨a0_2, a0_3⟩, ⟨a0_4, a0_5⟩, ⟨a0_6, a0_7, a0_8, a0_9⟩, ⟨⟨a0_10, a0_11, a0_12⟩, ⟨a0_13, a0_14, a0_15⟩, ⟨a0_16, a0_17, a0_18⟩, ⟨a0_19, a0_20, a0_21⟩⟩, a0_22, a0_23, a0_24, a0_25, a0_26, ⟨a0_27, a0_28⟩, a0_29, a0_30⟩, l0_31, a0_32, a0_33⟩ : Nd) width w hr0_1 hc0_1 hr0_31 hc0_31
end Go.Proofs.Yteckkphbgfmolaa.K
namespace Go.Proofs.Yteckkphbgfmolaa.Pure
open Go.RowKit Go.Proofs.Yteckkphbgfmolaa.K
set_option linter.unusedVariables false
theorem linesBreak_pure (n : Nd) (width : Int) (hn : good_35 n) (hg0 : (Lit.int .i64 width).wf = true) : purflinglaw08_LinesBreak.f (n.f0) (n.f1) (n.f2.f0.f0) (n.f2.f0.f1) (n.f2.f1.f0) (n.f2.f1.f1) (n.f2.f2.f0) (n.f2.f2.f1) (n.f2.f2.f2) (n.f2.f2.f3) (n.f2.f3.f0.f0) (n.f2.f3.f0.f1) (n.f2.f3.f0.f2) (n.f2.f3.f1.f0) (n.f2.f3.f1.f1) (n.f2.f3.f1.f2) (n.f2.f3.f2.f0) (n.f2.f3.f2.f1) (n.f2.f3.f2.f2) (n.f2.f3.f3.f0) (n.f2.f3.f3.f1) (n.f2.f3.f3.f2) (n.f2.f4) (n.f2.f5) (n.f2.f6) (n.f2.f7) (n.f2.f8) (n.f2.f9.f0) (n.f2.f9.f1) (n.f2.f10) (n.f2.f11) (n.f3) (n.f4) (n.f5) width = some true := rfl
end Go.Proofs.Yteckkphbgfmolaa.Pure
