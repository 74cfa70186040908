/- Layer 8: LinesAll. -/
import Derived.Test.YteckkphbgfmolaaLnP
import Derived.Test.YteckkphbgfmolaaHeld
import Derived.Deep.QuietTactic
import Derived.BigQuiet
import Derived.Test.YteckkphbgfmolaaOpens
namespace Go.Proofs.Yteckkphbgfmolaa.K
open Go.RowKit Go.Proofs.YteckkphbgfmolaaW.PrintWords Go.Proofs.YteckkphbgfmolaaW.PrintLast Go.Proofs.YteckkphbgfmolaaW.PrintMore Go.Proofs.Yteckkphbgfmolaa.Pure
set_option linter.unusedVariables false
set_option linter.unusedSimpArgs false
section
variable {F : Fence} {n : Nat} {P : Program} {ops : Array Oper} {Q : Exit → Act → World → Prop} {md : Region.Mode} {S : World → Prop}
theorem takeH3 {i : Nat} {d : Tmp} {oi : Oper} {v : Value} {fuel : Nat} {listed : Array Bool} {a : Act} {w : World} (hi : ops[i]? = some oi) (hdst : oi.dst = some d) (hd : noDefer ops = true)
    (hs : Region.noSelect ops = true) (hf : Region.free md ops listed i = true) (hr : (Region.ready md ops listed).contains i = true)
    (hQ : ∀ c a w, Q (.panic c) (a.put oi.dst v) w → Q (.panic c) a w) (hy : YieldsH P ops S oi v a) (hS : S w)
    (h : wpAnyInH F n P md ops Q S fuel (listed.setIfInBounds i true) { tmps := a.tmps.setIfInBounds d v, defers := a.defers } w) : wpAnyInH F n P md ops Q S (fuel + 1) listed a w :=
  takeH hi hd hs hf hr hQ hy hS (by unfold Act.put; rw [hdst]; exact h)
end
set_option maxRecDepth 100000 in
set_option maxHeartbeats 30000000 in
theorem alll_no (A1 : Option Addr) (c1 : Nat) (A3 : Option Addr) (c3 : Nat) (n : Nd) (width : Int) (w : World) (hr1 : Kd.C (Kd.int .i64) w A1 n.f1.length n.f1) (hc1 : n.f1.length ≤ c1) (hr3 : Kd.C (Kd.int .i64) w A3 n.f3.length n.f3) (hc3 : n.f3.length ≤ c3) (hR : rightB (cutN n) = false) :
    Calls Try.prog 5 #[.agg (nodeC A1 c1 A3 c3 n), .int .i64 width] w fun e w' => e = .returned (.bool true) ∧ Below w.heap.size w w' := by
  have hk1 := nodeK A1 c1 A3 c3 n
  have hk2 := nodeK A1 c1 A3 c3 (cutN n)
  have hcut := fun (V : World) (hV : Below w.heap.size w V) => cut_any A1 c1 A3 c3 n V (Kd.C_below hr1 hV) hc1 (Kd.C_below hr3 hV) hc3
  have hd3 := cutN_C hr3
  have hdc := cutN_le (n := n) hc3
  have HBRK := Lib.hid (fun (V : World) (hV : Below w.heap.size w V) => break_no A1 c1 A3 c3 (cutN n) width V (Kd.C_below hr1 hV) hc1 (Kd.C_below hd3 hV) hdc hR)
  clear hR
  have HK1 := Lib.hid hk1
  have HK2 := Lib.hid hk2
  have HCUT := Lib.hid hcut
  clear hk1 hk2 hcut hr1 hr3 hc1 hc3 hd3 hdc
  generalize nodeC A1 c1 A3 c3 (cutN n) = cs2 at *
  generalize nodeC A1 c1 A3 c3 n = cs at *
  go_enter Try.func5, Try.ntmps5
  go_upto_region 3 with (first | (refine wpList_load_mid rfl 35 _ rfl _ _ rfl _ _ hrow1 Try.underlying35 rfl HK1.out.len ?_) | (go_at_call 10; refine (shown_any _).mono ?_; rintro e w1 ⟨rfl, hb⟩; have HBK1 := Lib.hid (Blk.below (Blk.new w 35 cs) hb (by simp)); have HB := Lib.hid (((Below.refl _ w).alloc (Nat.le_refl _) (.cells cs 35)).trans (hb.mono (by simp))); clear hb; have hrow1 := Blk.range HBK1.out) | (go_at_call 11; refine (HCUT.out _ HB.out).mono ?_; rintro e w2 ⟨rfl, hb⟩; have n0_ := Lib.hid (Blk.below HBK1.out hb (Blk.lt HBK1.out)); have n1_ := Lib.hid (HB.out.trans (hb.mono HB.out.size)); clear HBK1 HB; have HBK1 := n0_; have HB := n1_; clear n0_ n1_ hb hrow1; have hT := Blk.there HBK1.out cs2.size (by rw [HK1.out.size, HK2.out.size]; exact Nat.le_refl _)) | (refine wpList_store_mid rfl 35 _ _ rfl (w.heap.size) 0 cs2 rfl rfl hT HK2.out.len2 HK2.out.one ?_; have HBK := Lib.hid (show Blk _ _ _ cs2 from HBK1.out.setCells cs2.toList (by rw [Array.length_toList, HK1.out.size, HK2.out.size])); have n1_ := Lib.hid (below_setCells' (b := w.heap.size) (Nat.le_refl _) cs2.toList 0 HB.out); clear HB; have HB := n1_; clear n1_ HBK1 hT; generalize w2.setCells w.heap.size 0 cs2.toList = w3 at HBK HB ⊢; have hrow := Blk.range HBK.out))
  go_wp2_with (first | (refine wpList_load_mid rfl 35 _ rfl _ _ rfl _ _ hrow Try.underlying35 rfl HK2.out.len ?_) | (go_at_call 12; refine (HBRK.out _ HB.out).mono ?_; rintro e w5 ⟨rfl, hb⟩; have n_HBK := Lib.hid (Blk.below HBK.out hb (Blk.lt HBK.out)); have n_HB := Lib.hid (HB.out.trans (hb.mono HB.out.size)); clear hb HB HBK; have HBK := n_HBK; have HB := n_HB; clear n_HB n_HBK; replace hrow := Blk.range HBK.out))
  go_ret
  exact ⟨rfl, HB.out⟩
set_option maxRecDepth 100000 in
set_option maxHeartbeats 30000000 in
theorem alll_yes (A1 : Option Addr) (c1 : Nat) (A3 : Option Addr) (c3 : Nat) (n : Nd) (width : Int) (w : World) (hr1 : Kd.C (Kd.int .i64) w A1 n.f1.length n.f1) (hc1 : n.f1.length ≤ c1) (hr3 : Kd.C (Kd.int .i64) w A3 n.f3.length n.f3) (hc3 : n.f3.length ≤ c3) (hR : rightB (cutN n) = true) :
    Calls Try.prog 5 #[.agg (nodeC A1 c1 A3 c3 n), .int .i64 width] w fun e w' => e = .returned (.bool true) ∧ Below w.heap.size w w' := by
  have hk1 := nodeK A1 c1 A3 c3 n
  have hk2 := nodeK A1 c1 A3 c3 (cutN n)
  have hcut := fun (V : World) (hV : Below w.heap.size w V) => cut_any A1 c1 A3 c3 n V (Kd.C_below hr1 hV) hc1 (Kd.C_below hr3 hV) hc3
  have hd3 := cutN_C hr3
  have hdc := cutN_le (n := n) hc3
  have HBRK := Lib.hid (fun (V : World) (hV : Below w.heap.size w V) => break_yes A1 c1 A3 c3 (cutN n) width V (Kd.C_below hr1 hV) hc1 (Kd.C_below hd3 hV) hdc hR)
  have HW := Lib.hid (fun (V : World) (hV : Below w.heap.size w V) (a t : Nat) (h1 : a ≤ t) (h2 : t ≤ (cutN n).f3.length) => (widesP_of hR (show (0 : Int) ≤ (a : Int) by omega) (show (a : Int) ≤ (t : Int) by omega) (show (t : Int) ≤ (cutN n).f3.length by omega)) ▸ wide_any A1 c1 A3 c3 (cutN n) a t V (Kd.C_below hr1 hV) hc1 (Kd.C_below hd3 hV) hdc)
  simp only [Int.toNat_natCast] at HW
  have HT := Lib.hid (txt_of hR)
  have HLL := Lib.hid (Nat.le_trans (linesN_len (cutN n).f3 (cutN n).f4 width (cutN n).f3.length 0) HT.out.l)
  have HAT := Lib.hid (fun i => linesN_at (width := width) (blank := (cutN n).f4) HT.out (cutN n).f3.length 0 i (Nat.zero_le _) (by omega))
  have HA0 := Lib.hid (atL_zero (cutN n).f3 (cutN n).f4 width (cutN n).f3.length 0 (Nat.zero_le _) (by omega))
  have HAE := Lib.hid (atL_end (cutN n).f3 (cutN n).f4 width (cutN n).f3.length 0)
  unfold linesP at HBRK
  clear hR
  have Q31 := Lib.hid (show (nodeC A1 c1 A3 c3 (cutN n))[31]? = some (.slice A3 (cutN n).f3.length c3) from rfl)
  have HK1 := Lib.hid hk1
  have HK2 := Lib.hid hk2
  have HCUT := Lib.hid hcut
  clear hk1 hk2 hcut hr1 hr3 hc1 hc3 hd3 hdc
  generalize nodeC A1 c1 A3 c3 (cutN n) = cs2 at *
  generalize nodeC A1 c1 A3 c3 n = cs at *
  generalize (cutN n).f4 = blank at *
  generalize (cutN n).f3 = ws at *
  have HLE := Lib.hid HT.out.l
  generalize linesN ws blank width ws.length 0 = ls at *
  generalize hlen : ws.length = len at *
  have HLN := Lib.hid hlen
  clear hlen
  go_enter Try.func5, Try.ntmps5
  go_upto_region 3 with (first | (refine wpList_load_mid rfl 35 _ rfl _ _ rfl _ _ hrow1 Try.underlying35 rfl HK1.out.len ?_) | (go_at_call 10; refine (shown_any _).mono ?_; rintro e w1 ⟨rfl, hb⟩; have HBK1 := Lib.hid (Blk.below (Blk.new w 35 cs) hb (by simp)); have HB := Lib.hid (((Below.refl _ w).alloc (Nat.le_refl _) (.cells cs 35)).trans (hb.mono (by simp))); clear hb; have hrow1 := Blk.range HBK1.out) | (go_at_call 11; refine (HCUT.out _ HB.out).mono ?_; rintro e w2 ⟨rfl, hb⟩; have n0_ := Lib.hid (Blk.below HBK1.out hb (Blk.lt HBK1.out)); have n1_ := Lib.hid (HB.out.trans (hb.mono HB.out.size)); clear HBK1 HB; have HBK1 := n0_; have HB := n1_; clear n0_ n1_ hb hrow1; have hT := Blk.there HBK1.out cs2.size (by rw [HK1.out.size, HK2.out.size]; exact Nat.le_refl _)) | (refine wpList_store_mid rfl 35 _ _ rfl (w.heap.size) 0 cs2 rfl rfl hT HK2.out.len2 HK2.out.one ?_; have HBK := Lib.hid (show Blk _ _ _ cs2 from HBK1.out.setCells cs2.toList (by rw [Array.length_toList, HK1.out.size, HK2.out.size])); have n1_ := Lib.hid (below_setCells' (b := w.heap.size) (Nat.le_refl _) cs2.toList 0 HB.out); clear HB; have HB := n1_; clear n1_ HBK1 hT; generalize w2.setCells w.heap.size 0 cs2.toList = w3 at HBK HB ⊢; have hrow := Blk.range HBK.out))
  go_upto_region 4 with (first | (refine wpList_load_mid rfl 35 _ rfl _ _ rfl _ _ hrow Try.underlying35 rfl HK2.out.len ?_) | (go_at_call 12; refine (HBRK.out _ HB.out).mono ?_; rintro e w5 ⟨v, rfl, hr, hb⟩; have n_HBK := Lib.hid (Blk.below HBK.out hb (Blk.lt HBK.out)); have n_HB := Lib.hid (HB.out.trans (hb.mono HB.out.size)); clear hb HB HBK; have HBK := n_HBK; have HB := n_HB; clear n_HB n_HBK; replace hrow := Blk.range HBK.out; have HR := Lib.hid hr; clear hr))
  obtain ⟨A, c, rfl⟩ := Kd.R_slice HR.out
  rw [List.length_map] at *
  go_upto_region 8 with fail
  have HBK0 : Aside0 (Blk w5 w.heap.size 35 cs2) := ⟨HBK.out⟩
  have HR0 : Aside0 (Kd.R k57 57 w5 w3.heap.size (fun _ => True) (.slice A ls.length c) (ls.map lineS)) := ⟨HR.out⟩
  have HB0 : Aside0 (Below w.heap.size w w5) := ⟨HB.out⟩
  clear HBK HR HB hrow
  generalize w3.heap.size = B0 at HR0 ⊢
  go_loopw [8, 9] (fun v8 v9 wr => ∃ i : Nat, i ≤ ls.length ∧ v9 = .int .i64 i ∧ v8 = .int .i64 (atL len ls i : Nat) ∧ Aside0 (Blk wr w.heap.size 35 cs2) ∧ Aside0 (Kd.R k57 57 wr B0 (fun _ => True) (.slice A ls.length c) (ls.map lineS)) ∧ Aside0 (Below w.heap.size w wr)) (fun _ v9 _ => ls.length - (intOf v9).toNat)
  case atStart => exact ⟨0, by omega, rfl, by rw [HA0.out]; rfl, HBK0, HR0, HB0⟩
  case round =>
    obtain ⟨i, hi, rfl, rfl, hbk, hr, hB⟩ := hrel
    clear HBK0 HR0 HB0
    by_cases hlt : i < ls.length
    · have hltz : (i : Int) < (ls.length : Int) := by omega
      obtain ⟨a, t, hg, ha, ht, hline⟩ := HAT.out i hlt
      have hib : i < 10000 := by have := HLL.out; omega
      have hw5 : wrap64 ((i : Int) + 1) = (i : Int) + 1 := wrap_ok (by omega) (by omega)
      have hw6 : IntKind.i64.wrap ((i : Int) + 1) = (i : Int) + 1 := IntWalk.i64_in _ (by omega)
      have HNX := Lib.hid ht
      have HLI := Lib.hid hline
      have hcl := Kd.R_reads' hr.out
      obtain ⟨ad, hA, hcells⟩ := hcl.2.2.2.2 (by omega)
      obtain ⟨cs0, hcs, hK, hcell⟩ := hcells i (lineS (a, t)) (by rw [List.getElem?_map, hg]; rfl)
      obtain rfl := k57_open hK
      have hx0 : wr.cell? (ad.add (i * 2)) = some (.int .i64 (a : Int)) := hcell 0 _ rfl
      have hx1 : wr.cell? ⟨(ad.add (i * 2)).block, (ad.add (i * 2)).off + 1, none⟩ = some (.int .i64 (t : Int)) := by rw [← add_field _ _ 1 (by omega)]; exact hcell 1 _ rfl
      have hblk : (ad.add (i * 2)).block < wr.heap.size := World.block_lt_of_cell? wr _ hx0
      rw [← ha]
      subst hA
      have htl : t ≤ len := by have := hline.hi; rw [HLN.out] at this; exact this
      have hat : a < t := hline.lo
      have hd1 : decide (t ≤ a) = false := decide_eq_false (by omega)
      have hd2 : decide (len < t) = false := decide_eq_false (by omega)
      have y31 : wr.cell? ⟨w.heap.size, 31, none⟩ = some (.slice A3 len c3) := (Blk.cell hbk.out 31).trans Q31.out
      clear hcl hcells hcs hK hcell hg ha ht hline
      go_upto_region 10 with fail
      go_quiet (fail)
      go_upto_region 12 with fail
      have hbel : Below wr.heap.size wr (wr.drewN nq).drew := (pw_below_drewN (Below.refl _ _) nq).drew
      have n_K := Aside0.mk (Blk.below hbk.out hbel (Blk.lt hbk.out))
      have n_R := Aside0.mk (Kd.R_below hr.out hbel)
      have n_B := Aside0.mk (hB.out.trans (hbel.mono hB.out.size))
      have n_0 := (hbel.cell (p := ad.add (i * 2)) hblk).trans hx0
      have n_1 := (hbel.cell (p := ⟨(ad.add (i * 2)).block, (ad.add (i * 2)).off + 1, none⟩) hblk).trans hx1
      have n_l : (ad.add (i * 2)).block < (wr.drewN nq).drew.heap.size := World.block_lt_of_cell? _ _ n_0
      clear hbk hr hB hx0 hx1 hblk hbel
      (try clear y31)
      have hbk := n_K; have hr := n_R; have hB := n_B; have hx0 := n_0; have hx1 := n_1; have hblk := n_l
      clear n_K n_R n_B n_0 n_1 n_l
      refine (wpIn_wide (n := 0)).1 ?_
      refine beginH (fun V : World => V.rangeAt w.heap.size 0 cs2.toList ∧ V.cell? (ad.add (i * 2)) = some (.int .i64 (a : Int)) ∧ V.cell? ⟨(ad.add (i * 2)).block, (ad.add (i * 2)).off + 1, none⟩ = some (.int .i64 (t : Int))) (by kernel_rfl) ?_
      generalize (wr.drewN nq).drew = V0 at hbk hr hB hx0 hx1 hblk ⊢
      have HS : (fun V : World => V.rangeAt w.heap.size 0 cs2.toList ∧ V.cell? (ad.add (i * 2)) = some (.int .i64 (a : Int)) ∧ V.cell? ⟨(ad.add (i * 2)).block, (ad.add (i * 2)).off + 1, none⟩ = some (.int .i64 (t : Int))) V0 := ⟨Blk.range hbk.out, hx0, hx1⟩
      (refine takeH3 (i := 0) (d := 60) (v := .agg cs2) rfl rfl (by kernel_rfl) (by kernel_rfl) (by kernel_rfl) (by kernel_rfl) (fun _ _ _ h => h) ⟨yieldsIf_load_mid (by kernel_rfl) 35 _ rfl _ _ rfl cs2.toList _ (fun w h => h.1) Try.underlying35 rfl HK2.out.len, fun _ => rfl⟩ HS ?_; (simp only [List.setIfInBounds_toArray, List.set_cons_zero, List.set_cons_succ]))
      (refine takeH3 (i := 1) (d := 61) (v := ?_) rfl rfl (by kernel_rfl) (by kernel_rfl) (by kernel_rfl) (by kernel_rfl) (fun _ _ _ h => h) ⟨Or.inl ⟨by kernel_rfl, ?_⟩, fun _ => rfl⟩ HS ?_; rotate_left; (focus (rintro wS ⟨s1, s2, s3⟩; go_simp; try (with_reducible rfl))); (simp only [List.setIfInBounds_toArray, List.set_cons_zero, List.set_cons_succ]))
      (refine takeH3 (i := 2) (d := 62) (v := ?_) rfl rfl (by kernel_rfl) (by kernel_rfl) (by kernel_rfl) (by kernel_rfl) (fun _ _ _ h => h) ⟨Or.inl ⟨by kernel_rfl, ?_⟩, fun _ => rfl⟩ HS ?_; rotate_left; (focus (rintro wS ⟨s1, s2, s3⟩; go_simp; try (with_reducible rfl))); (simp only [List.setIfInBounds_toArray, List.set_cons_zero, List.set_cons_succ]))
      (refine takeH3 (i := 3) (d := 63) (v := ?_) rfl rfl (by kernel_rfl) (by kernel_rfl) (by kernel_rfl) (by kernel_rfl) (fun _ _ _ h => h) ⟨Or.inl ⟨by kernel_rfl, ?_⟩, fun _ => rfl⟩ HS ?_; rotate_left; (focus (rintro wS ⟨s1, s2, s3⟩; go_simp; try (with_reducible rfl))); (simp only [List.setIfInBounds_toArray, List.set_cons_zero, List.set_cons_succ]))
      (refine takeH3 (i := 4) (d := 64) (v := ?_) rfl rfl (by kernel_rfl) (by kernel_rfl) (by kernel_rfl) (by kernel_rfl) (fun _ _ _ h => h) ⟨Or.inl ⟨by kernel_rfl, ?_⟩, fun _ => rfl⟩ HS ?_; rotate_left; (focus (rintro wS ⟨s1, s2, s3⟩; go_simp; try (with_reducible rfl))); (simp only [List.setIfInBounds_toArray, List.set_cons_zero, List.set_cons_succ]))
      (refine takeH3 (i := 5) (d := 65) (v := ?_) rfl rfl (by kernel_rfl) (by kernel_rfl) (by kernel_rfl) (by kernel_rfl) (fun _ _ _ h => h) ⟨Or.inl ⟨by kernel_rfl, ?_⟩, fun _ => rfl⟩ HS ?_; rotate_left; (focus (rintro wS ⟨s1, s2, s3⟩; go_simp; try (with_reducible rfl))); (simp only [List.setIfInBounds_toArray, List.set_cons_zero, List.set_cons_succ]))
      (refine takeH3 (i := 6) (d := 66) (v := ?_) rfl rfl (by kernel_rfl) (by kernel_rfl) (by kernel_rfl) (by kernel_rfl) (fun _ _ _ h => h) ⟨Or.inl ⟨by kernel_rfl, ?_⟩, fun _ => rfl⟩ HS ?_; rotate_left; (focus (rintro wS ⟨s1, s2, s3⟩; go_simp; try (with_reducible rfl))); (simp only [List.setIfInBounds_toArray, List.set_cons_zero, List.set_cons_succ]))
      (refine takeH3 (i := 7) (d := 67) (v := ?_) rfl rfl (by kernel_rfl) (by kernel_rfl) (by kernel_rfl) (by kernel_rfl) (fun _ _ _ h => h) ⟨Or.inl ⟨by kernel_rfl, ?_⟩, fun _ => rfl⟩ HS ?_; rotate_left; (focus (rintro wS ⟨s1, s2, s3⟩; go_simp; try (with_reducible rfl))); (simp only [List.setIfInBounds_toArray, List.set_cons_zero, List.set_cons_succ]))
      (refine takeH3 (i := 8) (d := 68) (v := ?_) rfl rfl (by kernel_rfl) (by kernel_rfl) (by kernel_rfl) (by kernel_rfl) (fun _ _ _ h => h) ⟨Or.inl ⟨by kernel_rfl, ?_⟩, fun _ => rfl⟩ HS ?_; rotate_left; (focus (rintro wS ⟨s1, s2, s3⟩; go_simp; try (with_reducible rfl))); (simp only [List.setIfInBounds_toArray, List.set_cons_zero, List.set_cons_succ]))
      (refine takeH3 (i := 9) (d := 69) (v := ?_) rfl rfl (by kernel_rfl) (by kernel_rfl) (by kernel_rfl) (by kernel_rfl) (fun _ _ _ h => h) ⟨Or.inl ⟨by kernel_rfl, ?_⟩, fun _ => rfl⟩ HS ?_; rotate_left; (focus (rintro wS ⟨s1, s2, s3⟩; go_simp; try (with_reducible rfl))); (simp only [List.setIfInBounds_toArray, List.set_cons_zero, List.set_cons_succ]))
      (refine takeH3 (i := 10) (d := 70) (v := ?_) rfl rfl (by kernel_rfl) (by kernel_rfl) (by kernel_rfl) (by kernel_rfl) (fun _ _ _ h => h) ⟨Or.inl ⟨by kernel_rfl, ?_⟩, fun _ => rfl⟩ HS ?_; rotate_left; (focus (rintro wS ⟨s1, s2, s3⟩; go_simp; try (with_reducible rfl))); (simp only [List.setIfInBounds_toArray, List.set_cons_zero, List.set_cons_succ]))
      (refine oneH (i := 11) rfl (by kernel_rfl) (fun K hK => ?_); go_simp)
      refine (callsIn_wide.2 (HW.out _ hB.out a t (by omega) htl)).mono ?_
      rintro e V1 ⟨rfl, hbel⟩
      dsimp only
      have n_K := Aside0.mk (Blk.below hbk.out hbel (Blk.lt hbk.out))
      have n_R := Aside0.mk (Kd.R_below hr.out hbel)
      have n_B := Aside0.mk (hB.out.trans (hbel.mono hB.out.size))
      have n_0 := (hbel.cell (p := ad.add (i * 2)) hblk).trans hx0
      have n_1 := (hbel.cell (p := ⟨(ad.add (i * 2)).block, (ad.add (i * 2)).off + 1, none⟩) hblk).trans hx1
      have n_l : (ad.add (i * 2)).block < V1.heap.size := World.block_lt_of_cell? _ _ n_0
      clear hbk hr hB hx0 hx1 hblk hbel HS
      have hbk := n_K; have hr := n_R; have hB := n_B; have hx0 := n_0; have hx1 := n_1; have hblk := n_l
      clear n_K n_R n_B n_0 n_1 n_l
      have HS : (fun V : World => V.rangeAt w.heap.size 0 cs2.toList ∧ V.cell? (ad.add (i * 2)) = some (.int .i64 (a : Int)) ∧ V.cell? ⟨(ad.add (i * 2)).block, (ad.add (i * 2)).off + 1, none⟩ = some (.int .i64 (t : Int))) V1 := ⟨Blk.range hbk.out, hx0, hx1⟩
      (refine hK _ _ ⟨HS, ?_⟩; clear hK K; (try simp only [Act.put, List.setIfInBounds_toArray, List.set_cons_zero, List.set_cons_succ]))
      (refine takeH3 (i := 12) (d := 59) (v := ?_) rfl rfl (by kernel_rfl) (by kernel_rfl) (by kernel_rfl) (by kernel_rfl) (fun _ _ _ h => h) ⟨Or.inl ⟨by kernel_rfl, ?_⟩, fun _ => rfl⟩ HS ?_; rotate_left; (focus (rintro wS ⟨s1, s2, s3⟩; go_simp; try (with_reducible rfl))); (simp only [List.setIfInBounds_toArray, List.set_cons_zero, List.set_cons_succ]))
      (refine takeH3 (i := 13) (d := 72) (v := ?_) rfl rfl (by kernel_rfl) (by kernel_rfl) (by kernel_rfl) (by kernel_rfl) (fun _ _ _ h => h) ⟨Or.inl ⟨by kernel_rfl, ?_⟩, fun _ => rfl⟩ HS ?_; rotate_left; (focus (rintro wS ⟨s1, s2, s3⟩; go_simp; try (with_reducible rfl))); (simp only [List.setIfInBounds_toArray, List.set_cons_zero, List.set_cons_succ]))
      (refine takeH3 (i := 14) (d := 73) (v := ?_) rfl rfl (by kernel_rfl) (by kernel_rfl) (by kernel_rfl) (by kernel_rfl) (fun _ _ _ h => h) ⟨Or.inl ⟨by kernel_rfl, ?_⟩, fun _ => rfl⟩ HS ?_; rotate_left; (focus (rintro wS ⟨s1, s2, s3⟩; go_simp; try (with_reducible rfl))); (simp only [List.setIfInBounds_toArray, List.set_cons_zero, List.set_cons_succ]))
      (refine takeH3 (i := 15) (d := 10) (v := ?_) rfl rfl (by kernel_rfl) (by kernel_rfl) (by kernel_rfl) (by kernel_rfl) (fun _ _ _ h => h) ⟨Or.inl ⟨by kernel_rfl, ?_⟩, fun _ => rfl⟩ HS ?_; rotate_left; (focus (rintro wS ⟨s1, s2, s3⟩; go_simp; try (with_reducible rfl))); (simp only [List.setIfInBounds_toArray, List.set_cons_zero, List.set_cons_succ]))
      (refine takeH3 (i := 16) (d := 11) (v := ?_) rfl rfl (by kernel_rfl) (by kernel_rfl) (by kernel_rfl) (by kernel_rfl) (fun _ _ _ h => h) ⟨Or.inl ⟨by kernel_rfl, ?_⟩, fun _ => rfl⟩ HS ?_; rotate_left; (focus (rintro wS ⟨s1, s2, s3⟩; go_simp; try (with_reducible rfl))); (simp only [List.setIfInBounds_toArray, List.set_cons_zero, List.set_cons_succ]))
      (refine doneH (by kernel_rfl) ?_ _)
      simp only [Exit.then]
      clear HS
      have y31 : V1.cell? ⟨w.heap.size, 31, none⟩ = some (.slice A3 len c3) := (Blk.cell hbk.out 31).trans Q31.out
      have hw3 : IntKind.i64.wrap ((a : Int) + 1) = (a : Int) + 1 := IntWalk.i64_in _ (by have := HLE.out; omega)
      by_cases hfit : wideP ws blank a t ≤ width
      · have hd3 : decide (width < wideP ws blank a t) = false := decide_eq_false (by omega)
        by_cases htt : t < len
        · have hd4 : decide (t < len) = true := decide_eq_true htt
          go_upto_region 17 with fail
          have hbel : Below V1.heap.size V1 (V1).drew := (Below.refl _ _).drew
          have n_K := Aside0.mk (Blk.below hbk.out hbel (Blk.lt hbk.out))
          have n_R := Aside0.mk (Kd.R_below hr.out hbel)
          have n_B := Aside0.mk (hB.out.trans (hbel.mono hB.out.size))
          have n_0 := (hbel.cell (p := ad.add (i * 2)) hblk).trans hx0
          have n_1 := (hbel.cell (p := ⟨(ad.add (i * 2)).block, (ad.add (i * 2)).off + 1, none⟩) hblk).trans hx1
          have n_l : (ad.add (i * 2)).block < (V1).drew.heap.size := World.block_lt_of_cell? _ _ n_0
          clear hbk hr hB hx0 hx1 hblk hbel
          clear y31
          have hbk := n_K; have hr := n_R; have hB := n_B; have hx0 := n_0; have hx1 := n_1; have hblk := n_l
          clear n_K n_R n_B n_0 n_1 n_l
          refine (wpIn_wide (n := 0)).1 ?_
          refine beginH (fun V : World => V.rangeAt w.heap.size 0 cs2.toList ∧ V.cell? (ad.add (i * 2)) = some (.int .i64 (a : Int)) ∧ V.cell? ⟨(ad.add (i * 2)).block, (ad.add (i * 2)).off + 1, none⟩ = some (.int .i64 (t : Int))) (by kernel_rfl) ?_
          generalize (V1).drew = V2 at hbk hr hB hx0 hx1 hblk ⊢
          have HS : (fun V : World => V.rangeAt w.heap.size 0 cs2.toList ∧ V.cell? (ad.add (i * 2)) = some (.int .i64 (a : Int)) ∧ V.cell? ⟨(ad.add (i * 2)).block, (ad.add (i * 2)).off + 1, none⟩ = some (.int .i64 (t : Int))) V2 := ⟨Blk.range hbk.out, hx0, hx1⟩
          have HW2 : Hid (∀ V, Below w.heap.size w V → Calls Try.prog 19 #[.agg cs2, .int .i64 (a : Int), .int .i64 ((t : Int) + 1)] V fun e w' => e = .returned (.tuple #[.int .i64 (wideP ws blank a (t + 1)), .int .i64 0]) ∧ Below V.heap.size V w') := Lib.hid (fun V hV => HW.out V hV a (t + 1) (by omega) (by omega))
          have hw4 : IntKind.i64.wrap ((t : Int) + 1) = (t : Int) + 1 := IntWalk.i64_in _ (by have := HLE.out; omega)
          (refine takeH3 (i := 0) (d := 102) (v := .agg cs2) rfl rfl (by kernel_rfl) (by kernel_rfl) (by kernel_rfl) (by kernel_rfl) (fun _ _ _ h => h) ⟨yieldsIf_load_mid (by kernel_rfl) 35 _ rfl _ _ rfl cs2.toList _ (fun w h => h.1) Try.underlying35 rfl HK2.out.len, fun _ => rfl⟩ HS ?_; (simp only [List.setIfInBounds_toArray, List.set_cons_zero, List.set_cons_succ]))
          (refine takeH3 (i := 1) (d := 103) (v := ?_) rfl rfl (by kernel_rfl) (by kernel_rfl) (by kernel_rfl) (by kernel_rfl) (fun _ _ _ h => h) ⟨Or.inl ⟨by kernel_rfl, ?_⟩, fun _ => rfl⟩ HS ?_; rotate_left; (focus (rintro wS ⟨s1, s2, s3⟩; go_simp; try (with_reducible rfl))); (simp only [List.setIfInBounds_toArray, List.set_cons_zero, List.set_cons_succ]))
          (refine takeH3 (i := 2) (d := 104) (v := ?_) rfl rfl (by kernel_rfl) (by kernel_rfl) (by kernel_rfl) (by kernel_rfl) (fun _ _ _ h => h) ⟨Or.inl ⟨by kernel_rfl, ?_⟩, fun _ => rfl⟩ HS ?_; rotate_left; (focus (rintro wS ⟨s1, s2, s3⟩; go_simp; try (with_reducible rfl))); (simp only [List.setIfInBounds_toArray, List.set_cons_zero, List.set_cons_succ]))
          (refine takeH3 (i := 3) (d := 105) (v := ?_) rfl rfl (by kernel_rfl) (by kernel_rfl) (by kernel_rfl) (by kernel_rfl) (fun _ _ _ h => h) ⟨Or.inl ⟨by kernel_rfl, ?_⟩, fun _ => rfl⟩ HS ?_; rotate_left; (focus (rintro wS ⟨s1, s2, s3⟩; go_simp; try (with_reducible rfl))); (simp only [List.setIfInBounds_toArray, List.set_cons_zero, List.set_cons_succ]))
          (refine takeH3 (i := 4) (d := 106) (v := ?_) rfl rfl (by kernel_rfl) (by kernel_rfl) (by kernel_rfl) (by kernel_rfl) (fun _ _ _ h => h) ⟨Or.inl ⟨by kernel_rfl, ?_⟩, fun _ => rfl⟩ HS ?_; rotate_left; (focus (rintro wS ⟨s1, s2, s3⟩; go_simp; try (with_reducible rfl))); (simp only [List.setIfInBounds_toArray, List.set_cons_zero, List.set_cons_succ]))
          (refine takeH3 (i := 5) (d := 107) (v := ?_) rfl rfl (by kernel_rfl) (by kernel_rfl) (by kernel_rfl) (by kernel_rfl) (fun _ _ _ h => h) ⟨Or.inl ⟨by kernel_rfl, ?_⟩, fun _ => rfl⟩ HS ?_; rotate_left; (focus (rintro wS ⟨s1, s2, s3⟩; go_simp; try (with_reducible rfl))); (simp only [List.setIfInBounds_toArray, List.set_cons_zero, List.set_cons_succ]))
          (refine takeH3 (i := 6) (d := 108) (v := ?_) rfl rfl (by kernel_rfl) (by kernel_rfl) (by kernel_rfl) (by kernel_rfl) (fun _ _ _ h => h) ⟨Or.inl ⟨by kernel_rfl, ?_⟩, fun _ => rfl⟩ HS ?_; rotate_left; (focus (rintro wS ⟨s1, s2, s3⟩; go_simp; try (with_reducible rfl))); (simp only [List.setIfInBounds_toArray, List.set_cons_zero, List.set_cons_succ]))
          (refine takeH3 (i := 7) (d := 109) (v := ?_) rfl rfl (by kernel_rfl) (by kernel_rfl) (by kernel_rfl) (by kernel_rfl) (fun _ _ _ h => h) ⟨Or.inl ⟨by kernel_rfl, ?_⟩, fun _ => rfl⟩ HS ?_; rotate_left; (focus (rintro wS ⟨s1, s2, s3⟩; go_simp; try (with_reducible rfl))); (simp only [List.setIfInBounds_toArray, List.set_cons_zero, List.set_cons_succ]))
          (refine oneH (i := 8) rfl (by kernel_rfl) (fun K hK => ?_); go_simp)
          refine (callsIn_wide.2 (HW2.out _ hB.out)).mono ?_
          rintro e V3 ⟨rfl, hbel⟩
          dsimp only
          have n_K := Aside0.mk (Blk.below hbk.out hbel (Blk.lt hbk.out))
          have n_R := Aside0.mk (Kd.R_below hr.out hbel)
          have n_B := Aside0.mk (hB.out.trans (hbel.mono hB.out.size))
          have n_0 := (hbel.cell (p := ad.add (i * 2)) hblk).trans hx0
          have n_1 := (hbel.cell (p := ⟨(ad.add (i * 2)).block, (ad.add (i * 2)).off + 1, none⟩) hblk).trans hx1
          have n_l : (ad.add (i * 2)).block < V3.heap.size := World.block_lt_of_cell? _ _ n_0
          clear hbk hr hB hx0 hx1 hblk hbel HS
          have hbk := n_K; have hr := n_R; have hB := n_B; have hx0 := n_0; have hx1 := n_1; have hblk := n_l
          clear n_K n_R n_B n_0 n_1 n_l
          have HS : (fun V : World => V.rangeAt w.heap.size 0 cs2.toList ∧ V.cell? (ad.add (i * 2)) = some (.int .i64 (a : Int)) ∧ V.cell? ⟨(ad.add (i * 2)).block, (ad.add (i * 2)).off + 1, none⟩ = some (.int .i64 (t : Int))) V3 := ⟨Blk.range hbk.out, hx0, hx1⟩
          (refine hK _ _ ⟨HS, ?_⟩; clear hK K; (try simp only [Act.put, List.setIfInBounds_toArray, List.set_cons_zero, List.set_cons_succ]))
          (refine takeH3 (i := 9) (d := 101) (v := ?_) rfl rfl (by kernel_rfl) (by kernel_rfl) (by kernel_rfl) (by kernel_rfl) (fun _ _ _ h => h) ⟨Or.inl ⟨by kernel_rfl, ?_⟩, fun _ => rfl⟩ HS ?_; rotate_left; (focus (rintro wS ⟨s1, s2, s3⟩; go_simp; try (with_reducible rfl))); (simp only [List.setIfInBounds_toArray, List.set_cons_zero, List.set_cons_succ]))
          (refine takeH3 (i := 10) (d := 111) (v := ?_) rfl rfl (by kernel_rfl) (by kernel_rfl) (by kernel_rfl) (by kernel_rfl) (fun _ _ _ h => h) ⟨Or.inl ⟨by kernel_rfl, ?_⟩, fun _ => rfl⟩ HS ?_; rotate_left; (focus (rintro wS ⟨s1, s2, s3⟩; go_simp; try (with_reducible rfl))); (simp only [List.setIfInBounds_toArray, List.set_cons_zero, List.set_cons_succ]))
          (refine takeH3 (i := 11) (d := 112) (v := ?_) rfl rfl (by kernel_rfl) (by kernel_rfl) (by kernel_rfl) (by kernel_rfl) (fun _ _ _ h => h) ⟨Or.inl ⟨by kernel_rfl, ?_⟩, fun _ => rfl⟩ HS ?_; rotate_left; (focus (rintro wS ⟨s1, s2, s3⟩; go_simp; try (with_reducible rfl))); (simp only [List.setIfInBounds_toArray, List.set_cons_zero, List.set_cons_succ]))
          (refine takeH3 (i := 12) (d := 12) (v := ?_) rfl rfl (by kernel_rfl) (by kernel_rfl) (by kernel_rfl) (by kernel_rfl) (fun _ _ _ h => h) ⟨Or.inl ⟨by kernel_rfl, ?_⟩, fun _ => rfl⟩ HS ?_; rotate_left; (focus (rintro wS ⟨s1, s2, s3⟩; go_simp; try (with_reducible rfl))); (simp only [List.setIfInBounds_toArray, List.set_cons_zero, List.set_cons_succ]))
          (refine takeH3 (i := 13) (d := 13) (v := ?_) rfl rfl (by kernel_rfl) (by kernel_rfl) (by kernel_rfl) (by kernel_rfl) (fun _ _ _ h => h) ⟨Or.inl ⟨by kernel_rfl, ?_⟩, fun _ => rfl⟩ HS ?_; rotate_left; (focus (rintro wS ⟨s1, s2, s3⟩; go_simp; try (with_reducible rfl))); (simp only [List.setIfInBounds_toArray, List.set_cons_zero, List.set_cons_succ]))
          (refine doneH (by kernel_rfl) ?_ _)
          simp only [Exit.then]
          clear HS HW2
          have hd5 : decide (wideP ws blank a (t + 1) ≤ width) = false := decide_eq_false (by have := HLI.out.full (by rw [HLN.out]; exact htt); omega)
          go_wp2
          go_roundw
          case rel => exact ⟨i + 1, by omega, by go_num, by rw [HNX.out], hbk, hr, hB⟩
          case measure => simp [intOf]; omega
        · have hd4 : decide (t < len) = false := decide_eq_false htt
          go_wp2
          go_roundw
          case rel => exact ⟨i + 1, by omega, by go_num, by rw [HNX.out], hbk, hr, hB⟩
          case measure => simp [intOf]; omega
      · have hd3 : decide (width < wideP ws blank a t) = true := decide_eq_true (by omega)
        have hta : t = a + 1 := by rcases HLI.out.fits with h | h; exact h; omega
        have hbn : ((t : Int) != (a : Int) + 1) = false := bne_eq_false_iff_eq.mpr (by omega)
        clear hta
        by_cases htt : t < len
        · have hd4 : decide (t < len) = true := decide_eq_true htt
          go_upto_region 17 with fail
          have hbel : Below V1.heap.size V1 (V1).drew := (Below.refl _ _).drew
          have n_K := Aside0.mk (Blk.below hbk.out hbel (Blk.lt hbk.out))
          have n_R := Aside0.mk (Kd.R_below hr.out hbel)
          have n_B := Aside0.mk (hB.out.trans (hbel.mono hB.out.size))
          have n_0 := (hbel.cell (p := ad.add (i * 2)) hblk).trans hx0
          have n_1 := (hbel.cell (p := ⟨(ad.add (i * 2)).block, (ad.add (i * 2)).off + 1, none⟩) hblk).trans hx1
          have n_l : (ad.add (i * 2)).block < (V1).drew.heap.size := World.block_lt_of_cell? _ _ n_0
          clear hbk hr hB hx0 hx1 hblk hbel
          clear y31
          have hbk := n_K; have hr := n_R; have hB := n_B; have hx0 := n_0; have hx1 := n_1; have hblk := n_l
          clear n_K n_R n_B n_0 n_1 n_l
          refine (wpIn_wide (n := 0)).1 ?_
          refine beginH (fun V : World => V.rangeAt w.heap.size 0 cs2.toList ∧ V.cell? (ad.add (i * 2)) = some (.int .i64 (a : Int)) ∧ V.cell? ⟨(ad.add (i * 2)).block, (ad.add (i * 2)).off + 1, none⟩ = some (.int .i64 (t : Int))) (by kernel_rfl) ?_
          generalize (V1).drew = V2 at hbk hr hB hx0 hx1 hblk ⊢
          have HS : (fun V : World => V.rangeAt w.heap.size 0 cs2.toList ∧ V.cell? (ad.add (i * 2)) = some (.int .i64 (a : Int)) ∧ V.cell? ⟨(ad.add (i * 2)).block, (ad.add (i * 2)).off + 1, none⟩ = some (.int .i64 (t : Int))) V2 := ⟨Blk.range hbk.out, hx0, hx1⟩
          have HW2 : Hid (∀ V, Below w.heap.size w V → Calls Try.prog 19 #[.agg cs2, .int .i64 (a : Int), .int .i64 ((t : Int) + 1)] V fun e w' => e = .returned (.tuple #[.int .i64 (wideP ws blank a (t + 1)), .int .i64 0]) ∧ Below V.heap.size V w') := Lib.hid (fun V hV => HW.out V hV a (t + 1) (by omega) (by omega))
          have hw4 : IntKind.i64.wrap ((t : Int) + 1) = (t : Int) + 1 := IntWalk.i64_in _ (by have := HLE.out; omega)
          (refine takeH3 (i := 0) (d := 102) (v := .agg cs2) rfl rfl (by kernel_rfl) (by kernel_rfl) (by kernel_rfl) (by kernel_rfl) (fun _ _ _ h => h) ⟨yieldsIf_load_mid (by kernel_rfl) 35 _ rfl _ _ rfl cs2.toList _ (fun w h => h.1) Try.underlying35 rfl HK2.out.len, fun _ => rfl⟩ HS ?_; (simp only [List.setIfInBounds_toArray, List.set_cons_zero, List.set_cons_succ]))
          (refine takeH3 (i := 1) (d := 103) (v := ?_) rfl rfl (by kernel_rfl) (by kernel_rfl) (by kernel_rfl) (by kernel_rfl) (fun _ _ _ h => h) ⟨Or.inl ⟨by kernel_rfl, ?_⟩, fun _ => rfl⟩ HS ?_; rotate_left; (focus (rintro wS ⟨s1, s2, s3⟩; go_simp; try (with_reducible rfl))); (simp only [List.setIfInBounds_toArray, List.set_cons_zero, List.set_cons_succ]))
          (refine takeH3 (i := 2) (d := 104) (v := ?_) rfl rfl (by kernel_rfl) (by kernel_rfl) (by kernel_rfl) (by kernel_rfl) (fun _ _ _ h => h) ⟨Or.inl ⟨by kernel_rfl, ?_⟩, fun _ => rfl⟩ HS ?_; rotate_left; (focus (rintro wS ⟨s1, s2, s3⟩; go_simp; try (with_reducible rfl))); (simp only [List.setIfInBounds_toArray, List.set_cons_zero, List.set_cons_succ]))
          (refine takeH3 (i := 3) (d := 105) (v := ?_) rfl rfl (by kernel_rfl) (by kernel_rfl) (by kernel_rfl) (by kernel_rfl) (fun _ _ _ h => h) ⟨Or.inl ⟨by kernel_rfl, ?_⟩, fun _ => rfl⟩ HS ?_; rotate_left; (focus (rintro wS ⟨s1, s2, s3⟩; go_simp; try (with_reducible rfl))); (simp only [List.setIfInBounds_toArray, List.set_cons_zero, List.set_cons_succ]))
          (refine takeH3 (i := 4) (d := 106) (v := ?_) rfl rfl (by kernel_rfl) (by kernel_rfl) (by kernel_rfl) (by kernel_rfl) (fun _ _ _ h => h) ⟨Or.inl ⟨by kernel_rfl, ?_⟩, fun _ => rfl⟩ HS ?_; rotate_left; (focus (rintro wS ⟨s1, s2, s3⟩; go_simp; try (with_reducible rfl))); (simp only [List.setIfInBounds_toArray, List.set_cons_zero, List.set_cons_succ]))
          (refine takeH3 (i := 5) (d := 107) (v := ?_) rfl rfl (by kernel_rfl) (by kernel_rfl) (by kernel_rfl) (by kernel_rfl) (fun _ _ _ h => h) ⟨Or.inl ⟨by kernel_rfl, ?_⟩, fun _ => rfl⟩ HS ?_; rotate_left; (focus (rintro wS ⟨s1, s2, s3⟩; go_simp; try (with_reducible rfl))); (simp only [List.setIfInBounds_toArray, List.set_cons_zero, List.set_cons_succ]))
          (refine takeH3 (i := 6) (d := 108) (v := ?_) rfl rfl (by kernel_rfl) (by kernel_rfl) (by kernel_rfl) (by kernel_rfl) (fun _ _ _ h => h) ⟨Or.inl ⟨by kernel_rfl, ?_⟩, fun _ => rfl⟩ HS ?_; rotate_left; (focus (rintro wS ⟨s1, s2, s3⟩; go_simp; try (with_reducible rfl))); (simp only [List.setIfInBounds_toArray, List.set_cons_zero, List.set_cons_succ]))
          (refine takeH3 (i := 7) (d := 109) (v := ?_) rfl rfl (by kernel_rfl) (by kernel_rfl) (by kernel_rfl) (by kernel_rfl) (fun _ _ _ h => h) ⟨Or.inl ⟨by kernel_rfl, ?_⟩, fun _ => rfl⟩ HS ?_; rotate_left; (focus (rintro wS ⟨s1, s2, s3⟩; go_simp; try (with_reducible rfl))); (simp only [List.setIfInBounds_toArray, List.set_cons_zero, List.set_cons_succ]))
          (refine oneH (i := 8) rfl (by kernel_rfl) (fun K hK => ?_); go_simp)
          refine (callsIn_wide.2 (HW2.out _ hB.out)).mono ?_
          rintro e V3 ⟨rfl, hbel⟩
          dsimp only
          have n_K := Aside0.mk (Blk.below hbk.out hbel (Blk.lt hbk.out))
          have n_R := Aside0.mk (Kd.R_below hr.out hbel)
          have n_B := Aside0.mk (hB.out.trans (hbel.mono hB.out.size))
          have n_0 := (hbel.cell (p := ad.add (i * 2)) hblk).trans hx0
          have n_1 := (hbel.cell (p := ⟨(ad.add (i * 2)).block, (ad.add (i * 2)).off + 1, none⟩) hblk).trans hx1
          have n_l : (ad.add (i * 2)).block < V3.heap.size := World.block_lt_of_cell? _ _ n_0
          clear hbk hr hB hx0 hx1 hblk hbel HS
          have hbk := n_K; have hr := n_R; have hB := n_B; have hx0 := n_0; have hx1 := n_1; have hblk := n_l
          clear n_K n_R n_B n_0 n_1 n_l
          have HS : (fun V : World => V.rangeAt w.heap.size 0 cs2.toList ∧ V.cell? (ad.add (i * 2)) = some (.int .i64 (a : Int)) ∧ V.cell? ⟨(ad.add (i * 2)).block, (ad.add (i * 2)).off + 1, none⟩ = some (.int .i64 (t : Int))) V3 := ⟨Blk.range hbk.out, hx0, hx1⟩
          (refine hK _ _ ⟨HS, ?_⟩; clear hK K; (try simp only [Act.put, List.setIfInBounds_toArray, List.set_cons_zero, List.set_cons_succ]))
          (refine takeH3 (i := 9) (d := 101) (v := ?_) rfl rfl (by kernel_rfl) (by kernel_rfl) (by kernel_rfl) (by kernel_rfl) (fun _ _ _ h => h) ⟨Or.inl ⟨by kernel_rfl, ?_⟩, fun _ => rfl⟩ HS ?_; rotate_left; (focus (rintro wS ⟨s1, s2, s3⟩; go_simp; try (with_reducible rfl))); (simp only [List.setIfInBounds_toArray, List.set_cons_zero, List.set_cons_succ]))
          (refine takeH3 (i := 10) (d := 111) (v := ?_) rfl rfl (by kernel_rfl) (by kernel_rfl) (by kernel_rfl) (by kernel_rfl) (fun _ _ _ h => h) ⟨Or.inl ⟨by kernel_rfl, ?_⟩, fun _ => rfl⟩ HS ?_; rotate_left; (focus (rintro wS ⟨s1, s2, s3⟩; go_simp; try (with_reducible rfl))); (simp only [List.setIfInBounds_toArray, List.set_cons_zero, List.set_cons_succ]))
          (refine takeH3 (i := 11) (d := 112) (v := ?_) rfl rfl (by kernel_rfl) (by kernel_rfl) (by kernel_rfl) (by kernel_rfl) (fun _ _ _ h => h) ⟨Or.inl ⟨by kernel_rfl, ?_⟩, fun _ => rfl⟩ HS ?_; rotate_left; (focus (rintro wS ⟨s1, s2, s3⟩; go_simp; try (with_reducible rfl))); (simp only [List.setIfInBounds_toArray, List.set_cons_zero, List.set_cons_succ]))
          (refine takeH3 (i := 12) (d := 12) (v := ?_) rfl rfl (by kernel_rfl) (by kernel_rfl) (by kernel_rfl) (by kernel_rfl) (fun _ _ _ h => h) ⟨Or.inl ⟨by kernel_rfl, ?_⟩, fun _ => rfl⟩ HS ?_; rotate_left; (focus (rintro wS ⟨s1, s2, s3⟩; go_simp; try (with_reducible rfl))); (simp only [List.setIfInBounds_toArray, List.set_cons_zero, List.set_cons_succ]))
          (refine takeH3 (i := 13) (d := 13) (v := ?_) rfl rfl (by kernel_rfl) (by kernel_rfl) (by kernel_rfl) (by kernel_rfl) (fun _ _ _ h => h) ⟨Or.inl ⟨by kernel_rfl, ?_⟩, fun _ => rfl⟩ HS ?_; rotate_left; (focus (rintro wS ⟨s1, s2, s3⟩; go_simp; try (with_reducible rfl))); (simp only [List.setIfInBounds_toArray, List.set_cons_zero, List.set_cons_succ]))
          (refine doneH (by kernel_rfl) ?_ _)
          simp only [Exit.then]
          clear HS HW2
          have hd5 : decide (wideP ws blank a (t + 1) ≤ width) = false := decide_eq_false (by have := HLI.out.full (by rw [HLN.out]; exact htt); omega)
          go_wp2
          go_roundw
          case rel => exact ⟨i + 1, by omega, by go_num, by rw [HNX.out], hbk, hr, hB⟩
          case measure => simp [intOf]; omega
        · have hd4 : decide (t < len) = false := decide_eq_false htt
          go_wp2
          go_roundw
          case rel => exact ⟨i + 1, by omega, by go_num, by rw [HNX.out], hbk, hr, hB⟩
          case measure => simp [intOf]; omega
    · obtain rfl : i = ls.length := by omega
      rw [HAE.out]
      have y31 : wr.cell? ⟨w.heap.size, 31, none⟩ = some (.slice A3 len c3) := (Blk.cell hbk.out 31).trans Q31.out
      go_wp2
      go_returns
      exact ⟨by simp, hB.out⟩
theorem alll_any (A1 : Option Addr) (c1 : Nat) (A3 : Option Addr) (c3 : Nat) (n : Nd) (width : Int) (w : World) (hr1 : Kd.C (Kd.int .i64) w A1 n.f1.length n.f1) (hc1 : n.f1.length ≤ c1) (hr3 : Kd.C (Kd.int .i64) w A3 n.f3.length n.f3) (hc3 : n.f3.length ≤ c3) : Calls Try.prog 5 #[.agg (nodeC A1 c1 A3 c3 n), .int .i64 width] w fun e w' => e = .returned (.bool true) ∧ Below w.heap.size w w' := by
  by_cases hR : rightB (cutN n) = true
  · exact alll_yes A1 c1 A3 c3 n width w hr1 hc1 hr3 hc3 hR
  · exact alll_no A1 c1 A3 c3 n width w hr1 hc1 hr3 hc3 (by simpa using hR)
def purflinglaw08_LinesAll.f (a0_0 : Int) (l0_1 : List Int) (a0_2 : Int) (a0_3 : Int) (a0_4 : Int) (a0_5 : Int) (a0_6 : Int) (a0_7 : Int) (a0_8 : Int) (a0_9 : Int) (a0_10 : Int) (a0_11 : Int) (a0_12 : Int) (a0_13 : Int) (a0_14 : Int) (a0_15 : Int) (a0_16 : Int) (a0_17 : Int) (a0_18 : Int) (a0_19 : Int) (a0_20 : Int) (a0_21 : Int) (a0_22 : Int) (a0_23 : Int) (a0_24 : Int) (a0_25 : Bool) (a0_26 : Bool) (a0_27 : Int) (a0_28 : Int) (a0_29 : Bool) (a0_30 : Bool) (l0_31 : List Int) (a0_32 : Int) (a0_33 : Int) (width : Int) : Option Bool := some true
theorem purflinglaw08_LinesAll.calls (a0_0 : Int) (A0_1 : Option Addr) (c0_1 : Nat) (l0_1 : List Int) (a0_2 : Int) (a0_3 : Int) (a0_4 : Int) (a0_5 : Int) (a0_6 : Int) (a0_7 : Int) (a0_8 : Int) (a0_9 : Int) (a0_10 : Int) (a0_11 : Int) (a0_12 : Int) (a0_13 : Int) (a0_14 : Int) (a0_15 : Int) (a0_16 : Int) (a0_17 : Int) (a0_18 : Int) (a0_19 : Int) (a0_20 : Int) (a0_21 : Int) (a0_22 : Int) (a0_23 : Int) (a0_24 : Int) (a0_25 : Bool) (a0_26 : Bool) (a0_27 : Int) (a0_28 : Int) (a0_29 : Bool) (a0_30 : Bool) (A0_31 : Option Addr) (c0_31 : Nat) (l0_31 : List Int) (a0_32 : Int) (a0_33 : Int) (width : Int) (r : Bool) (w : World) (hr0_1 : Kd.C (Kd.int .i64) w A0_1 l0_1.length l0_1) (hc0_1 : l0_1.length ≤ c0_1) (hr0_31 : Kd.C (Kd.int .i64) w A0_31 l0_31.length l0_31) (hc0_31 : l0_31.length ≤ c0_31) (h : purflinglaw08_LinesAll.f a0_0 l0_1 a0_2 a0_3 a0_4 a0_5 a0_6 a0_7 a0_8 a0_9 a0_10 a0_11 a0_12 a0_13 a0_14 a0_15 a0_16 a0_17 a0_18 a0_19 a0_20 a0_21 a0_22 a0_23 a0_24 a0_25 a0_26 a0_27 a0_28 a0_29 a0_30 l0_31 a0_32 a0_33 width = some r) :
    Calls Try.prog 5 #[.agg #[.int .i64 a0_0, .slice A0_1 l0_1.length c0_1, .int .i64 a0_2, .int .i64 a0_3, .int .i64 a0_4, .int .i64 a0_5, .int .i64 a0_6, .int .i64 a0_7, .int .i64 a0_8, .int .i64 a0_9, .int .i64 a0_10, .int .i64 a0_11, .int .u32 a0_12, .int .i64 a0_13, .int .i64 a0_14, .int .u32 a0_15, .int .i64 a0_16, .int .i64 a0_17, .int .u32 a0_18, .int .i64 a0_19, .int .i64 a0_20, .int .u32 a0_21, .int .i64 a0_22, .int .i64 a0_23, .int .i64 a0_24, .bool a0_25, .bool a0_26, .int .i64 a0_27, .int .i64 a0_28, .bool a0_29, .bool a0_30, .slice A0_31 l0_31.length c0_31, .int .i64 a0_32, .int .i64 a0_33], .int .i64 width] w fun e w' => e = .returned (.bool r) ∧ Below w.heap.size w w' := by
  cases h
  exact alll_any A0_1 c0_1 A0_31 c0_31 (⟨a0_0, l0_1, ⟨⟨a0_2, a0_3⟩, ⟨a0_4, a0_5⟩, ⟨a0_6, a0_7, a0_8, a0_9⟩, ⟨⟨a0_10, a0_11, a0_12⟩, ⟨a0_13, a0_14, a0_15⟩, ⟨a0_16, a0_17, a0_18⟩, ⟨a0_19, a0_20, a0_21⟩⟩, a0_22, a0_23, a0_24, a0_25, a0_26, ⟨a0_27, a0_28⟩, a0_29, a0_30⟩, l0_31, a0_32, a0_33⟩ : Nd) width w hr0_1 hc0_1 hr0_31 hc0_31
end Go.Proofs.Yteckkphbgfmolaa.K
namespace Go.Proofs.Yteckkphbgfmolaa.Pure
open Go.RowKit Go.Proofs.Yteckkphbgfmolaa.K
set_option linter.unusedVariables false
theorem linesAll_pure (n : Nd) (width : Int) (hn : good_35 n) (hg0 : (Lit.int .i64 width).wf = true) : purflinglaw08_LinesAll.f (n.f0) (n.f1) (n.f2.f0.f0) (n.f2.f0.f1) (n.f2.f1.f0) (n.f2.f1.f1) (n.f2.f2.f0) (n.f2.f2.f1) (n.f2.f2.f2) (n.f2.f2.f3) (n.f2.f3.f0.f0) (n.f2.f3.f0.f1) (n.f2.f3.f0.f2) (n.f2.f3.f1.f0) (n.f2.f3.f1.f1) (n.f2.f3.f1.f2) (n.f2.f3.f2.f0) (n.f2.f3.f2.f1) (n.f2.f3.f2.f2) (n.f2.f3.f3.f0) (n.f2.f3.f3.f1) (n.f2.f3.f3.f2) (n.f2.f4) (n.f2.f5) (n.f2.f6) (n.f2.f7) (n.f2.f8) (n.f2.f9.f0) (n.f2.f9.f1) (n.f2.f10) (n.f2.f11) (n.f3) (n.f4) (n.f5) width = some true := rfl
end Go.Proofs.Yteckkphbgfmolaa.Pure
