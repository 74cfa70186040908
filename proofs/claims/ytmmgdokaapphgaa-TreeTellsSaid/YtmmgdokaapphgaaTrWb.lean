/- Layer 4: TreeTells. -/
import Derived.Test.YtmmgdokaapphgaaTrT
namespace Go.Proofs.Ytmmgdokaapphgaa.K
open Go.RowKit Go.Proofs.YtmmgdokaapphgaaW.PrintWords Go.Proofs.YtmmgdokaapphgaaW.PrintLast Go.Proofs.YtmmgdokaapphgaaW.PrintMore
set_option linter.unusedVariables false
set_option linter.unusedSimpArgs false
attribute [local go_sem] Oper.semAt_some

theorem same_page {l : List Nd} {n : Nat} (hn : l.length = n) (hbig : ∀ n ∈ l, n.f1.length < 1000000000) (A B : Option Addr) (c d : Nat) (w : World) (hA : Kd.C k42 w A n l) (hB : Kd.C k42 w B n l) (hc : n ≤ c) (hd : n ≤ d) :
    Calls Try.prog 18 #[.slice A n c, .slice B n d] w fun e w' => e = .returned (.bool true) ∧ Below w.heap.size w w' := by
  subst hn
  exact same_any l A B c d w hA hB hc hd hbig
theorem comp_len (l : List Nd) : (compP l).length = l.length := List.length_map _
theorem comp_kids {l : List Nd} {b : Nat} (h : ∀ n ∈ l, n.f1.length ≤ b) : ∀ n ∈ compP l, n.f1.length ≤ b := fun n hn => by
  obtain ⟨m, hm, rfl⟩ := List.mem_map.1 hn
  exact h m hm
theorem rcomp_page {l : List Nd} {n : Nat} (hn : l.length = n) (hbig : n ≤ 100000) (hv : ∀ n ∈ l, validB (styN n.f2) = true) (A : Option Addr) (c : Nat) (w : World) (hN : Kd.C k42 w A n l) (hc : n ≤ c) :
    Calls Try.prog 23 #[.slice A n c] w fun e w' => ∃ A1 c1, e = .returned (.slice A1 n c1) ∧ n ≤ c1 ∧ Kd.C k42 w' A1 n (compP l) ∧ Below w.heap.size w w' := by
  subst hn
  have h := rcomp_any A c l w hN hc hbig hv
  rw [comp_len] at h
  exact h
theorem right_valid {x : Nd} (h : rightN x = true) : validB (styN x.f2) = true := by
  rw [show rightN x = (headB x && x.f3.all lengthB && lengthB x.f4 && lengthB x.f5 && (if x.f0 = 1 then decide (x.f1.length = 0) else if x.f0 = 5 then decide (x.f1.length = 0) && bareB x else bareB x)) from rfl] at h
  cases q : headB x
  · rw [q] at h; simp at h
  · unfold headB at q
    simp only [Bool.and_eq_true, decide_eq_true_eq] at q
    exact q.1.2
def purflinglaw04_TreeTells.f (l0 : List Nd) : Option Bool := some true
theorem pure_TreeTells {P : Prop} : ∀ l0 : List Nd, P → purflinglaw04_TreeTells.f l0 = some true := fun _ _ => rfl
set_option maxRecDepth 100000 in
set_option maxHeartbeats 8000000 in
theorem purflinglaw04_TreeTells.calls (A0 : Option Addr) (c0 : Nat) (l0 : List Nd) (r : Bool) (w : World) (hr0 : Kd.C k42 w A0 l0.length l0) (hc0 : l0.length ≤ c0) (h : purflinglaw04_TreeTells.f l0 = some r) :
    Calls Try.prog 9 #[.slice A0 l0.length c0] w fun e w' => e = .returned (.bool r) ∧ Below w.heap.size w w' := by
  obtain rfl : true = r := Option.some.inj h
  clear h
  obtain ⟨ea, hea⟩ : ∃ ea, ea = (checkP (cutL l0)).1 := ⟨_, rfl⟩
  obtain ⟨er, her⟩ : ∃ er, er = (checkP (cutL l0)).2 := ⟨_, rfl⟩
  obtain ⟨n, hn⟩ : ∃ n, (cutL l0).length = n := ⟨_, rfl⟩
  have hn150 : n ≤ 150 := by rw [← hn]; exact cut_len150 l0
  have hlk := cut_links l0
  have hK : ∀ n ∈ cutL l0, n.f1.length ≤ 1000000000 := fun n hn => by have := cut_kids l0 n hn; omega
  have HSH := Lib.hid (fun W => purflinglaw04_shown.calls true W rfl)
  have HCUT := Lib.hid (fun W (hW : Below w.heap.size w W) => by have := cut_any A0 c0 l0 W (Kd.C_below hr0 hW) hc0; rw [hn] at this; exact this)
  have HREF := Lib.hid (rcheck_page hn (by omega) hK hlk ea er hea her)
  have hq2 : (er == er) = true := by simp
  clear hr0 hc0
  by_cases q : er = 0
  focus
    subst q
    obtain ⟨m1, hm1⟩ : ∃ m1, (walkP (cutL l0)).ord.length = m1 := ⟨_, rfl⟩
    have HTO := Lib.hid (torder_page hn (show tree_Order.f (cutL l0) = some ((walkP (cutL l0)).ord, 0) by unfold tree_Order.f; rw [if_pos hlk, if_pos (by rw [← her])]) hm1)
    have HTD := Lib.hid (tdepths_page hn (show tree_Depths.f (cutL l0) = some ((depthsP (cutL l0)), 0) by unfold tree_Depths.f; rw [if_pos hlk, if_pos (by rw [← her])]) (show (depthsP (cutL l0)).length = n by unfold depthsP; rw [List.length_map, List.length_range]; exact hn))
    have HTP := Lib.hid (tparents_page hn (show tree_Parents.f (cutL l0) = some ((parentsP (cutL l0)), 0) by unfold tree_Parents.f; rw [if_pos hlk, if_pos (by rw [← her])]) (show (parentsP (cutL l0)).length = n by rw [show (parentsP (cutL l0)).length = _ from parF_len _ _]; exact hn))
    have HTC := Lib.hid (tcomputed_page hn hK (show tree_Computed.f (cutL l0) = some ((compP (cutL l0)), 0) by unfold tree_Computed.f; rw [if_pos hlk, if_pos (by rw [← her])]) (show (compP (cutL l0)).length = n by rw [comp_len]; exact hn))
    have hOK := (ok_iff (cutL l0)).1 her.symm
    have hmb : m1 ≤ n := by rw [← hm1, ← hn]; have := (walk_good (cutL l0) hOK.kidsIn hOK.some).2; omega
    have HRO := Lib.hid (rorder_page hn hOK.kidsIn hOK.tidy hOK.some (by omega) hK hm1)
    have HRD := Lib.hid (rdepths_page hn hOK.kidsIn hOK.tidy hOK.some (by omega) hK hOK.met (show (depthsP (cutL l0)).length = n by unfold depthsP; rw [List.length_map, List.length_range]; exact hn))
    have HRP := Lib.hid (rparents_page hn hOK.kidsIn hOK.some (by omega) hK (show (parentsP (cutL l0)).length = n by rw [show (parentsP (cutL l0)).length = _ from parF_len _ _]; exact hn))
    have HRC := Lib.hid (rcomp_page hn (by omega) (fun x hx => right_valid (hOK.right x hx)))
    have HSM := Lib.hid (same_page (l := compP (cutL l0)) (n := n) (by rw [comp_len]; exact hn) (fun n hn => Nat.lt_succ_of_le (comp_kids (b := 999999999) (fun n hn => by have := cut_kids l0 n hn; omega) n hn)))
    have HI1 := Lib.hid (ints_same hm1 (by omega))
    have HI2 := Lib.hid (ints_same (n := n) (show (depthsP (cutL l0)).length = n by unfold depthsP; rw [List.length_map, List.length_range]; exact hn) (by omega))
    have HI3 := Lib.hid (ints_same (n := n) (show (parentsP (cutL l0)).length = n by rw [show (parentsP (cutL l0)).length = _ from parF_len _ _]; exact hn) (by omega))
    clear hOK
    clear hea her hn hn150 hlk hK hm1 hmb
    go_enter Try.func9, Try.ntmps9
    go_upto_region 2 with (go_at_call 10; refine (HSH.out _).mono ?_; rintro e w1 ⟨rfl, hb⟩; have HB := Lib.hid hb; clear hb HSH)
    go_upto_region 3 with (go_at_call 12; refine (HCUT.out _ HB.out).mono ?_; rintro e w2 ⟨A1, c1, rfl, hc1, hC1, hb⟩; have nB := Lib.hid (below_then HB.out HB.out.size hb); have HL := Lib.hid hC1; have HLL := Lib.hid hc1; clear hb hc1 hC1 HB HCUT; have HB := nB; clear nB)
    go_upto_region 4 with (go_at_call 14; refine (HTO.out A1 c1 _ HL.out HLL.out).mono ?_; rintro e w3 ⟨A2, c2, rfl, hl2, hC2, hb⟩; have nB := Lib.hid (below_then HB.out HB.out.size hb); have nHL := Lib.hid (Kd.C_below HL.out hb); clear HB HL; have HB := nB; clear nB; have HL := nHL; clear nHL; have HR2 := Lib.hid hC2; have HX2 := Lib.hid hl2; clear hb hC2 hl2 HTO)
    go_upto_region 5 with (go_at_call 15; refine (HTD.out A1 c1 _ HL.out HLL.out).mono ?_; rintro e w4 ⟨A3, c3, rfl, hl3, hC3, hb⟩; have nB := Lib.hid (below_then HB.out HB.out.size hb); have nHL := Lib.hid (Kd.C_below HL.out hb); have nHR2 := Lib.hid (Kd.C_below HR2.out hb); clear HB HL HR2; have HB := nB; clear nB; have HL := nHL; clear nHL; have HR2 := nHR2; clear nHR2; have HR3 := Lib.hid hC3; have HX3 := Lib.hid hl3; clear hb hC3 hl3 HTD)
    go_upto_region 6 with (go_at_call 16; refine (HTP.out A1 c1 _ HL.out HLL.out).mono ?_; rintro e w5 ⟨A4, c4, rfl, hl4, hC4, hb⟩; have nB := Lib.hid (below_then HB.out HB.out.size hb); have nHL := Lib.hid (Kd.C_below HL.out hb); have nHR2 := Lib.hid (Kd.C_below HR2.out hb); have nHR3 := Lib.hid (Kd.C_below HR3.out hb); clear HB HL HR2 HR3; have HB := nB; clear nB; have HL := nHL; clear nHL; have HR2 := nHR2; clear nHR2; have HR3 := nHR3; clear nHR3; have HR4 := Lib.hid hC4; have HX4 := Lib.hid hl4; clear hb hC4 hl4 HTP)
    go_upto_region 7 with (go_at_call 17; refine (HTC.out A1 c1 _ HL.out HLL.out).mono ?_; rintro e w6 ⟨A5, c5, rfl, hl5, hC5, hb⟩; have nB := Lib.hid (below_then HB.out HB.out.size hb); have nHL := Lib.hid (Kd.C_below HL.out hb); have nHR2 := Lib.hid (Kd.C_below HR2.out hb); have nHR3 := Lib.hid (Kd.C_below HR3.out hb); have nHR4 := Lib.hid (Kd.C_below HR4.out hb); clear HB HL HR2 HR3 HR4; have HB := nB; clear nB; have HL := nHL; clear nHL; have HR2 := nHR2; clear nHR2; have HR3 := nHR3; clear nHR3; have HR4 := nHR4; clear nHR4; have HR5 := Lib.hid hC5; have HX5 := Lib.hid hl5; clear hb hC5 hl5 HTC)
    go_upto_region 8 with (go_at_call 13; refine (HREF.out A1 c1 _ HL.out HLL.out).mono ?_; rintro e w7 ⟨rfl, hb⟩; have nB := Lib.hid (below_then HB.out HB.out.size hb); have nHL := Lib.hid (Kd.C_below HL.out hb); have nHR2 := Lib.hid (Kd.C_below HR2.out hb); have nHR3 := Lib.hid (Kd.C_below HR3.out hb); have nHR4 := Lib.hid (Kd.C_below HR4.out hb); have nHR5 := Lib.hid (Kd.C_below HR5.out hb); clear HB HL HR2 HR3 HR4 HR5; have HB := nB; clear nB; have HL := nHL; clear nHL; have HR2 := nHR2; clear nHR2; have HR3 := nHR3; clear nHR3; have HR4 := nHR4; clear nHR4; have HR5 := nHR5; clear nHR5; clear hb HREF)
    go_wp2_with (first | ((try (refine gate_guard (by rfl) ?_; dsimp only)); go_at_call 20; (with_reducible refine (HRO.out A1 c1 _ HL.out HLL.out).mono ?_); rintro e v6 ⟨A6, c6, rfl, hl6, hC6, hb⟩; have nB := Lib.hid (below_then HB.out HB.out.size hb); have nHL := Lib.hid (Kd.C_below HL.out hb); have nHR2 := Lib.hid (Kd.C_below HR2.out hb); have nHR3 := Lib.hid (Kd.C_below HR3.out hb); have nHR4 := Lib.hid (Kd.C_below HR4.out hb); have nHR5 := Lib.hid (Kd.C_below HR5.out hb); clear HB HL HR2 HR3 HR4 HR5; have HB := nB; clear nB; have HL := nHL; clear nHL; have HR2 := nHR2; clear nHR2; have HR3 := nHR3; clear nHR3; have HR4 := nHR4; clear nHR4; have HR5 := nHR5; clear nHR5; have HR6 := Lib.hid hC6; have HX6 := Lib.hid hl6; clear hb hC6 hl6 HRO) | ((try (refine gate_guard (by rfl) ?_; dsimp only)); go_at_call 19; (with_reducible refine (HI1.out A2 c2 A6 c6 _ HR2.out HX2.out HR6.out HX6.out).mono ?_); rintro e u6 ⟨rfl, hb⟩; have nB := Lib.hid (below_then HB.out HB.out.size hb); have nHL := Lib.hid (Kd.C_below HL.out hb); have nHR2 := Lib.hid (Kd.C_below HR2.out hb); have nHR3 := Lib.hid (Kd.C_below HR3.out hb); have nHR4 := Lib.hid (Kd.C_below HR4.out hb); have nHR5 := Lib.hid (Kd.C_below HR5.out hb); have nHR6 := Lib.hid (Kd.C_below HR6.out hb); clear HB HL HR2 HR3 HR4 HR5 HR6; have HB := nB; clear nB; have HL := nHL; clear nHL; have HR2 := nHR2; clear nHR2; have HR3 := nHR3; clear nHR3; have HR4 := nHR4; clear nHR4; have HR5 := nHR5; clear nHR5; have HR6 := nHR6; clear nHR6; clear hb HI1) | ((try (refine gate_guard (by rfl) ?_; dsimp only)); go_at_call 21; (with_reducible refine (HRD.out A1 c1 _ HL.out HLL.out).mono ?_); rintro e v7 ⟨A7, c7, rfl, hl7, hC7, hb⟩; have nB := Lib.hid (below_then HB.out HB.out.size hb); have nHL := Lib.hid (Kd.C_below HL.out hb); have nHR2 := Lib.hid (Kd.C_below HR2.out hb); have nHR3 := Lib.hid (Kd.C_below HR3.out hb); have nHR4 := Lib.hid (Kd.C_below HR4.out hb); have nHR5 := Lib.hid (Kd.C_below HR5.out hb); have nHR6 := Lib.hid (Kd.C_below HR6.out hb); clear HB HL HR2 HR3 HR4 HR5 HR6; have HB := nB; clear nB; have HL := nHL; clear nHL; have HR2 := nHR2; clear nHR2; have HR3 := nHR3; clear nHR3; have HR4 := nHR4; clear nHR4; have HR5 := nHR5; clear nHR5; have HR6 := nHR6; clear nHR6; have HR7 := Lib.hid hC7; have HX7 := Lib.hid hl7; clear hb hC7 hl7 HRD) | ((try (refine gate_guard (by rfl) ?_; dsimp only)); go_at_call 19; (with_reducible refine (HI2.out A3 c3 A7 c7 _ HR3.out HX3.out HR7.out HX7.out).mono ?_); rintro e u7 ⟨rfl, hb⟩; have nB := Lib.hid (below_then HB.out HB.out.size hb); have nHL := Lib.hid (Kd.C_below HL.out hb); have nHR2 := Lib.hid (Kd.C_below HR2.out hb); have nHR3 := Lib.hid (Kd.C_below HR3.out hb); have nHR4 := Lib.hid (Kd.C_below HR4.out hb); have nHR5 := Lib.hid (Kd.C_below HR5.out hb); have nHR6 := Lib.hid (Kd.C_below HR6.out hb); have nHR7 := Lib.hid (Kd.C_below HR7.out hb); clear HB HL HR2 HR3 HR4 HR5 HR6 HR7; have HB := nB; clear nB; have HL := nHL; clear nHL; have HR2 := nHR2; clear nHR2; have HR3 := nHR3; clear nHR3; have HR4 := nHR4; clear nHR4; have HR5 := nHR5; clear nHR5; have HR6 := nHR6; clear nHR6; have HR7 := nHR7; clear nHR7; clear hb HI2) | ((try (refine gate_guard (by rfl) ?_; dsimp only)); go_at_call 22; (with_reducible refine (HRP.out A1 c1 _ HL.out HLL.out).mono ?_); rintro e v8 ⟨A8, c8, rfl, hl8, hC8, hb⟩; have nB := Lib.hid (below_then HB.out HB.out.size hb); have nHL := Lib.hid (Kd.C_below HL.out hb); have nHR2 := Lib.hid (Kd.C_below HR2.out hb); have nHR3 := Lib.hid (Kd.C_below HR3.out hb); have nHR4 := Lib.hid (Kd.C_below HR4.out hb); have nHR5 := Lib.hid (Kd.C_below HR5.out hb); have nHR6 := Lib.hid (Kd.C_below HR6.out hb); have nHR7 := Lib.hid (Kd.C_below HR7.out hb); clear HB HL HR2 HR3 HR4 HR5 HR6 HR7; have HB := nB; clear nB; have HL := nHL; clear nHL; have HR2 := nHR2; clear nHR2; have HR3 := nHR3; clear nHR3; have HR4 := nHR4; clear nHR4; have HR5 := nHR5; clear nHR5; have HR6 := nHR6; clear nHR6; have HR7 := nHR7; clear nHR7; have HR8 := Lib.hid hC8; have HX8 := Lib.hid hl8; clear hb hC8 hl8 HRP) | ((try (refine gate_guard (by rfl) ?_; dsimp only)); go_at_call 19; (with_reducible refine (HI3.out A4 c4 A8 c8 _ HR4.out HX4.out HR8.out HX8.out).mono ?_); rintro e u8 ⟨rfl, hb⟩; have nB := Lib.hid (below_then HB.out HB.out.size hb); have nHL := Lib.hid (Kd.C_below HL.out hb); have nHR2 := Lib.hid (Kd.C_below HR2.out hb); have nHR3 := Lib.hid (Kd.C_below HR3.out hb); have nHR4 := Lib.hid (Kd.C_below HR4.out hb); have nHR5 := Lib.hid (Kd.C_below HR5.out hb); have nHR6 := Lib.hid (Kd.C_below HR6.out hb); have nHR7 := Lib.hid (Kd.C_below HR7.out hb); have nHR8 := Lib.hid (Kd.C_below HR8.out hb); clear HB HL HR2 HR3 HR4 HR5 HR6 HR7 HR8; have HB := nB; clear nB; have HL := nHL; clear nHL; have HR2 := nHR2; clear nHR2; have HR3 := nHR3; clear nHR3; have HR4 := nHR4; clear nHR4; have HR5 := nHR5; clear nHR5; have HR6 := nHR6; clear nHR6; have HR7 := nHR7; clear nHR7; have HR8 := nHR8; clear nHR8; clear hb HI3) | ((try (refine gate_guard (by rfl) ?_; dsimp only)); go_at_call 23; (with_reducible refine (HRC.out A1 c1 _ HL.out HLL.out).mono ?_); rintro e v9 ⟨A9, c9, rfl, hl9, hC9, hb⟩; have nB := Lib.hid (below_then HB.out HB.out.size hb); have nHL := Lib.hid (Kd.C_below HL.out hb); have nHR2 := Lib.hid (Kd.C_below HR2.out hb); have nHR3 := Lib.hid (Kd.C_below HR3.out hb); have nHR4 := Lib.hid (Kd.C_below HR4.out hb); have nHR5 := Lib.hid (Kd.C_below HR5.out hb); have nHR6 := Lib.hid (Kd.C_below HR6.out hb); have nHR7 := Lib.hid (Kd.C_below HR7.out hb); have nHR8 := Lib.hid (Kd.C_below HR8.out hb); clear HB HL HR2 HR3 HR4 HR5 HR6 HR7 HR8; have HB := nB; clear nB; have HL := nHL; clear nHL; have HR2 := nHR2; clear nHR2; have HR3 := nHR3; clear nHR3; have HR4 := nHR4; clear nHR4; have HR5 := nHR5; clear nHR5; have HR6 := nHR6; clear nHR6; have HR7 := nHR7; clear nHR7; have HR8 := nHR8; clear nHR8; have HR9 := Lib.hid hC9; have HX9 := Lib.hid hl9; clear hb hC9 hl9 HRC) | ((try (refine gate_guard (by rfl) ?_; dsimp only)); go_at_call 18; (with_reducible refine (HSM.out A5 A9 c5 c9 _ HR5.out HR9.out HX5.out HX9.out).mono ?_); rintro e u9 ⟨rfl, hb⟩; have nB := Lib.hid (below_then HB.out HB.out.size hb); clear hb HB; have HB := nB; clear nB))
    go_ret
    exact ⟨rfl, HB.out⟩
  have HTO := Lib.hid (torder_page hn (show tree_Order.f (cutL l0) = some ([], er) by unfold tree_Order.f; rw [if_pos hlk, if_neg (by rw [← her]; exact q), her]) rfl)
  have HTD := Lib.hid (tdepths_page hn (show tree_Depths.f (cutL l0) = some ([], er) by unfold tree_Depths.f; rw [if_pos hlk, if_neg (by rw [← her]; exact q), her]) rfl)
  have HTP := Lib.hid (tparents_page hn (show tree_Parents.f (cutL l0) = some ([], er) by unfold tree_Parents.f; rw [if_pos hlk, if_neg (by rw [← her]; exact q), her]) rfl)
  have HTC := Lib.hid (tcomputed_page hn hK (show tree_Computed.f (cutL l0) = some ([], er) by unfold tree_Computed.f; rw [if_pos hlk, if_neg (by rw [← her]; exact q), her]) rfl)
  clear hea her hn hn150 hlk hK
  have hqb : (er != 0) = true := by simpa using q
  go_enter Try.func9, Try.ntmps9
  go_upto_region 2 with (go_at_call 10; refine (HSH.out _).mono ?_; rintro e w1 ⟨rfl, hb⟩; have HB := Lib.hid hb; clear hb HSH)
  go_upto_region 3 with (go_at_call 12; refine (HCUT.out _ HB.out).mono ?_; rintro e w2 ⟨A1, c1, rfl, hc1, hC1, hb⟩; have nB := Lib.hid (below_then HB.out HB.out.size hb); have HL := Lib.hid hC1; have HLL := Lib.hid hc1; clear hb hc1 hC1 HB HCUT; have HB := nB; clear nB)
  go_upto_region 4 with (go_at_call 14; refine (HTO.out A1 c1 _ HL.out HLL.out).mono ?_; rintro e w3 ⟨A2, c2, rfl, hl2, hC2, hb⟩; have nB := Lib.hid (below_then HB.out HB.out.size hb); have nHL := Lib.hid (Kd.C_below HL.out hb); clear HB HL; have HB := nB; clear nB; have HL := nHL; clear nHL; have HR2 := Lib.hid hC2; have HX2 := Lib.hid hl2; clear hb hC2 hl2 HTO)
  go_upto_region 5 with (go_at_call 15; refine (HTD.out A1 c1 _ HL.out HLL.out).mono ?_; rintro e w4 ⟨A3, c3, rfl, hl3, hC3, hb⟩; have nB := Lib.hid (below_then HB.out HB.out.size hb); have nHL := Lib.hid (Kd.C_below HL.out hb); clear HB HL; have HB := nB; clear nB; have HL := nHL; clear nHL; have HR3 := Lib.hid hC3; have HX3 := Lib.hid hl3; clear hb hC3 hl3 HTD)
  go_upto_region 6 with (go_at_call 16; refine (HTP.out A1 c1 _ HL.out HLL.out).mono ?_; rintro e w5 ⟨A4, c4, rfl, hl4, hC4, hb⟩; have nB := Lib.hid (below_then HB.out HB.out.size hb); have nHL := Lib.hid (Kd.C_below HL.out hb); clear HB HL; have HB := nB; clear nB; have HL := nHL; clear nHL; have HR4 := Lib.hid hC4; have HX4 := Lib.hid hl4; clear hb hC4 hl4 HTP)
  go_upto_region 7 with (go_at_call 17; refine (HTC.out A1 c1 _ HL.out HLL.out).mono ?_; rintro e w6 ⟨A5, c5, rfl, hl5, hC5, hb⟩; have nB := Lib.hid (below_then HB.out HB.out.size hb); have nHL := Lib.hid (Kd.C_below HL.out hb); clear HB HL; have HB := nB; clear nB; have HL := nHL; clear nHL; have HR5 := Lib.hid hC5; have HX5 := Lib.hid hl5; clear hb hC5 hl5 HTC)
  go_upto_region 8 with (go_at_call 13; refine (HREF.out A1 c1 _ HL.out HLL.out).mono ?_; rintro e w7 ⟨rfl, hb⟩; have nB := Lib.hid (below_then HB.out HB.out.size hb); have nHL := Lib.hid (Kd.C_below HL.out hb); clear HB HL; have HB := nB; clear nB; have HL := nHL; clear nHL; clear hb HREF)
  go_wp2
  go_ret
  exact ⟨rfl, HB.out⟩
end Go.Proofs.Ytmmgdokaapphgaa.K
