/- Layer 4: TreeComputes. -/
import Derived.Test.YtmmgdokaapphgaaTrT
import Derived.Test.YtmmgdokaapphgaaStP
namespace Go.Proofs.Ytmmgdokaapphgaa.K
open Go.RowKit Go.Proofs.YtmmgdokaapphgaaW.PrintWords Go.Proofs.YtmmgdokaapphgaaW.PrintLast Go.Proofs.YtmmgdokaapphgaaW.PrintMore
set_option linter.unusedVariables false
set_option linter.unusedSimpArgs false
attribute [local go_sem] Oper.semAt_some

theorem comp_links (l : List Nd) : linksOf (compP l) = linksOf l := by
  unfold linksOf compP
  rw [List.map_map]
  rfl
theorem comp_kidsOf (l : List Nd) (a : Int) : kidsOf (compP l) a = kidsOf l a := by
  unfold kidsOf rd_T42 compP
  rw [List.getD_eq_getElem?_getD, List.getD_eq_getElem?_getD, List.getElem?_map]
  cases l[a.toNat]? with
  | none => rfl
  | some x => rfl
theorem comp_go (l : List Nd) : ∀ (k : Nat) (a d : Int) (s : WSt), goP (compP l) k a d s = goP l k a d s
  | 0, _, _, _ => rfl
  | k + 1, a, d, s => by
    unfold goP
    rw [comp_kidsOf]
    congr 1
    congr 1
    funext t x
    exact comp_go l k x (d + 1) t
theorem comp_walk (l : List Nd) : walkP (compP l) = walkP l := by
  unfold walkP
  rw [comp_len, comp_go]
theorem comp_right {x : Nd} (h : rightN x = true) : rightN (compN x) = true := by
  have hv := (again_pure _ (right_valid h)).1
  have e : ∀ y : Nd, rightN y = (headB y && y.f3.all lengthB && lengthB y.f4 && lengthB y.f5 && (if y.f0 = 1 then decide (y.f1.length = 0) else if y.f0 = 5 then decide (y.f1.length = 0) && bareB y else bareB y)) := fun _ => rfl
  have hh : headB (compN x) = headB x := by
    unfold headB
    rw [show styN (compN x).f2 = styC (styN x.f2) from rfl, hv, right_valid h]
    rfl
  rw [e] at h ⊢
  rw [hh]
  exact h
theorem comp_ok {l : List Nd} (h : PageOK l) : PageOK (compP l) := by
  refine ⟨by rw [comp_len]; exact h.some, by rw [comp_len]; exact h.many, fun n hn => ?_, ?_, ?_, ?_, ?_⟩
  · obtain ⟨m, hm, rfl⟩ := List.mem_map.1 hn
    exact comp_right (h.right m hm)
  · rw [comp_links, comp_len]; exact h.links
  · rw [comp_links, comp_len]; exact h.times
  · rw [comp_walk, comp_len]; exact h.met
  · rw [comp_walk, comp_len]; exact h.deep
theorem comp_again {l : List Nd} (h : PageOK l) : compP (compP l) = compP l := by
  unfold compP
  rw [List.map_map]
  apply List.map_congr_left
  intro x hx
  show compN (compN x) = compN x
  have := (again_pure _ (right_valid (h.right x hx))).2
  unfold compN
  show { x with f2 := styS (styC (styN (styS (styC (styN x.f2))))) } = _
  rw [styN_styS, this]
theorem check_zero' {l : List Nd} (h : PageOK l) : checkP l = (0, 0) := by
  have hq := (ok_iff l).2 h
  revert hq
  unfold checkP checkK checkC checkD
  repeat' split
  all_goals simp
def purflinglaw04_TreeComputes.f (l0 : List Nd) : Option Bool := some true
theorem pure_TreeComputes {P : Prop} : ∀ l0 : List Nd, P → purflinglaw04_TreeComputes.f l0 = some true := fun _ _ => rfl
set_option maxRecDepth 100000 in
set_option maxHeartbeats 4000000 in
theorem purflinglaw04_TreeComputes.calls (A0 : Option Addr) (c0 : Nat) (l0 : List Nd) (r : Bool) (w : World) (hr0 : Kd.C k42 w A0 l0.length l0) (hc0 : l0.length ≤ c0) (h : purflinglaw04_TreeComputes.f l0 = some r) :
    Calls Try.prog 8 #[.slice A0 l0.length c0] w fun e w' => e = .returned (.bool r) ∧ Below w.heap.size w w' := by
  obtain rfl : true = r := Option.some.inj h
  clear h
  obtain ⟨er, her⟩ : ∃ er, er = (checkP (cutL l0)).2 := ⟨_, rfl⟩
  obtain ⟨n, hn⟩ : ∃ n, (cutL l0).length = n := ⟨_, rfl⟩
  have hn150 : n ≤ 150 := by rw [← hn]; exact cut_len150 l0
  have hlk := cut_links l0
  have hK : ∀ n ∈ cutL l0, n.f1.length ≤ 1000000000 := fun n hn => by have := cut_kids l0 n hn; omega
  have HSH := Lib.hid (fun W => purflinglaw04_shown.calls true W rfl)
  have HCUT := Lib.hid (fun W (hW : Below w.heap.size w W) => by have := cut_any A0 c0 l0 W (Kd.C_below hr0 hW) hc0; rw [hn] at this; exact this)
  clear hr0 hc0
  by_cases q : er = 0
  focus
    subst q
    have hOK := (ok_iff (cutL l0)).1 her.symm
    have hn2 : (compP (cutL l0)).length = n := by rw [comp_len]; exact hn
    have hlk2 : (linksOf (compP (cutL l0))).length ≤ 1000000000 := by rw [comp_links]; exact hlk
    have hK2 := comp_kids hK
    have hz := check_zero' (comp_ok hOK)
    have HTC := Lib.hid (tcomputed_page hn hK (show tree_Computed.f (cutL l0) = some (compP (cutL l0), 0) by unfold tree_Computed.f; rw [if_pos hlk, if_pos her.symm]) hn2)
    have HCK := Lib.hid (check_page hn2 hlk2 0 0 (by rw [hz]) (by rw [hz]))
    have HTD := Lib.hid (tcomputed_page hn2 hK2 (show tree_Computed.f (compP (cutL l0)) = some (compP (cutL l0), 0) by unfold tree_Computed.f; rw [if_pos hlk2, if_pos (by rw [hz]), comp_again hOK]) hn2)
    have HSM := Lib.hid (same_page (l := compP (cutL l0)) (n := n) hn2 (fun n hn => Nat.lt_succ_of_le (comp_kids (b := 999999999) (fun n hn => by have := cut_kids l0 n hn; omega) n hn)))
    clear her hn hn150 hlk hK hOK hn2 hlk2 hK2 hz
    go_enter Try.func8, Try.ntmps8
    go_upto_region 2 with (go_at_call 10; refine (HSH.out _).mono ?_; rintro e w1 ⟨rfl, hb⟩; have HB := Lib.hid hb; clear hb HSH)
    go_upto_region 3 with (first | (go_at_call 12; refine (HCUT.out _ HB.out).mono ?_; rintro e w2 ⟨A1, c1, rfl, hc1, hC1, hb⟩; have HB1 := Lib.hid (below_then HB.out HB.out.size hb); have HL := Lib.hid hC1; have HLL := Lib.hid hc1; clear hb hc1 hC1 HB HCUT) | (go_at_call 17; refine (HTC.out A1 c1 _ HL.out HLL.out).mono ?_; rintro e w3 ⟨A5, c5, rfl, hl5, hC5, hb⟩; have HB2 := Lib.hid (below_then HB1.out HB1.out.size hb); have HR5 := Lib.hid hC5; have HX5 := Lib.hid hl5; clear hb hC5 hl5 HB1 HTC))
    go_upto_region 6 with (go_at_call 11; refine (HCK.out A5 c5 _ HR5.out HX5.out).mono ?_; rintro e w4 ⟨rfl, hb⟩; have HB3 := Lib.hid (below_then HB2.out HB2.out.size hb); have HR6 := Lib.hid (Kd.C_below HR5.out hb); clear hb HB2 HR5 HCK)
    go_upto_region 7 with (go_at_call 17; refine (HTD.out A5 c5 _ HR6.out HX5.out).mono ?_; rintro e w5 ⟨A9, c9, rfl, hl9, hC9, hb⟩; have HB4 := Lib.hid (below_then HB3.out HB3.out.size hb); have HR7 := Lib.hid (Kd.C_below HR6.out hb); have HR9 := Lib.hid hC9; have HX9 := Lib.hid hl9; clear hb hC9 hl9 HB3 HR6 HTD)
    go_wp2_with ((try (refine gate_guard (by rfl) ?_; dsimp only)); go_at_call 18; (with_reducible refine (HSM.out A5 A9 c5 c9 _ HR7.out HR9.out HX5.out HX9.out).mono ?_); rintro e w6 ⟨rfl, hb⟩; have HB5 := Lib.hid (below_then HB4.out HB4.out.size hb); clear hb HB4)
    go_ret
    exact ⟨rfl, HB5.out⟩
  have HTC := Lib.hid (tcomputed_page hn hK (show tree_Computed.f (cutL l0) = some ([], er) by unfold tree_Computed.f; rw [if_pos hlk, if_neg (by rw [← her]; exact q), her]) (m := 0) rfl)
  have hqb : (er != 0) = true := by simpa using q
  clear her hn hn150 hlk hK
  go_enter Try.func8, Try.ntmps8
  go_upto_region 2 with (go_at_call 10; refine (HSH.out _).mono ?_; rintro e w1 ⟨rfl, hb⟩; have HB := Lib.hid hb; clear hb HSH)
  go_upto_region 3 with (first | (go_at_call 12; refine (HCUT.out _ HB.out).mono ?_; rintro e w2 ⟨A1, c1, rfl, hc1, hC1, hb⟩; have HB1 := Lib.hid (below_then HB.out HB.out.size hb); have HL := Lib.hid hC1; have HLL := Lib.hid hc1; clear hb hc1 hC1 HB HCUT) | (go_at_call 17; refine (HTC.out A1 c1 _ HL.out HLL.out).mono ?_; rintro e w3 ⟨A5, c5, rfl, hl5, hC5, hb⟩; have HB2 := Lib.hid (below_then HB1.out HB1.out.size hb); clear hb hC5 hl5 HB1 HTC))
  go_wp2
  go_ret
  exact ⟨rfl, HB2.out⟩
end Go.Proofs.Ytmmgdokaapphgaa.K
