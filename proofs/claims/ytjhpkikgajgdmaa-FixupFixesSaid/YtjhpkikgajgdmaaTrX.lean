/- Layer 4: the reference's right, as the print calls it. -/
import Derived.Test.YtjhpkikgajgdmaaTrA
import Derived.Test.YtjhpkikgajgdmaaSt4
namespace Go.Proofs.Ytjhpkikgajgdmaa.K
open Go.RowKit Go.Proofs.YtjhpkikgajgdmaaW.PrintWords Go.Proofs.YtjhpkikgajgdmaaW.PrintLast Go.Proofs.YtjhpkikgajgdmaaW.PrintMore
set_option linter.unusedVariables false
set_option linter.unusedSimpArgs false
attribute [local go_sem] Oper.semAt_some
def sizesB (n : Nd) : Bool := decide (0 ≤ n.f4) && decide (n.f4 ≤ 1073741824) && decide (0 ≤ n.f5) && decide (n.f5 ≤ 1073741824)
theorem rightN_eq (n : Nd) : rightN n = (headB n && sizesB n && n.f3.all lengthB && (if n.f0 = 1 then decide (n.f1.length = 0) else if n.f0 = 5 then decide (n.f1.length = 0) && bareB n else bareB n)) := by
  unfold rightN sizesB lengthB
  rw [Bool.eq_iff_iff]
  simp only [Bool.and_eq_true, decide_eq_true_eq, List.all_eq_true]
  constructor
  · rintro ⟨⟨⟨⟨a, b⟩, c, c'⟩, d, d'⟩, e⟩; exact ⟨⟨⟨a, ⟨⟨c, c'⟩, d⟩, d'⟩, b⟩, e⟩
  · rintro ⟨⟨⟨a, ⟨⟨c, c'⟩, d⟩, d'⟩, b⟩, e⟩; exact ⟨⟨⟨⟨a, b⟩, c, c'⟩, d, d'⟩, e⟩
theorem not_right {n : Nd} (h : ¬ (headB n = true ∧ sizesB n = true)) : rightN n = false := by
  rw [rightN_eq]
  cases h1 : headB n
  · rfl
  · cases h2 : sizesB n
    · rfl
    · exact absurd ⟨h1, h2⟩ h
theorem head_iff (n : Nd) : headB n = true ↔ 0 ≤ n.f0 ∧ n.f0 ≤ 10 ∧ validB (styN n.f2) = true ∧ n.f3.length ≤ 10000 := by
  unfold headB; simp only [Bool.and_eq_true, decide_eq_true_eq, and_assoc]
theorem sizes_iff (n : Nd) : sizesB n = true ↔ 0 ≤ n.f4 ∧ n.f4 ≤ 1073741824 ∧ 0 ≤ n.f5 ∧ n.f5 ≤ 1073741824 := by
  unfold sizesB; simp only [Bool.and_eq_true, decide_eq_true_eq, and_assoc]
set_option maxRecDepth 100000 in
set_option maxHeartbeats 8000000 in
theorem rright_any (n : Nd) (cs : List Value) (A1 : Option Addr) (c1 : Nat) (A3 : Option Addr) (c3 : Nat) (w : World) (hC : NodeC w n cs A1 c1 A3 c3) (r : Bool) (hr0 : rightN n = r) :
    Calls Try.prog 31 #[.agg cs.toArray] w fun e w' => e = .returned (.bool r) ∧ Below w.heap.size w w' := by
  have HR0 := Lib.hid hr0
  clear hr0
  have HB := Lib.hid (BoxC.of hC 43)
  have HL3 := Lib.hid hC.l3
  have hlen : (Try.prog.info? 40).map (·.size) = some (styN n.f2).cells.toList.length := by kernel_rfl
  have HV := Lib.hid (fun W => rvalid_any (styN n.f2) W)
  have HLen := Lib.hid hlen
  clear hC hlen
  go_enter Try.func31, Try.ntmps31
  go_upto_region 1 with fail
  generalize w.alloc (.cells cs.toArray 43) = W0 at HB ⊢
  generalize w.heap.size = N at HB ⊢
  have k0 := HB.out.k0
  have k1 := HB.out.k1
  have k31 := HB.out.k31
  have k32 := HB.out.k32
  have k33 := HB.out.k33
  have lt := HB.out.lt
  go_upto_region 2 with (first | ((with_reducible refine gate_dst (N := 6) rfl ?_); refine wpList_load_mid rfl 40 (.tmp 5) rfl N 2 rfl (styN n.f2).cells.toList _ HB.out.sty Try.underlying40 rfl HLen.out ?_) | ((try (refine gate_guard (by rfl) ?_; dsimp only)); go_at_call 44; refine (HV.out _).mono ?_; rintro e w1 ⟨rfl, hb⟩; have n_ := Lib.hid (HB.out.below hb); clear hb HB k0 k1 k31 k32 k33 lt; have HB := n_; clear n_; have k0 := HB.out.k0; have k1 := HB.out.k1; have k31 := HB.out.k31; have k32 := HB.out.k32; have k33 := HB.out.k33; have lt := HB.out.lt))
  clear HV HLen
  by_cases q0 : 0 ≤ n.f0
  rotate_left
  focus
    have HR := Lib.hid (not_right (n := n) (by rw [head_iff, sizes_iff]; omega))
    have hd0 : decide (n.f0 < 0) = true := decide_eq_true (by omega)
    (try clear q0)
    go_wp2
    go_ret
    exact ⟨by rw [← HR0.out, HR.out]; rfl, HB.out.b⟩
  have hd0 : decide (n.f0 < 0) = false := decide_eq_false (by omega)
  by_cases q1 : n.f0 ≤ 10
  rotate_left
  focus
    have HR := Lib.hid (not_right (n := n) (by rw [head_iff, sizes_iff]; omega))
    have hd1 : decide (10 < n.f0) = true := decide_eq_true (by omega)
    (try clear q1)
    go_wp2
    go_ret
    exact ⟨by rw [← HR0.out, HR.out]; rfl, HB.out.b⟩
  have hd1 : decide (10 < n.f0) = false := decide_eq_false (by omega)
  cases qv : validB (styN n.f2)
  focus
    have HR := Lib.hid (not_right (n := n) (by rw [head_iff, sizes_iff]; rw [qv]; simp))
    (try clear q2)
    go_wp2
    go_ret
    exact ⟨by rw [← HR0.out, HR.out]; rfl, HB.out.b⟩
  have HVT := Lib.hid qv
  clear qv
  by_cases q3 : n.f3.length ≤ 10000
  rotate_left
  focus
    have HR := Lib.hid (not_right (n := n) (by rw [head_iff, sizes_iff]; omega))
    have hd3 : decide (10000 < (n.f3.length : Int)) = true := decide_eq_true (by omega)
    (try clear q3)
    go_wp2
    go_ret
    exact ⟨by rw [← HR0.out, HR.out]; rfl, HB.out.b⟩
  have hd3 : decide (10000 < (n.f3.length : Int)) = false := decide_eq_false (by omega)
  by_cases q4 : 0 ≤ n.f4
  rotate_left
  focus
    have HR := Lib.hid (not_right (n := n) (by rw [head_iff, sizes_iff]; omega))
    have hd4 : decide (n.f4 < 0) = true := decide_eq_true (by omega)
    (try clear q4)
    go_wp2
    go_ret
    exact ⟨by rw [← HR0.out, HR.out]; rfl, HB.out.b⟩
  have hd4 : decide (n.f4 < 0) = false := decide_eq_false (by omega)
  by_cases q5 : n.f4 ≤ 1073741824
  rotate_left
  focus
    have HR := Lib.hid (not_right (n := n) (by rw [head_iff, sizes_iff]; omega))
    have hd5 : decide (1073741824 < n.f4) = true := decide_eq_true (by omega)
    (try clear q5)
    go_wp2
    go_ret
    exact ⟨by rw [← HR0.out, HR.out]; rfl, HB.out.b⟩
  have hd5 : decide (1073741824 < n.f4) = false := decide_eq_false (by omega)
  by_cases q6 : 0 ≤ n.f5
  rotate_left
  focus
    have HR := Lib.hid (not_right (n := n) (by rw [head_iff, sizes_iff]; omega))
    have hd6 : decide (n.f5 < 0) = true := decide_eq_true (by omega)
    (try clear q6)
    go_wp2
    go_ret
    exact ⟨by rw [← HR0.out, HR.out]; rfl, HB.out.b⟩
  have hd6 : decide (n.f5 < 0) = false := decide_eq_false (by omega)
  by_cases q7 : n.f5 ≤ 1073741824
  rotate_left
  focus
    have HR := Lib.hid (not_right (n := n) (by rw [head_iff, sizes_iff]; omega))
    have hd7 : decide (1073741824 < n.f5) = true := decide_eq_true (by omega)
    (try clear q7)
    go_wp2
    go_ret
    exact ⟨by rw [← HR0.out, HR.out]; rfl, HB.out.b⟩
  have hd7 : decide (1073741824 < n.f5) = false := decide_eq_false (by omega)
  have HHS := Lib.hid (show headB n = true ∧ sizesB n = true from ⟨(head_iff n).2 ⟨q0, q1, HVT.out, q3⟩, (sizes_iff n).2 ⟨q4, q5, q6, q7⟩⟩)
  have hm3 : n.f3.length ≤ 10000 := q3
  clear q0 q1 q3 q4 q5 q6 q7 HVT
  go_wp2
  clear hd0 hd1 hd3 hd4 hd5 hd6 hd7
  have HB0 := Aside0.mk HB.out
  clear HB k0 k1 k31 k32 k33 lt
  go_loopw [4] (fun i wr => ∃ j : Nat, j ≤ n.f3.length ∧ i = .int .i64 j ∧ Aside0 (∀ (q : Nat) (x : Int), q < j → n.f3[q]? = some x → lengthB x = true) ∧ Aside0 (BoxC w wr n N A1 c1 A3 c3)) (fun i _ => n.f3.length - (intOf i).toNat)
  case atStart => exact ⟨0, Nat.zero_le _, rfl, ⟨fun q x hq => absurd hq (Nat.not_lt_zero _)⟩, HB0⟩
  case round =>
    obtain ⟨j, hj, rfl, HA, HB⟩ := hrel
    clear HB0
    have k0 := HB.out.k0
    have k1 := HB.out.k1
    have k31 := HB.out.k31
    have k32 := HB.out.k32
    have k33 := HB.out.k33
    have lt := HB.out.lt
    by_cases hlt : j < n.f3.length
    · have hltz : (j : Int) < (n.f3.length : Int) := by omega
      obtain ⟨x, hx⟩ : ∃ x, n.f3[j]? = some x := ⟨_, List.getElem?_eq_getElem hlt⟩
      have HX := Lib.hid hx
      obtain ⟨ar, hAr, hcells⟩ := HB.out.w3.2.2 (by omega)
      obtain ⟨cc, hcl, hK, hcell⟩ := hcells j x hx
      obtain rfl : cc = [.int .i64 x] := hK
      have hx0 : wr.cell? (ar.add j) = some (.int .i64 x) := by have h := hcell 0 _ rfl; rwa [show ((Kd.int .i64).sz) = 1 from rfl, Nat.mul_one] at h
      subst hAr
      clear hcells hcell hcl hx
      by_cases b0 : x < 0
      focus
        have hb0 : decide (x < 0) = true := decide_eq_true b0
        have HR := Lib.hid (show rightN n = false from by
          rw [rightN_eq, show n.f3.all lengthB = false from by
            rw [Bool.eq_false_iff]; intro h
            have := List.all_eq_true.1 h x (List.mem_of_getElem? HX.out)
            unfold lengthB at this; simp at this; omega]
          simp)
        clear b0
        go_wp2
        go_ret
        exact ⟨by rw [← HR0.out, HR.out]; rfl, HB.out.b⟩
      have hb0 : decide (x < 0) = false := decide_eq_false b0
      by_cases b1 : 1073741824 < x
      focus
        have hb1 : decide (1073741824 < x) = true := decide_eq_true b1
        have HR := Lib.hid (show rightN n = false from by
          rw [rightN_eq, show n.f3.all lengthB = false from by
            rw [Bool.eq_false_iff]; intro h
            have := List.all_eq_true.1 h x (List.mem_of_getElem? HX.out)
            unfold lengthB at this; simp at this; omega]
          simp)
        clear b0 b1
        go_wp2
        go_ret
        exact ⟨by rw [← HR0.out, HR.out]; rfl, HB.out.b⟩
      have hb1 : decide (1073741824 < x) = false := decide_eq_false b1
      have HQ := Lib.hid (show lengthB x = true from by unfold lengthB; simp; omega)
      clear b0 b1
      go_wp2
      go_roundw
      case rel =>
        refine ⟨j + 1, by omega, by go_num, ⟨fun q y hq hy => ?_⟩, HB⟩
        by_cases e : q = j
        · subst e; rw [HX.out] at hy; cases hy; exact HQ.out
        · exact HA.out q y (by omega) hy
      case measure => simp [intOf]; omega
    · have hjl : j = n.f3.length := by omega
      subst hjl
      have HR := Lib.hid (show rightN n = (if n.f0 = 1 then decide (n.f1.length = 0) else if n.f0 = 5 then decide (n.f1.length = 0) && bareB n else bareB n) from by
        rw [rightN_eq, HHS.out.1, HHS.out.2, show n.f3.all lengthB = true from List.all_eq_true.2 (fun x hx => by
          obtain ⟨i, hi⟩ := List.getElem?_of_mem hx
          exact HA.out i x (List.getElem?_eq_some_iff.1 hi).1 hi)]; rfl)
      have HBb := Lib.hid HB.out.b
      have hr := HR0.out.symm.trans HR.out
      clear HR HR0 HB HA HHS HL3 hm3
      unfold bareB at hr
      generalize n.f3.length = m3 at hr k31 ⊢
      generalize n.f1.length = m1 at hr k1 ⊢
      generalize n.f4 = x4 at hr k32 ⊢
      generalize n.f5 = x5 at hr k33 ⊢
      generalize n.f0 = x0 at hr k0 ⊢
      subst hr
      have hb : (m3 = 0 ∧ x4 = 0 ∧ x5 = 0) ∨ (m3 = 0 ∧ x4 = 0 ∧ x5 ≠ 0) ∨ (m3 = 0 ∧ x4 ≠ 0) ∨ m3 ≠ 0 := by omega
      have hk : x0 = 1 ∨ x0 = 5 ∨ (x0 ≠ 1 ∧ x0 ≠ 5) := by omega
      rcases hb with ⟨rfl, rfl, rfl⟩ | ⟨rfl, rfl, e5⟩ | ⟨rfl, e4⟩ | e3
      rotate_left
      have h5 : (x5 == 0) = false := by simpa using e5
      rotate_left
      have h4 : (x4 == 0) = false := by simpa using e4
      rotate_left
      have h3 : decide ((0 : Int) < (m3 : Int)) = true := decide_eq_true (by omega)
      have h3' : decide (0 < m3) = true := decide_eq_true (by omega)
      rotate_left
      all_goals by_cases e1 : m1 = 0
      all_goals first | subst e1 | skip
      all_goals rcases hk with rfl | rfl | ⟨e01, e05⟩
      all_goals (try have h01 : (x0 == 1) = false := by simpa using e01)
      all_goals (try have h05 : (x0 == 5) = false := by simpa using e05)
      all_goals (try have h1 : ((m1 : Int) == 0) = false := by simp; omega)
      all_goals (try have h1' : (m1 == 0) = false := by simpa using e1)
      all_goals go_wp2
      all_goals go_ret
      all_goals refine ⟨?_, HBb.out⟩
      all_goals first | (simp [*]; done) | (rename_i hz; exfalso; revert hz; simp [*]; done)
end Go.Proofs.Ytjhpkikgajgdmaa.K
namespace Go.Proofs.Ytjhpkikgajgdmaa.K
open Go.RowKit Go.Proofs.YtjhpkikgajgdmaaW.PrintWords Go.Proofs.YtjhpkikgajgdmaaW.PrintLast Go.Proofs.YtjhpkikgajgdmaaW.PrintMore
set_option linter.unusedVariables false
set_option linter.unusedSimpArgs false
/-- node i of a page, its cells told as one -/
theorem node_at {w W : World} {A : Option Addr} {l : List Nd} (h : Kd.C k43 w A l.length l) (hb : Below w.heap.size w W) (i : Int) (h0 : 0 ≤ i) (h1 : i < l.length) :
    ∃ ad cs A1 c1 A3 c3, A = some ad ∧ (Try.prog.info? 43).map (·.size) = some cs.length ∧ (∀ (j : Nat) (v : Value), cs[j]? = some v → W.cell? ((ad.add (i.toNat * 34)).add j) = some v) ∧ NodeC W (rd_T43 l i) cs A1 c1 A3 c3 := by
  obtain ⟨CS, hCS⟩ := nodesAt_of h
  obtain ⟨j, rfl⟩ := Int.eq_ofNat_of_zero_le h0
  have hj : j < l.length := by omega
  obtain ⟨ad, hA, hlen, hone, hcells, hK⟩ := (hCS.below hb) j l[j] (List.getElem?_eq_getElem hj)
  obtain ⟨A1, c1, A3, c3, hN⟩ := nodeC_of hK
  have hrd : rd_T43 l ((j : Nat) : Int) = l[j] := by unfold rd_T43; rw [Int.toNat_natCast, List.getD_eq_getElem?_getD, List.getElem?_eq_getElem hj]; rfl
  refine ⟨ad, CS j, A1, c1, A3, c3, hA, by rw [hlen]; kernel_rfl, fun q v hv => by rw [add_add]; exact hcells q v hv, by rw [hrd]; exact hN⟩
def purflingref04_right.f (a0_0 : Int) (l0_1 : List Int) (a0_2 : Int) (a0_3 : Int) (a0_4 : Int) (a0_5 : Int) (a0_6 : Int) (a0_7 : Int) (a0_8 : Int) (a0_9 : Int) (a0_10 : Int) (a0_11 : Int) (a0_12 : Int) (a0_13 : Int) (a0_14 : Int) (a0_15 : Int) (a0_16 : Int) (a0_17 : Int) (a0_18 : Int) (a0_19 : Int) (a0_20 : Int) (a0_21 : Int) (a0_22 : Int) (a0_23 : Int) (a0_24 : Int) (a0_25 : Bool) (a0_26 : Bool) (a0_27 : Int) (a0_28 : Int) (a0_29 : Bool) (a0_30 : Bool) (l0_31 : List Int) (a0_32 : Int) (a0_33 : Int) : Option (Bool) := some (rightN (⟨a0_0, l0_1, ⟨⟨a0_2, a0_3⟩, ⟨a0_4, a0_5⟩, ⟨a0_6, a0_7, a0_8, a0_9⟩, ⟨⟨a0_10, a0_11, a0_12⟩, ⟨a0_13, a0_14, a0_15⟩, ⟨a0_16, a0_17, a0_18⟩, ⟨a0_19, a0_20, a0_21⟩⟩, a0_22, a0_23, a0_24, a0_25, a0_26, ⟨a0_27, a0_28⟩, a0_29, a0_30⟩, l0_31, a0_32, a0_33⟩ : Nd))
end Go.Proofs.Ytjhpkikgajgdmaa.K
