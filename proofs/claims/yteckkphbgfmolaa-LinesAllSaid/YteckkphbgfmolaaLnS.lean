/- Layer 8: LinesSums, the walk and the plain law. -/
import Derived.Test.YteckkphbgfmolaaLnH
import Derived.Test.YteckkphbgfmolaaOpens
namespace Go.Proofs.Yteckkphbgfmolaa.Pure
open Go.RowKit Go.Proofs.Yteckkphbgfmolaa.K Go.Proofs.YteckkphbgfmolaaW.PrintWords Go.Proofs.YteckkphbgfmolaaW.PrintLast Go.Proofs.YteckkphbgfmolaaW.PrintMore
set_option linter.unusedVariables false
set_option linter.unusedSimpArgs false
theorem wideP_split (ws : List Int) (blank : Int) (f m t : Nat) (h1 : f ≤ m) (h2 : m ≤ t) (h3 : t ≤ ws.length) : wideP ws blank f t = wideP ws blank f m + wideP ws blank m t + (if f < m ∧ m < t then blank else 0) := by
  unfold wideP
  have e : (ws.take t).drop f = (ws.take m).drop f ++ (ws.take t).drop m := by
    have e1 : ws.take m = (ws.take t).take m := by rw [List.take_take]; congr 1; omega
    have e2 : (ws.take t) = (ws.take t).take m ++ (ws.take t).drop m := (List.take_append_drop m _).symm
    conv => lhs; rw [e2]
    rw [List.drop_append_of_le_length (by rw [List.length_take, List.length_take]; omega), ← e1]
  rw [e, List.sum_append]
  have hb : blank * ((t - f - 1 : Nat) : Int) = blank * ((m - f - 1 : Nat) : Int) + blank * ((t - m - 1 : Nat) : Int) + (if f < m ∧ m < t then blank else 0) := by
    split
    · rename_i h
      rw [show t - f - 1 = (m - f - 1) + (t - m - 1) + 1 by omega]
      rw [Int.natCast_add, Int.natCast_add, Int.mul_add, Int.mul_add]; simp
    · rename_i h
      by_cases hm : f < m
      · obtain rfl : m = t := by omega
        rw [show m - m - 1 = 0 by omega]; simp
      · obtain rfl : f = m := by omega
        rw [show f - f - 1 = 0 by omega]; simp
  omega
theorem widesP_yes {n : Nd} {a b : Int} (h : (widesP n a b).2 = 0) : rightB n = true ∧ 0 ≤ a ∧ a ≤ b ∧ b ≤ n.f3.length ∧ (widesP n a b).1 = wideP n.f3 n.f4 a.toNat b.toNat := by
  unfold widesP at h ⊢
  split at h
  · rename_i hh
    rw [if_pos hh]
    rw [Bool.and_eq_true] at hh
    unfold placesB at hh
    simp only [Bool.and_eq_true, decide_eq_true_eq] at hh
    exact ⟨hh.1, hh.2.1.1, hh.2.1.2, hh.2.2, rfl⟩
  · cases h
theorem widesP_of {n : Nd} {a b : Int} (hR : rightB n = true) (h0 : 0 ≤ a) (h1 : a ≤ b) (h2 : b ≤ n.f3.length) : widesP n a b = (wideP n.f3 n.f4 a.toNat b.toNat, 0) := by
  unfold widesP placesB
  rw [hR, decide_eq_true h0, decide_eq_true h1, decide_eq_true h2]; rfl
theorem sums_law (n : Nd) (a m b : Int) (h1 : (widesP n a m).2 = 0) (h2 : (widesP n m b).2 = 0) :
    (widesP n a b).2 = 0 ∧ (widesP n a b).1 = (widesP n a m).1 + (widesP n m b).1 + (if a < m ∧ m < b then n.f4 else 0) ∧ (0 ≤ (widesP n a m).1 ∧ (widesP n a m).1 ≤ 21474836480000) ∧ (0 ≤ (widesP n m b).1 ∧ (widesP n m b).1 ≤ 21474836480000) ∧ (0 ≤ n.f4 ∧ n.f4 ≤ 1073741824) := by
  obtain ⟨hR, ha, ham, hm, e1⟩ := widesP_yes h1
  obtain ⟨-, hm0, hmb, hb, e2⟩ := widesP_yes h2
  obtain ⟨-, hl, hbl, -, hw⟩ := right_facts hR
  obtain ⟨a, rfl⟩ := Int.eq_ofNat_of_zero_le ha
  obtain ⟨m, rfl⟩ := Int.eq_ofNat_of_zero_le hm0
  obtain ⟨b, rfl⟩ := Int.eq_ofNat_of_zero_le (show 0 ≤ b by omega)
  rw [widesP_of hR ha (by omega) hb, e1, e2]
  simp only [Int.toNat_natCast]
  refine ⟨trivial, ?_, wideP_bound hw hl hbl _ _ (by omega), wideP_bound hw hl hbl _ _ (by omega), hbl⟩
  rw [wideP_split n.f3 n.f4 a m b (by omega) (by omega) (by omega)]
  congr 1
  by_cases h : a < m ∧ m < b
  · rw [if_pos h, if_pos (by omega)]
  · rw [if_neg h, if_neg (by omega)]
end Go.Proofs.Yteckkphbgfmolaa.Pure
namespace Go.Proofs.Yteckkphbgfmolaa.K
open Go.RowKit Go.Proofs.YteckkphbgfmolaaW.PrintWords Go.Proofs.YteckkphbgfmolaaW.PrintLast Go.Proofs.YteckkphbgfmolaaW.PrintMore Go.Proofs.Yteckkphbgfmolaa.Pure
set_option linter.unusedVariables false
set_option linter.unusedSimpArgs false
set_option maxRecDepth 100000 in
set_option maxHeartbeats 4000000 in
theorem sums_any (A1 : Option Addr) (c1 : Nat) (A3 : Option Addr) (c3 : Nat) (n : Nd) (a m b : Int) (w : World) (hr1 : Kd.C (Kd.int .i64) w A1 n.f1.length n.f1) (hc1 : n.f1.length ≤ c1) (hr3 : Kd.C (Kd.int .i64) w A3 n.f3.length n.f3) (hc3 : n.f3.length ≤ c3) :
    Calls Try.prog 8 #[.agg (nodeC A1 c1 A3 c3 n), .int .i64 a, .int .i64 m, .int .i64 b] w fun e w' => e = .returned (.bool true) ∧ Below w.heap.size w w' := by
  have hk1 := nodeK A1 c1 A3 c3 n
  have hk2 := nodeK A1 c1 A3 c3 (cutN n)
  have hcut := fun (V : World) (hV : Below w.heap.size w V) => cut_any A1 c1 A3 c3 n V (Kd.C_below hr1 hV) hc1 (Kd.C_below hr3 hV) hc3
  have hd3 := cutN_C hr3
  have hdc := cutN_le (n := n) hc3
  have hw := fun (V : World) (hV : Below w.heap.size w V) (x y : Int) => wide_any A1 c1 A3 c3 (cutN n) x y V (Kd.C_below hr1 hV) hc1 (Kd.C_below hd3 hV) hdc
  have hlaw := sums_law (cutN n) a m b
  have q32 : (nodeC A1 c1 A3 c3 (cutN n))[32]? = some (.int .i64 (cutN n).f4) := rfl
  obtain ⟨x1, hx1⟩ : ∃ x, x = (widesP (cutN n) a m).1 := ⟨_, rfl⟩
  obtain ⟨x2, hx2⟩ : ∃ x, x = (widesP (cutN n) a m).2 := ⟨_, rfl⟩
  obtain ⟨y1, hy1⟩ : ∃ x, x = (widesP (cutN n) m b).1 := ⟨_, rfl⟩
  obtain ⟨y2, hy2⟩ : ∃ x, x = (widesP (cutN n) m b).2 := ⟨_, rfl⟩
  obtain ⟨z1, hz1⟩ : ∃ x, x = (widesP (cutN n) a b).1 := ⟨_, rfl⟩
  obtain ⟨z2, hz2⟩ : ∃ x, x = (widesP (cutN n) a b).2 := ⟨_, rfl⟩
  have HX := Lib.hid fun (V : World) (hV : Below w.heap.size w V) => hx1 ▸ hx2 ▸ hw V hV a m
  have HYY := Lib.hid fun (V : World) (hV : Below w.heap.size w V) => hy1 ▸ hy2 ▸ hw V hV m b
  have HZ := Lib.hid fun (V : World) (hV : Below w.heap.size w V) => hz1 ▸ hz2 ▸ hw V hV a b
  rw [← hx1, ← hx2, ← hy1, ← hy2, ← hz1, ← hz2] at hlaw
  clear hw hx1 hx2 hy1 hy2 hz1 hz2
  obtain ⟨bl, hbl⟩ : ∃ bl, bl = (cutN n).f4 := ⟨_, rfl⟩
  rw [← hbl] at hlaw q32
  clear hbl
  have HLAW := Lib.hid hlaw
  have Q32 := Lib.hid q32
  clear hlaw q32
  have HK1 := Lib.hid hk1
  have HK2 := Lib.hid hk2
  have HCUT := Lib.hid hcut
  clear hk1 hk2 hcut hr1 hr3 hc1 hc3 hd3 hdc
  generalize nodeC A1 c1 A3 c3 (cutN n) = cs2 at *
  generalize nodeC A1 c1 A3 c3 n = cs at *
  go_enter Try.func8, Try.ntmps8
  go_upto_region 6 with (first | (refine wpList_load_mid rfl 35 _ rfl _ _ rfl _ _ hrow1 Try.underlying35 rfl HK1.out.len ?_) | (refine wpList_load_mid rfl 35 _ rfl _ _ rfl _ _ hrow Try.underlying35 rfl HK2.out.len ?_) | (go_at_call 10; refine (shown_any _).mono ?_; rintro e w1 ⟨rfl, hb⟩; have HBK1 := Lib.hid (Blk.below (Blk.new w 35 cs) hb (by simp)); have HB := Lib.hid (((Below.refl _ w).alloc (Nat.le_refl _) (.cells cs 35)).trans (hb.mono (by simp))); clear hb; have hrow1 := Blk.range HBK1.out) | (go_at_call 11; refine (HCUT.out _ HB.out).mono ?_; rintro e w2 ⟨rfl, hb⟩; have n0_ := Lib.hid (Blk.below HBK1.out hb (Blk.lt HBK1.out)); have n1_ := Lib.hid (HB.out.trans (hb.mono HB.out.size)); clear HBK1 HB; have HBK1 := n0_; have HB := n1_; clear n0_ n1_ hb hrow1; have hT := Blk.there HBK1.out cs2.size (by rw [HK1.out.size, HK2.out.size]; exact Nat.le_refl _)) | (refine wpList_store_mid rfl 35 _ _ rfl (w.heap.size) 0 cs2 rfl rfl hT HK2.out.len2 HK2.out.one ?_; have HBK := Lib.hid (HBK1.out.setCells cs2.toList (by rw [Array.length_toList, HK1.out.size, HK2.out.size])); have n1_ := Lib.hid (below_setCells' (b := w.heap.size) (Nat.le_refl _) cs2.toList 0 HB.out); clear HB; have HB := n1_; clear n1_ HBK1 hT; generalize w2.setCells w.heap.size 0 cs2.toList = w3 at HBK HB ⊢; have hrow := Blk.range HBK.out) | (go_at_call 19; (first | (with_reducible refine (HX.out _ HB.out).mono ?_) | (with_reducible refine (HYY.out _ HB.out).mono ?_) | (with_reducible refine (HZ.out _ HB.out).mono ?_)); rintro e w5 ⟨rfl, hb⟩; have n0_ := Lib.hid (Blk.below HBK.out hb (Blk.lt HBK.out)); have n1_ := Lib.hid (HB.out.trans (hb.mono HB.out.size)); clear HBK HB; have HBK := n0_; have HB := n1_; clear n0_ n1_ hb; replace hrow := Blk.range HBK.out))
  have y32 : w5.cell? ⟨w.heap.size, 32, none⟩ = some (.int .i64 bl) := (Blk.cell HBK.out 32).trans (by rw [Array.toArray_toList]; exact Q32.out)
  by_cases hx : x2 = 0
  · subst hx
    by_cases hy : y2 = 0
    · subst hy
      obtain ⟨rfl, hz1, hx1, hy1, hbl⟩ := HLAW.out rfl rfl
      clear HLAW HX HYY HZ
      have hw1 : IntKind.i64.wrap (x1 + y1) = x1 + y1 := IntWalk.i64_in _ (by omega)
      by_cases ha : a < m
      · have ha1 : decide (a < m) = true := decide_eq_true ha
        by_cases hm : m < b
        · have hm1 : decide (m < b) = true := decide_eq_true hm
          have hw2 : IntKind.i64.wrap (x1 + y1 + bl) = x1 + y1 + bl := IntWalk.i64_in _ (by omega)
          rw [if_pos ⟨ha, hm⟩] at hz1
          subst hz1
          have he : (x1 + y1 + bl == x1 + y1 + bl) = true := beq_self_eq_true _
          go_wp2
          go_ret
          exact ⟨by simp, HB.out⟩
        · have hm1 : decide (m < b) = false := decide_eq_false hm
          rw [if_neg (fun h => hm h.2), Int.add_zero] at hz1
          subst hz1
          have he : (x1 + y1 == x1 + y1) = true := beq_self_eq_true _
          go_wp2
          go_ret
          exact ⟨by simp, HB.out⟩
      · have ha1 : decide (a < m) = false := decide_eq_false ha
        rw [if_neg (fun h => ha h.1), Int.add_zero] at hz1
        subst hz1
        have he : (x1 + y1 == x1 + y1) = true := beq_self_eq_true _
        go_wp2
        go_ret
        exact ⟨by simp, HB.out⟩
    · have hy1 : (y2 != 0) = true := bne_iff_ne.mpr hy
      clear HLAW HX HYY HZ
      go_wp2
      go_ret
      exact ⟨rfl, HB.out⟩
  · have hx1 : (x2 != 0) = true := bne_iff_ne.mpr hx
    clear HLAW HX HYY HZ
    go_wp2
    go_ret
    exact ⟨rfl, HB.out⟩
def purflinglaw08_LinesSums.f (a0_0 : Int) (l0_1 : List Int) (a0_2 : Int) (a0_3 : Int) (a0_4 : Int) (a0_5 : Int) (a0_6 : Int) (a0_7 : Int) (a0_8 : Int) (a0_9 : Int) (a0_10 : Int) (a0_11 : Int) (a0_12 : Int) (a0_13 : Int) (a0_14 : Int) (a0_15 : Int) (a0_16 : Int) (a0_17 : Int) (a0_18 : Int) (a0_19 : Int) (a0_20 : Int) (a0_21 : Int) (a0_22 : Int) (a0_23 : Int) (a0_24 : Int) (a0_25 : Bool) (a0_26 : Bool) (a0_27 : Int) (a0_28 : Int) (a0_29 : Bool) (a0_30 : Bool) (l0_31 : List Int) (a0_32 : Int) (a0_33 : Int) (a : Int) (m : Int) (b : Int) : Option Bool := some true
theorem purflinglaw08_LinesSums.calls (a0_0 : Int) (A0_1 : Option Addr) (c0_1 : Nat) (l0_1 : List Int) (a0_2 : Int) (a0_3 : Int) (a0_4 : Int) (a0_5 : Int) (a0_6 : Int) (a0_7 : Int) (a0_8 : Int) (a0_9 : Int) (a0_10 : Int) (a0_11 : Int) (a0_12 : Int) (a0_13 : Int) (a0_14 : Int) (a0_15 : Int) (a0_16 : Int) (a0_17 : Int) (a0_18 : Int) (a0_19 : Int) (a0_20 : Int) (a0_21 : Int) (a0_22 : Int) (a0_23 : Int) (a0_24 : Int) (a0_25 : Bool) (a0_26 : Bool) (a0_27 : Int) (a0_28 : Int) (a0_29 : Bool) (a0_30 : Bool) (A0_31 : Option Addr) (c0_31 : Nat) (l0_31 : List Int) (a0_32 : Int) (a0_33 : Int) (a : Int) (m : Int) (b : Int) (r : Bool) (w : World) (hr0_1 : Kd.C (Kd.int .i64) w A0_1 l0_1.length l0_1) (hc0_1 : l0_1.length ≤ c0_1) (hr0_31 : Kd.C (Kd.int .i64) w A0_31 l0_31.length l0_31) (hc0_31 : l0_31.length ≤ c0_31) (h : purflinglaw08_LinesSums.f a0_0 l0_1 a0_2 a0_3 a0_4 a0_5 a0_6 a0_7 a0_8 a0_9 a0_10 a0_11 a0_12 a0_13 a0_14 a0_15 a0_16 a0_17 a0_18 a0_19 a0_20 a0_21 a0_22 a0_23 a0_24 a0_25 a0_26 a0_27 a0_28 a0_29 a0_30 l0_31 a0_32 a0_33 a m b = some r) :
    Calls Try.prog 8 #[.agg #[.int .i64 a0_0, .slice A0_1 l0_1.length c0_1, .int .i64 a0_2, .int .i64 a0_3, .int .i64 a0_4, .int .i64 a0_5, .int .i64 a0_6, .int .i64 a0_7, .int .i64 a0_8, .int .i64 a0_9, .int .i64 a0_10, .int .i64 a0_11, .int .u32 a0_12, .int .i64 a0_13, .int .i64 a0_14, .int .u32 a0_15, .int .i64 a0_16, .int .i64 a0_17, .int .u32 a0_18, .int .i64 a0_19, .int .i64 a0_20, .int .u32 a0_21, .int .i64 a0_22, .int .i64 a0_23, .int .i64 a0_24, .bool a0_25, .bool a0_26, .int .i64 a0_27, .int .i64 a0_28, .bool a0_29, .bool a0_30, .slice A0_31 l0_31.length c0_31, .int .i64 a0_32, .int .i64 a0_33], .int .i64 a, .int .i64 m, .int .i64 b] w fun e w' => e = .returned (.bool r) ∧ Below w.heap.size w w' := by
  cases h
  exact sums_any A0_1 c0_1 A0_31 c0_31 (⟨a0_0, l0_1, ⟨⟨a0_2, a0_3⟩, ⟨a0_4, a0_5⟩, ⟨a0_6, a0_7, a0_8, a0_9⟩, ⟨⟨a0_10, a0_11, a0_12⟩, ⟨a0_13, a0_14, a0_15⟩, ⟨a0_16, a0_17, a0_18⟩, ⟨a0_19, a0_20, a0_21⟩⟩, a0_22, a0_23, a0_24, a0_25, a0_26, ⟨a0_27, a0_28⟩, a0_29, a0_30⟩, l0_31, a0_32, a0_33⟩ : Nd) a m b w hr0_1 hc0_1 hr0_31 hc0_31
end Go.Proofs.Yteckkphbgfmolaa.K
namespace Go.Proofs.Yteckkphbgfmolaa.Pure
open Go.RowKit Go.Proofs.Yteckkphbgfmolaa.K
set_option linter.unusedVariables false
theorem linesSums_pure (n : Nd) (a : Int) (m : Int) (b : Int) (hn : good_35 n) (hg0 : (Lit.int .i64 a).wf = true) (hg1 : (Lit.int .i64 m).wf = true) (hg2 : (Lit.int .i64 b).wf = true) : purflinglaw08_LinesSums.f (n.f0) (n.f1) (n.f2.f0.f0) (n.f2.f0.f1) (n.f2.f1.f0) (n.f2.f1.f1) (n.f2.f2.f0) (n.f2.f2.f1) (n.f2.f2.f2) (n.f2.f2.f3) (n.f2.f3.f0.f0) (n.f2.f3.f0.f1) (n.f2.f3.f0.f2) (n.f2.f3.f1.f0) (n.f2.f3.f1.f1) (n.f2.f3.f1.f2) (n.f2.f3.f2.f0) (n.f2.f3.f2.f1) (n.f2.f3.f2.f2) (n.f2.f3.f3.f0) (n.f2.f3.f3.f1) (n.f2.f3.f3.f2) (n.f2.f4) (n.f2.f5) (n.f2.f6) (n.f2.f7) (n.f2.f8) (n.f2.f9.f0) (n.f2.f9.f1) (n.f2.f10) (n.f2.f11) (n.f3) (n.f4) (n.f5) a m b = some true := rfl
end Go.Proofs.Yteckkphbgfmolaa.Pure
