/- Layer 8: Wide. -/
import Derived.Test.YteckkphbgfmolaaLnR
import Derived.Test.YteckkphbgfmolaaHeld
import Derived.Test.YteckkphbgfmolaaMul
import Derived.Test.YteckkphbgfmolaaK2
namespace Go.Proofs.Yteckkphbgfmolaa.Pure
open Go.RowKit Go.Proofs.Yteckkphbgfmolaa.K Go.Proofs.YteckkphbgfmolaaW.PrintWords Go.Proofs.YteckkphbgfmolaaW.PrintLast Go.Proofs.YteckkphbgfmolaaW.PrintMore
set_option linter.unusedVariables false
set_option linter.unusedSimpArgs false
theorem bare_small (a : Int) (h : 0 ≤ a ∧ a ≤ 100000000000000) : fixed_bare.f a = some a := by
  have hw : IntKind.u64.wrap a = a := by rw [IntKind.wrap_u64]; omega
  unfold fixed_bare.f fixed_signed.f
  rw [if_neg (by omega)]
  simp only [Option.bind_some]
  rw [hw, show mx a 0 = a by unfold mx; split <;> omega, Int.mul_one, hw]
theorem mul_small (k : Nat) (a b : Int) (ha : 0 ≤ a ∧ a ≤ 2147483648) (hb : 0 ≤ b ∧ b ≤ 100000) : fixed_Mul.f (k + 1) a b = some (a * b) := by
  have h0 : 0 ≤ a * b := Int.mul_nonneg ha.1 hb.1
  have h1 : a * b ≤ 2147483648 * 100000 := Int.mul_le_mul ha.2 hb.2 hb.1 (by omega)
  unfold fixed_Mul.f
  rw [bare_small a (by omega), bare_small b (by omega)]
  simp only [Option.bind_some]
  rw [mul64 a b ha.1 (by omega) hb.1 (by omega)]
  simp only [Option.bind_some]
  rw [Int.ediv_eq_zero_of_lt h0 (by omega), Int.emod_eq_of_lt h0 (by omega), if_pos rfl, if_pos (by omega), decide_eq_false (show ¬ a < 0 by omega), decide_eq_false (show ¬ b < 0 by omega)]
  rw [fixed_Mul.j0, if_neg (by decide), if_pos rfl, if_pos (by omega), wrap_ok (by omega) (by omega)]
theorem sat_fold : ∀ (l : List Int) (s : Int), (∀ x ∈ l, 0 ≤ x ∧ x ≤ 1073741824) → 0 ≤ s → s + 1073741824 * (l.length : Int) ≤ 1000000000000000 → l.foldl satAdd s = s + l.sum
  | [], s, h, h0, h1 => by simp
  | x :: l, s, h, h0, h1 => by
    have hx := h x (List.mem_cons_self ..)
    rw [List.length_cons] at h1
    rw [List.foldl_cons, satAdd_in (by omega) (by omega), sat_fold l (s + x) (fun y hy => h y (List.mem_cons_of_mem _ hy)) (by omega) (by omega), List.sum_cons]; omega
end Go.Proofs.Yteckkphbgfmolaa.Pure
namespace Go.Proofs.Yteckkphbgfmolaa.K
open Go.RowKit Go.Proofs.YteckkphbgfmolaaW.PrintWords Go.Proofs.YteckkphbgfmolaaW.PrintLast Go.Proofs.YteckkphbgfmolaaW.PrintMore Go.Proofs.Yteckkphbgfmolaa.Pure
set_option linter.unusedVariables false
set_option linter.unusedSimpArgs false
theorem c_two (W : World) (t : TypeId) (a b : Int) : Kd.C (Kd.int .i64) (W.alloc (.cells #[.int .i64 a, .int .i64 b] t)) (some ⟨W.heap.size, 0, none⟩) [a, b].length [a, b] :=
  ⟨rfl, by simp, fun _ => ⟨_, rfl, fun j p hj => by
    match j, hj with
    | 0, hj => simp at hj; subst hj; exact ⟨[.int .i64 a], rfl, rfl, fun i u hu => by
        obtain rfl : i = 0 := by have := (List.getElem?_eq_some_iff.1 hu).1; simpa using this
        simp at hu; subst hu; simp [Addr.add]⟩
    | 1, hj => simp at hj; subst hj; exact ⟨[.int .i64 b], rfl, rfl, fun i u hu => by
        obtain rfl : i = 0 := by have := (List.getElem?_eq_some_iff.1 hu).1; simpa using this
        simp at hu; subst hu; simp [Addr.add, Kd.int, Kd.scalar]⟩⟩⟩

/-- which places are right -/
def placesB (len from_ to_ : Int) : Bool := decide (0 ≤ from_) && decide (from_ ≤ to_) && decide (to_ ≤ len)
set_option maxRecDepth 100000 in
set_option maxHeartbeats 4000000 in
theorem wide_no (A1 : Option Addr) (c1 : Nat) (A3 : Option Addr) (c3 : Nat) (n : Nd) (from_ to_ : Int) (w : World) (hr1 : Kd.C (Kd.int .i64) w A1 n.f1.length n.f1) (hc1 : n.f1.length ≤ c1) (hr3 : Kd.C (Kd.int .i64) w A3 n.f3.length n.f3) (hc3 : n.f3.length ≤ c3) (hR : (rightB n && placesB n.f3.length from_ to_) = false) :
    Calls Try.prog 19 #[.agg (nodeC A1 c1 A3 c3 n), .int .i64 from_, .int .i64 to_] w fun e w' => e = .returned (.tuple #[.int .i64 0, .int .i64 90]) ∧ Below w.heap.size w w' := by
  have hn := right_any A1 c1 A3 c3 n (w.alloc (.cells (nodeC A1 c1 A3 c3 n) 35)) (Kd.C_alloc hr1 _) hc1 (Kd.C_alloc hr3 _) hc3
  have hrow : (w.alloc (.cells (nodeC A1 c1 A3 c3 n) 35)).rangeAt w.heap.size 0 (nodeC A1 c1 A3 c3 n).toList := (Blk.new w 35 (nodeC A1 c1 A3 c3 n)).range
  have hlen : (Try.prog.info? 35).map (·.size) = some (nodeC A1 c1 A3 c3 n).toList.length := by kernel_rfl
  have q31 : (nodeC A1 c1 A3 c3 n)[31]? = some (.slice A3 n.f3.length c3) := rfl
  obtain ⟨len, hlen0⟩ : ∃ len, len = n.f3.length := ⟨_, rfl⟩
  rw [← hlen0] at q31 hR
  have hr : rightB n = false ∨ from_ < 0 ∨ to_ < from_ ∨ (len : Int) < to_ := by
    cases hq : rightB n with
    | false => exact .inl rfl
    | true =>
      rw [hq] at hR
      unfold placesB at hR
      simp at hR
      omega
  have HN := Lib.hid hn
  have HLEN := Lib.hid hlen
  have Q31 := Lib.hid q31
  clear hn hR hr1 hr3 hc1 hc3 hlen hlen0 q31
  obtain ⟨rb, hrb⟩ : ∃ rb, rb = rightB n := ⟨_, rfl⟩
  rw [← hrb] at HN hr
  clear hrb
  generalize nodeC A1 c1 A3 c3 n = cs at HN hrow HLEN Q31 ⊢
  go_enter Try.func19, Try.ntmps19
  have fin : ∀ w1 : World, Below (w.alloc (.cells cs 35)).heap.size (w.alloc (.cells cs 35)) w1 → Below w.heap.size w w1 := fun w1 h => ((Below.refl _ w).alloc (Nat.le_refl _) _).trans (h.mono (by simp))
  have FIN := Lib.hid fin
  have y31 : ∀ w1 : World, Below (w.alloc (.cells cs 35)).heap.size (w.alloc (.cells cs 35)) w1 → w1.cell? ⟨w.heap.size, 31, none⟩ = some (.slice A3 len c3) := fun w1 h => (Blk.cell (Blk.below (Blk.new w 35 cs) h (by simp)) 31).trans Q31.out
  have Y31 := Lib.hid y31
  clear fin y31
  cases rb
  · go_wp2_with (first | (refine wpList_load_mid rfl 35 _ rfl _ _ rfl _ _ hrow Try.underlying35 rfl HLEN.out ?_) | (go_at_call 15; refine HN.out.mono ?_; rintro e w1 ⟨rfl, hb1⟩; have HB1 := Lib.hid hb1; clear hb1))
    go_ret2
    exact ⟨rfl, FIN.out _ HB1.out⟩
  · by_cases q0 : from_ < 0
    · go_wp2_with (first | (refine wpList_load_mid rfl 35 _ rfl _ _ rfl _ _ hrow Try.underlying35 rfl HLEN.out ?_) | (go_at_call 15; refine HN.out.mono ?_; rintro e w1 ⟨rfl, hb1⟩; have HB1 := Lib.hid hb1; clear hb1))
      go_ret2
      exact ⟨rfl, FIN.out _ HB1.out⟩
    · by_cases q1 : to_ < from_
      · go_wp2_with (first | (refine wpList_load_mid rfl 35 _ rfl _ _ rfl _ _ hrow Try.underlying35 rfl HLEN.out ?_) | (go_at_call 15; refine HN.out.mono ?_; rintro e w1 ⟨rfl, hb1⟩; have HB1 := Lib.hid hb1; clear hb1))
        go_ret2
        exact ⟨rfl, FIN.out _ HB1.out⟩
      · have q2 : (len : Int) < to_ := by rcases hr with h | h | h | h <;> first | exact absurd h (by decide) | omega
        go_wp2_with (first | (refine wpList_load_mid rfl 35 _ rfl _ _ rfl _ _ hrow Try.underlying35 rfl HLEN.out ?_) | (go_at_call 15; refine HN.out.mono ?_; rintro e w1 ⟨rfl, hb1⟩; have HB1 := Lib.hid hb1; have y31 := Y31.out w1 hb1; clear hb1))
        go_ret2
        exact ⟨rfl, FIN.out _ HB1.out⟩

set_option maxRecDepth 100000 in
set_option maxHeartbeats 4000000 in
theorem wide_yes (A1 : Option Addr) (c1 : Nat) (A3 : Option Addr) (c3 : Nat) (n : Nd) (f t : Nat) (hf : f ≤ t) (ht : t ≤ n.f3.length) (w : World) (hr1 : Kd.C (Kd.int .i64) w A1 n.f1.length n.f1) (hc1 : n.f1.length ≤ c1) (hr3 : Kd.C (Kd.int .i64) w A3 n.f3.length n.f3) (hc3 : n.f3.length ≤ c3) (hR : rightB n = true) :
    Calls Try.prog 19 #[.agg (nodeC A1 c1 A3 c3 n), .int .i64 (f : Int), .int .i64 (t : Int)] w fun e w' => e = .returned (.tuple #[.int .i64 (wideP n.f3 n.f4 f t), .int .i64 0]) ∧ Below w.heap.size w w' := by
  have hn := right_any A1 c1 A3 c3 n (w.alloc (.cells (nodeC A1 c1 A3 c3 n) 35)) (Kd.C_alloc hr1 _) hc1 (Kd.C_alloc hr3 _) hc3
  rw [hR] at hn
  have hrow : (w.alloc (.cells (nodeC A1 c1 A3 c3 n) 35)).rangeAt w.heap.size 0 (nodeC A1 c1 A3 c3 n).toList := (Blk.new w 35 (nodeC A1 c1 A3 c3 n)).range
  have hlen : (Try.prog.info? 35).map (·.size) = some (nodeC A1 c1 A3 c3 n).toList.length := by kernel_rfl
  have q31 : (nodeC A1 c1 A3 c3 n)[31]? = some (.slice A3 n.f3.length c3) := rfl
  have q32 : (nodeC A1 c1 A3 c3 n)[32]? = some (.int .i64 n.f4) := rfl
  obtain ⟨-, hl, hb, -, hw⟩ := right_facts hR
  obtain ⟨ii, hii, _, hsz, _⟩ := info_parts info2
  obtain ⟨A', hsl, hrd, hcp⟩ := print_mid_of (P := Try.prog) (Value.int .i64) 0 33 2 .i64 .i64 Try.underlying33 hii hsz A3 c3 n.f3 (f : Int) (t : Int) (by omega) (by omega) (by omega) hc3
  have hadd1 : ∀ V : World, Below w.heap.size w V → Calls Try.prog 29 #[.slice A' ((n.f3.take ((t : Int)).toNat).drop ((f : Int)).toNat).length (c3 - ((f : Int)).toNat)] V fun e w' => e = .returned (.int .i64 ((n.f3.take ((t : Int)).toNat).drop ((f : Int)).toNat).sum) ∧ V = w' := fun V hV => by
    have h := add_any A' (c3 - ((f : Int)).toNat) ((n.f3.take ((t : Int)).toNat).drop ((f : Int)).toNat) V (Kd.C_of_reads (h1 := fun _ => rfl) (hrd _ (Kd.reads_of_C (Kd.C_below hr3 hV)))) (fun x hx => by have := hw x (List.mem_of_mem_take (List.mem_of_mem_drop hx)); unfold I64; omega)
    rw [sat_fold _ 0 (fun x hx => hw x (List.mem_of_mem_take (List.mem_of_mem_drop hx))) (by omega) (by rw [List.length_drop, List.length_take]; omega), Int.zero_add] at h
    exact h
  have hbd := wideP_bound hw hl hb f t ht
  have hsum := sum_bound ((n.f3.take t).drop f) (fun x hx => hw x (List.mem_of_mem_take (List.mem_of_mem_drop hx)))
  have hsl2 : ((n.f3.take t).drop f).length ≤ 10000 := by rw [List.length_drop, List.length_take]; omega
  simp only [Int.toNat_natCast] at hsl hadd1
  obtain ⟨m, hm⟩ : ∃ m : Nat, m = t - f - 1 := ⟨_, rfl⟩
  have hmul : ∀ V : World, Calls Try.prog 26 #[.int .i64 n.f4, .int .i64 (m : Int)] V fun e w' => e = .returned (.int .i64 (n.f4 * (m : Int))) ∧ Below V.heap.size V w' := fun V => fixed_Mul.calls 1 n.f4 (m : Int) _ V (mul_small 0 n.f4 (m : Int) (by omega) (by omega))
  have hmb : 0 ≤ n.f4 * (m : Int) ∧ n.f4 * (m : Int) ≤ 1073741824 * 10000 := ⟨Int.mul_nonneg hb.1 (by omega), Int.mul_le_mul hb.2 (by omega) (by omega) (by omega)⟩
  have hres : wideP n.f3 n.f4 f t = ((n.f3.take t).drop f).sum + n.f4 * (m : Int) := by unfold wideP; rw [hm]
  have hmx : (if (t : Int) - (f : Int) - 1 < 0 then 0 else (t : Int) - (f : Int) - 1) = (m : Int) := by split <;> omega
  obtain ⟨s1, hs1⟩ : ∃ s1, s1 = ((n.f3.take t).drop f).sum := ⟨_, rfl⟩
  obtain ⟨s2, hs2⟩ : ∃ s2, s2 = n.f4 * (m : Int) := ⟨_, rfl⟩
  rw [← hs1, ← hs2] at hres
  rw [← hs1] at hsum hadd1
  rw [← hs2] at hmb hmul
  have hadd2 : ∀ V : World, Calls Try.prog 29 #[.slice (some ⟨V.heap.size, 0, none⟩) 2 2] (V.alloc (.cells #[.int .i64 s1, .int .i64 s2] 2)) fun e w' => e = .returned (.int .i64 (wideP n.f3 n.f4 f t)) ∧ (V.alloc (.cells #[.int .i64 s1, .int .i64 s2] 2)) = w' := fun V => by
    have h := add_any (some ⟨V.heap.size, 0, none⟩) 2 [s1, s2] (V.alloc (.cells #[.int .i64 s1, .int .i64 s2] 2)) (c_two V 2 s1 s2) (fun x hx => by simp at hx; unfold I64; rcases hx with rfl | rfl <;> omega)
    have e : [s1, s2].foldl satAdd 0 = wideP n.f3 n.f4 f t := by
      have e1 : satAdd 0 s1 = s1 := by rw [satAdd_in (by omega) (by omega)]; omega
      have e2 : satAdd s1 s2 = s1 + s2 := satAdd_in (by omega) (by omega)
      simp only [List.foldl_cons, List.foldl_nil]
      rw [e1, e2, hres]
    rw [e] at h
    exact h
  have HN := Lib.hid hn
  have HL0 := Lib.hid hl
  have HLEN := Lib.hid hlen
  have Q31 := Lib.hid q31
  have Q32 := Lib.hid q32
  have HA1 := Lib.hid hadd1
  have HA2 := Lib.hid hadd2
  have HM := Lib.hid hmul
  have HMX := Lib.hid hmx
  clear hmx
  clear hn hR hr1 hr3 hc1 hc3 hlen q31 q32 hw hbd hsum hsl2 hmb hres hs1 hs2 hadd1 hadd2 hmul hrd hcp hii hsz hm hb hl
  obtain ⟨wd, hwd⟩ : ∃ wd, wd = wideP n.f3 n.f4 f t := ⟨_, rfl⟩
  rw [← hwd] at HA2 ⊢
  obtain ⟨bl, hbl⟩ : ∃ bl, bl = n.f4 := ⟨_, rfl⟩
  rw [← hbl] at HM Q32
  obtain ⟨len, hlen0⟩ : ∃ len, len = n.f3.length := ⟨_, rfl⟩
  have HLN : Hid (len ≤ 10000) := Lib.hid (by rw [hlen0]; exact HL0.out)
  rw [← hlen0] at Q31 ht hsl
  obtain ⟨sub, hsub⟩ : ∃ sub, sub = ((n.f3.take t).drop f).length := ⟨_, rfl⟩
  rw [← hsub] at hsl HA1
  clear hwd hbl hlen0 hsub
  have htz : (t : Int) ≤ (len : Int) := by omega
  have hfz : (f : Int) ≤ (t : Int) := by omega
  have ht10 : len ≤ 10000 := HLN.out
  have hw1 : IntKind.i64.wrap ((t : Int) - (f : Int)) = (t : Int) - (f : Int) := IntWalk.i64_in _ (by omega)
  have hw2 : IntKind.i64.wrap ((t : Int) - (f : Int) - 1) = (t : Int) - (f : Int) - 1 := IntWalk.i64_in _ (by omega)
  generalize nodeC A1 c1 A3 c3 n = cs at HN hrow HLEN Q31 Q32 ⊢
  go_enter Try.func19, Try.ntmps19
  have y31 : ∀ w1 : World, Below (w.alloc (.cells cs 35)).heap.size (w.alloc (.cells cs 35)) w1 → w1.cell? ⟨w.heap.size, 31, none⟩ = some (.slice A3 len c3) := fun w1 h => (Blk.cell (Blk.below (Blk.new w 35 cs) h (by simp)) 31).trans Q31.out
  have y32 : ∀ w1 : World, Below (w.alloc (.cells cs 35)).heap.size (w.alloc (.cells cs 35)) w1 → w1.cell? ⟨w.heap.size, 32, none⟩ = some (.int .i64 bl) := fun w1 h => (Blk.cell (Blk.below (Blk.new w 35 cs) h (by simp)) 32).trans Q32.out
  have Y31 := Lib.hid y31
  have Y32 := Lib.hid y32
  clear y31 y32
  go_wp2_with (first | (refine wpList_load_mid rfl 35 _ rfl _ _ rfl _ _ hrow Try.underlying35 rfl HLEN.out ?_) | (go_at_call 15; refine HN.out.mono ?_; rintro e w1 ⟨rfl, hb1⟩; have HB1 := Lib.hid hb1; have y31 := Y31.out w1 hb1; have y32 := Y32.out w1 hb1; clear hb1))
  have HBW := Aside0.mk (((Below.refl w.heap.size w).alloc (Nat.le_refl _) (.cells cs 35)).trans (HB1.out.mono (by simp)))
  have HS := (⟨y31, y32⟩ : (fun V : World => V.cell? ⟨w.heap.size, 31, none⟩ = some (.slice A3 len c3) ∧ V.cell? ⟨w.heap.size, 32, none⟩ = some (.int .i64 bl)) w1.drew)
  refine (wpIn_wide (n := 0)).1 ?_
  refine beginH (fun V : World => V.cell? ⟨w.heap.size, 31, none⟩ = some (.slice A3 len c3) ∧ V.cell? ⟨w.heap.size, 32, none⟩ = some (.int .i64 bl)) (by kernel_rfl) ?_
  (refine takeH (i := 0) (v := ?_) rfl (by kernel_rfl) (by kernel_rfl) (by kernel_rfl) (by kernel_rfl) (fun _ _ _ h => h) ⟨Or.inl ⟨by rfl, ?_⟩, fun _ => rfl⟩ HS ?_; rotate_left; focus (rintro wS ⟨s1, s2⟩; go_simp; try (with_reducible rfl)); (try simp only [Act.put, List.setIfInBounds_toArray, List.set_cons_zero, List.set_cons_succ]))
  (refine takeH (i := 1) (v := ?_) rfl (by kernel_rfl) (by kernel_rfl) (by kernel_rfl) (by kernel_rfl) (fun _ _ _ h => h) ⟨Or.inl ⟨by rfl, ?_⟩, fun _ => rfl⟩ HS ?_; rotate_left; focus (rintro wS ⟨s1, s2⟩; go_simp; try (with_reducible rfl)); (try simp only [Act.put, List.setIfInBounds_toArray, List.set_cons_zero, List.set_cons_succ]))
  (refine takeH (i := 2) (v := ?_) rfl (by kernel_rfl) (by kernel_rfl) (by kernel_rfl) (by kernel_rfl) (fun _ _ _ h => h) ⟨Or.inl ⟨by rfl, ?_⟩, fun _ => rfl⟩ HS ?_; rotate_left; focus (rintro wS ⟨s1, s2⟩; go_simp; try (with_reducible rfl)); (try simp only [Act.put, List.setIfInBounds_toArray, List.set_cons_zero, List.set_cons_succ]))
  (refine takeH (i := 3) (v := ?_) rfl (by kernel_rfl) (by kernel_rfl) (by kernel_rfl) (by kernel_rfl) (fun _ _ _ h => h) ⟨Or.inl ⟨by rfl, ?_⟩, fun _ => rfl⟩ HS ?_; rotate_left; focus (rintro wS ⟨s1, s2⟩; go_simp; try (with_reducible rfl)); (try simp only [Act.put, List.setIfInBounds_toArray, List.set_cons_zero, List.set_cons_succ]))
  (refine takeH (i := 4) (v := ?_) rfl (by kernel_rfl) (by kernel_rfl) (by kernel_rfl) (by kernel_rfl) (fun _ _ _ h => h) ⟨Or.inl ⟨by rfl, ?_⟩, fun _ => rfl⟩ HS ?_; rotate_left; focus (rintro wS ⟨s1, s2⟩; go_simp; try (with_reducible rfl)); (try simp only [Act.put, List.setIfInBounds_toArray, List.set_cons_zero, List.set_cons_succ]))
  (refine takeH (i := 6) (v := ?_) rfl (by kernel_rfl) (by kernel_rfl) (by kernel_rfl) (by kernel_rfl) (fun _ _ _ h => h) ⟨Or.inl ⟨by rfl, ?_⟩, fun _ => rfl⟩ HS ?_; rotate_left; focus (rintro wS ⟨s1, s2⟩; go_simp; try (with_reducible rfl)); (try simp only [Act.put, List.setIfInBounds_toArray, List.set_cons_zero, List.set_cons_succ]))
  (refine takeH (i := 7) (v := ?_) rfl (by kernel_rfl) (by kernel_rfl) (by kernel_rfl) (by kernel_rfl) (fun _ _ _ h => h) ⟨Or.inl ⟨by rfl, ?_⟩, fun _ => rfl⟩ HS ?_; rotate_left; focus (rintro wS ⟨s1, s2⟩; go_simp; try (with_reducible rfl)); (try simp only [Act.put, List.setIfInBounds_toArray, List.set_cons_zero, List.set_cons_succ]))
  (refine takeH (i := 8) (v := ?_) rfl (by kernel_rfl) (by kernel_rfl) (by kernel_rfl) (by kernel_rfl) (fun _ _ _ h => h) ⟨Or.inl ⟨by rfl, ?_⟩, fun _ => rfl⟩ HS ?_; rotate_left; focus (rintro wS ⟨s1, s2⟩; go_simp; try (with_reducible rfl)); (try simp only [Act.put, List.setIfInBounds_toArray, List.set_cons_zero, List.set_cons_succ]))
  (refine takeH (i := 9) (v := ?_) rfl (by kernel_rfl) (by kernel_rfl) (by kernel_rfl) (by kernel_rfl) (fun _ _ _ h => h) ⟨Or.inl ⟨by rfl, ?_⟩, fun _ => rfl⟩ HS ?_; rotate_left; focus (rintro wS ⟨s1, s2⟩; go_simp; try (with_reducible rfl)); (try simp only [Act.put, List.setIfInBounds_toArray, List.set_cons_zero, List.set_cons_succ]))
  (refine takeH (i := 10) (v := ?_) rfl (by kernel_rfl) (by kernel_rfl) (by kernel_rfl) (by kernel_rfl) (fun _ _ _ h => h) ⟨Or.inl ⟨by rfl, ?_⟩, fun _ => rfl⟩ HS ?_; rotate_left; focus (rintro wS ⟨s1, s2⟩; go_simp; try (with_reducible rfl)); (try simp only [Act.put, List.setIfInBounds_toArray, List.set_cons_zero, List.set_cons_succ]))
  (refine takeH (i := 11) (v := ?_) rfl (by kernel_rfl) (by kernel_rfl) (by kernel_rfl) (by kernel_rfl) (fun _ _ _ h => h) ⟨Or.inl ⟨by rfl, ?_⟩, fun _ => rfl⟩ HS ?_; rotate_left; focus (rintro wS ⟨s1, s2⟩; go_simp; try (with_reducible rfl)); (try simp only [Act.put, List.setIfInBounds_toArray, List.set_cons_zero, List.set_cons_succ]))
  (refine takeH (i := 12) (v := ?_) rfl (by kernel_rfl) (by kernel_rfl) (by kernel_rfl) (by kernel_rfl) (fun _ _ _ h => h) ⟨Or.inl ⟨by rfl, ?_⟩, fun _ => rfl⟩ HS ?_; rotate_left; focus (rintro wS ⟨s1, s2⟩; go_simp; try (with_reducible rfl)); (try simp only [Act.put, List.setIfInBounds_toArray, List.set_cons_zero, List.set_cons_succ]))

  (refine oneH (i := 5) rfl (by kernel_rfl) (fun K hK => ?_); go_simp)
  refine (callsIn_wide.2 (HA1.out w1.drew HBW.out.drew)).mono ?_
  rintro e w5 ⟨rfl, rfl⟩
  dsimp only
  (refine hK _ _ ⟨HS, ?_⟩; clear hK K; (try simp only [Act.put, List.setIfInBounds_toArray, List.set_cons_zero, List.set_cons_succ]))
  (refine oneH (i := 13) rfl (by kernel_rfl) (fun K hK => ?_); go_simp)
  rw [show (if (t : Int) - (f : Int) - 1 < 0 then (0 : Int) else (t : Int) - (f : Int) - 1) = (m : Int) from HMX.out]
  refine (callsIn_wide.2 (HM.out w1.drew)).mono ?_
  rintro e w6 ⟨rfl, hb6⟩
  dsimp only
  have HBW6 := Aside0.mk (HBW.out.drew.trans (hb6.mono (by have := HBW.out.size; simpa using this)))
  have HS6 := (⟨(hb6.cell (World.block_lt_of_cell? w1.drew _ HS.1)).trans HS.1, (hb6.cell (World.block_lt_of_cell? w1.drew _ HS.2)).trans HS.2⟩ : (fun V : World => V.cell? ⟨w.heap.size, 31, none⟩ = some (.slice A3 len c3) ∧ V.cell? ⟨w.heap.size, 32, none⟩ = some (.int .i64 bl)) w6)
  (refine hK _ _ ⟨HS6, ?_⟩; clear hK K; (try simp only [Act.put, List.setIfInBounds_toArray, List.set_cons_zero, List.set_cons_succ]))
  (refine oneH (i := 14) rfl (by kernel_rfl) (fun K hK => ?_); go_simp)
  have hbel : Below w6.heap.size w6 (w6.alloc (.cells #[.int .i64 s1, .int .i64 s2] 2)) := (Below.refl _ w6).alloc (Nat.le_refl _) _
  have HS7 := (⟨(hbel.cell (World.block_lt_of_cell? w6 _ HS6.1)).trans HS6.1, (hbel.cell (World.block_lt_of_cell? w6 _ HS6.2)).trans HS6.2⟩ : (fun V : World => V.cell? ⟨w.heap.size, 31, none⟩ = some (.slice A3 len c3) ∧ V.cell? ⟨w.heap.size, 32, none⟩ = some (.int .i64 bl)) (w6.alloc (.cells #[.int .i64 s1, .int .i64 s2] 2)))
  (refine hK _ _ ⟨HS7, ?_⟩; clear hK K; (try simp only [Act.put, List.setIfInBounds_toArray, List.set_cons_zero, List.set_cons_succ]))
  (refine oneH (i := 15) rfl (by kernel_rfl) (fun K hK => ?_); go_simp)
  refine (callsIn_wide.2 (HA2.out w6)).mono ?_
  rintro e w7 ⟨rfl, rfl⟩
  dsimp only
  (refine hK _ _ ⟨HS7, ?_⟩; clear hK K; (try simp only [Act.put, List.setIfInBounds_toArray, List.set_cons_zero, List.set_cons_succ]))
  (refine takeH (i := 16) (v := ?_) rfl (by kernel_rfl) (by kernel_rfl) (by kernel_rfl) (by kernel_rfl) (fun _ _ _ h => h) ⟨Or.inl ⟨by rfl, ?_⟩, fun _ => rfl⟩ HS7 ?_; rotate_left; focus (rintro wS ⟨s1, s2⟩; go_simp; try (with_reducible rfl)); (try simp only [Act.put, List.setIfInBounds_toArray, List.set_cons_zero, List.set_cons_succ]))
  (refine takeH (i := 17) (v := ?_) rfl (by kernel_rfl) (by kernel_rfl) (by kernel_rfl) (by kernel_rfl) (fun _ _ _ h => h) ⟨Or.inl ⟨by rfl, ?_⟩, fun _ => rfl⟩ HS7 ?_; rotate_left; focus (rintro wS ⟨s1, s2⟩; go_simp; try (with_reducible rfl)); (try simp only [Act.put, List.setIfInBounds_toArray, List.set_cons_zero, List.set_cons_succ]))
  (refine doneH (by kernel_rfl) ?_ _)
  simp only [Exit.then]
  go_wp2
  go_ret2
  exact ⟨rfl, HBW6.out.alloc HBW6.out.size _⟩

/-- how wide words are, told -/
def widesP (n : Nd) (from_ to_ : Int) : Int × Int := if (rightB n && placesB n.f3.length from_ to_) = true then (wideP n.f3 n.f4 from_.toNat to_.toNat, 0) else (0, 90)
theorem wide_any (A1 : Option Addr) (c1 : Nat) (A3 : Option Addr) (c3 : Nat) (n : Nd) (from_ to_ : Int) (w : World) (hr1 : Kd.C (Kd.int .i64) w A1 n.f1.length n.f1) (hc1 : n.f1.length ≤ c1) (hr3 : Kd.C (Kd.int .i64) w A3 n.f3.length n.f3) (hc3 : n.f3.length ≤ c3) :
    Calls Try.prog 19 #[.agg (nodeC A1 c1 A3 c3 n), .int .i64 from_, .int .i64 to_] w fun e w' => e = .returned (.tuple #[.int .i64 (widesP n from_ to_).1, .int .i64 (widesP n from_ to_).2]) ∧ Below w.heap.size w w' := by
  unfold widesP
  by_cases h : (rightB n && placesB n.f3.length from_ to_) = true
  · rw [if_pos h]
    rw [Bool.and_eq_true] at h
    have h2 := h.2
    unfold placesB at h2
    simp only [Bool.and_eq_true, decide_eq_true_eq] at h2
    obtain ⟨f, rfl⟩ := Int.eq_ofNat_of_zero_le h2.1.1
    obtain ⟨t, rfl⟩ := Int.eq_ofNat_of_zero_le (show 0 ≤ to_ by omega)
    exact wide_yes A1 c1 A3 c3 n f t (by omega) (by omega) w hr1 hc1 hr3 hc3 h.1
  · rw [if_neg h]
    exact wide_no A1 c1 A3 c3 n from_ to_ w hr1 hc1 hr3 hc3 (by simpa using h)
set_option maxRecDepth 100000 in
set_option maxHeartbeats 4000000 in
theorem most_any (A1 : Option Addr) (c1 : Nat) (A3 : Option Addr) (c3 : Nat) (n : Nd) (w : World) (hr1 : Kd.C (Kd.int .i64) w A1 n.f1.length n.f1) (hc1 : n.f1.length ≤ c1) (hr3 : Kd.C (Kd.int .i64) w A3 n.f3.length n.f3) (hc3 : n.f3.length ≤ c3) :
    Calls Try.prog 21 #[.agg (nodeC A1 c1 A3 c3 n)] w fun e w' => e = .returned (.tuple #[.int .i64 (widesP n 0 n.f3.length).1, .int .i64 (widesP n 0 n.f3.length).2]) ∧ Below w.heap.size w w' := by
  have hn := wide_any A1 c1 A3 c3 n 0 n.f3.length (w.alloc (.cells (nodeC A1 c1 A3 c3 n) 35)) (Kd.C_alloc hr1 _) hc1 (Kd.C_alloc hr3 _) hc3
  have hrow : (w.alloc (.cells (nodeC A1 c1 A3 c3 n) 35)).rangeAt w.heap.size 0 (nodeC A1 c1 A3 c3 n).toList := (Blk.new w 35 (nodeC A1 c1 A3 c3 n)).range
  have hlen : (Try.prog.info? 35).map (·.size) = some (nodeC A1 c1 A3 c3 n).toList.length := by kernel_rfl
  have y31 : (w.alloc (.cells (nodeC A1 c1 A3 c3 n) 35)).cell? ⟨w.heap.size, 31, none⟩ = some (.slice A3 n.f3.length c3) := Blk.cell (Blk.new w 35 (nodeC A1 c1 A3 c3 n)) 31
  have HN := Lib.hid hn
  have HLEN := Lib.hid hlen
  clear hn hr1 hr3 hc1 hc3 hlen
  generalize widesP n 0 n.f3.length = r at HN ⊢
  generalize n.f3.length = len at HN y31 ⊢
  generalize nodeC A1 c1 A3 c3 n = cs at HN hrow HLEN y31 ⊢
  obtain ⟨r1, r2⟩ := r
  go_enter Try.func21, Try.ntmps21
  go_wp2_with (first | (refine wpList_load_mid rfl 35 _ rfl _ _ rfl _ _ hrow Try.underlying35 rfl HLEN.out ?_) | (go_at_call 19; refine HN.out.mono ?_; rintro e w1 ⟨rfl, hb1⟩))
  go_ret2
  exact ⟨rfl, ((Below.refl _ w).alloc (Nat.le_refl _) _).trans (hb1.mono (by simp))⟩
def lines_Wide.f (a0_0 : Int) (l0_1 : List Int) (a0_2 : Int) (a0_3 : Int) (a0_4 : Int) (a0_5 : Int) (a0_6 : Int) (a0_7 : Int) (a0_8 : Int) (a0_9 : Int) (a0_10 : Int) (a0_11 : Int) (a0_12 : Int) (a0_13 : Int) (a0_14 : Int) (a0_15 : Int) (a0_16 : Int) (a0_17 : Int) (a0_18 : Int) (a0_19 : Int) (a0_20 : Int) (a0_21 : Int) (a0_22 : Int) (a0_23 : Int) (a0_24 : Int) (a0_25 : Bool) (a0_26 : Bool) (a0_27 : Int) (a0_28 : Int) (a0_29 : Bool) (a0_30 : Bool) (l0_31 : List Int) (a0_32 : Int) (a0_33 : Int) (a1 : Int) (a2 : Int) : Option (Int × Int) :=
  some (widesP (⟨a0_0, l0_1, ⟨⟨a0_2, a0_3⟩, ⟨a0_4, a0_5⟩, ⟨a0_6, a0_7, a0_8, a0_9⟩, ⟨⟨a0_10, a0_11, a0_12⟩, ⟨a0_13, a0_14, a0_15⟩, ⟨a0_16, a0_17, a0_18⟩, ⟨a0_19, a0_20, a0_21⟩⟩, a0_22, a0_23, a0_24, a0_25, a0_26, ⟨a0_27, a0_28⟩, a0_29, a0_30⟩, l0_31, a0_32, a0_33⟩ : Nd) a1 a2)
theorem lines_Wide.calls (a0_0 : Int) (A0_1 : Option Addr) (c0_1 : Nat) (l0_1 : List Int) (a0_2 : Int) (a0_3 : Int) (a0_4 : Int) (a0_5 : Int) (a0_6 : Int) (a0_7 : Int) (a0_8 : Int) (a0_9 : Int) (a0_10 : Int) (a0_11 : Int) (a0_12 : Int) (a0_13 : Int) (a0_14 : Int) (a0_15 : Int) (a0_16 : Int) (a0_17 : Int) (a0_18 : Int) (a0_19 : Int) (a0_20 : Int) (a0_21 : Int) (a0_22 : Int) (a0_23 : Int) (a0_24 : Int) (a0_25 : Bool) (a0_26 : Bool) (a0_27 : Int) (a0_28 : Int) (a0_29 : Bool) (a0_30 : Bool) (A0_31 : Option Addr) (c0_31 : Nat) (l0_31 : List Int) (a0_32 : Int) (a0_33 : Int) (a1 : Int) (a2 : Int) (r1 : Int) (r2 : Int) (w : World) (hr0_1 : Kd.C (Kd.int .i64) w A0_1 l0_1.length l0_1) (hc0_1 : l0_1.length ≤ c0_1) (hr0_31 : Kd.C (Kd.int .i64) w A0_31 l0_31.length l0_31) (hc0_31 : l0_31.length ≤ c0_31) (h : lines_Wide.f a0_0 l0_1 a0_2 a0_3 a0_4 a0_5 a0_6 a0_7 a0_8 a0_9 a0_10 a0_11 a0_12 a0_13 a0_14 a0_15 a0_16 a0_17 a0_18 a0_19 a0_20 a0_21 a0_22 a0_23 a0_24 a0_25 a0_26 a0_27 a0_28 a0_29 a0_30 l0_31 a0_32 a0_33 a1 a2 = some (r1, r2)) :
    Calls Try.prog 19 #[.agg #[.int .i64 a0_0, .slice A0_1 l0_1.length c0_1, .int .i64 a0_2, .int .i64 a0_3, .int .i64 a0_4, .int .i64 a0_5, .int .i64 a0_6, .int .i64 a0_7, .int .i64 a0_8, .int .i64 a0_9, .int .i64 a0_10, .int .i64 a0_11, .int .u32 a0_12, .int .i64 a0_13, .int .i64 a0_14, .int .u32 a0_15, .int .i64 a0_16, .int .i64 a0_17, .int .u32 a0_18, .int .i64 a0_19, .int .i64 a0_20, .int .u32 a0_21, .int .i64 a0_22, .int .i64 a0_23, .int .i64 a0_24, .bool a0_25, .bool a0_26, .int .i64 a0_27, .int .i64 a0_28, .bool a0_29, .bool a0_30, .slice A0_31 l0_31.length c0_31, .int .i64 a0_32, .int .i64 a0_33], .int .i64 a1, .int .i64 a2] w fun e w' => e = .returned (.tuple #[.int .i64 r1, .int .i64 r2]) ∧ Below w.heap.size w w' := by
  have hh : widesP (⟨a0_0, l0_1, ⟨⟨a0_2, a0_3⟩, ⟨a0_4, a0_5⟩, ⟨a0_6, a0_7, a0_8, a0_9⟩, ⟨⟨a0_10, a0_11, a0_12⟩, ⟨a0_13, a0_14, a0_15⟩, ⟨a0_16, a0_17, a0_18⟩, ⟨a0_19, a0_20, a0_21⟩⟩, a0_22, a0_23, a0_24, a0_25, a0_26, ⟨a0_27, a0_28⟩, a0_29, a0_30⟩, l0_31, a0_32, a0_33⟩ : Nd) a1 a2 = (r1, r2) := Option.some.inj h
  have hc := wide_any A0_1 c0_1 A0_31 c0_31 (⟨a0_0, l0_1, ⟨⟨a0_2, a0_3⟩, ⟨a0_4, a0_5⟩, ⟨a0_6, a0_7, a0_8, a0_9⟩, ⟨⟨a0_10, a0_11, a0_12⟩, ⟨a0_13, a0_14, a0_15⟩, ⟨a0_16, a0_17, a0_18⟩, ⟨a0_19, a0_20, a0_21⟩⟩, a0_22, a0_23, a0_24, a0_25, a0_26, ⟨a0_27, a0_28⟩, a0_29, a0_30⟩, l0_31, a0_32, a0_33⟩ : Nd) a1 a2 w hr0_1 hc0_1 hr0_31 hc0_31
  rw [hh] at hc
  exact hc
def lines_Most.f (a0_0 : Int) (l0_1 : List Int) (a0_2 : Int) (a0_3 : Int) (a0_4 : Int) (a0_5 : Int) (a0_6 : Int) (a0_7 : Int) (a0_8 : Int) (a0_9 : Int) (a0_10 : Int) (a0_11 : Int) (a0_12 : Int) (a0_13 : Int) (a0_14 : Int) (a0_15 : Int) (a0_16 : Int) (a0_17 : Int) (a0_18 : Int) (a0_19 : Int) (a0_20 : Int) (a0_21 : Int) (a0_22 : Int) (a0_23 : Int) (a0_24 : Int) (a0_25 : Bool) (a0_26 : Bool) (a0_27 : Int) (a0_28 : Int) (a0_29 : Bool) (a0_30 : Bool) (l0_31 : List Int) (a0_32 : Int) (a0_33 : Int) : Option (Int × Int) :=
  some (widesP (⟨a0_0, l0_1, ⟨⟨a0_2, a0_3⟩, ⟨a0_4, a0_5⟩, ⟨a0_6, a0_7, a0_8, a0_9⟩, ⟨⟨a0_10, a0_11, a0_12⟩, ⟨a0_13, a0_14, a0_15⟩, ⟨a0_16, a0_17, a0_18⟩, ⟨a0_19, a0_20, a0_21⟩⟩, a0_22, a0_23, a0_24, a0_25, a0_26, ⟨a0_27, a0_28⟩, a0_29, a0_30⟩, l0_31, a0_32, a0_33⟩ : Nd) 0 l0_31.length)
theorem lines_Most.calls (a0_0 : Int) (A0_1 : Option Addr) (c0_1 : Nat) (l0_1 : List Int) (a0_2 : Int) (a0_3 : Int) (a0_4 : Int) (a0_5 : Int) (a0_6 : Int) (a0_7 : Int) (a0_8 : Int) (a0_9 : Int) (a0_10 : Int) (a0_11 : Int) (a0_12 : Int) (a0_13 : Int) (a0_14 : Int) (a0_15 : Int) (a0_16 : Int) (a0_17 : Int) (a0_18 : Int) (a0_19 : Int) (a0_20 : Int) (a0_21 : Int) (a0_22 : Int) (a0_23 : Int) (a0_24 : Int) (a0_25 : Bool) (a0_26 : Bool) (a0_27 : Int) (a0_28 : Int) (a0_29 : Bool) (a0_30 : Bool) (A0_31 : Option Addr) (c0_31 : Nat) (l0_31 : List Int) (a0_32 : Int) (a0_33 : Int) (r1 : Int) (r2 : Int) (w : World) (hr0_1 : Kd.C (Kd.int .i64) w A0_1 l0_1.length l0_1) (hc0_1 : l0_1.length ≤ c0_1) (hr0_31 : Kd.C (Kd.int .i64) w A0_31 l0_31.length l0_31) (hc0_31 : l0_31.length ≤ c0_31) (h : lines_Most.f a0_0 l0_1 a0_2 a0_3 a0_4 a0_5 a0_6 a0_7 a0_8 a0_9 a0_10 a0_11 a0_12 a0_13 a0_14 a0_15 a0_16 a0_17 a0_18 a0_19 a0_20 a0_21 a0_22 a0_23 a0_24 a0_25 a0_26 a0_27 a0_28 a0_29 a0_30 l0_31 a0_32 a0_33 = some (r1, r2)) :
    Calls Try.prog 21 #[.agg #[.int .i64 a0_0, .slice A0_1 l0_1.length c0_1, .int .i64 a0_2, .int .i64 a0_3, .int .i64 a0_4, .int .i64 a0_5, .int .i64 a0_6, .int .i64 a0_7, .int .i64 a0_8, .int .i64 a0_9, .int .i64 a0_10, .int .i64 a0_11, .int .u32 a0_12, .int .i64 a0_13, .int .i64 a0_14, .int .u32 a0_15, .int .i64 a0_16, .int .i64 a0_17, .int .u32 a0_18, .int .i64 a0_19, .int .i64 a0_20, .int .u32 a0_21, .int .i64 a0_22, .int .i64 a0_23, .int .i64 a0_24, .bool a0_25, .bool a0_26, .int .i64 a0_27, .int .i64 a0_28, .bool a0_29, .bool a0_30, .slice A0_31 l0_31.length c0_31, .int .i64 a0_32, .int .i64 a0_33]] w fun e w' => e = .returned (.tuple #[.int .i64 r1, .int .i64 r2]) ∧ Below w.heap.size w w' := by
  have hh : widesP (⟨a0_0, l0_1, ⟨⟨a0_2, a0_3⟩, ⟨a0_4, a0_5⟩, ⟨a0_6, a0_7, a0_8, a0_9⟩, ⟨⟨a0_10, a0_11, a0_12⟩, ⟨a0_13, a0_14, a0_15⟩, ⟨a0_16, a0_17, a0_18⟩, ⟨a0_19, a0_20, a0_21⟩⟩, a0_22, a0_23, a0_24, a0_25, a0_26, ⟨a0_27, a0_28⟩, a0_29, a0_30⟩, l0_31, a0_32, a0_33⟩ : Nd) 0 l0_31.length = (r1, r2) := Option.some.inj h
  have hc := most_any A0_1 c0_1 A0_31 c0_31 (⟨a0_0, l0_1, ⟨⟨a0_2, a0_3⟩, ⟨a0_4, a0_5⟩, ⟨a0_6, a0_7, a0_8, a0_9⟩, ⟨⟨a0_10, a0_11, a0_12⟩, ⟨a0_13, a0_14, a0_15⟩, ⟨a0_16, a0_17, a0_18⟩, ⟨a0_19, a0_20, a0_21⟩⟩, a0_22, a0_23, a0_24, a0_25, a0_26, ⟨a0_27, a0_28⟩, a0_29, a0_30⟩, l0_31, a0_32, a0_33⟩ : Nd) w hr0_1 hc0_1 hr0_31 hc0_31
  rw [show widesP (⟨a0_0, l0_1, ⟨⟨a0_2, a0_3⟩, ⟨a0_4, a0_5⟩, ⟨a0_6, a0_7, a0_8, a0_9⟩, ⟨⟨a0_10, a0_11, a0_12⟩, ⟨a0_13, a0_14, a0_15⟩, ⟨a0_16, a0_17, a0_18⟩, ⟨a0_19, a0_20, a0_21⟩⟩, a0_22, a0_23, a0_24, a0_25, a0_26, ⟨a0_27, a0_28⟩, a0_29, a0_30⟩, l0_31, a0_32, a0_33⟩ : Nd) 0 ((⟨a0_0, l0_1, ⟨⟨a0_2, a0_3⟩, ⟨a0_4, a0_5⟩, ⟨a0_6, a0_7, a0_8, a0_9⟩, ⟨⟨a0_10, a0_11, a0_12⟩, ⟨a0_13, a0_14, a0_15⟩, ⟨a0_16, a0_17, a0_18⟩, ⟨a0_19, a0_20, a0_21⟩⟩, a0_22, a0_23, a0_24, a0_25, a0_26, ⟨a0_27, a0_28⟩, a0_29, a0_30⟩, l0_31, a0_32, a0_33⟩ : Nd)).f3.length = (r1, r2) from hh] at hc
  exact hc
end Go.Proofs.Yteckkphbgfmolaa.K
