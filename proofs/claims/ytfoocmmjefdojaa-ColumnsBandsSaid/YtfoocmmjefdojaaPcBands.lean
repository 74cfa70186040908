/- Layer 13, plain: ColumnsBands: the program's bands are the reference's. -/
import Derived.Test.YtfoocmmjefdojaaPcR
import Derived.Test.YtfoocmmjefdojaaK21
import Derived.Test.YtfoocmmjefdojaaOpens
namespace Go.Proofs.Ytfoocmmjefdojaa.Pure
set_option linter.unusedVariables false
set_option linter.unusedSimpArgs false
open Go.RowKit Go.Proofs.Ytfoocmmjefdojaa.K Go.Proofs.YtfoocmmjefdojaaW.PrintWords Go.Proofs.YtfoocmmjefdojaaW.PrintLast Go.Proofs.YtfoocmmjefdojaaW.PrintMore

theorem drop_of {α : Type} {l : List α} {j : Nat} {x : α} (h : l[j]? = some x) : l.drop j = x :: l.drop (j + 1) := by
  obtain ⟨hl, rfl⟩ := List.getElem?_eq_some_iff.1 h
  exact List.drop_eq_getElem_cons hl
theorem mx_max (a b : Int) : mx a b = max a b := by unfold mx; split <;> omega

theorem size_eq (a b : Int) : purflingref13_size.f a b = some (isSizeB a b) := by
  unfold purflingref13_size.f isSizeB
  by_cases h0 : a = 0
  · rw [if_pos h0]; congr 1; rw [Bool.eq_iff_iff]; simp; omega
  rw [if_neg h0]
  by_cases h1 : a = 1
  · rw [if_pos h1]; split <;> (congr 1; rw [Bool.eq_iff_iff]; simp; omega)
  rw [if_neg h1]
  by_cases h2 : a = 2
  · rw [if_pos h2]; split <;> (congr 1; rw [Bool.eq_iff_iff]; simp; omega)
  rw [if_neg h2]; congr 1; rw [Bool.eq_iff_iff]; simp; omega

theorem no_need {n : Nat} {x : Nd} (h : needB n x = true → False) : needB n x = false := by
  cases hh : needB n x with
  | true => exact (h hh).elim
  | false => rfl
theorem ref_l1 (sizes : List Sz3) (l : List Nd) (hs : sizes.length ≤ 40) (hl : l.length ≤ 100) : ∀ (d j k : Nat), j + d = l.length → d < k → purflingref13_Right.l1 k sizes l (j : Int) = some ((l.drop j).all (needB sizes.length))
  | 0, j, k + 1, hj, hk => by
    unfold purflingref13_Right.l1
    rw [if_neg (by omega), List.drop_of_length_le (by omega)]; rfl
  | d + 1, j, k + 1, hj, hk => by
    obtain ⟨x, hx, hm⟩ := at_some (j := j) (xs := l) (by omega)
    have hrec := ref_l1 sizes l hs hl d (j + 1) k (by omega) (by omega)
    unfold purflingref13_Right.l1
    rw [if_pos (by omega), if_pos (by omega), rdNd hx, size_eq, Option.bind_some, drop_of hx, List.all_cons, up_ok (by omega), hrec]
    by_cases hz : ¬ isSizeB x.f3.f0 x.f3.f1 = true
    · rw [if_neg hz, no_need fun h => hz ((need_iff _ _).1 h).2.1]; rfl
    have hz := Classical.not_not.1 hz
    rw [if_pos hz]
    by_cases c1 : x.f1 < 0
    · rw [if_pos c1, no_need fun h => by have := ((need_iff _ _).1 h).2.2; omega]; rfl
    rw [if_neg c1]
    by_cases c2 : x.f1 > x.f2
    · rw [if_pos c2, no_need fun h => by have := ((need_iff _ _).1 h).2.2; omega]; rfl
    rw [if_neg c2]
    by_cases c3 : x.f2 > 1125899906842623
    · rw [if_pos c3, no_need fun h => by have := ((need_iff _ _).1 h).2.2; omega]; rfl
    rw [if_neg c3]
    by_cases c4 : x.f0.f2 < 0
    · rw [if_pos c4, no_need fun h => by have := ((need_iff _ _).1 h).1; omega]; rfl
    rw [if_neg c4]
    by_cases c5 : x.f0.f2 > (sizes.length : Int)
    · rw [if_pos c5, no_need fun h => by have := ((need_iff _ _).1 h).1; omega]; rfl
    rw [if_neg c5]
    by_cases c6 : x.f0.f4 < 1
    · rw [if_pos c6, no_need fun h => by have := ((need_iff _ _).1 h).1; omega]; rfl
    rw [if_neg c6, wrap_ok (by omega) (by omega)]
    by_cases c7 : x.f0.f4 > (sizes.length : Int) - x.f0.f2
    · rw [if_pos c7, no_need fun h => by have := ((need_iff _ _).1 h).1; omega]; rfl
    rw [if_neg c7, (need_iff _ _).2 ⟨by omega, hz, by omega⟩, Bool.true_and]
theorem ref_l0 (sizes : List Sz3) (l : List Nd) (hs : sizes.length ≤ 40) (hl : l.length ≤ 100) : ∀ (d j k : Nat), j + d = sizes.length → d + l.length + 1 < k → purflingref13_Right.l0 k sizes l (j : Int) = some ((sizes.drop j).all (fun s => isSizeB s.f0 s.f1) && l.all (needB sizes.length))
  | 0, j, k + 1, hj, hk => by
    have h := ref_l1 sizes l hs hl l.length 0 k (by omega) (by omega)
    rw [show ((0 : Nat) : Int) = 0 from rfl, List.drop_zero] at h
    unfold purflingref13_Right.l0
    rw [if_neg (by omega), List.drop_of_length_le (by omega), h]; rfl
  | d + 1, j, k + 1, hj, hk => by
    obtain ⟨s, hx, hm⟩ := at_some (j := j) (xs := sizes) (by omega)
    have hrec := ref_l0 sizes l hs hl d (j + 1) k (by omega) (by omega)
    unfold purflingref13_Right.l0
    rw [if_pos (by omega), if_pos (by omega), rdSz hx, size_eq, Option.bind_some, drop_of hx, List.all_cons, up_ok (by omega), hrec]
    cases isSizeB s.f0 s.f1 <;> simp
theorem ref_right (sizes : List Sz3) (l : List Nd) (hs : sizes.length ≤ 40) (hl : l.length ≤ 100) (k : Nat) (hk : 200 < k) : purflingref13_Right.f k sizes l = some (rightB sizes l) := by
  have h := ref_l0 sizes l hs hl sizes.length 0 k (by omega) (by omega)
  rw [show ((0 : Nat) : Int) = 0 from rfl, List.drop_zero] at h
  unfold purflingref13_Right.f
  rw [if_neg (by omega), h]
  unfold rightB
  rw [decide_eq_true (by omega), Bool.true_and]

/-- how the reference ends a band -/
def finB (b : Bd) : Bd := if b.f2 ≥ 0 then ⟨b.f0, b.f1, b.f2, -1⟩ else if b.f3 ≥ 0 then ⟨b.f0, max b.f3 b.f0, b.f2, b.f3⟩ else b
theorem fin_settle (b : Bd) (h : b.f0 ≤ b.f1) : finB b = settlesP b := by
  unfold finB settlesP
  by_cases h2 : b.f2 ≥ 0
  · rw [if_pos h2, if_pos h2]; apply bd_ext <;> dsimp only; omega
  rw [if_neg h2, if_neg h2]
  by_cases h3 : b.f3 < 0
  · rw [if_pos h3, if_neg (by omega)]; apply bd_ext <;> dsimp only; omega
  · rw [if_neg h3, if_pos (by omega)]

theorem tell_one (b : Bd) (x : Nd) : tellP b x = ⟨max b.f0 x.f1, max b.f1 x.f2, if x.f3.f0 = 2 then max b.f2 x.f3.f1 else b.f2, if x.f3.f0 = 1 then max b.f3 x.f3.f1 else b.f3⟩ :=
  bd_ext (tellP_f0 b x) (tellP_f1 b x) (tellP_f2 b x) (tellP_f3 b x)
theorem mine_drop {l : List Nd} {i j : Nat} {x : Nd} (hx : l[j]? = some x) : mine i (l.drop j) = if x.f0.f2 = (i : Int) ∧ x.f0.f4 = 1 then x :: mine i (l.drop (j + 1)) else mine i (l.drop (j + 1)) := by
  unfold mine
  rw [drop_of hx]
  by_cases h : x.f0.f2 = (i : Int) ∧ x.f0.f4 = 1
  · rw [if_pos h, List.filter_cons_of_pos (by simp [atJ, ownB, h])]
  · rw [if_neg h, List.filter_cons_of_neg (by simp [atJ, ownB]; intro h1 h2; exact h ⟨h1, h2⟩)]

theorem band_l1 (sizes : List Sz3) (l : List Nd) (hl : l.length ≤ 100) (acc : List Bd) (ha : acc.length ≤ 100) (i : Nat) (R : Option (List Bd)) : ∀ (d j k K : Nat) (b : Bd), j + d = l.length → 2 * d + K < k →
    (∀ k', K ≤ k' → purflingref13_Bands.l0 k' sizes l (acc ++ [finB ((mine i (l.drop j)).foldl tellP b)]) (wrap64 ((i : Int) + 1)) = R) →
    purflingref13_Bands.l1 k sizes l acc (i : Int) (j : Int) b.f0 b.f1 b.f2 b.f3 = R
  | 0, j, k + 1, K, b, hj, hk, h => by
    have h := h k (by omega)
    rw [List.drop_of_length_le (by omega)] at h
    simp only [mine, List.filter_nil, List.foldl_nil] at h
    unfold finB at h
    unfold purflingref13_Bands.l1
    rw [if_neg (by omega)]
    by_cases h2 : b.f2 ≥ 0
    · rw [if_pos h2] at h ⊢; rw [if_pos (by omega)]; exact h
    rw [if_neg h2] at h ⊢
    by_cases h3 : b.f3 ≥ 0
    · rw [if_pos h3] at h ⊢; rw [if_pos (by omega), mx_max]; exact h
    rw [if_neg h3] at h ⊢; rw [if_pos (by omega)]; exact h
  | d + 1, j, 0, K, b, hj, hk, h => by omega
  | d + 1, j, 1, K, b, hj, hk, h => by omega
  | d + 1, j, k + 2, K, b, hj, hk, h => by
    obtain ⟨x, hx, hm⟩ := at_some (j := j) (xs := l) (by omega)
    rw [mine_drop hx] at h
    unfold purflingref13_Bands.l1
    rw [if_pos (by omega), if_pos (by omega), rdNd hx]
    unfold purflingref13_Bands.j4
    (try dsimp only)
    rw [up_ok (by omega)]
    by_cases c : x.f0.f2 = (i : Int) ∧ x.f0.f4 = 1
    · rw [if_pos c] at h
      have hrec := band_l1 sizes l hl acc ha i R d (j + 1) k K (tellP b x) (by omega) (by omega) h
      rw [tell_one] at hrec
      dsimp only at hrec
      rw [if_pos c.1, if_neg (by simp [c.2])]
      simp only [mx_max]
      rw [← hrec]
      by_cases c1 : x.f3.f0 = 1
      · rw [if_pos c1, if_neg (by omega), if_neg (by omega), if_pos c1]
      · rw [if_neg c1, if_neg c1]
        by_cases c2 : x.f3.f0 = 2
        · rw [if_pos c2, if_pos c2]
        · rw [if_neg c2, if_neg c2]
    · rw [if_neg c] at h
      have hrec := band_l1 sizes l hl acc ha i R d (j + 1) k K b (by omega) (by omega) h
      by_cases c1 : x.f0.f2 = (i : Int)
      · rw [if_pos c1, if_pos (by simp; exact fun e => c ⟨c1, e⟩)]; exact hrec
      · rw [if_neg c1, if_pos rfl]; exact hrec

theorem band_l0 (sizes : List Sz3) (l : List Nd) (hs : sizes.length ≤ 40) (hl : l.length ≤ 100) (hR : rightB sizes l = true) : ∀ (d i k : Nat) (acc : List Bd), i + d = sizes.length → 300 * d < k → acc.length = i →
    purflingref13_Bands.l0 k sizes l acc (i : Int) = some (acc ++ (bandsP sizes l).drop i)
  | 0, i, k + 1, acc, hi, hk, ha => by
    unfold purflingref13_Bands.l0
    rw [if_neg (by omega), List.drop_of_length_le (by rw [bandsP_len]; omega), List.append_nil]
  | d + 1, i, 0, acc, hi, hk, ha => by omega
  | d + 1, i, 1, acc, hi, hk, ha => by omega
  | d + 1, i, 2, acc, hi, hk, ha => by omega
  | d + 1, i, k + 3, acc, hi, hk, ha => by
    obtain ⟨s, hx, hm⟩ := at_some (j := i) (xs := sizes) (by omega)
    have hsz := ((right_iff _ _).1 hR).2.1 s hm
    have hget : (bandsP sizes l)[i]? = some (bandAt s (mine i l)) := by rw [bandsP_get _ _ (right_pos hR), hx]; rfl
    have hfin : finB ((mine i l).foldl tellP (wantsP z0 s)) = bandAt s (mine i l) := fin_settle _ (fold_ok s (mine i l) hsz (needs_ok hR i) _ rfl).1.2.1
    have hgo : ∀ b : Bd, b = wantsP z0 s → purflingref13_Bands.l1 k sizes l acc (i : Int) 0 b.f0 b.f1 b.f2 b.f3 = some (acc ++ (bandsP sizes l).drop i) := by
      rintro b rfl
      have h := band_l1 sizes l hl acc (by omega) i (some (acc ++ (bandsP sizes l).drop i)) l.length 0 k (300 * d + 1) (wantsP z0 s) (by omega) (by omega) (fun k' hk' => by
        rw [List.drop_zero, hfin, up_ok (by omega), band_l0 sizes l hs hl hR d (i + 1) k' (acc ++ [bandAt s (mine i l)]) (by omega) (by omega) (by simp; omega), drop_of hget]
        simp)
      rw [show ((0 : Nat) : Int) = 0 from rfl] at h
      exact h
    unfold isSizeB at hsz
    simp only [Bool.or_eq_true, decide_eq_true_eq] at hsz
    unfold purflingref13_Bands.l0
    rw [if_pos (by omega), if_pos (by omega), rdSz hx]
    by_cases c1 : s.f0 = 1
    · have h := hgo ⟨0, 0, -1, s.f1⟩ (by unfold wantsP; rw [if_neg (by omega), if_pos c1]; apply bd_ext <;> dsimp only [z0]; omega)
      rw [if_pos c1]
      unfold purflingref13_Bands.j1
      (try dsimp only)
      rw [if_pos (by omega), if_pos (by omega), rdSz hx, if_neg (by omega)]
      unfold purflingref13_Bands.j2
      (try dsimp only)
      exact h
    · rw [if_neg c1]
      unfold purflingref13_Bands.j1
      (try dsimp only)
      rw [if_pos (by omega), if_pos (by omega), rdSz hx]
      by_cases c2 : s.f0 = 2
      · have h := hgo ⟨0, 0, s.f1, -1⟩ (by unfold wantsP; rw [if_pos c2]; apply bd_ext <;> dsimp only [z0]; omega)
        rw [if_pos c2]
        unfold purflingref13_Bands.j2
        (try dsimp only)
        exact h
      · have h := hgo ⟨0, 0, -1, -1⟩ (by unfold wantsP; rw [if_neg c2, if_neg c1]; rfl)
        rw [if_neg c2]
        unfold purflingref13_Bands.j2
        (try dsimp only)
        exact h
theorem ref_bands (sizes : List Sz3) (l : List Nd) (hs : sizes.length ≤ 40) (hl : l.length ≤ 100) (hR : rightB sizes l = true) (k : Nat) (hk : 13000 < k) : purflingref13_Bands.f k sizes l = some (bandsP sizes l) := by
  have h := band_l0 sizes l hs hl hR sizes.length 0 k [] (by omega) (by omega) rfl
  rw [show ((0 : Nat) : Int) = 0 from rfl, List.drop_zero, List.nil_append] at h
  exact h

theorem ColumnsBands (l0 : List Sz3) (l1 : List Nd) (g0 : ∀ x ∈ l0, good_58 x) (g1 : ∀ x ∈ l1, good_60 x) : ∃ k, purflinglaw13_ColumnsBands.f k l0 l1 = some true := by
  obtain ⟨c0, c1, hc, h0, h1⟩ := cut_eq l0 l1
  obtain ⟨k, hk⟩ : ∃ k : Nat, k = 14000 := ⟨_, rfl⟩
  refine ⟨k, ?_⟩
  unfold purflinglaw13_ColumnsBands.f
  rw [shown_eq, hc]; simp only [Option.bind_some]
  rw [bands_f, Option.bind_some, ref_right c0 c1 h0 h1 k (by omega), Option.bind_some, show columns_Right.f c0 c1 = some (rightB c0 c1) from rfl]
  cases hR : rightB c0 c1 with
  | false => simp
  | true =>
    simp only [if_true, Option.bind_some]
    rw [ref_bands c0 c1 h0 h1 hR k (by omega), Option.bind_some, same_self _ (by rw [bandsP_len]; omega) k (by rw [bandsP_len]; omega)]; rfl
end Go.Proofs.Ytfoocmmjefdojaa.Pure
