/- Layer 6, plain law: columns are the reference's. -/
import Derived.Test.YtdmnaehgngpikaaK17
import Derived.Test.YtdmnaehgngpikaaLc2
import Derived.Test.YtdmnaehgngpikaaLcE
import Derived.Test.YtdmnaehgngpikaaLb2
namespace Go.Proofs.Ytdmnaehgngpikaa.K
open Go.RowKit Go.Proofs.YtdmnaehgngpikaaW.PrintWords Go.Proofs.YtdmnaehgngpikaaW.PrintLast Go.Proofs.YtdmnaehgngpikaaW.PrintMore
set_option linter.unusedVariables false
set_option linter.unusedSimpArgs false
theorem many_l0 (x y : Int) (c : Nat) (hc : c ≤ 100000) : ∀ (d j k : Nat) (xs : List S35), j + d = c → d < k → xs.length + d ≤ 1000000 → purflingref06_many.l0 k xs (c : Int) (j : Int) x y = some (xs ++ List.replicate d ⟨x, y⟩)
  | d, j, 0, xs, _, hk, _ => by omega
  | 0, j, k + 1, xs, h, _, _ => by
    unfold purflingref06_many.l0
    rw [if_neg (by omega)]
    simp
  | d + 1, j, k + 1, xs, h, hk, hx => by
    unfold purflingref06_many.l0
    rw [if_pos (by omega), if_pos (by omega), wrapUp (by omega), many_l0 x y c hc d (j + 1) k _ (by omega) (by omega) (by rw [List.length_append]; simp; omega), List.replicate_succ]
    simp
theorem many_f (xs : List S35) (x y : Int) {m : Int} (h0 : 0 ≤ m) (hm : m ≤ 100000) (hx : xs.length ≤ 100000) (k : Nat) (hk : 100000 < k) : purflingref06_many.f k xs x y m = some (xs ++ List.replicate m.toNat ⟨x, y⟩) := by
  obtain ⟨c, rfl⟩ := Int.eq_ofNat_of_zero_le h0
  rw [Int.toNat_natCast]
  exact many_l0 x y c (by omega) c 0 k xs (by omega) (by omega) (by omega)
theorem span_f (L : List Nd) {k : Int} (h : 0 ≤ k ∧ k < (L.length : Int)) : purflingref06_span.f L k = some (spanK L k) := by
  unfold purflingref06_span.f spanK mx
  rw [if_pos h.1, if_pos h.2]
  congr 1
  split <;> omega
/-- a kid's columns, if it has any -/
def colsK (l : List Nd) (k : Int) : List Ln1 := if kindOf l k = 5 ∨ kindOf l k = 4 then colsOf l k else []
theorem colsP_eq (l : List Nd) (n : Nat) : colsP l n = (kidsOf l (n : Int)).flatMap (colsK l) := by
  unfold colsP kidsK
  generalize kidsOf l (n : Int) = ks
  induction ks with
  | nil => rfl
  | cons k ks ih =>
    rw [List.flatMap_cons, ← ih]
    unfold colsK
    by_cases q : kindOf l k = 5 ∨ kindOf l k = 4
    · rw [if_pos q, List.filter_cons_of_pos (by simpa using q), List.flatMap_cons]
    · rw [if_neg q, List.filter_cons_of_neg (by simpa using q)]; rfl
theorem replP_two (xs ys : List Ln1) : replP (xs ++ ys) = replP xs ++ replP ys := by unfold replP; rw [List.flatMap_append]
theorem replP_one (x : S35) (s : Int) : replP [(x, s)] = List.replicate s.toNat x := by unfold replP; simp
theorem over_l0 (L : List Nd) (n m : Nat) (hn : n < L.length) (hm : m ≤ 10000) (ho : 10000 < (replP (colsP L n)).length) (xs : List S35) (hx : 10000 < xs.length) (j : Nat) (k : Nat) (hk : 3 ≤ k) :
    purflingref06_Cols.l0 k L (n : Int) (m : Int) xs (j : Int) = some (colsR L n m) := by
  obtain ⟨k', rfl⟩ : ∃ k', k = k' + 1 + 1 := ⟨k - 2, by omega⟩
  rw [colsR_many ho]
  unfold purflingref06_Cols.l0
  rw [if_pos (by omega), if_pos (by omega), ← kids_eq]
  have hd : decide ((xs.length : Int) ≤ 10000) = false := decide_eq_false (by omega)
  have h1 : purflingref06_Cols.j1 (k' + 1) L (n : Int) (m : Int) xs (j : Int) false = some ([], 43) := by
    unfold purflingref06_Cols.j1
    rw [if_neg (by decide), if_pos (by omega)]
  rw [hd, h1]
  split <;> rfl
theorem done_l0 (L : List Nd) (n m : Nat) (hn : n < L.length) (hm : m ≤ 10000) (hl : (replP (colsP L n)).length ≤ 10000) (j : Nat) (hj : (kidsOf L (n : Int)).length ≤ j) (k : Nat) (hk : 200000 ≤ k) :
    purflingref06_Cols.l0 k L (n : Int) (m : Int) (replP (colsP L n)) (j : Int) = some (colsR L n m) := by
  obtain ⟨k', rfl⟩ : ∃ k', k = k' + 1 + 1 := ⟨k - 2, by omega⟩
  rw [colsR_ok hl]
  unfold purflingref06_Cols.l0
  rw [if_pos (by omega), if_pos (by omega), ← kids_eq, if_neg (by omega)]
  unfold purflingref06_Cols.j1
  have hmx : mx 0 (wrap64 ((m : Int) - ((replP (colsP L n)).length : Int))) = ((m - (replP (colsP L n)).length : Nat) : Int) := by
    unfold mx wrap64
    split <;> omega
  rw [if_neg (by decide), if_neg (by omega), hmx, many_f _ _ _ (by omega) (by omega) (by omega) _ (by omega), Option.bind_some, Int.toNat_natCast]
/-- the columns of a group's first kids -/
def innerK (L : List Nd) (y : Int) (cs : List Int) : List Ln1 := inner_ L y (cs.filter (fun k => ([5] : List Int).contains (kindOf L k)))
theorem cols_l1 (L : List Nd) (hK : ∀ n ∈ L, n.f1.length ≤ 30) (hS : ∀ k : Int, 1 ≤ spanK L k ∧ spanK L k ≤ 1000) (n m : Nat) (hn : n < L.length) (hm : m ≤ 10000) (hki : KidsIn L) (j : Nat) (hj : j ≤ 100) (y : Nat) (hy : y < L.length) (st : List S35) (hst : st.length ≤ 10000) (k0 : Nat) (hk0 : 200000 ≤ k0)
    (htot : ∀ q, q ≤ (kidsOf L (y : Int)).length → 10000 < (st ++ replP (innerK L (y : Int) ((kidsOf L (y : Int)).take q))).length → 10000 < (replP (colsP L n)).length)
    (hnext : ∀ k, k0 ≤ k → purflingref06_Cols.l0 k L (n : Int) (m : Int) (st ++ replP (if kidsK L (y : Int) [5] = [] then [(⟨-1, (y : Int)⟩, spanK L (y : Int))] else inner_ L (y : Int) (kidsK L (y : Int) [5]))) (((j + 1 : Nat)) : Int) = some (colsR L n m)) :
    ∀ (d q k : Nat), q + d = (kidsOf L (y : Int)).length → k0 + 2 * d + 3 ≤ k →
      purflingref06_Cols.l1 k L (n : Int) (m : Int) (st ++ replP (innerK L (y : Int) ((kidsOf L (y : Int)).take q))) (j : Int) (y : Int) (!(((kidsOf L (y : Int)).take q).filter (fun k => ([5] : List Int).contains (kindOf L k))).isEmpty) (q : Int) = some (colsR L n m) := by
  intro d
  induction d with
  | zero =>
    intro q k h hk
    obtain ⟨k', rfl⟩ : ∃ k', k = k' + 1 + 1 := ⟨k - 2, by omega⟩
    have hn' := hnext k' (by omega)
    unfold purflingref06_Cols.l1
    rw [if_pos (by omega), if_pos (by omega), ← kids_eq, if_neg (by omega), List.take_of_length_le (by omega)]
    unfold purflingref06_Cols.j4
    rw [if_neg (by decide)]
    have hkk : (kidsOf L (y : Int)).filter (fun k => ([5] : List Int).contains (kindOf L k)) = kidsK L (y : Int) [5] := rfl
    unfold innerK
    rw [hkk]
    by_cases qe : kidsK L (y : Int) [5] = []
    · rw [if_pos qe, replP_one] at hn'
      rw [qe, if_neg (by simp), span_f L ⟨by omega, by omega⟩, Option.bind_some]
      have hs := hS (y : Int)
      rw [show inner_ L (y : Int) [] = [] from rfl, show replP [] = [] from rfl, List.append_nil, many_f _ _ _ (by omega) (by omega) (by omega) _ (by omega), Option.bind_some, wrapUp (by omega)]
      exact hn'
    · rw [if_neg qe] at hn'
      rw [if_pos (by cases hq : kidsK L (y : Int) [5] with | nil => exact absurd hq qe | cons a b => rfl), wrapUp (by omega)]
      exact hn'
  | succ d ih =>
    intro q k h hk
    obtain ⟨k', rfl⟩ : ∃ k', k = k' + 1 + 1 := ⟨k - 2, by omega⟩
    obtain ⟨z, hz⟩ : ∃ z, (kidsOf L (y : Int))[q]? = some z := ⟨_, List.getElem?_eq_getElem (by omega)⟩
    obtain ⟨h1, h2⟩ := kidsIn_of hki (by omega : (0 : Int) ≤ (y : Int)) (by omega) z (List.mem_of_getElem? hz)
    have hrec := ih (q + 1) k' (by omega) (by omega)
    have hkl := kids_small hK (y : Int)
    by_cases hle : (st ++ replP (innerK L (y : Int) ((kidsOf L (y : Int)).take q))).length ≤ 10000
    · unfold purflingref06_Cols.l1
      rw [if_pos (by omega), if_pos (by omega), ← kids_eq, if_pos (by omega), decide_eq_true (by omega)]
      unfold purflingref06_Cols.j4
      rw [if_pos rfl, if_pos (by omega), if_pos (by omega), if_pos (by omega), ← kids_eq, if_pos (by omega), rd_int hz, if_pos h1, if_pos h2, ← kind_eq, wrapUp (by omega)]
      unfold innerK at hrec ⊢
      rw [take_filter _ hz] at hrec
      by_cases q5 : kindOf L z = 5
      · rw [if_pos (by rw [q5]; rfl)] at hrec
        have hs := hS z
        unfold innerK at hle
        rw [if_pos q5, span_f L ⟨h1, h2⟩, Option.bind_some, many_f _ _ _ (by omega) (by omega) (by omega) _ (by omega), Option.bind_some]
        have e : inner_ L (y : Int) (((kidsOf L (y : Int)).take q).filter (fun k => ([5] : List Int).contains (kindOf L k)) ++ [z]) = inner_ L (y : Int) (((kidsOf L (y : Int)).take q).filter (fun k => ([5] : List Int).contains (kindOf L k))) ++ [(⟨z, (y : Int)⟩, spanK L z)] := by simp [inner_]
        have hb : ∀ xs : List Int, (!(xs ++ [z]).isEmpty) = true := fun xs => by cases xs <;> rfl
        rw [e, replP_two, replP_one, ← List.append_assoc, hb] at hrec
        exact hrec
      · rw [if_neg (by simp [q5]), List.append_nil] at hrec
        rw [if_neg q5]
        exact hrec
    · have ho := htot q (by omega) (by omega)
      have hne : ((kidsOf L (y : Int)).take q).filter (fun k => ([5] : List Int).contains (kindOf L k)) ≠ [] := fun e => by
        apply hle
        unfold innerK
        rw [e, show inner_ L (y : Int) [] = [] from rfl, show replP [] = [] from rfl, List.append_nil]
        exact hst
      unfold purflingref06_Cols.l1
      rw [if_pos (by omega), if_pos (by omega), ← kids_eq, if_pos (by omega), decide_eq_false (by omega)]
      unfold purflingref06_Cols.j4
      rw [if_neg (by decide), if_pos (by cases hq : ((kidsOf L (y : Int)).take q).filter (fun k => ([5] : List Int).contains (kindOf L k)) with | nil => exact absurd hq hne | cons a b => rfl), wrapUp (by omega)]
      exact over_l0 L n m hn hm ho _ (by omega) (j + 1) k' (by omega)
theorem cols_l0 (L : List Nd) (hK : ∀ n ∈ L, n.f1.length ≤ 30) (hS : ∀ k : Int, 1 ≤ spanK L k ∧ spanK L k ≤ 1000) (n m : Nat) (hn : n < L.length) (hm : m ≤ 10000) (hki : KidsIn L) : ∀ (d j k : Nat), j + d = (kidsOf L (n : Int)).length → 200000 + 100 * d ≤ k →
    purflingref06_Cols.l0 k L (n : Int) (m : Int) (replP (((kidsOf L (n : Int)).take j).flatMap (colsK L))) (j : Int) = some (colsR L n m) := by
  have htot : ∀ (j : Nat), (replP (((kidsOf L (n : Int)).take j).flatMap (colsK L))).length ≤ (replP (colsP L n)).length := fun j => by
    conv => rhs; rw [colsP_eq, ← List.take_append_drop j (kidsOf L (n : Int)), List.flatMap_append]
    exact replP_le _ _
  intro d
  induction d with
  | zero =>
    intro j k h hk
    rw [List.take_of_length_le (by omega), ← colsP_eq]
    by_cases ho : (replP (colsP L n)).length ≤ 10000
    · exact done_l0 L n m hn hm ho j (by omega) k (by omega)
    · exact over_l0 L n m hn hm (by omega) _ (by omega) j k (by omega)
  | succ d ih =>
    intro j k h hk
    by_cases hle : (replP (((kidsOf L (n : Int)).take j).flatMap (colsK L))).length ≤ 10000
    · obtain ⟨k', rfl⟩ : ∃ k', k = k' + 1 + 1 + 1 := ⟨k - 3, by omega⟩
      obtain ⟨y, hy⟩ : ∃ y, (kidsOf L (n : Int))[j]? = some y := ⟨_, List.getElem?_eq_getElem (by omega)⟩
      obtain ⟨h1, h2⟩ := kidsIn_of hki (by omega : (0 : Int) ≤ (n : Int)) (by omega) y (List.mem_of_getElem? hy)
      have hkl := kids_small hK (n : Int)
      have htk : (kidsOf L (n : Int)).take (j + 1) = (kidsOf L (n : Int)).take j ++ [y] := by rw [List.take_add_one, hy]; rfl
      have hrec : ∀ k, 200000 + 100 * d ≤ k → purflingref06_Cols.l0 k L (n : Int) (m : Int) (replP (((kidsOf L (n : Int)).take j).flatMap (colsK L)) ++ replP (colsK L y)) (((j + 1 : Nat)) : Int) = some (colsR L n m) := fun k hk => by
        have h := ih (j + 1) k (by omega) hk
        rwa [htk, List.flatMap_append, List.flatMap_cons, List.flatMap_nil, List.append_nil, replP_two] at h
      have hmono : ∀ zs : List Ln1, (∃ ws, colsK L y = zs ++ ws) → 10000 < (replP (((kidsOf L (n : Int)).take j).flatMap (colsK L)) ++ replP zs).length → 10000 < (replP (colsP L n)).length := fun zs ⟨ws, hws⟩ hlt => by
        have h := htot (j + 1)
        rw [htk, List.flatMap_append, List.flatMap_cons, List.flatMap_nil, List.append_nil, hws, ← List.append_assoc, replP_two, replP_two, List.length_append] at h
        omega
      unfold purflingref06_Cols.l0
      rw [if_pos (by omega), if_pos (by omega), ← kids_eq, if_pos (by omega), decide_eq_true (by omega)]
      unfold purflingref06_Cols.j1
      rw [if_pos rfl, if_pos (by omega), if_pos (by omega), if_pos (by omega), ← kids_eq, if_pos (by omega), rd_int hy, if_pos h1, if_pos h2, ← kind_eq]
      obtain ⟨y, rfl⟩ := Int.eq_ofNat_of_zero_le h1
      by_cases q5 : kindOf L (y : Int) = 5
      · have hs := hS (y : Int)
        rw [if_pos q5, span_f L ⟨h1, h2⟩, Option.bind_some, many_f _ _ _ (by omega) (by omega) (by omega) _ (by omega), Option.bind_some]
        have hc : colsK L (y : Int) = [(⟨(y : Int), -1⟩, spanK L (y : Int))] := by
          unfold colsK colsOf
          rw [if_pos (.inl q5), if_neg (by rw [q5]; decide)]
        have h := hrec k' (by omega)
        rw [hc, replP_one] at h
        unfold purflingref06_Cols.j2
        rw [if_pos h1, if_pos h2, ← kind_eq, if_neg (by rw [q5]; decide), wrapUp (by omega)]
        exact h
      · rw [if_neg q5]
        unfold purflingref06_Cols.j2
        rw [if_pos h1, if_pos h2, ← kind_eq]
        by_cases q4 : kindOf L (y : Int) = 4
        · rw [if_pos q4]
          have hc : colsK L (y : Int) = if kidsK L (y : Int) [5] = [] then [(⟨-1, (y : Int)⟩, spanK L (y : Int))] else inner_ L (y : Int) (kidsK L (y : Int) [5]) := by
            unfold colsK colsOf
            rw [if_pos (.inr q4), if_pos q4]
          have hky := kids_small hK (y : Int)
          have h := cols_l1 L hK hS n m hn hm hki j (by omega) y (by omega) _ hle (200000 + 100 * d) (by omega) (fun q hq hlt => ?_) (fun k hk => by have := hrec k hk; rwa [hc] at this) (kidsOf L (y : Int)).length 0 k' (by omega) (by omega)
          · simpa [innerK, inner_, replP] using h
          · by_cases qe : kidsK L (y : Int) [5] = []
            · exfalso
              have : innerK L (y : Int) ((kidsOf L (y : Int)).take q) = [] := by
                unfold innerK
                have hf : ((kidsOf L (y : Int)).take q).filter (fun k => ([5] : List Int).contains (kindOf L k)) = [] := by
                  rw [List.filter_eq_nil_iff]
                  intro x hx hp
                  have : x ∈ kidsK L (y : Int) [5] := List.mem_filter.2 ⟨List.mem_of_mem_take hx, hp⟩
                  rw [qe] at this; cases this
                rw [hf]; rfl
              rw [this, show replP [] = [] from rfl, List.append_nil] at hlt
              omega
            · refine hmono _ ⟨inner_ L (y : Int) (((kidsOf L (y : Int)).drop q).filter (fun k => ([5] : List Int).contains (kindOf L k))), ?_⟩ hlt
              rw [hc, if_neg qe]
              unfold innerK inner_
              rw [← List.map_append, ← List.filter_append, List.take_append_drop]
              rfl
        · rw [if_neg q4, wrapUp (by omega)]
          have hc : colsK L (y : Int) = [] := by unfold colsK; rw [if_neg (by omega)]
          have h := hrec k' (by omega)
          rw [hc, show replP [] = [] from rfl, List.append_nil] at h
          exact h
    · exact over_l0 L n m hn hm (by have := htot j; omega) _ (by omega) j k (by omega)
theorem rcols_f (L : List Nd) (hK : ∀ n ∈ L, n.f1.length ≤ 30) (hS : ∀ k : Int, 1 ≤ spanK L k ∧ spanK L k ≤ 1000) (n m : Nat) (hn : n < L.length) (hm : m ≤ 10000) (hki : KidsIn L) (k : Nat) (hk : 300000 ≤ k) : purflingref06_Cols.f k L (n : Int) (m : Int) = some (colsR L n m) := by
  have hkl := kids_small hK (n : Int)
  have h := cols_l0 L hK hS n m hn hm hki (kidsOf L (n : Int)).length 0 k (by omega) (by omega)
  unfold purflingref06_Cols.f
  simpa [replP] using h
theorem colsR_small {L : List Nd} {n m : Nat} (hm : m ≤ 10000) : (colsR L n m).1.length ≤ 20000 := by
  by_cases ho : (replP (colsP L n)).length ≤ 10000
  · rw [colsR_ok ho]
    dsimp only
    rw [List.length_append, List.length_replicate]
    omega
  · rw [colsR_many (by omega)]
    simp
theorem pure_LanesCols {P Q R : Prop} (l0 : List Nd) (a1 a2 : Int) (_ : P) (_ : Q) (_ : R) : ∃ k, purflinglaw06_LanesCols.f k l0 a1 a2 = some true := by
  obtain ⟨k0, hk0⟩ := rcheck6_ev l0 a1
  obtain ⟨K, hKK⟩ : ∃ K, K = k0 + 1000000 := ⟨_, rfl⟩
  refine ⟨K + 1, ?_⟩
  have hrc := hk0 (K + 1) (by omega)
  dsimp only at hrc
  unfold purflinglaw06_LanesCols.f purflinglaw06_shown.f purflinglaw04_Cut.f
  rw [Option.bind_some, Option.bind_some]
  unfold lanes_Cols.f
  rw [if_pos (cut_links l0), Option.bind_some, hrc, Option.bind_some]
  by_cases q : checkL (cutL l0) a1 = 0
  · rw [if_pos q, if_pos q]
    obtain ⟨hok, n, rfl, hn, -⟩ := checkL_ok q
    by_cases h2 : a2 < 0
    · rw [if_pos h2, if_pos (.inl h2)]
      unfold purflinglaw06_LanesCols.j0
      dsimp only
      rw [if_pos rfl, if_pos rfl, if_pos rfl]
      simp
    · rw [if_neg h2]
      by_cases h3 : a2 > 10000
      · rw [if_pos (.inr h3), decide_eq_true h3]
        unfold purflinglaw06_LanesCols.j0
        dsimp only
        rw [if_pos rfl, if_pos rfl, if_pos rfl]
        simp
      · rw [if_neg (by omega), decide_eq_false h3]
        obtain ⟨m, rfl⟩ := Int.eq_ofNat_of_zero_le (by omega : 0 ≤ a2)
        unfold purflinglaw06_LanesCols.j0
        dsimp only
        rw [if_neg (by decide), Int.toNat_natCast, Int.toNat_natCast, rcols_f (cutL l0) (cut_kids l0) (fun k => span_bound hok.right k) n m hn (by omega) hok.kidsIn _ (by omega), Option.bind_some, if_pos rfl, if_pos rfl]
        have hs := colsR_small (L := cutL l0) (n := n) (m := m) (by omega)
        rw [same_f _ (by omega) _ (by omega)]
        rfl
  · rw [if_neg q, if_neg q, if_pos rfl, if_pos rfl]
    simp
end Go.Proofs.Ytdmnaehgngpikaa.K
