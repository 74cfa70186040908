/- Layer 6, plain law: rows and captions are the reference's. -/
import Derived.Test.YtdmnaehgngpikaaK21
import Derived.Test.YtdmnaehgngpikaaLc2
import Derived.Test.YtdmnaehgngpikaaLb2
import Derived.Test.YtdmnaehgngpikaaLcE
namespace Go.Proofs.Ytdmnaehgngpikaa.K
open Go.RowKit Go.Proofs.YtdmnaehgngpikaaW.PrintWords Go.Proofs.YtdmnaehgngpikaaW.PrintLast Go.Proofs.YtdmnaehgngpikaaW.PrintMore
set_option linter.unusedVariables false
set_option linter.unusedSimpArgs false
theorem ints_fk6 (l : List Int) (hl : l.length < 1000000000) (k : Nat) (hk : l.length < k) : purflingref04_Ints.f k l l = some true := by
  unfold purflingref04_Ints.f
  rw [if_pos rfl]
  exact ints_l0 l hl l.length 0 _ (by omega) (by omega)
theorem rgroup_l0 (L : List Nd) (g : Nat) (hg : g < L.length) (hki : KidsIn L) (hK : (kidsOf L (g : Int)).length ≤ 1000) : ∀ (d j k : Nat), j + d = (kidsOf L (g : Int)).length → d < k →
    purflingref06_group.l0 k L (g : Int) ((((kidsOf L (g : Int)).take j).filter (kp L 9)).map (laneP (g : Int))) (j : Int) = some (rowsP L g)
  | d, j, 0, _, hk => by omega
  | 0, j, k + 1, h, _ => by
    unfold purflingref06_group.l0
    rw [if_pos (by omega), if_pos (by omega), ← kids_eq, if_neg (by omega), List.take_of_length_le (by omega)]
    rfl
  | d + 1, j, k + 1, h, hk => by
    unfold purflingref06_group.l0
    obtain ⟨y, hy⟩ : ∃ y, (kidsOf L (g : Int))[j]? = some y := ⟨_, List.getElem?_eq_getElem (by omega)⟩
    obtain ⟨h1, h2⟩ := kidsIn_of hki (by omega : (0 : Int) ≤ (g : Int)) (by omega) y (List.mem_of_getElem? hy)
    have hrec := rgroup_l0 L g hg hki hK d (j + 1) k (by omega) (by omega)
    have hle : (((kidsOf L (g : Int)).take j).filter (kp L 9)).length ≤ j := Nat.le_trans (List.length_filter_le ..) (by rw [List.length_take]; omega)
    rw [take_filter _ hy, List.map_append] at hrec
    rw [if_pos (by omega), if_pos (by omega), ← kids_eq, if_pos (by omega), if_pos (by omega), rd_int hy, if_pos h1, if_pos h2, wrapUp (by omega), ← kind_eq]
    by_cases q : kindOf L y = 9
    · rw [if_pos ((kp_iff L 9 y).2 q)] at hrec
      rw [if_pos q, if_pos (by rw [List.length_map]; omega)]
      exact hrec
    · rw [if_neg (fun h => q ((kp_iff L 9 y).1 h)), List.map_nil, List.append_nil] at hrec
      rw [if_neg q]
      exact hrec
theorem rgroup_f (L : List Nd) {g : Int} (hg : 0 ≤ g ∧ g < (L.length : Int)) (hki : KidsIn L) (hK : (kidsOf L g).length ≤ 1000) (k : Nat) (hk : 1000 < k) : purflingref06_group.f k L g = some (rowsP L g.toNat) := by
  obtain ⟨n, rfl⟩ := Int.eq_ofNat_of_zero_le hg.1
  rw [Int.toNat_natCast]
  exact rgroup_l0 L n (by omega) hki hK (kidsOf L (n : Int)).length 0 k (by omega) (by omega)
/-- what the reference has of the first kids -/
def hdR (L : List Nd) (n : Nat) (pre : List Int) : List S35 := if firstK L n 6 ∈ pre then rowsP L (firstK L n 6).toNat else []
def ftR (L : List Nd) (n : Nat) (pre : List Int) : List S35 := if firstK L n 8 ∈ pre then rowsP L (firstK L n 8).toNat else []
def inMid (L : List Nd) (n : Nat) (k : Int) : Bool := isPart L k && (k ≠ firstK L n 6 && k ≠ firstK L n 8)
def bdR (L : List Nd) (n : Nat) (pre : List Int) : List S35 := (pre.filter (inMid L n)).flatMap (laneOf L)
theorem first_at {L : List Nd} {n j : Nat} {y c : Int} (hy : (kidsOf L (n : Int))[j]? = some y) (hc : kindOf L y = c) :
    if (((kidsOf L (n : Int)).take j).filter (kp L c)).length = 0 then firstK L n c = y else firstK L n c ∈ (kidsOf L (n : Int)).take j := by
  obtain ⟨rest, hrest⟩ := filter_split (kp L c) hy ((kp_iff L c y).2 hc)
  have e : kidsK L (n : Int) [c] = ((kidsOf L (n : Int)).take j).filter (kp L c) ++ y :: rest := hrest
  unfold firstK
  rw [e]
  cases q : ((kidsOf L (n : Int)).take j).filter (kp L c) with
  | nil => rfl
  | cons z zs =>
    rw [if_neg (by simp)]
    show z ∈ _
    exact (List.mem_filter.1 (show z ∈ ((kidsOf L (n : Int)).take j).filter (kp L c) by rw [q]; exact List.mem_cons_self ..)).1
theorem laneOf_le {L : List Nd} (hK : ∀ n ∈ L, n.f1.length ≤ 30) (k : Int) : (laneOf L k).length ≤ 31 := by
  unfold laneOf
  split
  · simp
  · unfold rowsP
    rw [List.length_map]
    unfold kidsK
    exact Nat.le_trans (List.length_filter_le ..) (by have := kids_small hK ((k.toNat : Nat) : Int); omega)
theorem flat_le {L : List Nd} (hK : ∀ n ∈ L, n.f1.length ≤ 30) : ∀ ks : List Int, (ks.flatMap (laneOf L)).length ≤ 31 * ks.length
  | [] => by simp
  | k :: ks => by
    rw [List.flatMap_cons, List.length_append, List.length_cons]
    have := flat_le hK ks
    have := laneOf_le hK k
    omega
theorem rowsP_le {L : List Nd} (hK : ∀ n ∈ L, n.f1.length ≤ 30) (g : Nat) : (rowsP L g).length ≤ 30 := by
  unfold rowsP
  rw [List.length_map]
  unfold kidsK
  exact Nat.le_trans (List.length_filter_le ..) (kids_small hK (g : Int))
theorem ref_all {L : List Nd} {n : Nat} (hki : KidsIn L) (hn : n < L.length) : hdR L n (kidsOf L (n : Int)) ++ bdR L n (kidsOf L (n : Int)) ++ ftR L n (kidsOf L (n : Int)) = laneRowsP L n := by
  rw [laneRows_eq hki hn]
  unfold partsK
  rw [List.flatMap_append, List.flatMap_append]
  have hone : ∀ c : Int, c = 6 ∨ c = 8 → (oneP (firstK L n c)).flatMap (laneOf L) = if firstK L n c ∈ kidsOf L (n : Int) then rowsP L (firstK L n c).toNat else [] := fun c hc => by
    unfold oneP
    by_cases q : 0 ≤ firstK L n c
    · obtain ⟨h1, h2⟩ := first_mem q
      rw [if_pos q, if_pos h1]
      unfold laneOf
      rw [List.flatMap_cons, h2, if_neg (by rcases hc with rfl | rfl <;> decide), List.flatMap_nil, List.append_nil]
    · rw [if_neg q, if_neg (fun h => q (kidsIn_of hki (by omega : (0 : Int) ≤ (n : Int)) (by omega) _ h).1)]
      rfl
  rw [hone 6 (.inl rfl), hone 8 (.inr rfl)]
  have hm : bdR L n (kidsOf L (n : Int)) = (midK L n).flatMap (laneOf L) := by
    unfold bdR midK kidsK
    rw [List.filter_filter]
    congr 2
    funext k
    unfold inMid isPart
    exact Bool.and_comm _ _
  rw [hm]
  rfl
theorem take_mem_no {xs : List Int} (h : xs.Nodup) {j : Nat} {y : Int} (hy : xs[j]? = some y) : y ∉ xs.take j := fun hm => by
  obtain ⟨i, hi⟩ := List.mem_iff_getElem?.1 hm
  rw [List.getElem?_take] at hi
  split at hi
  · rename_i hlt
    have h1 := (List.getElem?_eq_some_iff.1 hi)
    have h2 := (List.getElem?_eq_some_iff.1 hy)
    obtain ⟨l1, e1⟩ := h1
    obtain ⟨l2, e2⟩ := h2
    have := (List.pairwise_iff_getElem.1 h) i j l1 l2 hlt
    rw [e1, e2] at this
    exact this rfl
  · cases hi
theorem rrows_l0 (L : List Nd) (hK : ∀ n ∈ L, n.f1.length ≤ 30) (n : Nat) (hn : n < L.length) (hki : KidsIn L) (ht : Tidy L) : ∀ (d j k : Nat), j + d = (kidsOf L (n : Int)).length → d + 1010 < k →
    purflingref06_Rows.l0 k L (n : Int) (hdR L n ((kidsOf L (n : Int)).take j)) (bdR L n ((kidsOf L (n : Int)).take j)) (ftR L n ((kidsOf L (n : Int)).take j))
      ((((kidsOf L (n : Int)).take j).filter (kp L 6)).length : Int) ((((kidsOf L (n : Int)).take j).filter (kp L 8)).length : Int) (j : Int) = some (laneRowsP L n)
  | d, j, 0, _, hk => by omega
  | 0, j, k + 1, h, hk => by
    have hkl := kids_small hK (n : Int)
    have h1 : (hdR L n (kidsOf L (n : Int))).length ≤ 30 := by unfold hdR; split; exact rowsP_le hK _; simp
    have h2 : (ftR L n (kidsOf L (n : Int))).length ≤ 30 := by unfold ftR; split; exact rowsP_le hK _; simp
    have h3 : (bdR L n (kidsOf L (n : Int))).length ≤ 31 * 30 := by
      unfold bdR
      refine Nat.le_trans (flat_le hK _) ?_
      have := List.length_filter_le (inMid L n) (kidsOf L (n : Int))
      omega
    unfold purflingref06_Rows.l0
    rw [if_pos (by omega), if_pos (by omega), ← kids_eq, if_neg (by omega), List.take_of_length_le (by omega), if_pos (by omega), Option.bind_some, if_pos (by rw [List.length_append]; omega), ref_all hki hn]
  | d + 1, j, k + 1, h, hk => by
    have hkl := kids_small hK (n : Int)
    obtain ⟨y, hy⟩ : ∃ y, (kidsOf L (n : Int))[j]? = some y := ⟨_, List.getElem?_eq_getElem (by omega)⟩
    obtain ⟨h1, h2⟩ := kidsIn_of hki (by omega : (0 : Int) ≤ (n : Int)) (by omega) y (List.mem_of_getElem? hy)
    have hrec := rrows_l0 L hK n hn hki ht d (j + 1) k (by omega) (by omega)
    have hno := take_mem_no (ht.nodup (n : Int) (by omega)) hy
    have hle6 : (((kidsOf L (n : Int)).take j).filter (kp L 6)).length ≤ j := Nat.le_trans (List.length_filter_le ..) (by rw [List.length_take]; omega)
    have hle8 : (((kidsOf L (n : Int)).take j).filter (kp L 8)).length ≤ j := Nat.le_trans (List.length_filter_le ..) (by rw [List.length_take]; omega)
    have hbl : (bdR L n ((kidsOf L (n : Int)).take j)).length ≤ 31 * 30 := by
      unfold bdR
      refine Nat.le_trans (flat_le hK _) ?_
      have := List.length_filter_le (inMid L n) ((kidsOf L (n : Int)).take j)
      rw [List.length_take] at this
      omega
    have hgr := rgroup_f L (g := y) ⟨h1, h2⟩ hki (by have := kids_small hK y; omega) k (by omega)
    have hgl := rowsP_le hK y.toNat
    have htk : (kidsOf L (n : Int)).take (j + 1) = (kidsOf L (n : Int)).take j ++ [y] := by rw [List.take_add_one, hy]; rfl
    -- how the told lists grow
    have mem1 : ∀ x : Int, x ∈ (kidsOf L (n : Int)).take j ++ [y] ↔ x ∈ (kidsOf L (n : Int)).take j ∨ x = y := fun x => by simp
    have hb : bdR L n ((kidsOf L (n : Int)).take j ++ [y]) = bdR L n ((kidsOf L (n : Int)).take j) ++ (if inMid L n y then laneOf L y else []) := by
      unfold bdR
      rw [List.filter_append, List.flatMap_append]
      congr 1
      by_cases q : inMid L n y = true
      · rw [if_pos q, List.filter_cons_of_pos q]; simp
      · rw [if_neg q, List.filter_cons_of_neg q]; simp
    have hf : ∀ c : Int, (((kidsOf L (n : Int)).take j ++ [y]).filter (kp L c)).length = (((kidsOf L (n : Int)).take j).filter (kp L c)).length + (if kindOf L y = c then 1 else 0) := fun c => by
      rw [List.filter_append, List.length_append]
      congr 1
      by_cases q : kindOf L y = c
      · rw [if_pos q, List.filter_cons_of_pos ((kp_iff L c y).2 q)]; simp
      · rw [if_neg q, List.filter_cons_of_neg (fun h => q ((kp_iff L c y).1 h))]; simp
    have h6y : kindOf L y ≠ 6 → y ≠ firstK L n 6 := fun hne e => by
      have := (first_mem (l := L) (a := n) (k := 6) (by rw [← e]; exact h1)).2
      rw [← e] at this; exact hne this
    have h8y : kindOf L y ≠ 8 → y ≠ firstK L n 8 := fun hne e => by
      have := (first_mem (l := L) (a := n) (k := 8) (by rw [← e]; exact h1)).2
      rw [← e] at this; exact hne this
    have hdn : y ≠ firstK L n 6 → hdR L n ((kidsOf L (n : Int)).take j ++ [y]) = hdR L n ((kidsOf L (n : Int)).take j) := fun hne => by
      unfold hdR
      by_cases q : firstK L n 6 ∈ (kidsOf L (n : Int)).take j
      · rw [if_pos q, if_pos ((mem1 _).2 (.inl q))]
      · rw [if_neg q, if_neg (fun h => ((mem1 _).1 h).elim q (fun e => hne e.symm))]
    have hfn : y ≠ firstK L n 8 → ftR L n ((kidsOf L (n : Int)).take j ++ [y]) = ftR L n ((kidsOf L (n : Int)).take j) := fun hne => by
      unfold ftR
      by_cases q : firstK L n 8 ∈ (kidsOf L (n : Int)).take j
      · rw [if_pos q, if_pos ((mem1 _).2 (.inl q))]
      · rw [if_neg q, if_neg (fun h => ((mem1 _).1 h).elim q (fun e => hne e.symm))]
    rw [htk, hb, hf 6, hf 8] at hrec
    unfold purflingref06_Rows.l0
    rw [if_pos (by omega), if_pos (by omega), ← kids_eq, if_pos (by omega), if_pos (by omega), rd_int hy, if_pos h1, if_pos h2, ← kind_eq, wrapUp (j := j) (by omega), wrapUp (j := (((kidsOf L (n : Int)).take j).filter (kp L 6)).length) (by omega), wrapUp (j := (((kidsOf L (n : Int)).take j).filter (kp L 8)).length) (by omega)]
    by_cases q9 : kindOf L y = 9
    · have e6 := h6y (by omega)
      have e8 := h8y (by omega)
      rw [hdn e6, hfn e8, if_neg (by omega : ¬ kindOf L y = 6), if_neg (by omega : ¬ kindOf L y = 8), if_pos (by unfold inMid; rw [(isPart_iff L y).2 (.inl q9)]; simp [e6, e8]), Nat.add_zero, Nat.add_zero] at hrec
      rw [if_pos q9, if_pos (by omega)]
      unfold laneOf at hrec
      rw [if_pos q9] at hrec
      exact hrec
    rw [if_neg q9]
    have hlo : laneOf L y = rowsP L y.toNat := by unfold laneOf; rw [if_neg q9]
    rw [hlo] at hrec
    by_cases q6 : kindOf L y = 6
    · have e8 := h8y (by omega)
      have hfa := first_at hy q6
      rw [if_pos q6, hgr]
      rw [hfn e8, if_pos q6, if_neg (by omega : ¬ kindOf L y = 8), Nat.add_zero] at hrec
      by_cases q0 : (((kidsOf L (n : Int)).take j).filter (kp L 6)).length = 0
      · rw [if_pos q0] at hfa
        rw [if_pos (by omega), Option.bind_some]
        rw [if_neg (by unfold inMid; rw [hfa]; simp), List.append_nil] at hrec
        rw [show hdR L n ((kidsOf L (n : Int)).take j ++ [y]) = rowsP L y.toNat by unfold hdR; rw [hfa, if_pos ((mem1 _).2 (.inr rfl))]] at hrec
        exact hrec
      · rw [if_neg q0] at hfa
        have e6 : y ≠ firstK L n 6 := fun e => hno (e ▸ hfa)
        rw [if_neg (by omega), Option.bind_some, if_pos (by omega)]
        rw [hdn e6, if_pos (by unfold inMid; rw [(isPart_iff L y).2 (.inr (.inl q6))]; simp [e6, e8])] at hrec
        exact hrec
    rw [if_neg q6]
    have e6 := h6y q6
    rw [hdn e6, if_neg q6, Nat.add_zero] at hrec
    by_cases q8 : kindOf L y = 8
    · have hfa := first_at hy q8
      rw [if_pos q8, hgr]
      rw [if_pos q8] at hrec
      by_cases q0 : (((kidsOf L (n : Int)).take j).filter (kp L 8)).length = 0
      · rw [if_pos q0] at hfa
        rw [if_pos (by omega), Option.bind_some]
        rw [if_neg (by unfold inMid; rw [hfa]; simp), List.append_nil] at hrec
        rw [show ftR L n ((kidsOf L (n : Int)).take j ++ [y]) = rowsP L y.toNat by unfold ftR; rw [hfa, if_pos ((mem1 _).2 (.inr rfl))]] at hrec
        exact hrec
      · rw [if_neg q0] at hfa
        have e8 : y ≠ firstK L n 8 := fun e => hno (e ▸ hfa)
        rw [if_neg (by omega), Option.bind_some, if_pos (by omega)]
        rw [hfn e8, if_pos (by unfold inMid; rw [(isPart_iff L y).2 (.inr (.inr (.inr q8)))]; simp [e6, e8])] at hrec
        exact hrec
    rw [if_neg q8]
    have e8 := h8y q8
    rw [hfn e8, if_neg q8, Nat.add_zero] at hrec
    by_cases q7 : kindOf L y = 7
    · rw [if_pos q7, hgr, Option.bind_some, if_pos (by omega)]
      rw [if_pos (by unfold inMid; rw [(isPart_iff L y).2 (.inr (.inr (.inl q7)))]; simp [e6, e8])] at hrec
      exact hrec
    · rw [if_neg q7]
      rw [if_neg (by unfold inMid; rw [Bool.and_eq_true, isPart_iff]; omega), List.append_nil] at hrec
      exact hrec
theorem rrows_f (L : List Nd) (hK : ∀ n ∈ L, n.f1.length ≤ 30) (n : Nat) (hn : n < L.length) (hki : KidsIn L) (ht : Tidy L) (k : Nat) (hk : 2000 < k) : purflingref06_Rows.f k L (n : Int) = some (laneRowsP L n) := by
  have hkl := kids_small hK (n : Int)
  have h := rrows_l0 L hK n hn hki ht (kidsOf L (n : Int)).length 0 k (by omega) (by omega)
  unfold purflingref06_Rows.f
  simpa [hdR, bdR, ftR] using h
theorem rcapt_l0 (L : List Nd) (n : Nat) (hn : n < L.length) (hki : KidsIn L) (hK : (kidsOf L (n : Int)).length ≤ 1000) : ∀ (d j k : Nat), j + d = (kidsOf L (n : Int)).length → d < k →
    purflingref06_Captions.l0 k L (n : Int) (((kidsOf L (n : Int)).take j).filter (kp L 3)) (j : Int) = some (kidsK L (n : Int) [3])
  | d, j, 0, _, hk => by omega
  | 0, j, k + 1, h, _ => by
    unfold purflingref06_Captions.l0
    rw [if_pos (by omega), if_pos (by omega), ← kids_eq, if_neg (by omega), List.take_of_length_le (by omega)]
    rfl
  | d + 1, j, k + 1, h, hk => by
    unfold purflingref06_Captions.l0
    obtain ⟨y, hy⟩ : ∃ y, (kidsOf L (n : Int))[j]? = some y := ⟨_, List.getElem?_eq_getElem (by omega)⟩
    obtain ⟨h1, h2⟩ := kidsIn_of hki (by omega : (0 : Int) ≤ (n : Int)) (by omega) y (List.mem_of_getElem? hy)
    have hrec := rcapt_l0 L n hn hki hK d (j + 1) k (by omega) (by omega)
    have hle : (((kidsOf L (n : Int)).take j).filter (kp L 3)).length ≤ j := Nat.le_trans (List.length_filter_le ..) (by rw [List.length_take]; omega)
    rw [take_filter _ hy] at hrec
    rw [if_pos (by omega), if_pos (by omega), ← kids_eq, if_pos (by omega), if_pos (by omega), rd_int hy, if_pos h1, if_pos h2, wrapUp (by omega), ← kind_eq]
    by_cases q : kindOf L y = 3
    · rw [if_pos ((kp_iff L 3 y).2 q)] at hrec
      rw [if_pos q, if_pos (by omega)]
      exact hrec
    · rw [if_neg (fun h => q ((kp_iff L 3 y).1 h)), List.append_nil] at hrec
      rw [if_neg q]
      exact hrec
theorem pure_LanesRows {P Q : Prop} (l0 : List Nd) (a1 : Int) (_ : P) (_ : Q) : ∃ k, purflinglaw06_LanesRows.f k l0 a1 = some true := by
  obtain ⟨k0, hk0⟩ := rcheck6_ev l0 a1
  refine ⟨k0 + 1000000, ?_⟩
  have hrc := hk0 (k0 + 1000000) (by omega)
  dsimp only at hrc
  unfold purflinglaw06_LanesRows.f purflinglaw06_shown.f purflinglaw04_Cut.f
  rw [Option.bind_some, Option.bind_some, cut_rowsf, Option.bind_some]
  unfold lanes_Captions.f
  rw [if_pos ⟨cut_links l0, fun n hn => by have := cut_kids l0 n hn; omega⟩, Option.bind_some, hrc, Option.bind_some]
  by_cases q : checkL (cutL l0) a1 = 0
  · rw [if_pos q, if_pos q, if_pos q, if_pos rfl, if_pos rfl, if_pos rfl]
    obtain ⟨hok, n, rfl, hn, -⟩ := checkL_ok q
    have hkl := kids_small (cut_kids l0) (n : Int)
    have hs := rows_small (cut_kids l0) n
    rw [Int.toNat_natCast, rrows_f (cutL l0) (cut_kids l0) n hn hok.kidsIn hok.tidy _ (by omega), Option.bind_some]
    dsimp only
    rw [same_f _ (by omega) _ (by omega), Option.bind_some, if_pos rfl]
    have hc : purflingref06_Captions.f (k0 + 1000000) (cutL l0) (n : Int) = some (kidsK (cutL l0) (n : Int) [3]) := rcapt_l0 (cutL l0) n hn hok.kidsIn (by omega) (kidsOf (cutL l0) (n : Int)).length 0 _ (by omega) (by omega)
    have hcl : (kidsK (cutL l0) (n : Int) [3]).length ≤ 30 := Nat.le_trans (List.length_filter_le ..) hkl
    rw [hc, Option.bind_some, ints_fk6 _ (by omega) _ (by omega)]
    rfl
  · rw [if_neg q, if_neg q, if_neg q, if_pos rfl, if_pos rfl, if_pos rfl]
    simp
end Go.Proofs.Ytdmnaehgngpikaa.K
