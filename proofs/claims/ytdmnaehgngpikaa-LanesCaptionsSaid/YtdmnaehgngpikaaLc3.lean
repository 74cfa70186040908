/- Layer 6, plain law: captions. -/
import Derived.Test.YtdmnaehgngpikaaK22
import Derived.Test.YtdmnaehgngpikaaLc2
import Derived.Test.YtdmnaehgngpikaaLaB
namespace Go.Proofs.Ytdmnaehgngpikaa.K
open Go.RowKit Go.Proofs.YtdmnaehgngpikaaW.PrintWords Go.Proofs.YtdmnaehgngpikaaW.PrintLast Go.Proofs.YtdmnaehgngpikaaW.PrintMore
set_option linter.unusedVariables false
set_option linter.unusedSimpArgs false
theorem capt_l1 (L : List Nd) (C : List Int) (R : List S35) (hR : ∀ x ∈ R, (0 ≤ x.f0 ∧ x.f0 < (L.length : Int)) ∧ kindOf L x.f0 = 9) (hn : R.length < 1000000000) : ∀ (d j k : Nat), j + d = R.length → d < k → purflinglaw06_LanesCaptions.l1 k L true C R 0 (C.length : Int) (j : Int) = some true
  | 0, j, k + 1, h, _ => by
    unfold purflinglaw06_LanesCaptions.l1
    rw [if_neg (by omega), if_pos rfl, if_pos rfl]
    rfl
  | d + 1, j, k + 1, h, hk => by
    unfold purflinglaw06_LanesCaptions.l1
    obtain ⟨x, hx⟩ : ∃ x, R[j]? = some x := ⟨_, List.getElem?_eq_getElem (by omega)⟩
    obtain ⟨⟨h1, h2⟩, h3⟩ := hR x (List.mem_of_getElem? hx)
    rw [if_pos (by omega), if_pos (by omega), rd_ln hx, if_pos h1, if_pos h2, if_neg (by rw [← kind_eq, h3]; decide), wrapUp (by omega)]
    exact capt_l1 L C R hR hn d (j + 1) k (by omega) (by omega)
theorem capt_l0 (L : List Nd) (n : Nat) (hn : n < L.length) (hki : KidsIn L) (hK : (kidsOf L (n : Int)).length ≤ 1000) (R : List S35) (hR : ∀ x ∈ R, (0 ≤ x.f0 ∧ x.f0 < (L.length : Int)) ∧ kindOf L x.f0 = 9) (hRn : R.length < 1000000) :
    ∀ (d j k : Nat), j + d = (kidsOf L (n : Int)).length → d + R.length + 1 < k →
      purflinglaw06_LanesCaptions.l0 k L (n : Int) true (kidsK L (n : Int) [3]) R 0 ((((kidsOf L (n : Int)).take j).filter (fun k => ([3] : List Int).contains (kindOf L k))).length : Int) (j : Int) = some true
  | 0, j, k + 1, h, hk => by
    unfold purflinglaw06_LanesCaptions.l0
    rw [if_pos (by omega), if_pos (by omega), ← kids_eq, if_neg (by omega), List.take_of_length_le (by omega)]
    exact capt_l1 L (kidsK L (n : Int) [3]) R hR (by omega) R.length 0 k (by omega) (by omega)
  | d + 1, j, k + 1, h, hk => by
    unfold purflinglaw06_LanesCaptions.l0
    obtain ⟨y, hy⟩ : ∃ y, (kidsOf L (n : Int))[j]? = some y := ⟨_, List.getElem?_eq_getElem (by omega)⟩
    obtain ⟨h1, h2⟩ := kidsIn_of hki (by omega : (0 : Int) ≤ (n : Int)) (by omega) y (List.mem_of_getElem? hy)
    have hrec := capt_l0 L n hn hki hK R hR hRn d (j + 1) k (by omega) (by omega)
    have hle : (((kidsOf L (n : Int)).take j).filter (fun k => ([3] : List Int).contains (kindOf L k))).length ≤ j := Nat.le_trans (List.length_filter_le ..) (by rw [List.length_take]; omega)
    rw [if_pos (by omega), if_pos (by omega), ← kids_eq, if_pos (by omega), if_pos (by omega), rd_int hy, if_pos h1, if_pos h2]
    rw [take_filter _ hy, List.length_append] at hrec
    by_cases q : kindOf L y = 3
    · have hp : ([3] : List Int).contains (kindOf L y) = true := by rw [q]; rfl
      obtain ⟨rest, hrest⟩ := filter_split (fun k => ([3] : List Int).contains (kindOf L k)) hy hp
      have hcap : kidsK L (n : Int) [3] = ((kidsOf L (n : Int)).take j).filter (fun k => ([3] : List Int).contains (kindOf L k)) ++ y :: rest := hrest
      have hlt : (((kidsOf L (n : Int)).take j).filter (fun k => ([3] : List Int).contains (kindOf L k))).length < (kidsK L (n : Int) [3]).length := by rw [hcap, List.length_append, List.length_cons]; omega
      have hat : (kidsK L (n : Int) [3])[(((kidsOf L (n : Int)).take j).filter (fun k => ([3] : List Int).contains (kindOf L k))).length]? = some y := by rw [hcap, List.getElem?_append_right (Nat.le_refl _), Nat.sub_self]; rfl
      rw [if_pos hp] at hrec
      rw [if_pos (by rw [← kind_eq]; exact q), if_neg (by omega), if_pos (by omega), if_pos (by omega), rd_int hat, if_pos rfl, wrapUp (by omega), wrapUp (by omega)]
      exact hrec
    · have hp : ([3] : List Int).contains (kindOf L y) = false := by simp [q]
      rw [if_neg (by rw [hp]; decide), List.length_nil, Nat.add_zero] at hrec
      rw [if_neg (by rw [← kind_eq]; exact q), wrapUp (by omega)]
      exact hrec
theorem cut_captf (l : List Nd) (a : Int) : lanes_Captions.f (cutL l) a = some (if checkL (cutL l) a = 0 then (kidsK (cutL l) a.toNat [3], 0) else ([], checkL (cutL l) a)) := by
  unfold lanes_Captions.f
  rw [if_pos ⟨cut_links l, fun n hn => by have := cut_kids l n hn; omega⟩]
theorem pure_LanesCaptions {P Q : Prop} (l0 : List Nd) (a1 : Int) (_ : P) (_ : Q) : ∃ k, purflinglaw06_LanesCaptions.f k l0 a1 = some true := by
  refine ⟨1000000 + 100, ?_⟩
  unfold purflinglaw06_LanesCaptions.f purflinglaw06_shown.f purflinglaw04_Cut.f
  rw [Option.bind_some, Option.bind_some, cut_captf, Option.bind_some, cut_rowsf, Option.bind_some]
  by_cases q : checkL (cutL l0) a1 = 0
  · rw [if_pos q, if_pos q, if_pos rfl]
    obtain ⟨hok, n, rfl, hn, -⟩ := checkL_ok q
    rw [Int.toNat_natCast]
    have h := capt_l0 (cutL l0) n hn hok.kidsIn (by have := kids_small (cut_kids l0) (n : Int); omega) (laneRowsP (cutL l0) n) (fun x hx => by have h := rows_mem hok.kidsIn hn hx; exact ⟨h.1, h.2.1⟩)
    have hs := rows_small (cut_kids l0) n
    exact h (by omega) (kidsOf (cutL l0) (n : Int)).length 0 (1000000 + 100) (by omega) (by have := kids_small (cut_kids l0) (n : Int); omega)
  · rw [if_neg q, if_neg q, if_neg q, if_pos rfl]
    simp
end Go.Proofs.Ytdmnaehgngpikaa.K
