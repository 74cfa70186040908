/- Layer 6, plain: a table's rows, told by its parts. -/
import Derived.Test.YtdmnaehgngpikaaLaC
import Derived.Test.YtdmnaehgngpikaaTrCf
namespace Go.Proofs.Ytdmnaehgngpikaa.K
open Go.RowKit Go.Proofs.YtdmnaehgngpikaaW.PrintWords Go.Proofs.YtdmnaehgngpikaaW.PrintLast Go.Proofs.YtdmnaehgngpikaaW.PrintMore
set_option linter.unusedVariables false
set_option linter.unusedSimpArgs false
theorem kids_eq (l : List Nd) (a : Int) : kidsOf l a = (rd_T48 l a).f1 := rfl
theorem kind_eq (l : List Nd) (a : Int) : kindOf l a = (rd_T48 l a).f0 := rfl
/-- a part's rows -/
def laneOf (l : List Nd) (k : Int) : List S35 := if kindOf l k = 9 then [⟨k, -1⟩] else rowsP l k.toNat
def isPart (l : List Nd) (k : Int) : Bool := ([9, 6, 7, 8] : List Int).contains (kindOf l k)
theorem isPart_iff (l : List Nd) (k : Int) : isPart l k = true ↔ kindOf l k = 9 ∨ kindOf l k = 6 ∨ kindOf l k = 7 ∨ kindOf l k = 8 := by unfold isPart; simp
def oneP (k : Int) : List Int := if 0 ≤ k then [k] else []
/-- what stands between the first head and the first foot -/
def midK (l : List Nd) (a : Nat) : List Int := (kidsK l a [9, 6, 7, 8]).filter (fun k => k ≠ firstK l a 6 && k ≠ firstK l a 8)
/-- a table's parts in their rows' order -/
def partsK (l : List Nd) (a : Nat) : List Int := oneP (firstK l a 6) ++ midK l a ++ oneP (firstK l a 8)
theorem first_mem {l : List Nd} {a : Nat} {k : Int} (h : 0 ≤ firstK l a k) : firstK l a k ∈ kidsOf l a ∧ kindOf l (firstK l a k) = k := by
  unfold firstK at h ⊢
  cases q : kidsK l a [k] with
  | nil => rw [q] at h; simp at h
  | cons y ys =>
    have hy : y ∈ kidsK l a [k] := by rw [q]; exact List.mem_cons_self ..
    obtain ⟨h1, h2⟩ := List.mem_filter.1 hy
    exact ⟨h1, by simpa using h2⟩
theorem foldl_parts (l : List Nd) (a : Nat) : ∀ (ks : List Int) (st : List S35 × List S35), (∀ k ∈ ks, isPart l k = true) →
    ks.foldl (partP l a) st = (st.1 ++ (ks.filter (fun k => k ≠ firstK l a 6 && k ≠ firstK l a 8)).flatMap (laneOf l), if firstK l a 8 ∈ ks ∧ firstK l a 8 ≠ firstK l a 6 then rowsP l (firstK l a 8).toNat else st.2)
  | [], st, _ => by simp
  | k :: ks, st, h => by
    rw [List.foldl_cons, foldl_parts l a ks _ (fun x hx => h x (List.mem_cons_of_mem _ hx))]
    unfold partP
    by_cases q6 : k = firstK l a 6
    · rw [if_pos q6, List.filter_cons_of_neg (by simp [q6])]
      congr 1
      by_cases q : firstK l a 8 ∈ ks ∧ firstK l a 8 ≠ firstK l a 6
      · rw [if_pos q, if_pos ⟨List.mem_cons_of_mem _ q.1, q.2⟩]
      · rw [if_neg q, if_neg (fun h => q ⟨(List.mem_cons.1 h.1).resolve_left (fun e => h.2 (e.trans q6)), h.2⟩)]
    · rw [if_neg q6]
      by_cases q8 : k = firstK l a 8
      · rw [if_pos q8, List.filter_cons_of_neg (by simp [q8])]
        congr 1
        dsimp only
        rw [if_pos (show firstK l a 8 ∈ k :: ks ∧ _ from ⟨by rw [← q8]; exact List.mem_cons_self .., fun e => q6 (q8.trans e)⟩), q8]
        split <;> rfl
      · rw [if_neg q8, List.filter_cons_of_pos (by simp [q6, q8]), List.flatMap_cons]
        have hmem : (firstK l a 8 ∈ k :: ks ∧ firstK l a 8 ≠ firstK l a 6) ↔ (firstK l a 8 ∈ ks ∧ firstK l a 8 ≠ firstK l a 6) := by
          rw [List.mem_cons]
          exact ⟨fun h => ⟨h.1.resolve_left (fun e => q8 e.symm), h.2⟩, fun h => ⟨.inr h.1, h.2⟩⟩
        simp only [hmem]
        unfold laneOf
        by_cases q9 : kindOf l k = 9
        · rw [if_pos q9, if_pos q9]
          dsimp only
          rw [List.append_assoc]
        · rw [if_neg q9, if_neg q9]
          dsimp only
          rw [List.append_assoc]
theorem kidsK_part (l : List Nd) (a : Int) : ∀ k ∈ kidsK l a [9, 6, 7, 8], isPart l k = true := fun k hk => (List.mem_filter.1 hk).2
theorem laneRows_eq {l : List Nd} {a : Nat} (hki : KidsIn l) (ha : a < l.length) : laneRowsP l a = (partsK l a).flatMap (laneOf l) := by
  unfold laneRowsP
  dsimp only
  rw [foldl_parts l a _ _ (kidsK_part l a)]
  unfold partsK
  rw [List.flatMap_append, List.flatMap_append]
  have hH : (oneP (firstK l a 6)).flatMap (laneOf l) = headP l a := by
    unfold oneP headP
    by_cases q : 0 ≤ firstK l a 6
    · rw [if_pos q, if_pos q]
      unfold laneOf
      simp [(first_mem q).2]
    · rw [if_neg q, if_neg q]; rfl
  have hF : (oneP (firstK l a 8)).flatMap (laneOf l) = if firstK l a 8 ∈ kidsK l a [9, 6, 7, 8] ∧ firstK l a 8 ≠ firstK l a 6 then rowsP l (firstK l a 8).toNat else [] := by
    unfold oneP
    by_cases q : 0 ≤ firstK l a 8
    · obtain ⟨h1, h2⟩ := first_mem q
      have hne : firstK l a 8 ≠ firstK l a 6 := fun e => by
        rw [e] at q h2
        have := (first_mem q).2
        rw [h2] at this
        exact absurd this (by decide)
      rw [if_pos q, if_pos ⟨List.mem_filter.2 ⟨h1, by rw [h2]; rfl⟩, hne⟩]
      unfold laneOf
      simp [h2]
    · rw [if_neg q, if_neg]
      · rfl
      · rintro ⟨h, -⟩
        exact q (kidsIn_of hki (by omega : (0 : Int) ≤ (a : Int)) (by omega) _ (List.mem_filter.1 h).1).1
  rw [hH, hF]
  rfl
theorem rd_int {xs : List Int} {j : Nat} {x : Int} (h : xs[j]? = some x) : rd xs (j : Int) = x := by unfold rd; rw [Int.toNat_natCast, List.getD_eq_getElem?_getD, h]; rfl
theorem rows_small {L : List Nd} (hK : ∀ n ∈ L, n.f1.length ≤ 30) (a : Nat) : (laneRowsP L a).length ≤ 100000 := by
  unfold laneRowsP
  dsimp only
  have hK0 : ∀ n ∈ L, n.f1.length ≤ 1000 := fun n hn => by have := hK n hn; omega
  have h1 := parts_len hK0 a (kidsK L a [9, 6, 7, 8]) (headP L a, []) 1 (by show (headP L a).length ≤ _; unfold headP; split; have := rowsP_len hK0 (firstK L a 6).toNat; omega; simp) (by simp)
  have h2 := kidsK_len L a [9, 6, 7, 8] (fun n hn => by have := hK n hn; omega)
  have h3 : (kidsK L a [9, 6, 7, 8]).length ≤ 30 := by
    unfold kidsK
    refine Nat.le_trans (List.length_filter_le ..) ?_
    unfold kidsOf rd_T48
    rw [List.getD_eq_getElem?_getD]
    cases q : L[(a : Int).toNat]? with
    | none => simp [z48]
    | some x => exact hK x (List.mem_of_getElem? q)
  rw [List.length_append]
  have := h1.1
  have := h1.2
  omega
theorem kids_small {L : List Nd} (hK : ∀ n ∈ L, n.f1.length ≤ 30) (a : Int) : (kidsOf L a).length ≤ 30 := by
  unfold kidsOf rd_T48
  rw [List.getD_eq_getElem?_getD]
  cases q : L[a.toNat]? with
  | none => simp [z48]
  | some x => exact hK x (List.mem_of_getElem? q)
theorem cut_rowsf (l : List Nd) (a : Int) : lanes_Rows.f (cutL l) a = some (if checkL (cutL l) a = 0 then (laneRowsP (cutL l) a.toNat, 0) else ([], checkL (cutL l) a)) := by
  unfold lanes_Rows.f
  rw [if_pos ⟨cut_links l, fun n hn => by have := cut_kids l n hn; omega⟩]
end Go.Proofs.Ytdmnaehgngpikaa.K
