/- Layer 6, plain law: the first head's rows are ahead of all, the first foot's behind all. -/
import Derived.Test.YtdmnaehgngpikaaK19
import Derived.Test.YtdmnaehgngpikaaLc2
namespace Go.Proofs.Ytdmnaehgngpikaa.K
open Go.RowKit Go.Proofs.YtdmnaehgngpikaaW.PrintWords Go.Proofs.YtdmnaehgngpikaaW.PrintLast Go.Proofs.YtdmnaehgngpikaaW.PrintMore
set_option linter.unusedVariables false
set_option linter.unusedSimpArgs false
/-- one behind the other: none of h's behind others, none of t's ahead of others -/
def HeadsOK (R : List S35) (h t : Int) : Prop := ∀ (i : Nat) (x y : S35), R[i]? = some x → R[i + 1]? = some y → (y.f1 = h → 0 ≤ h → x.f1 = h) ∧ (x.f1 = t → 0 ≤ t → y.f1 = t)
theorem heads_of {A M B : List S35} {h t : Int} (hA : ∀ x ∈ A, x.f1 = h ∧ 0 ≤ h) (hM : ∀ x ∈ M, (0 ≤ h → x.f1 ≠ h) ∧ (0 ≤ t → x.f1 ≠ t)) (hB : ∀ x ∈ B, x.f1 = t ∧ 0 ≤ t) (hne : 0 ≤ h → 0 ≤ t → h ≠ t) : HeadsOK (A ++ M ++ B) h t := by
  intro i x y hx hy
  have ka : ∀ {z : S35} {j : Nat}, (A ++ M ++ B)[j]? = some z → (j < A.length ∧ z ∈ A) ∨ (A.length ≤ j ∧ j < (A ++ M).length ∧ z ∈ M) ∨ ((A ++ M).length ≤ j ∧ z ∈ B) := fun {z j} hz => by
    by_cases q : j < (A ++ M).length
    · rw [List.getElem?_append_left q] at hz
      by_cases q2 : j < A.length
      · rw [List.getElem?_append_left q2] at hz
        exact .inl ⟨q2, List.mem_of_getElem? hz⟩
      · rw [List.getElem?_append_right (by omega)] at hz
        exact .inr (.inl ⟨by omega, q, List.mem_of_getElem? hz⟩)
    · rw [List.getElem?_append_right (by omega)] at hz
      exact .inr (.inr ⟨by omega, List.mem_of_getElem? hz⟩)
  refine ⟨fun e h0 => ?_, fun e t0 => ?_⟩
  · rcases ka hy with ⟨h1, h2⟩ | ⟨h1, h2, h3⟩ | ⟨h1, h2⟩
    · rcases ka hx with ⟨-, g⟩ | ⟨g, -, -⟩ | ⟨g, -⟩
      · exact (hA x g).1
      · omega
      · rw [List.length_append] at g; omega
    · exact absurd e ((hM y h3).1 h0)
    · obtain ⟨k1, k2⟩ := hB y h2
      exact absurd (e.symm.trans k1) (hne h0 k2)
  · rcases ka hx with ⟨h1, h2⟩ | ⟨h1, h2, h3⟩ | ⟨h1, h2⟩
    · obtain ⟨k1, k2⟩ := hA x h2
      exact absurd (k1.symm.trans e) (hne k2 t0)
    · exact absurd e ((hM x h3).2 t0)
    · rcases ka hy with ⟨g, -⟩ | ⟨-, g, -⟩ | ⟨-, g⟩
      · rw [List.length_append] at h1; omega
      · omega
      · exact (hB y g).1
theorem group_of {l : List Nd} {k : Int} {x : S35} (hk : 0 ≤ k) (hx : x ∈ laneOf l k) : (kindOf l k = 9 ∧ x.f1 = -1) ∨ (kindOf l k ≠ 9 ∧ x.f1 = k) := by
  unfold laneOf at hx
  split at hx
  · rename_i q
    rw [List.mem_singleton.1 hx]; exact .inl ⟨q, rfl⟩
  · rename_i q
    obtain ⟨n, rfl⟩ := Int.eq_ofNat_of_zero_le hk
    rw [Int.toNat_natCast] at hx
    unfold rowsP at hx
    obtain ⟨y, -, rfl⟩ := List.mem_map.1 hx
    exact .inr ⟨q, rfl⟩
theorem rows_heads {l : List Nd} {a : Nat} (hki : KidsIn l) (ha : a < l.length) : HeadsOK (laneRowsP l a) (firstK l a 6) (firstK l a 8) := by
  rw [laneRows_eq hki ha]
  unfold partsK
  rw [List.flatMap_append, List.flatMap_append]
  have ho : ∀ (c : Int) (x : S35), c = 6 ∨ c = 8 → x ∈ (oneP (firstK l a c)).flatMap (laneOf l) → x.f1 = firstK l a c ∧ 0 ≤ firstK l a c := fun c x hc hx => by
    obtain ⟨k, hk, hx⟩ := List.mem_flatMap.1 hx
    unfold oneP at hk
    split at hk
    · rename_i q
      rw [List.mem_singleton.1 hk] at hx
      rcases group_of q hx with ⟨h1, -⟩ | ⟨-, h2⟩
      · rw [(first_mem q).2] at h1
        rcases hc with rfl | rfl <;> exact absurd h1 (by decide)
      · exact ⟨h2, q⟩
    · cases hk
  refine heads_of (fun x hx => ho 6 x (.inl rfl) hx) (fun x hx => ?_) (fun x hx => ho 8 x (.inr rfl) hx) (fun h6 h8 => first_ne h6 h8)
  obtain ⟨k, hk, hx⟩ := List.mem_flatMap.1 hx
  unfold midK at hk
  obtain ⟨h1, h2⟩ := List.mem_filter.1 hk
  have h0 := (kidsIn_of hki (by omega : (0 : Int) ≤ (a : Int)) (by omega) _ (List.mem_filter.1 h1).1).1
  have hne : k ≠ firstK l a 6 ∧ k ≠ firstK l a 8 := by simpa using h2
  rcases group_of h0 hx with ⟨-, e⟩ | ⟨-, e⟩
  · exact ⟨fun h => by rw [e]; omega, fun h => by rw [e]; omega⟩
  · exact ⟨fun _ => by rw [e]; exact hne.1, fun _ => by rw [e]; exact hne.2⟩
theorem heads_l1 (R : List S35) (h t : Int) (hok : HeadsOK R h t) (hn : R.length < 1000000000) : ∀ (d j k : Nat), j + d = R.length → d < k → purflinglaw06_LanesHeads.l1 k true R h t (((j + 1 : Nat)) : Int) = some true
  | d, j, 0, _, hk => by omega
  | 0, j, k + 1, hj, _ => by
    unfold purflinglaw06_LanesHeads.l1
    rw [if_neg (by omega)]
  | d + 1, j, k + 1, hj, hk => by
    unfold purflinglaw06_LanesHeads.l1
    by_cases q : j + 1 < R.length
    · obtain ⟨x, hx⟩ : ∃ x, R[j]? = some x := ⟨_, List.getElem?_eq_getElem (by omega)⟩
      obtain ⟨y, hy⟩ : ∃ y, R[j + 1]? = some y := ⟨_, List.getElem?_eq_getElem q⟩
      obtain ⟨o1, o2⟩ := hok j x y hx hy
      have hw : wrap64 (((j + 1 : Nat) : Int) - 1) = (j : Int) := by unfold wrap64; omega
      have hrec := heads_l1 R h t hok hn d (j + 1) k (by omega) (by omega)
      rw [if_pos (by omega), if_pos (by omega), rd_ln hy, hw, rd_ln hx, wrapUp (by omega)]
      have p0 : (0 : Int) ≤ (j : Int) := by omega
      have p1 : (j : Int) < (R.length : Int) := by omega
      simp only [if_pos p0, if_pos p1]
      by_cases c1 : y.f1 = h
      · by_cases c2 : h ≥ 0
        · have c3 := o1 c1 c2
          rw [if_pos c1, if_pos c2, if_pos c3]
          by_cases c4 : x.f1 = t
          · by_cases c5 : t ≥ 0
            · rw [if_pos c4, if_pos c5, if_pos (o2 c4 c5)]; exact hrec
            · rw [if_pos c4, if_neg c5]; exact hrec
          · rw [if_neg c4]; exact hrec
        · rw [if_pos c1, if_neg c2]
          by_cases c4 : x.f1 = t
          · by_cases c5 : t ≥ 0
            · rw [if_pos c4, if_pos c5, if_pos (o2 c4 c5)]; exact hrec
            · rw [if_pos c4, if_neg c5]; exact hrec
          · rw [if_neg c4]; exact hrec
      · rw [if_neg c1]
        by_cases c4 : x.f1 = t
        · by_cases c5 : t ≥ 0
          · rw [if_pos c4, if_pos c5, if_pos (o2 c4 c5)]; exact hrec
          · rw [if_pos c4, if_neg c5]; exact hrec
        · rw [if_neg c4]; exact hrec
    · rw [if_neg (by omega)]
def tailK (l : List Nd) (a : Nat) (i : Nat) (c : Int) : Int := (((kidsOf l (a : Int)).drop i).filter (fun k => ([c] : List Int).contains (kindOf l k))).headD (-1)
theorem heads_l0 (L : List Nd) (n : Nat) (hn : n < L.length) (hki : KidsIn L) (hK : (kidsOf L (n : Int)).length ≤ 1000) (R : List S35) (hR : R.length < 1000000000) (hok : HeadsOK R (firstK L n 6) (firstK L n 8)) :
    ∀ (i k : Nat), i ≤ (kidsOf L (n : Int)).length → i + R.length + 1 < k → purflinglaw06_LanesHeads.l0 k L (n : Int) true R (tailK L n i 6) (tailK L n i 8) ((i : Int) - 1) = some true
  | i, 0, _, hk => by omega
  | 0, k + 1, h, hk => by
    unfold purflinglaw06_LanesHeads.l0
    rw [if_neg (by omega)]
    have h6 : tailK L n 0 6 = firstK L n 6 := rfl
    have h8 : tailK L n 0 8 = firstK L n 8 := rfl
    rw [h6, h8]
    exact heads_l1 R _ _ hok hR R.length 0 k (by omega) (by omega)
  | i + 1, k + 1, h, hk => by
    unfold purflinglaw06_LanesHeads.l0
    obtain ⟨y, hy⟩ : ∃ y, (kidsOf L (n : Int))[i]? = some y := ⟨_, List.getElem?_eq_getElem (by omega)⟩
    obtain ⟨h1, h2⟩ := kidsIn_of hki (by omega : (0 : Int) ≤ (n : Int)) (by omega) y (List.mem_of_getElem? hy)
    have hrec := heads_l0 L n hn hki hK R hR hok i k (by omega) (by omega)
    have hd : (kidsOf L (n : Int)).drop i = y :: (kidsOf L (n : Int)).drop (i + 1) := by
      obtain ⟨hl, rfl⟩ := List.getElem?_eq_some_iff.1 hy
      exact List.drop_eq_getElem_cons hl
    have ht : ∀ c : Int, tailK L n i c = if kindOf L y = c then y else tailK L n (i + 1) c := fun c => by
      unfold tailK
      rw [hd, List.filter_cons]
      by_cases q : kindOf L y = c
      · rw [if_pos q, if_pos (by simp [q])]; rfl
      · rw [if_neg q, if_neg (by simp [q])]
    have hw : wrap64 ((i : Int) - 1) = (i : Int) - 1 := by unfold wrap64; omega
    rw [show (((i + 1 : Nat) : Int) - 1) = (i : Int) by omega, if_pos (by omega), if_pos (by omega), if_pos (by omega), if_pos (by omega), ← kids_eq, if_pos (by omega), rd_int hy, if_pos h1, if_pos h2, hw]
    rw [ht 6, ht 8] at hrec
    by_cases q6 : kindOf L y = 6
    · rw [if_pos (by rw [← kind_eq]; exact q6), if_neg (by rw [← kind_eq, q6]; decide)]
      rw [if_pos q6, if_neg (by rw [q6]; decide)] at hrec
      exact hrec
    · rw [if_neg (by rw [← kind_eq]; exact q6)]
      rw [if_neg q6] at hrec
      by_cases q8 : kindOf L y = 8
      · rw [if_pos (by rw [← kind_eq]; exact q8)]
        rw [if_pos q8] at hrec
        exact hrec
      · rw [if_neg (by rw [← kind_eq]; exact q8)]
        rw [if_neg q8] at hrec
        exact hrec
theorem pure_LanesHeads {P Q : Prop} (l0 : List Nd) (a1 : Int) (_ : P) (_ : Q) : ∃ k, purflinglaw06_LanesHeads.f k l0 a1 = some true := by
  refine ⟨1000000 + 100, ?_⟩
  unfold purflinglaw06_LanesHeads.f purflinglaw06_shown.f purflinglaw04_Cut.f
  rw [Option.bind_some, Option.bind_some, cut_rowsf, Option.bind_some]
  by_cases q : checkL (cutL l0) a1 = 0
  · rw [if_pos q, if_pos rfl]
    obtain ⟨hok, n, rfl, hn, -⟩ := checkL_ok q
    rw [Int.toNat_natCast, if_pos (by omega), if_pos (by omega), ← kids_eq]
    have hk := kids_small (cut_kids l0) (n : Int)
    have hs := rows_small (cut_kids l0) n
    have h := heads_l0 (cutL l0) n hn hok.kidsIn (by omega) (laneRowsP (cutL l0) n) (by omega) (rows_heads hok.kidsIn hn) (kidsOf (cutL l0) (n : Int)).length (1000000 + 100) (Nat.le_refl _) (by omega)
    have ht : ∀ c : Int, tailK (cutL l0) n (kidsOf (cutL l0) (n : Int)).length c = -1 := fun c => by unfold tailK; rw [List.drop_length]; rfl
    rw [ht, ht] at h
    have hw : wrap64 (((kidsOf (cutL l0) (n : Int)).length : Int) - 1) = ((kidsOf (cutL l0) (n : Int)).length : Int) - 1 := by unfold wrap64; omega
    rw [hw]
    exact h
  · rw [if_neg q, if_neg q]
end Go.Proofs.Ytdmnaehgngpikaa.K
