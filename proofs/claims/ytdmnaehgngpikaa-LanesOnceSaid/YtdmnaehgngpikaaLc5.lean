/- Layer 6, plain law: each row is there once. -/
import Derived.Test.YtdmnaehgngpikaaK18
import Derived.Test.YtdmnaehgngpikaaLc2
namespace Go.Proofs.Ytdmnaehgngpikaa.K
open Go.RowKit Go.Proofs.YtdmnaehgngpikaaW.PrintWords Go.Proofs.YtdmnaehgngpikaaW.PrintLast Go.Proofs.YtdmnaehgngpikaaW.PrintMore
set_option linter.unusedVariables false
set_option linter.unusedSimpArgs false
/-- how many rows a kid of the table makes -/
def lenP (l : List Nd) (k : Int) : Nat := if isPart l k then (laneOf l k).length else 0
theorem sum_parts (l : List Nd) : ∀ ks : List Int, ((ks.filter (isPart l)).map (fun k => (laneOf l k).length)).sum = (ks.map (lenP l)).sum
  | [] => rfl
  | k :: ks => by
    rw [List.map_cons, List.sum_cons, ← sum_parts l ks]
    unfold lenP
    by_cases q : isPart l k = true
    · rw [List.filter_cons_of_pos q, List.map_cons, List.sum_cons, if_pos q]
    · rw [List.filter_cons_of_neg q, if_neg q, Nat.zero_add]
theorem rows_len {l : List Nd} {a : Nat} (ht : Tidy l) (hki : KidsIn l) (ha : a < l.length) : (laneRowsP l a).length = ((kidsOf l (a : Int)).map (lenP l)).sum := by
  rw [laneRows_eq hki ha, List.length_flatMap, ((parts_perm ht hki ha).map _).sum_nat, ← sum_parts]
  rfl
theorem rows_once {l : List Nd} {a : Nat} (ht : Tidy l) (hki : KidsIn l) (ha : a < l.length) (hkind : kindOf l (a : Int) = 2) : ((laneRowsP l a).map (fun x => x.f0)).Nodup := by
  rw [laneRows_eq hki ha, List.map_flatMap]
  unfold List.Nodup
  rw [List.pairwise_flatMap]
  constructor
  · intro k hk
    have hr := part_range hki ha hk
    unfold laneOf
    split
    · simp
    · obtain ⟨n, rfl⟩ := Int.eq_ofNat_of_zero_le hr.1
      rw [Int.toNat_natCast]
      unfold rowsP
      rw [List.map_map]
      have e : (kidsK l (n : Int) [9]).map ((fun x : S35 => x.f0) ∘ laneP (n : Int)) = kidsK l (n : Int) [9] := by
        conv => rhs; rw [← List.map_id (kidsK l (n : Int) [9])]
        rfl
      rw [e]
      exact kidsK_nodup ht n [9]
  · refine List.Pairwise.imp_of_mem ?_ (parts_nodup ht)
    intro k m hk hm hne x' hx' y' hy' e
    obtain ⟨x, hx, hxx⟩ := List.mem_map.1 hx'
    obtain ⟨y, hy, hyy⟩ := List.mem_map.1 hy'
    have hxy : y.f0 = x.f0 := hyy.trans (e.symm.trans hxx.symm)
    clear hxx hyy e hx' hy'
    have hrk := part_range hki ha hk
    have hrm := part_range hki ha hm
    obtain ⟨-, -, h1⟩ := lane_mem hki hrk hx
    obtain ⟨-, -, h2⟩ := lane_mem hki hrm hy
    have hkk := (List.mem_filter.1 ((parts_mem hki ha k).1 hk))
    have hmm := (List.mem_filter.1 ((parts_mem hki ha m).1 hm))
    have ha0 : (0 : Int) ≤ (a : Int) := by omega
    have nota : ∀ q : Int, isPart l q = true → (a : Int) ≠ q := fun q hq e => by
      rw [isPart_iff, ← e, hkind] at hq; omega
    rcases h1 with ⟨rfl, hk9⟩ | ⟨-, hk9, hxk⟩
    · rcases h2 with ⟨rfl, -⟩ | ⟨-, -, hym⟩
      · exact hne hxy.symm
      · have hxy' : y.f0 = k := hxy
        rw [hxy'] at hym
        exact nota m hmm.2 (ht.one _ _ _ ha0 hrm.1 hkk.1 hym)
    · rcases h2 with ⟨rfl, -⟩ | ⟨-, -, hym⟩
      · have hxy' : m = x.f0 := hxy
        rw [← hxy'] at hxk
        exact nota k hkk.2 (ht.one _ _ _ ha0 hrk.1 hmm.1 hxk)
      · rw [hxy] at hym
        exact hne (ht.one _ _ _ hrk.1 hrm.1 hxk hym)
/-- how often nodes are there, among the first rows -/
def TimesOK (L : List Nd) (ns : List Int) (tm : List Int) : Prop := tm.length = L.length ∧ ∀ i : Nat, i < L.length → tm[i]? = some ((ns.count (i : Int) : Nat) : Int)
theorem TimesOK.next {L : List Nd} {ns tm : List Int} (h : TimesOK L ns tm) {y : Nat} (hy : y < L.length) : TimesOK L (ns ++ [(y : Int)]) (tm.set y (((ns.count (y : Int) + 1 : Nat)) : Int)) := by
  refine ⟨by rw [List.length_set]; exact h.1, fun i hi => ?_⟩
  rw [List.count_append]
  by_cases q : y = i
  · subst q
    rw [List.getElem?_set_self (by rw [h.1]; exact hi)]
    simp
  · rw [List.getElem?_set_ne q, h.2 i hi, List.count_singleton, if_neg (by simp; omega), Nat.add_zero]
theorem once_l3 (L : List Nd) (R : List S35) (tm : List Int) (hT : TimesOK L (R.map (fun x => x.f0)) tm) (hN : (R.map (fun x => x.f0)).Nodup) (hL : L.length ≤ 1000) : ∀ (d j k : Nat), j + d = L.length → d < k → purflinglaw06_LanesOnce.l3 k L true R tm (R.length : Int) (j : Int) = some true
  | d, j, 0, _, hk => by omega
  | 0, j, k + 1, h, _ => by
    unfold purflinglaw06_LanesOnce.l3
    rw [if_neg (by omega), if_pos rfl]
    simp
  | d + 1, j, k + 1, h, hk => by
    unfold purflinglaw06_LanesOnce.l3
    have hc := List.nodup_iff_count.1 hN (j : Int)
    rw [if_pos (by omega), if_pos (by omega), if_pos (by rw [hT.1]; omega), rd_int (hT.2 j (by omega)), if_neg (by omega), wrapUp (by omega)]
    exact once_l3 L R tm hT hN hL d (j + 1) k (by omega) (by omega)
theorem once_l2 (L : List Nd) (n : Int) (R : List S35) (tm : List Int) (j m : Nat) (hm : m < L.length) (hki : KidsIn L) (hK : (kidsOf L (m : Int)).length ≤ 1000) (k0 : Nat) (c : Nat)
    (hnext : ∀ k, k0 ≤ k → purflinglaw06_LanesOnce.l1 k L n true R tm (((c + (if 6 ≤ kindOf L (m : Int) ∧ kindOf L (m : Int) ≤ 8 then (kidsK L (m : Int) [9]).length else 0) : Nat)) : Int) (wrap64 ((j : Int) + 1)) = some true) (hc : c ≤ 1000000) :
    ∀ (d q k : Nat), q + d = (kidsOf L (m : Int)).length → k0 + 2 * d + 2 ≤ k → purflinglaw06_LanesOnce.l2 k L n true R tm (((c + (if 6 ≤ kindOf L (m : Int) ∧ kindOf L (m : Int) ≤ 8 then (((kidsOf L (m : Int)).take q).filter (fun k => ([9] : List Int).contains (kindOf L k))).length else 0) : Nat)) : Int) (j : Int) (m : Int) (q : Int) = some true
  | 0, q, k, h, hk => by
    obtain ⟨k', rfl⟩ : ∃ k', k = k' + 1 + 1 := ⟨k - 2, by omega⟩
    unfold purflinglaw06_LanesOnce.l2
    rw [if_pos (by omega), if_pos (by omega), ← kids_eq, if_neg (by omega)]
    unfold purflinglaw06_LanesOnce.j4
    rw [if_neg (by decide), List.take_of_length_le (by omega)]
    exact hnext k' (by omega)
  | d + 1, q, k, h, hk => by
    obtain ⟨k', rfl⟩ : ∃ k', k = k' + 1 + 1 := ⟨k - 2, by omega⟩
    by_cases hg : 6 ≤ kindOf L (m : Int) ∧ kindOf L (m : Int) ≤ 8
    · have hrec := once_l2 L n R tm j m hm hki hK k0 c hnext hc d (q + 1) k' (by omega) (by omega)
      rw [if_pos hg] at hrec ⊢
      obtain ⟨y, hy⟩ : ∃ y, (kidsOf L (m : Int))[q]? = some y := ⟨_, List.getElem?_eq_getElem (by omega)⟩
      obtain ⟨h1, h2⟩ := kidsIn_of hki (by omega : (0 : Int) ≤ (m : Int)) (by omega) y (List.mem_of_getElem? hy)
      have hle : (((kidsOf L (m : Int)).take q).filter (fun k => ([9] : List Int).contains (kindOf L k))).length ≤ q := Nat.le_trans (List.length_filter_le ..) (by rw [List.length_take]; omega)
      unfold purflinglaw06_LanesOnce.l2
      rw [if_pos (by omega), if_pos (by omega), ← kids_eq, if_pos (by omega), ← kind_eq, if_pos hg.1, decide_eq_true hg.2]
      unfold purflinglaw06_LanesOnce.j4
      rw [if_pos rfl, if_pos (by omega), if_pos (by omega), if_pos (by omega), ← kids_eq, if_pos (by omega), rd_int hy, if_pos h1, if_pos h2]
      rw [take_filter _ hy, List.length_append] at hrec
      by_cases q9 : kindOf L y = 9
      · rw [if_pos (by rw [q9]; rfl)] at hrec
        rw [← kind_eq, if_pos q9, wrapUp (by omega), wrapUp (by omega)]
        exact hrec
      · rw [if_neg (by simp [q9]), List.length_nil, Nat.add_zero] at hrec
        rw [← kind_eq, if_neg q9, wrapUp (by omega)]
        exact hrec
    · unfold purflinglaw06_LanesOnce.l2
      have hn := hnext k' (by omega)
      rw [if_neg hg] at hn ⊢
      rw [if_pos (by omega), if_pos (by omega), ← kids_eq, if_pos (by omega), ← kind_eq]
      by_cases q6 : kindOf L (m : Int) ≥ 6
      · rw [if_pos q6, decide_eq_false (fun h => hg ⟨q6, h⟩)]
        unfold purflinglaw06_LanesOnce.j4
        rw [if_neg (by decide)]
        exact hn
      · rw [if_neg q6]
        unfold purflinglaw06_LanesOnce.j4
        rw [if_neg (by decide)]
        exact hn
theorem lenP_val (l : List Nd) {k : Int} (hk : 0 ≤ k) : lenP l k = (if kindOf l k = 9 then 1 else 0) + (if 6 ≤ kindOf l k ∧ kindOf l k ≤ 8 then (kidsK l k [9]).length else 0) := by
  obtain ⟨n, rfl⟩ := Int.eq_ofNat_of_zero_le hk
  unfold lenP
  by_cases q : isPart l (n : Int) = true
  · rw [if_pos q]
    unfold laneOf
    by_cases q9 : kindOf l (n : Int) = 9
    · rw [if_pos q9, if_pos q9, if_neg (by rw [q9]; decide)]; rfl
    · rw [if_neg q9, if_neg q9, if_pos (by rw [isPart_iff] at q; omega), Int.toNat_natCast]
      unfold rowsP
      rw [List.length_map, Nat.zero_add]
  · rw [if_neg q]
    rw [isPart_iff] at q
    rw [if_neg (by omega), if_neg (by omega)]
theorem lenP_le {l : List Nd} (hK : ∀ n ∈ l, n.f1.length ≤ 30) (k : Int) : lenP l k ≤ 30 + 1 := by
  unfold lenP laneOf
  split
  · split
    · simp
    · unfold rowsP
      rw [List.length_map]
      unfold kidsK
      exact Nat.le_trans (List.length_filter_le ..) (by have := kids_small hK ((k.toNat : Nat) : Int); omega)
  · omega
theorem sum_le {l : List Nd} (hK : ∀ n ∈ l, n.f1.length ≤ 30) : ∀ ks : List Int, (ks.map (lenP l)).sum ≤ 31 * ks.length
  | [] => by simp
  | k :: ks => by
    rw [List.map_cons, List.sum_cons, List.length_cons]
    have := sum_le hK ks
    have := lenP_le hK k
    omega
theorem once_l1 (L : List Nd) (hK : ∀ n ∈ L, n.f1.length ≤ 30) (hL : L.length ≤ 150) (n : Nat) (hn : n < L.length) (hki : KidsIn L) (R : List S35) (tm : List Int) (hT : TimesOK L (R.map (fun x => x.f0)) tm) (hN : (R.map (fun x => x.f0)).Nodup) (hR : R.length = ((kidsOf L (n : Int)).map (lenP L)).sum) :
    ∀ (d j k : Nat), j + d = (kidsOf L (n : Int)).length → 200 * d + 300 ≤ k → purflinglaw06_LanesOnce.l1 k L (n : Int) true R tm ((((kidsOf L (n : Int)).take j).map (lenP L)).sum : Int) (j : Int) = some true
  | 0, j, k, h, hk => by
    obtain ⟨k', rfl⟩ : ∃ k', k = k' + 1 := ⟨k - 1, by omega⟩
    unfold purflinglaw06_LanesOnce.l1
    rw [if_pos (by omega), if_pos (by omega), ← kids_eq, if_neg (by omega), List.take_of_length_le (by omega), ← hR]
    exact once_l3 L R tm hT hN (by omega) L.length 0 k' (by omega) (by omega)
  | d + 1, j, k, h, hk => by
    obtain ⟨k', rfl⟩ : ∃ k', k = k' + 1 + 1 := ⟨k - 2, by omega⟩
    obtain ⟨y, hy⟩ : ∃ y, (kidsOf L (n : Int))[j]? = some y := ⟨_, List.getElem?_eq_getElem (by omega)⟩
    obtain ⟨h1, h2⟩ := kidsIn_of hki (by omega : (0 : Int) ≤ (n : Int)) (by omega) y (List.mem_of_getElem? hy)
    have hrec := fun k hk => once_l1 L hK hL n hn hki R tm hT hN hR d (j + 1) k (by omega) hk
    have hsm := sum_le hK ((kidsOf L (n : Int)).take j)
    have hkl := kids_small hK (n : Int)
    rw [List.length_take] at hsm
    rw [List.take_add_one, hy, List.map_append, List.sum_append] at hrec
    obtain ⟨m, rfl⟩ := Int.eq_ofNat_of_zero_le h1
    have hlv := lenP_val L h1
    have hrec2 : ∀ k, 200 * d + 300 ≤ k → purflinglaw06_LanesOnce.l1 k L (n : Int) true R tm (((((kidsOf L (n : Int)).take j).map (lenP L)).sum + ((if kindOf L (m : Int) = 9 then 1 else 0) + (if 6 ≤ kindOf L (m : Int) ∧ kindOf L (m : Int) ≤ 8 then (kidsK L (m : Int) [9]).length else 0)) : Nat) : Int) (wrap64 ((j : Int) + 1)) = some true := fun k hk => by
      rw [wrapUp (by omega), ← hlv]
      have := hrec k hk
      simpa using this
    have hkm := kids_small hK (m : Int)
    unfold purflinglaw06_LanesOnce.l1
    rw [if_pos (by omega), if_pos (by omega), ← kids_eq, if_pos (by omega), if_pos (by omega), rd_int hy, if_pos h1, if_pos h2, ← kind_eq]
    by_cases q9 : kindOf L (m : Int) = 9
    · rw [if_pos q9]
      simp only [if_pos q9] at hrec2
      rw [wrapUp (by omega)]
      unfold purflinglaw06_LanesOnce.j2
      have h3 := once_l2 L (n : Int) R tm j m (by omega) hki (by omega) (200 * d + 300) ((((kidsOf L (n : Int)).take j).map (lenP L)).sum + 1) (fun k hk => by have := hrec2 k hk; rwa [← Nat.add_assoc] at this) (by omega) (kidsOf L (m : Int)).length 0 k' (by omega) (by omega)
      simpa using h3
    · rw [if_neg q9]
      simp only [if_neg q9] at hrec2
      unfold purflinglaw06_LanesOnce.j2
      have h3 := once_l2 L (n : Int) R tm j m (by omega) hki (by omega) (200 * d + 300) (((kidsOf L (n : Int)).take j).map (lenP L)).sum (fun k hk => by have := hrec2 k hk; rwa [Nat.zero_add] at this) (by omega) (kidsOf L (m : Int)).length 0 k' (by omega) (by omega)
      simpa using h3
theorem once_l0 (L : List Nd) (n : Int) (R : List S35) (hL : L.length ≤ 150) (hR : R.length ≤ 1000000) (hmem : ∀ x ∈ R, (0 ≤ x.f0 ∧ x.f0 < (L.length : Int)) ∧ kindOf L x.f0 = 9 ∧ (-1 ≤ x.f1 ∧ x.f1 < (L.length : Int))) (k0 : Nat)
    (hnext : ∀ (tm : List Int) (k : Nat), TimesOK L (R.map (fun x => x.f0)) tm → k0 ≤ k → purflinglaw06_LanesOnce.l1 k L n true R tm 0 0 = some true) :
    ∀ (d j k : Nat) (tm : List Int), j + d = R.length → TimesOK L ((R.take j).map (fun x => x.f0)) tm → k0 + d + 1 ≤ k → purflinglaw06_LanesOnce.l0 k L n true R tm (j : Int) = some true
  | 0, j, k, tm, h, hT, hk => by
    obtain ⟨k', rfl⟩ : ∃ k', k = k' + 1 := ⟨k - 1, by omega⟩
    unfold purflinglaw06_LanesOnce.l0
    rw [List.take_of_length_le (by omega)] at hT
    rw [if_neg (by omega)]
    exact hnext tm k' hT (by omega)
  | d + 1, j, k, tm, h, hT, hk => by
    obtain ⟨k', rfl⟩ : ∃ k', k = k' + 1 := ⟨k - 1, by omega⟩
    obtain ⟨x, hx⟩ : ∃ x, R[j]? = some x := ⟨_, List.getElem?_eq_getElem (by omega)⟩
    obtain ⟨⟨h1, h2⟩, h3, h4, h5⟩ := hmem x (List.mem_of_getElem? hx)
    obtain ⟨m, hm⟩ := Int.eq_ofNat_of_zero_le h1
    have hml : m < L.length := by omega
    have hN := hT.next hml
    have hc : ((R.take j).map (fun x => x.f0)).count (m : Int) ≤ j := Nat.le_trans (List.count_le_length) (by rw [List.length_map, List.length_take]; omega)
    have htk : (R.take (j + 1)).map (fun x => x.f0) = (R.take j).map (fun x => x.f0) ++ [(m : Int)] := by rw [List.take_add_one, hx, List.map_append, ← hm]; rfl
    rw [← htk] at hN
    unfold purflinglaw06_LanesOnce.l0
    rw [if_pos (by omega), if_pos (by omega), rd_ln hx, if_neg (by omega), if_neg (by omega), if_pos h1, if_pos h2, if_pos (by rw [← kind_eq]; exact h3), if_neg (by omega), if_neg (by omega), if_pos (by rw [hT.1]; exact h2), hm, Int.toNat_natCast, rd_int (hT.2 m hml), wrapUp (by omega), wrapUp (by omega)]
    exact once_l0 L n R hL hR hmem k0 hnext d (j + 1) k' _ (by omega) hN (by omega)
theorem pure_LanesOnce {P Q : Prop} (l0 : List Nd) (a1 : Int) (_ : P) (_ : Q) : ∃ k, purflinglaw06_LanesOnce.f k l0 a1 = some true := by
  refine ⟨1000000 + 100000, ?_⟩
  unfold purflinglaw06_LanesOnce.f purflinglaw06_shown.f purflinglaw04_Cut.f
  rw [Option.bind_some, Option.bind_some, cut_rowsf, Option.bind_some]
  by_cases q : checkL (cutL l0) a1 = 0
  · have hlen := cut_len150 l0
    rw [if_pos q, if_pos rfl, if_pos (by omega), Int.toNat_natCast, if_pos (by omega)]
    obtain ⟨hok, n, rfl, hn, hkind⟩ := checkL_ok q
    rw [Int.toNat_natCast]
    have hs := rows_small (cut_kids l0) n
    refine once_l0 (cutL l0) (n : Int) (laneRowsP (cutL l0) n) hlen (by omega) (fun x hx => rows_mem hok.kidsIn hn hx) 10000 (fun tm k hT hk => ?_) (laneRowsP (cutL l0) n).length 0 _ _ (by omega) ⟨by rw [List.length_replicate], fun i hi => by rw [List.getElem?_replicate, if_pos hi]; simp⟩ (by omega)
    exact once_l1 (cutL l0) (cut_kids l0) hlen n hn hok.kidsIn _ tm hT (rows_once hok.tidy hok.kidsIn hn hkind) (rows_len hok.tidy hok.kidsIn hn) (kidsOf (cutL l0) (n : Int)).length 0 k (by omega) (by have := kids_small (cut_kids l0) (n : Int); omega)
  · rw [if_neg q, if_neg q]
end Go.Proofs.Ytdmnaehgngpikaa.K
