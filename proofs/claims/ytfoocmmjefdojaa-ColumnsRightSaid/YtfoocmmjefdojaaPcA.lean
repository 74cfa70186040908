/- Layer 13, plain: what Bands computes. -/
import Derived.Test.YtfoocmmjefdojaaCo6
namespace Go.Proofs.Ytfoocmmjefdojaa.Pure
set_option linter.unusedVariables false
set_option linter.unusedSimpArgs false
open Go.RowKit Go.Proofs.Ytfoocmmjefdojaa.K Go.Proofs.YtfoocmmjefdojaaW.PrintWords Go.Proofs.YtfoocmmjefdojaaW.PrintLast Go.Proofs.YtfoocmmjefdojaaW.PrintMore

abbrev Bd := K.S62
abbrev Nd := K.S60
abbrev Sz3 := K.S58

theorem bd_ext {a b : Bd} (h0 : a.f0 = b.f0) (h1 : a.f1 = b.f1) (h2 : a.f2 = b.f2) (h3 : a.f3 = b.f3) : a = b := by
  cases a; cases b; simp_all

theorem tellP_f0 (b : Bd) (x : Nd) : (tellP b x).f0 = max b.f0 x.f1 := by unfold tellP wantsP; dsimp only; split <;> (try split) <;> rfl
theorem tellP_f1 (b : Bd) (x : Nd) : (tellP b x).f1 = max b.f1 x.f2 := by unfold tellP wantsP; dsimp only; split <;> (try split) <;> rfl
theorem tellP_f2 (b : Bd) (x : Nd) : (tellP b x).f2 = if x.f3.f0 = 2 then max b.f2 x.f3.f1 else b.f2 := by unfold tellP wantsP; dsimp only; split <;> (try split) <;> rfl
theorem tellP_f3 (b : Bd) (x : Nd) : (tellP b x).f3 = if x.f3.f0 = 1 then max b.f3 x.f3.f1 else b.f3 := by
  unfold tellP wantsP; dsimp only
  by_cases h2 : x.f3.f0 = 2
  · rw [if_pos h2, if_neg (by omega)]
  · rw [if_neg h2]; split <;> rfl

theorem if_max_le {c : Prop} [Decidable c] {a v n : Int} : (if c then max a v else a) ≤ n ↔ a ≤ n ∧ (c → v ≤ n) := by
  split
  · rename_i h; rw [Int.max_le]; simp [h]
  · rename_i h; simp [h]

theorem fold_le0 : ∀ (m : List Nd) (b : Bd) (n : Int), (m.foldl tellP b).f0 ≤ n ↔ b.f0 ≤ n ∧ ∀ x ∈ m, x.f1 ≤ n
  | [], b, n => by simp
  | x :: m, b, n => by simp only [List.foldl_cons, fold_le0 m, tellP_f0, Int.max_le, List.mem_cons, forall_eq_or_imp, and_assoc]
theorem fold_le1 : ∀ (m : List Nd) (b : Bd) (n : Int), (m.foldl tellP b).f1 ≤ n ↔ b.f1 ≤ n ∧ ∀ x ∈ m, x.f2 ≤ n
  | [], b, n => by simp
  | x :: m, b, n => by simp only [List.foldl_cons, fold_le1 m, tellP_f1, Int.max_le, List.mem_cons, forall_eq_or_imp, and_assoc]
theorem fold_le2 : ∀ (m : List Nd) (b : Bd) (n : Int), (m.foldl tellP b).f2 ≤ n ↔ b.f2 ≤ n ∧ ∀ x ∈ m, x.f3.f0 = 2 → x.f3.f1 ≤ n
  | [], b, n => by simp
  | x :: m, b, n => by simp only [List.foldl_cons, fold_le2 m, tellP_f2, if_max_le, List.mem_cons, forall_eq_or_imp, and_assoc]
theorem fold_le3 : ∀ (m : List Nd) (b : Bd) (n : Int), (m.foldl tellP b).f3 ≤ n ↔ b.f3 ≤ n ∧ ∀ x ∈ m, x.f3.f0 = 1 → x.f3.f1 ≤ n
  | [], b, n => by simp
  | x :: m, b, n => by simp only [List.foldl_cons, fold_le3 m, tellP_f3, if_max_le, List.mem_cons, forall_eq_or_imp, and_assoc]

theorem le_iff_eq {a b : Int} (h : ∀ n, a ≤ n ↔ b ≤ n) : a = b := Int.le_antisymm ((h b).2 (Int.le_refl b)) ((h a).1 (Int.le_refl a))
theorem fold_congr {m m' : List Nd} (h : ∀ x, x ∈ m ↔ x ∈ m') (b : Bd) : m.foldl tellP b = m'.foldl tellP b :=
  bd_ext (le_iff_eq fun n => by rw [fold_le0, fold_le0]; simp only [h]) (le_iff_eq fun n => by rw [fold_le1, fold_le1]; simp only [h])
    (le_iff_eq fun n => by rw [fold_le2, fold_le2]; simp only [h]) (le_iff_eq fun n => by rw [fold_le3, fold_le3]; simp only [h])

theorem addP_get (bs : List Bd) (x : Nd) (j : Nat) : (addP bs x)[j]? = if x.f0.f2.toNat = j then bs[j]?.map (fun b => tellP b x) else bs[j]? := by
  unfold addP
  split
  · rename_i b hb
    rw [List.getElem?_set]
    by_cases e : x.f0.f2.toNat = j
    · subst e
      rw [if_pos rfl, if_pos rfl, if_pos (List.getElem?_eq_some_iff.1 hb).1, hb]; rfl
    · rw [if_neg e, if_neg e]
  · rename_i hb
    by_cases e : x.f0.f2.toNat = j
    · subst e; rw [if_pos rfl, hb]; rfl
    · rw [if_neg e]
def atJ (j : Nat) (x : Nd) : Bool := decide (x.f0.f2 = (j : Int))
theorem foldl_addP_get (j : Nat) : ∀ (l : List Nd) (bs : List Bd), (∀ x ∈ l, 0 ≤ x.f0.f2) → (l.foldl addP bs)[j]? = bs[j]?.map (fun b => (l.filter (atJ j)).foldl tellP b)
  | [], bs, _ => by simp
  | x :: l, bs, h => by
    have hx := h x (List.mem_cons_self ..)
    rw [List.foldl_cons, foldl_addP_get j l _ (fun y hy => h y (List.mem_cons_of_mem _ hy)), addP_get]
    by_cases e : x.f0.f2 = (j : Int)
    · rw [if_pos (by omega), List.filter_cons_of_pos (by simp [atJ, e]), Option.map_map]; rfl
    · rw [if_neg (by omega), List.filter_cons_of_neg (by simp [atJ, e])]

def mine (j : Nat) (l : List Nd) : List Nd := l.filter (fun x => atJ j x && ownB x)
def bandAt (s : Sz3) (m : List Nd) : Bd := settlesP (m.foldl tellP (wantsP z0 s))
theorem mem_mine {j : Nat} {l : List Nd} {x : Nd} : x ∈ mine j l ↔ x ∈ l ∧ x.f0.f2 = (j : Int) ∧ x.f0.f4 = 1 := by
  unfold mine atJ ownB
  rw [List.mem_filter]
  simp
theorem bandsP_get (sizes : List Sz3) (l : List Nd) (h : ∀ x ∈ l, 0 ≤ x.f0.f2) (j : Nat) : (bandsP sizes l)[j]? = sizes[j]?.map (fun s => bandAt s (mine j l)) := by
  unfold bandsP
  rw [List.getElem?_map, foldl_addP_get j _ _ (fun x hx => h x (List.mem_filter.1 hx).1), List.getElem?_map, Option.map_map, Option.map_map, List.filter_filter]
  rfl
theorem bandsP_len (sizes : List Sz3) (l : List Nd) : (bandsP sizes l).length = sizes.length := by
  unfold bandsP; rw [List.length_map, foldl_addP_len, List.length_map]

theorem bandsP_congr (sizes : List Sz3) {l l' : List Nd} (h0 : ∀ x ∈ l, 0 ≤ x.f0.f2) (h1 : ∀ x ∈ l', 0 ≤ x.f0.f2) (h : ∀ x, x.f0.f4 = 1 → (x ∈ l ↔ x ∈ l')) : bandsP sizes l = bandsP sizes l' := by
  apply List.ext_getElem?
  intro j
  rw [bandsP_get _ _ h0, bandsP_get _ _ h1]
  congr 1
  funext s
  unfold bandAt
  rw [fold_congr (m := mine j l) (m' := mine j l')]
  intro x
  rw [mem_mine, mem_mine]
  constructor
  · rintro ⟨a, b, c⟩; exact ⟨(h x c).1 a, b, c⟩
  · rintro ⟨a, b, c⟩; exact ⟨(h x c).2 a, b, c⟩

theorem right_iff (sizes : List Sz3) (l : List Nd) : rightB sizes l = true ↔ sizes.length ≤ 10000 ∧ (∀ s ∈ sizes, isSizeB s.f0 s.f1 = true) ∧ ∀ x ∈ l, needB sizes.length x = true := by
  unfold rightB
  simp only [Bool.and_eq_true, decide_eq_true_eq, List.all_eq_true, and_assoc]
theorem need_iff (n : Nat) (x : Nd) : needB n x = true ↔ (0 ≤ x.f0.f2 ∧ x.f0.f2 < n ∧ 1 ≤ x.f0.f4 ∧ x.f0.f4 ≤ n - x.f0.f2) ∧ isSizeB x.f3.f0 x.f3.f1 = true ∧ (0 ≤ x.f1 ∧ x.f1 ≤ x.f2 ∧ x.f2 ≤ 1125899906842623) := by
  unfold needB
  simp only [Bool.and_eq_true, decide_eq_true_eq, and_assoc]
theorem right_pos {sizes : List Sz3} {l : List Nd} (h : rightB sizes l = true) : ∀ x ∈ l, 0 ≤ x.f0.f2 := fun x hx => (((need_iff _ _).1 (((right_iff _ _).1 h).2.2 x hx)).1).1
theorem right_sub {sizes : List Sz3} {l l' : List Nd} (h : rightB sizes l = true) (hs : ∀ x ∈ l', x ∈ l) : rightB sizes l' = true := by
  rw [right_iff] at h ⊢
  exact ⟨h.1, h.2.1, fun x hx => h.2.2 x (hs x hx)⟩
theorem right_congr {sizes : List Sz3} {l l' : List Nd} (hs : ∀ x, x ∈ l ↔ x ∈ l') : rightB sizes l = rightB sizes l' := by
  rw [Bool.eq_iff_iff]
  exact ⟨fun h => right_sub h fun x hx => (hs x).2 hx, fun h => right_sub h fun x hx => (hs x).1 hx⟩
theorem settle_f0 (b : Bd) : (settlesP b).f0 = b.f0 := by unfold settlesP; split <;> (try split) <;> rfl
theorem settle_f2 (b : Bd) : (settlesP b).f2 = b.f2 := by unfold settlesP; split <;> (try split) <;> rfl
end Go.Proofs.Ytfoocmmjefdojaa.Pure
