/- Layer 13, plain: each band is right. -/
import Derived.Test.YtfoocmmjefdojaaPcB
namespace Go.Proofs.Ytfoocmmjefdojaa.Pure
set_option linter.unusedVariables false
set_option linter.unusedSimpArgs false
open Go.RowKit Go.Proofs.Ytfoocmmjefdojaa.K Go.Proofs.YtfoocmmjefdojaaW.PrintWords Go.Proofs.YtfoocmmjefdojaaW.PrintLast Go.Proofs.YtfoocmmjefdojaaW.PrintMore

theorem base_ok (s : Sz3) (hs : isSizeB s.f0 s.f1 = true) : (wantsP z0 s).f0 = 0 ∧ (wantsP z0 s).f1 = 0 ∧ (-1 ≤ (wantsP z0 s).f2 ∧ (wantsP z0 s).f2 ≤ 10000000) ∧ -1 ≤ (wantsP z0 s).f3 ∧ (wantsP z0 s).f3 ≤ 1073741824 := by
  unfold isSizeB at hs
  simp only [Bool.or_eq_true, decide_eq_true_eq] at hs
  unfold wantsP z0
  dsimp only
  split
  · refine ⟨rfl, rfl, ?_, ?_, ?_⟩ <;> dsimp only <;> omega
  · split
    · refine ⟨rfl, rfl, ?_, ?_, ?_⟩ <;> dsimp only <;> omega
    · exact ⟨rfl, rfl, by decide, by decide, by decide⟩

def NeedOK (x : Nd) : Prop := isSizeB x.f3.f0 x.f3.f1 = true ∧ (0 ≤ x.f1 ∧ x.f1 ≤ x.f2 ∧ x.f2 ≤ 1125899906842623)
theorem size_two {k n : Int} (h : isSizeB k n = true) (e : k = 2) : n ≤ 10000000 := by
  unfold isSizeB at h
  simp only [Bool.or_eq_true, decide_eq_true_eq] at h
  omega
theorem size_one {k n : Int} (h : isSizeB k n = true) (e : k = 1) : n ≤ 1073741824 := by
  unfold isSizeB at h
  simp only [Bool.or_eq_true, decide_eq_true_eq] at h
  omega
theorem fold_ok (s : Sz3) (m : List Nd) (hs : isSizeB s.f0 s.f1 = true) (hm : ∀ x ∈ m, NeedOK x) (F : Bd) (hF : F = m.foldl tellP (wantsP z0 s)) :
    (0 ≤ F.f0 ∧ F.f0 ≤ F.f1 ∧ F.f1 ≤ 1125899906842623) ∧ (-1 ≤ F.f2 ∧ F.f2 ≤ 10000000) ∧ -1 ≤ F.f3 ∧ F.f3 ≤ 1073741824 := by
  obtain ⟨b0, b1, b2, b3⟩ := base_ok s hs
  have e0 := (fold_le0 m (wantsP z0 s) _).1 (Int.le_refl _)
  have e1 := (fold_le1 m (wantsP z0 s) _).1 (Int.le_refl _)
  have e2 := (fold_le2 m (wantsP z0 s) _).1 (Int.le_refl _)
  have e3 := (fold_le3 m (wantsP z0 s) _).1 (Int.le_refl _)
  rw [← hF] at e0 e1 e2 e3
  have a0 : F.f0 ≤ F.f1 := by
    rw [hF, fold_le0, ← hF]
    exact ⟨by omega, fun x hx => Int.le_trans (hm x hx).2.2.1 (e1.2 x hx)⟩
  have a1 : F.f1 ≤ 1125899906842623 := by
    rw [hF, fold_le1]
    exact ⟨by omega, fun x hx => (hm x hx).2.2.2⟩
  have a2 : F.f2 ≤ 10000000 := by
    rw [hF, fold_le2]
    exact ⟨b2.2, fun x hx e => size_two (hm x hx).1 e⟩
  have a3 : F.f3 ≤ 1073741824 := by
    rw [hF, fold_le3]
    exact ⟨b3.2, fun x hx e => size_one (hm x hx).1 e⟩
  exact ⟨⟨by omega, a0, a1⟩, ⟨by omega, a2⟩, by omega, a3⟩
theorem band_ok (s : Sz3) (m : List Nd) (hs : isSizeB s.f0 s.f1 = true) (hm : ∀ x ∈ m, NeedOK x) : bandB (bandAt s m) = true := by
  obtain ⟨F, hF⟩ : ∃ F, F = m.foldl tellP (wantsP z0 s) := ⟨_, rfl⟩
  have h := fold_ok s m hs hm F hF
  unfold bandAt
  rw [← hF]
  unfold settlesP bandB
  simp only [Bool.and_eq_true, decide_eq_true_eq]
  split
  · dsimp only; omega
  · split
    · dsimp only; omega
    · dsimp only; omega
theorem settle_f1 (b : Bd) (h : (settlesP b).f3 < 0) : b.f1 ≤ (settlesP b).f1 := by
  unfold settlesP at h ⊢
  split at h
  · rename_i h2; rw [if_pos h2]; dsimp only; omega
  · rename_i h2
    rw [if_neg h2]
    split at h
    · rename_i h3; rw [if_pos h3]; dsimp only; omega
    · rename_i h3; dsimp only at h; omega
theorem needs_ok {sizes : List Sz3} {l : List Nd} (h : rightB sizes l = true) (j : Nat) : ∀ x ∈ mine j l, NeedOK x := fun x hx => ((need_iff _ _).1 (((right_iff _ _).1 h).2.2 x (mem_mine.1 hx).1)).2
end Go.Proofs.Ytfoocmmjefdojaa.Pure
