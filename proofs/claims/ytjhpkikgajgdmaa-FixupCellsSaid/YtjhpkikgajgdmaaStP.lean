/- Layer 3, plain: computed again it is the same. -/
import Derived.Test.YtjhpkikgajgdmaaDefs
namespace Go.Proofs.Ytjhpkikgajgdmaa
set_option linter.unusedVariables false
set_option linter.unusedSimpArgs false
theorem max_again (n : Int) : max (max n 0) 0 = max n 0 := by omega
theorem sizeC_again (z : Sz) (h : sizeB z = true) : sizeB (sizeC z) = true ∧ sizeC (sizeC z) = sizeC z := by
  obtain ⟨k, n⟩ := z
  unfold sizeB lenB at h
  by_cases h0 : k = 0
  · subst h0; exact ⟨rfl, rfl⟩
  by_cases h1 : k = 1
  · subst h1
    simp at h
    refine ⟨?_, ?_⟩
    · simp [sizeC, sizeB, lenB]; omega
    · simp [sizeC]
  by_cases h2 : k = 2
  · subst h2
    simp at h
    refine ⟨?_, ?_⟩
    · simp [sizeC, sizeB]; omega
    · simp [sizeC]
  · simp [h0, h1, h2] at h
theorem lineC_again (p : Int) (b : Ln) (h : lineB p b = true) : lineB (max p 0) (lineC b) = true ∧ lineC (lineC b) = lineC b := by
  obtain ⟨s, w, c⟩ := b
  unfold lineB lenB at h
  simp at h
  unfold lineC lineB lenB
  dsimp only
  by_cases h0 : s = 0 ∨ s = 1
  · simp [h0]; omega
  · simp [h0]; omega
theorem again_pure (s : Sty) (h : validB s = true) : validB (styC s) = true ∧ styC (styC s) = styC s := by
  unfold validB at h
  simp only [Bool.and_eq_true, decide_eq_true_eq] at h
  obtain ⟨⟨⟨⟨⟨⟨⟨⟨⟨⟨⟨⟨⟨h1, h2⟩, h3⟩, h4⟩, h5⟩, h6⟩, h7⟩, h8⟩, h9⟩, h10⟩, h11⟩, h12⟩, h13⟩, h14⟩ := h
  have a1 := sizeC_again _ h1
  have a2 := sizeC_again _ h2
  have b0 := lineC_again _ _ h11
  have b1 := lineC_again _ _ h12
  have b2 := lineC_again _ _ h13
  have b3 := lineC_again _ _ h14
  unfold lenB at h3 h4
  simp only [Bool.and_eq_true, decide_eq_true_eq] at h3 h4
  constructor
  · unfold validB styC lenB
    simp only [a1.1, a2.1, b0.1, b1.1, b2.1, b3.1, Bool.and_eq_true, decide_eq_true_eq, and_true, true_and]
    split <;> omega
  · unfold styC
    simp only [a1.2, a2.2, b0.2, b1.2, b2.2, b3.2, max_again]
    congr 1
    · omega
    · split <;> (try split) <;> omega
end Go.Proofs.Ytjhpkikgajgdmaa
