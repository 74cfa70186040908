/- Layer 13, plain: bands with no need. -/
import Derived.Test.YtfoocmmjefdojaaPcB
import Derived.Test.YtfoocmmjefdojaaK24
import Derived.Test.YtfoocmmjefdojaaOpens
namespace Go.Proofs.Ytfoocmmjefdojaa.Pure
set_option linter.unusedVariables false
set_option linter.unusedSimpArgs false
open Go.RowKit Go.Proofs.Ytfoocmmjefdojaa.K Go.Proofs.YtfoocmmjefdojaaW.PrintWords Go.Proofs.YtfoocmmjefdojaaW.PrintLast Go.Proofs.YtfoocmmjefdojaaW.PrintMore

theorem bare_at (s : Sz3) (hs : isSizeB s.f0 s.f1 = true) : bandAt s [] = if s.f0 = 1 then ⟨0, s.f1, -1, s.f1⟩ else if s.f0 = 2 then ⟨0, 0, s.f1, -1⟩ else ⟨0, 0, -1, -1⟩ := by
  unfold isSizeB at hs
  simp only [Bool.or_eq_true, decide_eq_true_eq] at hs
  unfold bandAt
  rw [List.foldl_nil]
  rcases hs with (h | h) | h
  · rw [if_neg (by omega), if_neg (by omega)]
    unfold wantsP; rw [if_neg (by omega), if_neg (by omega)]; rfl
  · rw [if_pos h.1]
    unfold wantsP; rw [if_neg (by omega), if_pos h.1]
    unfold settlesP z0
    dsimp only
    rw [if_neg (by decide), if_neg (by omega)]
    apply bd_ext <;> dsimp only <;> omega
  · rw [if_neg (by omega), if_pos h.1]
    unfold wantsP; rw [if_pos h.1]
    unfold settlesP z0
    dsimp only
    rw [if_pos (by omega)]
    apply bd_ext <;> dsimp only <;> omega

theorem bare_l0 (sizes : List Sz3) (B : List Bd) (hl : sizes.length ≤ 40) (hB : B.length = sizes.length) (hs : ∀ s ∈ sizes, isSizeB s.f0 s.f1 = true) (hb : ∀ (j : Nat) (s : Sz3), sizes[j]? = some s → B[j]? = some (bandAt s [])) : ∀ (d j k : Nat), j + d = sizes.length → 2 * d < k →
    purflinglaw13_ColumnsBare.l0 k sizes true B (j : Int) = some true
  | 0, j, k + 1, hj, hk => by
    unfold purflinglaw13_ColumnsBare.l0
    rw [if_neg (by omega), if_pos rfl, hB]; simp
  | d + 1, j, k + 2, hj, hk => by
    obtain ⟨s, hx, hm⟩ := at_some (j := j) (xs := sizes) (by omega)
    have hbj := hb j s hx
    rw [bare_at s (hs s hm)] at hbj
    unfold purflinglaw13_ColumnsBare.l0
    rw [if_pos (by omega), if_pos (by omega), if_pos (by omega), rdSz hx]
    unfold purflinglaw13_ColumnsBare.j1
    by_cases h1 : s.f0 = 1
    · rw [if_pos h1] at hbj
      rw [if_pos h1, if_pos (by omega), if_pos (by omega), rdSz hx, if_neg (by omega), if_pos (by omega), rdBd hbj, if_neg (by simp), up_ok (by omega)]
      exact bare_l0 sizes B hl hB hs hb d (j + 1) k (by omega) (by omega)
    · rw [if_neg h1] at hbj
      rw [if_neg h1, if_pos (by omega), if_pos (by omega), rdSz hx]
      by_cases h2 : s.f0 = 2
      · rw [if_pos h2] at hbj
        rw [if_pos h2, if_pos (by omega), rdBd hbj, if_neg (by simp), up_ok (by omega)]
        exact bare_l0 sizes B hl hB hs hb d (j + 1) k (by omega) (by omega)
      · rw [if_neg h2] at hbj
        rw [if_neg h2, if_pos (by omega), rdBd hbj, if_neg (by simp), up_ok (by omega)]
        exact bare_l0 sizes B hl hB hs hb d (j + 1) k (by omega) (by omega)

theorem ColumnsBare (l0 : List Sz3) (g0 : ∀ x ∈ l0, good_58 x) : ∃ k, purflinglaw13_ColumnsBare.f k l0 = some true := by
  have h0 := mn_le l0.length 40 (by decide)
  refine ⟨200, ?_⟩
  unfold purflinglaw13_ColumnsBare.f
  rw [shown_eq]; simp only [Option.bind_some]
  rw [if_pos h0.1, if_pos h0.2.1, bands_f]
  obtain ⟨c, hc⟩ : ∃ c, c = l0.take (mn (l0.length : Int) 40).toNat := ⟨_, rfl⟩
  have hcl : c.length ≤ 40 := by rw [hc, List.length_take]; have := h0.2.2; omega
  rw [← hc]
  simp only [Option.bind_some]
  cases hR : rightB c [] with
  | false => simp
  | true =>
    simp only [if_true]
    exact bare_l0 c _ hcl (bandsP_len c []) ((right_iff _ _).1 hR).2.1 (fun j s hs => by rw [bandsP_get _ _ (by simp), hs]; rfl) c.length 0 _ (by omega) (by omega)
end Go.Proofs.Ytfoocmmjefdojaa.Pure
