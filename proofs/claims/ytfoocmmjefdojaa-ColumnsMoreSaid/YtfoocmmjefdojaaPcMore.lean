/- Layer 13, plain: more needs make no band narrower. -/
import Derived.Test.YtfoocmmjefdojaaPcB
import Derived.Test.YtfoocmmjefdojaaK23
import Derived.Test.YtfoocmmjefdojaaOpens
namespace Go.Proofs.Ytfoocmmjefdojaa.Pure
set_option linter.unusedVariables false
set_option linter.unusedSimpArgs false
open Go.RowKit Go.Proofs.Ytfoocmmjefdojaa.K Go.Proofs.YtfoocmmjefdojaaW.PrintWords Go.Proofs.YtfoocmmjefdojaaW.PrintLast Go.Proofs.YtfoocmmjefdojaaW.PrintMore

theorem more_l0 (A B : List Bd) (hA : A.length ≤ 1000) (hl : A.length = B.length) (h : ∀ (j : Nat) (a b : Bd), A[j]? = some a → B[j]? = some b → a.f0 ≤ b.f0 ∧ a.f2 ≤ b.f2) : ∀ (d j k : Nat), j + d = A.length → d < k →
    purflinglaw13_ColumnsMore.l0 k true A B (j : Int) = some true
  | 0, j, k + 1, hj, hk => by
    unfold purflinglaw13_ColumnsMore.l0
    rw [if_neg (by omega)]
  | d + 1, j, k + 1, hj, hk => by
    obtain ⟨a, ha, -⟩ := at_some (j := j) (xs := A) (by omega)
    obtain ⟨b, hb, -⟩ := at_some (j := j) (xs := B) (by omega)
    have := h j a b ha hb
    unfold purflinglaw13_ColumnsMore.l0
    rw [if_pos (by omega), if_pos (by omega), if_pos (by omega), rdBd ha, rdBd hb, if_neg (by omega), if_neg (by omega), up_ok (by omega)]
    exact more_l0 A B hA hl h d (j + 1) k (by omega) (by omega)

theorem ColumnsMore (l0 : List Sz3) (l1 : List Nd) (a2 : Int) (g0 : ∀ x ∈ l0, good_58 x) (g1 : ∀ x ∈ l1, good_60 x) (g2 : (Lit.int .i64 a2).wf = true) : ∃ k, purflinglaw13_ColumnsMore.f k l0 l1 a2 = some true := by
  obtain ⟨c0, c1, hc, h0, h1⟩ := cut_eq l0 l1
  obtain ⟨k, hk⟩ : ∃ k : Nat, k = 200 := ⟨_, rfl⟩
  refine ⟨k + 2, ?_⟩
  unfold purflinglaw13_ColumnsMore.f
  rw [shown_eq, hc]; simp only [Option.bind_some]
  by_cases hn : a2 < 0
  · rw [if_pos hn]; unfold purflinglaw13_ColumnsMore.j0; (try dsimp only); rw [if_pos rfl]
  rw [if_neg hn]
  by_cases hb : a2 > c1.length
  · rw [decide_eq_true hb]; unfold purflinglaw13_ColumnsMore.j0; (try dsimp only); rw [if_pos rfl]
  rw [decide_eq_false hb]
  unfold purflinglaw13_ColumnsMore.j0; (try dsimp only)
  rw [if_neg (by decide), if_pos (by omega), if_pos (by omega), bands_f, bands_f]
  simp only [Option.bind_some]
  cases hR : rightB c0 c1 with
  | false => simp
  | true =>
    have hR2 : rightB c0 (c1.take a2.toNat) = true := right_sub hR fun x hx => List.mem_of_mem_take hx
    rw [hR2]
    simp only [if_true, bandsP_len]
    rw [show ((c0.length : Int) != (c0.length : Int)) = false by simp]
    unfold purflinglaw13_ColumnsMore.j1; (try dsimp only)
    rw [if_neg (by decide)]
    have hz : ((0 : Nat) : Int) = 0 := rfl
    rw [← hz]
    refine more_l0 _ _ (by rw [bandsP_len]; omega) (by rw [bandsP_len, bandsP_len]) (fun j a b ha hb => ?_) c0.length 0 k (by rw [bandsP_len]; omega) (by omega)
    rw [bandsP_get _ _ (right_pos hR2)] at ha
    rw [bandsP_get _ _ (right_pos hR)] at hb
    cases hs : c0[j]? with
    | none => rw [hs] at ha; cases ha
    | some s =>
      rw [hs] at ha hb
      simp only [Option.map_some, Option.some.injEq] at ha hb
      subst ha hb
      have hsub : ∀ x, x ∈ mine j (c1.take a2.toNat) → x ∈ mine j c1 := by
        intro x hx
        rw [mem_mine] at hx ⊢
        exact ⟨List.mem_of_mem_take hx.1, hx.2⟩
      unfold bandAt
      rw [settle_f0, settle_f0, settle_f2, settle_f2]
      constructor
      · rw [fold_le0]
        have := (fold_le0 (mine j c1) (wantsP z0 s) _).1 (Int.le_refl _)
        exact ⟨this.1, fun x hx => this.2 x (hsub x hx)⟩
      · rw [fold_le2]
        have := (fold_le2 (mine j c1) (wantsP z0 s) _).1 (Int.le_refl _)
        exact ⟨this.1, fun x hx => this.2 x (hsub x hx)⟩
end Go.Proofs.Ytfoocmmjefdojaa.Pure
