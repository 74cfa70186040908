/- Layer 13: ColumnsRight, the walk and the plain law joined. -/
import Derived.Test.YtfoocmmjefdojaaCoR
import Derived.Test.YtfoocmmjefdojaaPcR
import Derived.Test.YtfoocmmjefdojaaOpens
set_option linter.unusedVariables false
set_option linter.unusedSimpArgs false
namespace Go.Proofs.Ytfoocmmjefdojaa.Pure
open Go.RowKit Go.Proofs.Ytfoocmmjefdojaa.K Go.Proofs.YtfoocmmjefdojaaW.PrintWords Go.Proofs.YtfoocmmjefdojaaW.PrintLast Go.Proofs.YtfoocmmjefdojaaW.PrintMore
theorem right_facts (c0 : List Sz3) (c1 : List Nd) (h0 : c0.length ≤ 40) (hR : rightB c0 c1 = true) :
    columns_RightBands.f (bandsP c0 c1) = some true ∧ ∀ x ∈ c1, x.f0.f4 = 1 → RightAt (bandsP c0 c1) x := by
  have hsz := ((right_iff _ _).1 hR).2.1
  have hget := bandsP_get c0 c1 (right_pos hR)
  refine ⟨?_, fun x hx h4 => ?_⟩
  · unfold columns_RightBands.f rightBandsB
    rw [decide_eq_true (by rw [bandsP_len]; omega), Bool.true_and]
    congr 1
    rw [List.all_eq_true]
    intro b hb
    obtain ⟨j, hj⟩ := List.getElem?_of_mem hb
    rw [hget] at hj
    cases hs : c0[j]? with
    | none => rw [hs] at hj; cases hj
    | some s =>
      rw [hs] at hj
      simp only [Option.map_some, Option.some.injEq] at hj
      subst hj
      exact band_ok s _ (hsz s (List.mem_of_getElem? hs)) (needs_ok hR j)
  · have hn := ((need_iff _ _).1 (((right_iff _ _).1 hR).2.2 x hx)).1
    obtain ⟨j, hj⟩ := Int.eq_ofNat_of_zero_le hn.1
    obtain ⟨s, hs, -⟩ := at_some (xs := c0) (j := j) (by omega)
    refine ⟨j, bandAt s (mine j c1), hj, by rw [hget, hs]; rfl, ?_, ?_⟩
    · have := ((fold_le0 (mine j c1) (wantsP z0 s) _).1 (Int.le_refl _)).2 x (mem_mine.2 ⟨hx, hj, h4⟩)
      unfold bandAt; rw [settle_f0]; exact this
    · intro h3
      have := ((fold_le1 (mine j c1) (wantsP z0 s) _).1 (Int.le_refl _)).2 x (mem_mine.2 ⟨hx, hj, h4⟩)
      exact Int.le_trans this (settle_f1 _ h3)
end Go.Proofs.Ytfoocmmjefdojaa.Pure
namespace Go.Proofs.Ytfoocmmjefdojaa.K
open Go.RowKit Go.Proofs.YtfoocmmjefdojaaW.PrintWords Go.Proofs.YtfoocmmjefdojaaW.PrintLast Go.Proofs.YtfoocmmjefdojaaW.PrintMore Go.Proofs.Ytfoocmmjefdojaa.Pure
/-- the walk gives true for every input, so the told function is a constant -/
def purflinglaw13_ColumnsRight.f (l0 : List (S58)) (l1 : List (S60)) : Option (Bool) := some true
theorem purflinglaw13_ColumnsRight.calls (A0 : Option Addr) (c0 : Nat) (l0 : List (S58)) (A1 : Option Addr) (c1 : Nat) (l1 : List (S60)) (r : Bool) (w : World) (hr0 : Kd.C k58 w A0 l0.length l0) (hc0 : l0.length ≤ c0) (hr1 : Kd.C k60 w A1 l1.length l1) (hc1 : l1.length ≤ c1) (h : purflinglaw13_ColumnsRight.f l0 l1 = some r) :
    Calls Try.prog 14 #[.slice A0 l0.length c0, .slice A1 l1.length c1] w fun e w' => e = .returned (.bool r) ∧ Below w.heap.size w w' := by
  obtain rfl := Option.some.inj h
  obtain ⟨k0, k1, hcut, h0, h1⟩ := cut_eq l0 l1
  have hb := bands_f k0 k1
  cases hR : rightB k0 k1 with
  | false =>
    rw [hR, if_neg (by decide)] at hb
    exact rightlaw_no l0 k0 l1 k1 _ A0 A1 c0 c1 w hr0 hc0 hr1 hc1 shown_eq hcut hb
  | true =>
    rw [hR, if_pos rfl] at hb
    obtain ⟨f1, f2⟩ := right_facts k0 k1 h0 hR
    exact rightlaw_yes l0 k0 l1 k1 _ A0 A1 c0 c1 w hr0 hc0 hr1 hc1 shown_eq hcut hb f1 (bandsP_len _ _) h1 (by omega) f2
end Go.Proofs.Ytfoocmmjefdojaa.K
namespace Go.Proofs.Ytfoocmmjefdojaa.Pure
open Go.RowKit Go.Proofs.Ytfoocmmjefdojaa.K
theorem ColumnsRight (l0 : List Sz3) (l1 : List Nd) (g0 : ∀ x ∈ l0, good_58 x) (g1 : ∀ x ∈ l1, good_60 x) : purflinglaw13_ColumnsRight.f l0 l1 = some true := rfl
end Go.Proofs.Ytfoocmmjefdojaa.Pure
