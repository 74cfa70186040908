/- Layer 13: Bands and RightBands in the print's form. -/
import Derived.Test.YtfoocmmjefdojaaCo6
import Derived.Test.YtfoocmmjefdojaaCo7
namespace Go.Proofs.Ytfoocmmjefdojaa.K
open Go.RowKit Go.Proofs.YtfoocmmjefdojaaW.PrintWords Go.Proofs.YtfoocmmjefdojaaW.PrintLast Go.Proofs.YtfoocmmjefdojaaW.PrintMore
set_option linter.unusedVariables false
set_option linter.unusedSimpArgs false

set_option maxRecDepth 100000 in
set_option maxHeartbeats 4000000 in
theorem bands_no (sizes : List S58) (l : List S60) (A0 A1 : Option Addr) (c0 c1 : Nat) (w : World) (hr0 : Kd.C k58 w A0 sizes.length sizes) (hc0 : sizes.length ≤ c0) (hr1 : Kd.C k60 w A1 l.length l) (hc1 : l.length ≤ c1) (hR : rightB sizes l = false) :
    Calls Try.prog 28 #[.slice A0 sizes.length c0, .slice A1 l.length c1] w fun e w' => ∃ v0_ : Value, e = .returned (.tuple #[v0_, .int .i64 130]) ∧ Kd.R k62 62 w' w.heap.size (fun _ => True) v0_ [] ∧ Below w.heap.size w w' := by
  have hn0 := right_any sizes l A0 A1 c0 c1 w hr0 hc0 hr1 hc1
  rw [hR] at hn0
  have HN := Lib.hid hn0
  clear hn0 hr0 hr1 hR hc0 hc1
  refine calls_of_wp_marks Try.func28 rfl ?_
  simp only [Try.ntmps28, List.size_toArray, List.length_cons, List.length_nil, Nat.reduceAdd, Nat.reduceSub, Array.replicate_succ, Array.replicate_zero, List.push_toArray, List.append_toArray, List.nil_append, List.cons_append]
  go_wp2_with (go_at_call 30; refine HN.out.mono ?_; rintro e w1 ⟨rfl, hb1⟩; have HB1 := Lib.hid hb1; clear hb1)
  refine leaves_marks (v := .tuple #[.slice none 0 0, .int .i64 130]) (B := w.heap.size) ⟨[], rfl, by simp, by simp⟩ (fun W' hs => ⟨?_, ?_⟩)
  · simp [results, Try.results28]
  · exact ⟨_, rfl, Kd.R_nil _ _ _ _ _, hs.stab _ (Stab.below (Nat.le_refl _) (Nat.le_refl _)) HB1.out⟩

def columns_Bands.f (l0 : List (S58)) (l1 : List (S60)) : Option ((List (S62)) × Int) := some (if rightB l0 l1 then (bandsP l0 l1, 0) else ([], 130))
theorem columns_Bands.calls (A0 : Option Addr) (c0 : Nat) (l0 : List (S58)) (A1 : Option Addr) (c1 : Nat) (l1 : List (S60)) (r1 : List (S62)) (r2 : Int) (w : World) (hr0 : Kd.C k58 w A0 l0.length l0) (hc0 : l0.length ≤ c0) (hr1 : Kd.C k60 w A1 l1.length l1) (hc1 : l1.length ≤ c1) (h : columns_Bands.f l0 l1 = some (r1, r2)) :
    Calls Try.prog 28 #[.slice A0 l0.length c0, .slice A1 l1.length c1] w fun e w' => ∃ v0_ : Value, e = .returned (.tuple #[v0_, .int .i64 r2]) ∧ Kd.R k62 62 w' w.heap.size (fun _ => True) v0_ r1 ∧ Below w.heap.size w w' := by
  unfold columns_Bands.f at h
  cases hR : rightB l0 l1 with
  | true =>
    rw [hR, if_pos rfl] at h
    cases h
    exact bands_yes l0 l1 A0 A1 c0 c1 w hr0 hc0 hr1 hc1 hR
  | false =>
    rw [hR, if_neg (by decide)] at h
    cases h
    exact bands_no l0 l1 A0 A1 c0 c1 w hr0 hc0 hr1 hc1 hR

def rightBandsB (l : List S62) : Bool := decide (l.length ≤ 10000) && l.all bandB
theorem rb_any (l : List S62) (A : Option Addr) (c : Nat) (W : World) (hr : Kd.C k62 W A l.length l) (hc : l.length ≤ c) :
    Calls Try.prog 50 #[.slice A l.length c, .func (.func 51) #[] #[]] W fun e w' => e = .returned (.bool (!l.all bandB)) ∧ Below W.heap.size W w' := by
  rw [show (!l.all bandB) = l.any (fun x => !bandB x) by rw [List.all_eq_not_any_not, Bool.not_not]]
  refine contains_band 51 #[] (fun x => !bandB x) (enters_of Try.func51 (by kernel_rfl) rfl) A c l W ?_ hr hc
  intro W2 x cs hb _ _ hK
  obtain rfl := k62_open hK
  exact rb1_any x W2
def columns_RightBands.f (l0 : List (S62)) : Option (Bool) := some (rightBandsB l0)
theorem columns_RightBands.calls (A0 : Option Addr) (c0 : Nat) (l0 : List (S62)) (r : Bool) (w : World) (hr0 : Kd.C k62 w A0 l0.length l0) (hc0 : l0.length ≤ c0) (h : columns_RightBands.f l0 = some r) :
    Calls Try.prog 33 #[.slice A0 l0.length c0] w fun e w' => e = .returned (.bool r) ∧ Below w.heap.size w w' := by
  obtain rfl := Option.some.inj h
  have HC := Lib.hid (rb_any l0 A0 c0 w hr0 hc0)
  obtain ⟨q, hq⟩ : ∃ q, q = l0.all bandB := ⟨_, rfl⟩
  have hlen := hr0.2.1
  rw [← hq] at HC
  obtain ⟨R, hR⟩ : ∃ R, R = rightBandsB l0 := ⟨_, rfl⟩
  rw [← hR]
  have HR := Lib.hid (show R = (decide (l0.length ≤ 10000) && q) by rw [hR, hq]; rfl)
  clear hR hq hr0 hc0
  by_cases hl : l0.length ≤ 10000
  · have hl' : (l0.length : Int) ≤ 10000 := by omega
    go_enter Try.func33, Try.ntmps33
    go_wp2_with (go_at_call 50; refine HC.out.mono ?_; rintro e w' ⟨rfl, hb⟩; have hB1 : Below w.heap.size w w' := hb)
    go_ret
    refine ⟨ret_b ?_, by assumption⟩
    rw [HR.out]; simp [hl]
  · have hl' : ¬ (l0.length : Int) ≤ 10000 := by omega
    go_enter Try.func33, Try.ntmps33
    go_wp2
    go_ret
    refine ⟨ret_b ?_, by first | assumption | exact Below.refl _ w⟩
    rw [HR.out]; simp [hl]
end Go.Proofs.Ytfoocmmjefdojaa.K
