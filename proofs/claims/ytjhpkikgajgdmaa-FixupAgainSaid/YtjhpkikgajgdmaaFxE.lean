/- Layer 5: the same pages. -/
import Derived.Test.YtjhpkikgajgdmaaTrTs
namespace Go.Proofs.Ytjhpkikgajgdmaa.K
open Go.RowKit Go.Proofs.YtjhpkikgajgdmaaW.PrintWords Go.Proofs.YtjhpkikgajgdmaaW.PrintLast Go.Proofs.YtjhpkikgajgdmaaW.PrintMore
set_option linter.unusedVariables false
set_option linter.unusedSimpArgs false

def styEq (a b : S40) : Bool := decide (styN a = styN b)
def nodeEq (a b : Nd) : Bool := decide (a.f0 = b.f0) && decide (a.f1 = b.f1) && styEq a.f2 b.f2 && decide (a.f3 = b.f3) && decide (a.f4 = b.f4) && decide (a.f5 = b.f5) && decide (a.f1.length < 1000000000)
theorem styS_styN (s : S40) : styS (styN s) = s := rfl
theorem nodeEq_eq {a b : Nd} (h : nodeEq a b = true) : a = b ∧ a.f1.length < 1000000000 := by
  unfold nodeEq styEq at h
  simp only [Bool.and_eq_true, decide_eq_true_eq] at h
  obtain ⟨⟨⟨⟨⟨⟨h0, h1⟩, h2⟩, h3⟩, h4⟩, h5⟩, h6⟩ := h
  refine ⟨?_, h6⟩
  have e2 : a.f2 = b.f2 := by rw [← styS_styN a.f2, ← styS_styN b.f2, h2]
  cases a; cases b
  simp_all
def sameB : List Nd → List Nd → Bool
  | [], [] => true
  | a :: l, b :: m => nodeEq a b && sameB l m
  | _, _ => false
theorem sameB_eq : ∀ {l m : List Nd}, sameB l m = true → l = m ∧ ∀ n ∈ l, n.f1.length < 1000000000
  | [], [], _ => ⟨rfl, fun n hn => by cases hn⟩
  | a :: l, b :: m, h => by
    unfold sameB at h
    rw [Bool.and_eq_true] at h
    obtain ⟨h1, h2⟩ := nodeEq_eq h.1
    obtain ⟨h3, h4⟩ := sameB_eq h.2
    refine ⟨by rw [h1, h3], fun n hn => ?_⟩
    rcases List.mem_cons.1 hn with rfl | hn
    · exact h2
    · exact h4 n hn
  | [], b :: m, h => by cases h
  | a :: l, [], h => by cases h
theorem sameB_refl : ∀ {l : List Nd}, (∀ n ∈ l, n.f1.length < 1000000000) → sameB l l = true
  | [], _ => rfl
  | a :: l, h => by
    unfold sameB
    rw [sameB_refl (fun n hn => h n (List.mem_cons_of_mem _ hn)), Bool.and_true]
    unfold nodeEq styEq
    simp [h a (List.mem_cons_self ..)]
def purflingref04_Same.f (l0 : List Nd) (l1 : List Nd) : Option (Bool) := if sameB l0 l1 = true then some true else none
theorem purflingref04_Same.calls (A0 : Option Addr) (c0 : Nat) (l0 : List Nd) (A1 : Option Addr) (c1 : Nat) (l1 : List Nd) (r : Bool) (w : World) (hr0 : Kd.C k43 w A0 l0.length l0) (hc0 : l0.length ≤ c0) (hr1 : Kd.C k43 w A1 l1.length l1) (hc1 : l1.length ≤ c1) (h : purflingref04_Same.f l0 l1 = some r) :
    Calls Try.prog 22 #[.slice A0 l0.length c0, .slice A1 l1.length c1] w fun e w' => e = .returned (.bool r) ∧ Below w.heap.size w w' := by
  unfold purflingref04_Same.f at h
  split at h
  · rename_i hs
    obtain ⟨rfl, hb⟩ := sameB_eq hs
    obtain rfl := Option.some.inj h
    exact same_any l0 A0 A1 c0 c1 w hr0 hr1 hc0 hc1 hb
  · cases h
end Go.Proofs.Ytjhpkikgajgdmaa.K
