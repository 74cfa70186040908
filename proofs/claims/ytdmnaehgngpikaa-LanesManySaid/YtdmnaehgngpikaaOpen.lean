/- Generic: what comes in as an argument, told by its kind. No program in sight. -/
import Derived.Test.YtdmnaehgngpikaaWd
import Derived.ChangeArms
import Derived.OpenShut
import Derived.WideShapes
import Derived.ChangeSlices
namespace Go.Proofs.Ytdmnaehgngpikaa
open Go.RowKit Go.Proofs.YtdmnaehgngpikaaW.PrintWords Go.ChangeShapes Go.WideShapes
set_option linter.unusedVariables false
set_option linter.unusedSimpArgs false
/-- what can be read as data of type t, is told by the kind d, and its numbers are of their kinds -/
def Opens (P : Program) (t : TypeId) {α : Type} (d : Kd α) (g : α → Prop) : Prop :=
  ∀ {H : Type} {enc : TypeId × Value → H} {w : World} {base : Nat} {sp : Nat → Bool} {held : Bool} {fuel : Nat} {cs : List Value} {x : DataW H × List MemPlace},
    DataW.trod enc P w base sp held fuel t cs = some x → ∃ a, d.K w a cs ∧ g a
section
variable {P : Program} {t : TypeId}
theorem opens_int {k : IntKind} (ht : P.underlying t = some (.int k)) : Opens P t (Kd.int k) (fun n => (Lit.int k n).wf = true) := by
  intro H enc w base sp held fuel cs x h
  obtain ⟨n, rfl, -, hw⟩ := DataW.trod_int ht h
  exact ⟨n, rfl, hw⟩
theorem add_add (a : Addr) (i j : Nat) : (a.add i).add j = a.add (i + j) := by
  unfold Addr.add
  by_cases hi : i = 0
  · subst hi; simp
  · by_cases hj : j = 0
    · subst hj; simp [hi]
    · have : ¬ i + j = 0 := by omega
      simp [hi, hj, this, Nat.add_assoc]
end
end Go.Proofs.Ytdmnaehgngpikaa
