/- Layer 4: facts about a page that was cut. -/
import Derived.Test.YtdmnaehgngpikaaTrU
namespace Go.Proofs.Ytdmnaehgngpikaa.K
open Go.RowKit Go.Proofs.YtdmnaehgngpikaaW.PrintWords Go.Proofs.YtdmnaehgngpikaaW.PrintLast Go.Proofs.YtdmnaehgngpikaaW.PrintMore
set_option linter.unusedVariables false
set_option linter.unusedSimpArgs false
theorem cells_len (b : Nat) : ∀ (rows : List (List Int)) (q : Nat), (∀ r ∈ rows, r.length ≤ b) → (cellsFrom q rows).length ≤ rows.length * b
  | [], q, h => by simp [cellsFrom]
  | r :: rows, q, h => by
    have h1 := h r (List.mem_cons_self ..)
    have h2 := cells_len b rows (q + 1) (fun r hr => h r (List.mem_cons_of_mem _ hr))
    rw [cellsFrom, List.length_append, List.length_map, List.length_cons, Nat.succ_mul]; omega
theorem links_len {l : List Nd} {b : Nat} (h : ∀ n ∈ l, n.f1.length ≤ b) : (linksOf l).length ≤ l.length * b := by
  have := cells_len b (l.map (fun n => n.f1)) 0 (fun r hr => by obtain ⟨n, hn, rfl⟩ := List.mem_map.1 hr; exact h n hn)
  rwa [List.length_map] at this
theorem cut_len150 (l : List Nd) : (cutL l).length ≤ 150 := by unfold cutL; rw [List.length_map, List.length_take]; omega
theorem cut_kids (l : List Nd) : ∀ n ∈ cutL l, n.f1.length ≤ 30 := fun n hn => by
  obtain ⟨m, hm, rfl⟩ := List.mem_map.1 hn
  show (m.f1.take _).length ≤ 30
  have : (m.f1.take (mn (m.f1.length : Int) 30).toNat).length = _ := cut_len m.f1.length 30 m.f1 rfl
  rw [this]; split <;> omega
theorem cut_links (l : List Nd) : (linksOf (cutL l)).length ≤ 1000000000 := by
  have h1 := links_len (cut_kids l)
  have h2 := cut_len150 l
  have : (cutL l).length * 30 ≤ 150 * 30 := Nat.mul_le_mul_right _ h2
  omega
end Go.Proofs.Ytdmnaehgngpikaa.K
