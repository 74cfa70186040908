/- Layer 4: a page that was cut; its checks. -/
import Derived.Test.YtmmgdokaapphgaaTrY
import Derived.Test.YtmmgdokaapphgaaTrZ
namespace Go.Proofs.Ytmmgdokaapphgaa.K
open Go.RowKit Go.Proofs.YtmmgdokaapphgaaW.PrintWords Go.Proofs.YtmmgdokaapphgaaW.PrintLast Go.Proofs.YtmmgdokaapphgaaW.PrintMore
set_option linter.unusedVariables false
set_option linter.unusedSimpArgs false

theorem cells_len (b : Nat) : ∀ (rows : List (List Int)) (q : Nat), (∀ r ∈ rows, r.length ≤ b) → (cellsFrom q rows).length ≤ rows.length * b
  | [], q, h => by simp [cellsFrom]
  | r :: rows, q, h => by
    have h1 := h r (List.mem_cons_self ..)
    have h2 := cells_len b rows (q + 1) (fun r hr => h r (List.mem_cons_of_mem _ hr))
    rw [cellsFrom, List.length_append, List.length_map, List.length_cons, Nat.succ_mul]; omega
theorem links_len {l : List Nd} {b : Nat} (h : ∀ n ∈ l, n.f1.length ≤ b) : (linksOf l).length ≤ l.length * b := by
  have := cells_len b (l.map (fun n => n.f1)) 0 (fun r hr => by obtain ⟨n, hn, rfl⟩ := List.mem_map.1 hr; exact h n hn)
  rwa [List.length_map] at this
theorem cut_len150 (l : List Nd) : (cutL l).length ≤ 150 := by unfold cutL; rw [List.length_map, List.length_take]; omega
theorem cut_kids (l : List Nd) : ∀ n ∈ cutL l, n.f1.length ≤ 30 := fun n hn => by
  obtain ⟨m, hm, rfl⟩ := List.mem_map.1 hn
  show (m.f1.take _).length ≤ 30
  have : (m.f1.take (mn (m.f1.length : Int) 30).toNat).length = _ := cut_len m.f1.length 30 m.f1 rfl
  rw [this]; split <;> omega
theorem cut_links (l : List Nd) : (linksOf (cutL l)).length ≤ 1000000000 := by
  have h1 := links_len (cut_kids l)
  have h2 := cut_len150 l
  have : (cutL l).length * 30 ≤ 150 * 30 := Nat.mul_le_mul_right _ h2
  omega
theorem cut_rcheck (l : List Nd) : Ev (fun K => purflingref04_Check.f K (cutL l)) (checkP (cutL l)) :=
  rcheck_ev (cutL l) (by have := cut_len150 l; omega) (fun n hn => by have := cut_kids l n hn; omega) (cut_links l)
theorem check_of {l : List Nd} (h : (linksOf l).length ≤ 1000000000) : tree_Check.f l = some ((checkP l).1, (checkP l).2) := by unfold tree_Check.f; rw [if_pos h]
theorem check_page {l : List Nd} {n : Nat} (hn : l.length = n) (hl : (linksOf l).length ≤ 1000000000) (ea er : Int) (he : ea = (checkP l).1) (hr : er = (checkP l).2) (A : Option Addr) (c : Nat) (W : World) (hC : Kd.C k42 W A n l) (hc : n ≤ c) :
    Calls Try.prog 11 #[.slice A n c] W fun e w' => e = .returned (.tuple #[.int .i64 ea, .int .i64 er]) ∧ Below W.heap.size W w' := by
  subst hn
  exact tree_Check.calls A c l ea er W hC hc (by rw [check_of hl, he, hr])
theorem rcheck_page {l : List Nd} {n : Nat} (hn : l.length = n) (hm : n ≤ 100000) (hk : ∀ n ∈ l, n.f1.length ≤ 1000000000) (hl : (linksOf l).length ≤ 1000000000) (ea er : Int) (he : ea = (checkP l).1) (hr : er = (checkP l).2) (A : Option Addr) (c : Nat) (W : World) (hC : Kd.C k42 W A n l) (hc : n ≤ c) :
    Calls Try.prog 13 #[.slice A n c] W fun e w' => e = .returned (.tuple #[.int .i64 ea, .int .i64 er]) ∧ Below W.heap.size W w' := by
  subst hn
  obtain ⟨k0, hk0⟩ := rcheck_ev l hm hk hl
  exact purflingref04_Check.calls k0 A c l ea er W hC hc (by rw [show purflingref04_Check.f k0 l = some (checkP l) from hk0 k0 (Nat.le_refl _), he, hr])
end Go.Proofs.Ytmmgdokaapphgaa.K
