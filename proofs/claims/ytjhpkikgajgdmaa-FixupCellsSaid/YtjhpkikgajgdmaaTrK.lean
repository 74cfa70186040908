/- Layer 4: slices.Clone. -/
import Derived.Test.YtjhpkikgajgdmaaTrB
namespace Go.Proofs.Ytjhpkikgajgdmaa.K
open Go.RowKit Go.Proofs.YtjhpkikgajgdmaaW.PrintWords Go.Proofs.YtjhpkikgajgdmaaW.PrintLast Go.Proofs.YtjhpkikgajgdmaaW.PrintMore
set_option linter.unusedVariables false
set_option linter.unusedSimpArgs false
attribute [local go_sem] Oper.semAt_some

theorem r_made {α : Type} (d : Kd α) (e : Nat) (w : World) : d.R e (w.alloc (.cells #[] e)) w.heap.size (fun _ => True) (.slice (some ⟨w.heap.size, 0, none⟩) 0 0) [] :=
  ⟨fun _ _ => trivial, [], World.ownsRow_made w #[] 0 (Nat.le_refl _) (Nat.zero_le _) (by simp), by simp, fun j p h => by simp at h⟩
set_option maxRecDepth 100000 in
theorem clone_int (A : Option Addr) (n c : Nat) (xs : List Int) (w : World) (hr : Kd.C (Kd.int .i64) w A n xs) (hb : n ≤ 1000000000) :
    Calls Try.prog 40 #[.slice A n c] w fun e w' => ∃ v, e = .returned v ∧ Kd.R (Kd.int .i64) 3 w' w.heap.size (fun _ => True) v xs ∧ Below w.heap.size w w' := by
  have HR := Lib.hid hr
  clear hr
  have q := fun (W : World) (a : Option Addr) (n c : Nat) => Go.run_eql_slice_nil (P := Try.prog) W 30 _ a n c Try.underlying30
  go_enter Try.func40, Try.ntmps40
  cases A with
  | none =>
    have hx : xs = [] := by
      obtain ⟨h1, -, h3⟩ := HR.out
      rcases Nat.eq_zero_or_pos n with h0 | h0
      · subst h0; exact List.eq_nil_of_length_eq_zero h1
      · obtain ⟨ad, h, _⟩ := h3 h0
        cases h
    subst hx
    go_wp2
    go_ret
    exact ⟨_, rfl, Kd.R_nil _ _ _ _ _, Below.refl _ _⟩
  | some ad =>
    go_wp2_with ((with_reducible refine gate_builtin (b := .append) (xs := #[.tmp 5, .tmp 6]) rfl ?_); at_builtin; refine Kd.R_append_rows (Kd.int .i64) (Rr := fun x cs => (Kd.int .i64).K w x cs) (w0 := w) w.heap.size rfl (.tmp 5) (.tmp 6) 30 3 (.int .i64 0) 8 rfl Try.underlying30 info3 rfl (by decide) (by omega) _ [] xs (some ad) n c (fun _ => True) (fun _ => False) rfl rfl (r_made (Kd.int .i64) 3 w) (ReadsRow.imp_ HR.out ((Below.refl w.heap.size w).alloc (Nat.le_refl _) _) (fun _ _ h => h)) (fun x cs h => h) (fun _ hk => hk.elim) (fun _ _ => trivial) ((Below.refl w.heap.size w).alloc (Nat.le_refl _) _) (by simp) (by simp; omega) ?_; intro v1 w1 ho1 hb1 hg1 hat1; rw [List.nil_append] at ho1; have HO := Lib.hid ho1; have HB := Lib.hid hb1; clear ho1 hb1 hg1 hat1)
    go_ret
    exact ⟨_, rfl, HO.out, HB.out⟩
set_option maxRecDepth 100000 in
theorem clone_i64 (A : Option Addr) (n c : Nat) (xs : List Int) (w : World) (hr : Kd.C (Kd.int .i64) w A n xs) (hb : n ≤ 1000000000) :
    Calls Try.prog 41 #[.slice A n c] w fun e w' => ∃ v, e = .returned v ∧ Kd.R (Kd.int .i64) 2 w' w.heap.size (fun _ => True) v xs ∧ Below w.heap.size w w' := by
  have HR := Lib.hid hr
  clear hr
  have q := fun (W : World) (a : Option Addr) (n c : Nat) => Go.run_eql_slice_nil (P := Try.prog) W 41 _ a n c Try.underlying41
  go_enter Try.func41, Try.ntmps41
  cases A with
  | none =>
    have hx : xs = [] := by
      obtain ⟨h1, -, h3⟩ := HR.out
      rcases Nat.eq_zero_or_pos n with h0 | h0
      · subst h0; exact List.eq_nil_of_length_eq_zero h1
      · obtain ⟨ad, h, _⟩ := h3 h0
        cases h
    subst hx
    go_wp2
    go_ret
    exact ⟨_, rfl, Kd.R_nil _ _ _ _ _, Below.refl _ _⟩
  | some ad =>
    go_wp2_with ((with_reducible refine gate_builtin (b := .append) (xs := #[.tmp 5, .tmp 6]) rfl ?_); at_builtin; refine Kd.R_append_rows (Kd.int .i64) (Rr := fun x cs => (Kd.int .i64).K w x cs) (w0 := w) w.heap.size rfl (.tmp 5) (.tmp 6) 41 2 (.int .i64 0) 8 rfl Try.underlying41 info2 rfl (by decide) (by omega) _ [] xs (some ad) n c (fun _ => True) (fun _ => False) rfl rfl (r_made (Kd.int .i64) 2 w) (ReadsRow.imp_ HR.out ((Below.refl w.heap.size w).alloc (Nat.le_refl _) _) (fun _ _ h => h)) (fun x cs h => h) (fun _ hk => hk.elim) (fun _ _ => trivial) ((Below.refl w.heap.size w).alloc (Nat.le_refl _) _) (by simp) (by simp; omega) ?_; intro v1 w1 ho1 hb1 hg1 hat1; rw [List.nil_append] at ho1; have HO := Lib.hid ho1; have HB := Lib.hid hb1; clear ho1 hb1 hg1 hat1)
    go_ret
    exact ⟨_, rfl, HO.out, HB.out⟩
set_option maxRecDepth 100000 in
theorem clone_node (A : Option Addr) (n c : Nat) (xs : List (List Value)) (w : World) (hr : Kd.C (Kd.raw 34) w A n xs) (hb : n ≤ 1000000) :
    Calls Try.prog 38 #[.slice A n c] w fun e w' => ∃ v, e = .returned v ∧ Kd.R (Kd.raw 34) 43 w' w.heap.size (fun _ => True) v xs ∧ Below w.heap.size w w' := by
  have HR := Lib.hid hr
  clear hr
  have q := fun (W : World) (a : Option Addr) (n c : Nat) => Go.run_eql_slice_nil (P := Try.prog) W 25 _ a n c Try.underlying25
  go_enter Try.func38, Try.ntmps38
  cases A with
  | none =>
    have hx : xs = [] := by
      obtain ⟨h1, -, h3⟩ := HR.out
      rcases Nat.eq_zero_or_pos n with h0 | h0
      · subst h0; exact List.eq_nil_of_length_eq_zero h1
      · obtain ⟨ad, h, _⟩ := h3 h0
        cases h
    subst hx
    go_wp2
    go_ret
    exact ⟨_, rfl, Kd.R_nil _ _ _ _ _, Below.refl _ _⟩
  | some ad =>
    go_wp2_with ((with_reducible refine gate_builtin (b := .append) (xs := #[.tmp 5, .tmp 6]) rfl ?_); at_builtin; refine Kd.R_append_rows (Kd.raw 34) (Rr := fun x cs => (Kd.raw 34).K w x cs) (w0 := w) w.heap.size rfl (.tmp 5) (.tmp 6) 25 43 (.agg zN) 288 rfl Try.underlying25 info43 rfl (by decide) (by omega) _ [] xs (some ad) n c (fun _ => True) (fun _ => False) rfl rfl (r_made (Kd.raw 34) 43 w) (ReadsRow.imp_ HR.out ((Below.refl w.heap.size w).alloc (Nat.le_refl _) _) (fun _ _ h => h)) (fun x cs h => h) (fun _ hk => hk.elim) (fun _ _ => trivial) ((Below.refl w.heap.size w).alloc (Nat.le_refl _) _) (by simp) (by simp; omega) ?_; intro v1 w1 ho1 hb1 hg1 hat1; rw [List.nil_append] at ho1; have HO := Lib.hid ho1; have HB := Lib.hid hb1; clear ho1 hb1 hg1 hat1)
    go_ret
    exact ⟨_, rfl, HO.out, HB.out⟩
end Go.Proofs.Ytjhpkikgajgdmaa.K
