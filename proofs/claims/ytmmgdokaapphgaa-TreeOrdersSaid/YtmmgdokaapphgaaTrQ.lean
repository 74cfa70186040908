/- Layer 4: page forms of Order, Depths, Parents without the reference (TreeOrders, whose claim must be small). -/
import Derived.Test.YtmmgdokaapphgaaTrY
import Derived.Test.YtmmgdokaapphgaaTrA
import Derived.Test.YtmmgdokaapphgaaTrB
import Derived.Test.YtmmgdokaapphgaaTrG
import Derived.Test.YtmmgdokaapphgaaSt6
namespace Go.Proofs.Ytmmgdokaapphgaa.K
open Go.RowKit Go.Proofs.YtmmgdokaapphgaaW.PrintWords Go.Proofs.YtmmgdokaapphgaaW.PrintLast Go.Proofs.YtmmgdokaapphgaaW.PrintMore
set_option linter.unusedVariables false
set_option linter.unusedSimpArgs false
attribute [local go_sem] Oper.semAt_some

theorem cells_len (b : Nat) : ∀ (rows : List (List Int)) (q : Nat), (∀ r ∈ rows, r.length ≤ b) → (cellsFrom q rows).length ≤ rows.length * b
  | [], q, h => by simp [cellsFrom]
  | r :: rows, q, h => by
    have h1 := h r (List.mem_cons_self ..)
    have h2 := cells_len b rows (q + 1) (fun r hr => h r (List.mem_cons_of_mem _ hr))
    rw [cellsFrom, List.length_append, List.length_map, List.length_cons, Nat.succ_mul]; omega
theorem links_len {l : List Nd} {b : Nat} (h : ∀ n ∈ l, n.f1.length ≤ b) : (linksOf l).length ≤ l.length * b := by
  have := cells_len b (l.map (fun n => n.f1)) 0 (fun r hr => by obtain ⟨n, hn, rfl⟩ := List.mem_map.1 hr; exact h n hn)
  rwa [List.length_map] at this
theorem cut_len150 (l : List Nd) : (cutL l).length ≤ 150 := by unfold cutL; rw [List.length_map, List.length_take]; omega
theorem cut_kids (l : List Nd) : ∀ n ∈ cutL l, n.f1.length ≤ 30 := fun n hn => by
  obtain ⟨m, hm, rfl⟩ := List.mem_map.1 hn
  show (m.f1.take _).length ≤ 30
  have : (m.f1.take (mn (m.f1.length : Int) 30).toNat).length = _ := cut_len m.f1.length 30 m.f1 rfl
  rw [this]; split <;> omega
theorem cut_links (l : List Nd) : (linksOf (cutL l)).length ≤ 1000000000 := by
  have h1 := links_len (cut_kids l)
  have h2 := cut_len150 l
  have : (cutL l).length * 30 ≤ 150 * 30 := Nat.mul_le_mul_right _ h2
  omega
theorem kid_range {l : List Nd} (hk : KidsIn l) {a k : Int} (h : k ∈ kidsOf l a) : 0 ≤ k ∧ k < (l.length : Int) := by
  unfold kidsOf rd_T42 at h
  rw [List.getD_eq_getElem?_getD] at h
  cases q : l[a.toNat]? with
  | none =>
    rw [q] at h
    have : k ∈ (z42).f1 := h
    exact absurd this (by simp [z42])
  | some x =>
    rw [q] at h
    exact hk x (List.mem_of_getElem? q) k h
theorem fold_set_get (x : Nat) (r : Int) : ∀ (L : List (Nat × Int)) (out : List Int), x < out.length → (∀ y ∈ L, y.2.toNat = x → ((y.1 : Nat) : Int) = r) → ((∃ y ∈ L, y.2.toNat = x) ∨ out[x]? = some r) →
    (L.foldl (fun out x => out.set x.2.toNat ((x.1 : Nat) : Int)) out)[x]? = some r
  | [], out, hx, hu, h => by
    rcases h with ⟨y, hy, -⟩ | h
    · simp at hy
    · exact h
  | y :: L, out, hx, hu, h => by
    rw [List.foldl_cons]
    refine fold_set_get x r L _ (by rw [List.length_set]; exact hx) (fun z hz => hu z (List.mem_cons_of_mem _ hz)) ?_
    by_cases e : y.2.toNat = x
    · right
      rw [e, List.getElem?_set_self hx, hu y (List.mem_cons_self ..) e]
    · rw [List.getElem?_set_ne e]
      rcases h with ⟨z, hz, hzx⟩ | h
      · rcases List.mem_cons.1 hz with rfl | hz
        · exact absurd hzx e
        · exact .inl ⟨z, hz, hzx⟩
      · exact .inr h
/-- whose kid a place is -/
theorem parents_get (l : List Nd) (hk : KidsIn l) (ht : Tidy l) {p x : Nat} (hx : ((x : Nat) : Int) ∈ kidsOf l ((p : Nat) : Int)) : (parentsP l)[x]? = some ((p : Nat) : Int) := by
  have hr := kid_range hk hx
  have hpl : p < l.length := by
    rcases Nat.lt_or_ge p l.length with h | h
    · exact h
    · rw [kidsOf_far (by omega)] at hx; simp at hx
  unfold parentsP parF
  refine fold_set_get x _ _ _ (by rw [List.length_set, List.length_replicate]; omega) (fun y hy hyx => ?_) (.inl ?_)
  · obtain ⟨r, k⟩ := y
    obtain ⟨z, hz, hkz⟩ := mem_links.1 hy
    have hkr : k ∈ kidsOf l ((r : Nat) : Int) := by rw [kidsOf_nat hz]; exact hkz
    have := kid_range hk hkr
    have hkx : k = ((x : Nat) : Int) := by have : k.toNat = x := hyx; omega
    subst hkx
    exact ht.one _ _ _ (by omega) (by omega) hkr hx
  · have hz : l[p]? = some l[p] := List.getElem?_eq_getElem hpl
    rw [kidsOf_nat hz] at hx
    exact ⟨(p, ((x : Nat) : Int)), mem_links.2 ⟨_, hz, hx⟩, by simp⟩
theorem parents_root (l : List Nd) (hb : ∀ x ∈ linksOf l, badLink l.length x = false) (hn : 0 < l.length) : (parentsP l)[0]? = some (-1) := by
  have key : ∀ (L : List (Nat × Int)) (out : List Int), (∀ y ∈ L, badLink l.length y = false) → (L.foldl (fun out x => out.set x.2.toNat ((x.1 : Nat) : Int)) out)[0]? = out[0]? := by
    intro L
    induction L with
    | nil => intro out _; rfl
    | cons y L ih =>
      intro out h
      rw [List.foldl_cons, ih _ (fun z hz => h z (List.mem_cons_of_mem _ hz)), List.getElem?_set_ne]
      have := h y (List.mem_cons_self ..)
      unfold badLink at this
      simp only [Bool.or_eq_false_iff, decide_eq_false_iff_not] at this
      omega
  unfold parentsP parF
  rw [key _ _ hb, List.getElem?_set_self (by rw [List.length_replicate]; exact hn)]

theorem depthsP_at (l : List Nd) {i : Nat} (hi : i < l.length) : (depthsP l)[i]? = some ((walkP l).dep (i : Int)) := by
  unfold depthsP
  rw [List.getElem?_map, List.getElem?_range hi]; rfl
/-- what a call hands back: a row that is read, in a tuple with a number or alone -/
def Hands (W : World) (m : Nat) (xs : List Int) (f : Value → Value) (e : Ending) (w' : World) : Prop := ∃ A1 c1, e = .returned (f (.slice A1 m c1)) ∧ m ≤ c1 ∧ Kd.C (Kd.int .i64) w' A1 m xs ∧ Below W.heap.size W w'
theorem hands_of {W w' : World} {e : Ending} {m : Nat} {xs : List Int} {f : Value → Value} {t : Nat} (hm : xs.length = m) (h : ∃ v0_ : Value, e = .returned (f v0_) ∧ Kd.R (Kd.int .i64) t w' W.heap.size (fun _ => True) v0_ xs ∧ Below W.heap.size W w') : Hands W m xs f e w' := by
  subst hm
  obtain ⟨v, rfl, hR, hB⟩ := h
  obtain ⟨A1, c1, rfl, hl, hC⟩ := Kd.R_reads hR
  exact ⟨A1, c1, rfl, hl, hC, hB⟩
section
variable {l : List Nd} {n : Nat} (hn : l.length = n)
include hn
theorem torder_page {a : List Int} {er : Int} (ha : tree_Order.f l = some (a, er)) {m : Nat} (hm : a.length = m) (A : Option Addr) (c : Nat) (W : World) (hC : Kd.C k42 W A n l) (hc : n ≤ c) :
    Calls Try.prog 14 #[.slice A n c] W (Hands W m a (fun v => .tuple #[v, .int .i64 er])) := by
  subst hn
  exact (tree_Order.calls A c l a er W hC hc ha).mono fun e w' h => hands_of hm h
theorem tdepths_page {a : List Int} {er : Int} (ha : tree_Depths.f l = some (a, er)) {m : Nat} (hm : a.length = m) (A : Option Addr) (c : Nat) (W : World) (hC : Kd.C k42 W A n l) (hc : n ≤ c) :
    Calls Try.prog 15 #[.slice A n c] W (Hands W m a (fun v => .tuple #[v, .int .i64 er])) := by
  subst hn
  exact (tree_Depths.calls A c l a er W hC hc ha).mono fun e w' h => hands_of hm h
theorem tparents_page {a : List Int} {er : Int} (ha : tree_Parents.f l = some (a, er)) {m : Nat} (hm : a.length = m) (A : Option Addr) (c : Nat) (W : World) (hC : Kd.C k42 W A n l) (hc : n ≤ c) :
    Calls Try.prog 16 #[.slice A n c] W (Hands W m a (fun v => .tuple #[v, .int .i64 er])) := by
  subst hn
  exact (tree_Parents.calls A c l a er W hC hc ha).mono fun e w' h => hands_of hm h
end
end Go.Proofs.Ytmmgdokaapphgaa.K
