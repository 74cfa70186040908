/- Layer 7: Slots of sizes that are not right. -/
import Derived.Test.YtfoocmmjefdojaaGs1
namespace Go.Proofs.Ytfoocmmjefdojaa.K
open Go.RowKit Go.Proofs.YtfoocmmjefdojaaW.PrintWords Go.Proofs.YtfoocmmjefdojaaW.PrintLast Go.Proofs.YtfoocmmjefdojaaW.PrintMore
set_option linter.unusedVariables false
set_option linter.unusedSimpArgs false
attribute [local go_sem] Oper.semAt_some

theorem gwithin_t (a b n : Int) (t : Bool) (h : decide (a ≤ n ∧ n ≤ b) = t) : ∀ (W : World) (B : Nat) (hB : B = W.heap.size), Calls Try.prog 37 #[.int .i64 a, .int .i64 b, .slice (some ⟨B, 0, none⟩) 1 1] (W.alloc (.cells #[.int .i64 n] 3)) fun e w' => e = .returned (.bool t) ∧ Below (W.alloc (.cells #[.int .i64 n] 3)).heap.size (W.alloc (.cells #[.int .i64 n] 3)) w' :=
  fun W B hB => h ▸ gwithin_one a b n W B hB

/-- the results' cells -/
structure ResI (w W : World) : Prop where
  r1 : BlkIs W w.heap.size 36 #[.slice none 0 0]
  r2 : BlkIs W (w.heap.size + 1) 27 #[.int .i64 0]
  b : Below w.heap.size w W
theorem ResI.new (w : World) : ResI w ((w.alloc (.cells #[.slice none 0 0] 36)).alloc (.cells #[.int .i64 0] 27)) :=
  ⟨BlkIs.alloc (World.alloc_heap_new w _) _, by have := World.alloc_heap_new (w.alloc (.cells #[.slice none 0 0] 36)) (.cells #[.int .i64 0] 27); rwa [World.size_alloc] at this, ((Below.refl _ w).alloc (Nat.le_refl _) _).alloc (by simp) _⟩
theorem ResI.call {w W V : World} {o : Obj} (h : ResI w W) (hb : Below (W.alloc o).heap.size (W.alloc o) V) : ResI w V :=
  ⟨BlkIs.call h.r1 hb, BlkIs.call h.r2 hb, below_call h.b h.b.size hb⟩
theorem ResI.facts {w W : World} (h : ResI w W) : (W.frozen? ⟨w.heap.size, 0, none⟩ = false ∧ W.frozen? ⟨w.heap.size + 1, 0, none⟩ = false) ∧ (W.cell? ⟨w.heap.size, 0, none⟩ = some (.slice none 0 0) ∧ W.cell? ⟨w.heap.size + 1, 0, none⟩ = some (.int .i64 0)) ∧ w.heap.size < W.heap.size ∧ w.heap.size + 1 < W.heap.size :=
  ⟨⟨BlkIs.frozen h.r1 0, BlkIs.frozen h.r2 0⟩, ⟨BlkIs.cell h.r1 0, BlkIs.cell h.r2 0⟩, BlkIs.lt h.r1, BlkIs.lt h.r2⟩
/-- the results are read out of their cells -/
theorem slots_leaves {w W : World} {tmps : Array Value} {R : Ending → World → Prop} {ds : List Deferred} (v : Value) (e : Int) (h6 : tmps[6]? = some (.pointer (some ⟨w.heap.size, 0, none⟩))) (h7 : tmps[7]? = some (.pointer (some ⟨w.heap.size + 1, 0, none⟩)))
    (h1 : W.cell? ⟨w.heap.size, 0, none⟩ = some v) (h2 : W.cell? ⟨w.heap.size + 1, 0, none⟩ = some (.int .i64 e)) (hm : Marks w.heap.size ds W) (hR : ∀ W', SameBut w.heap.size W W' → R (.returned (.tuple #[v, .int .i64 e])) W') :
    LeavesInM Fence.wide 0 Try.prog Try.f22 tmps R ds .returning W := by
  refine leaves_marks (B := w.heap.size) hm (fun W' hs => ⟨?_, hR W' hs⟩)
  have h1' := (hs.cell _).trans h1
  have h2' := (hs.cell _).trans h2
  simp [results, Try.results22]
  simp [h6, h7, asAddr, go_sem, h1', h2', Result.andThen]
theorem ResI.ends {w W : World} (h : ResI w W) (v : Value) (hv : v.cells = #[v]) (e : Int) : ((W.setCell ⟨w.heap.size, 0, none⟩ v).setCell ⟨w.heap.size + 1, 0, none⟩ (.int .i64 e)).cell? ⟨w.heap.size, 0, none⟩ = some v ∧
    ((W.setCell ⟨w.heap.size, 0, none⟩ v).setCell ⟨w.heap.size + 1, 0, none⟩ (.int .i64 e)).cell? ⟨w.heap.size + 1, 0, none⟩ = some (.int .i64 e) ∧ Below w.heap.size w ((W.setCell ⟨w.heap.size, 0, none⟩ v).setCell ⟨w.heap.size + 1, 0, none⟩ (.int .i64 e)) :=
  ⟨BlkIs.cell (BlkIs.other (BlkIs.set h.r1 0 v) (p := ⟨w.heap.size + 1, 0, none⟩) (by simp) _) 0, BlkIs.cell (BlkIs.set (BlkIs.other h.r2 (p := ⟨w.heap.size, 0, none⟩) (by simp) v) 0 _) 0,
    (h.b.setCell (p := ⟨w.heap.size, 0, none⟩) (Nat.le_refl _) _).setCell (p := ⟨w.heap.size + 1, 0, none⟩) (by simp) _⟩
theorem slots_no {w W : World} {tmps : Array Value} {ds : List Deferred} (h : ResI w W) (h6 : tmps[6]? = some (.pointer (some ⟨w.heap.size, 0, none⟩))) (h7 : tmps[7]? = some (.pointer (some ⟨w.heap.size + 1, 0, none⟩))) (hm : Marks w.heap.size ds W) :
    LeavesInM Fence.wide 0 Try.prog Try.f22 tmps (fun e w' => e = .returned (.tuple #[.slice none 0 0, .int .i64 70]) ∧ Below w.heap.size w w') ds .returning ((W.setCell ⟨w.heap.size, 0, none⟩ (.slice none 0 0)).setCell ⟨w.heap.size + 1, 0, none⟩ (.int .i64 70)) :=
  have he := h.ends (.slice none 0 0) rfl 70
  slots_leaves (.slice none 0 0) 70 h6 h7 he.1 he.2.1 (hm.keep (((KeepBook.refl W).setCell _ _).setCell _ _).to) (fun W' hs => ⟨rfl, hs.stab _ (Stab.below (Nat.le_refl _) (Nat.le_refl _)) he.2.2⟩)

set_option maxRecDepth 100000 in
set_option maxHeartbeats 1000000 in
theorem slots_bad (l0 : List Pl) (A0 : Option Addr) (c0 : Nat) (rows cols : Int) (w : World) (hs : sizesB rows cols = false) :
    Calls Try.prog 22 #[.slice A0 l0.length c0, .int .i64 rows, .int .i64 cols] w fun e w' => e = .returned (.tuple #[.slice none 0 0, .int .i64 70]) ∧ Below w.heap.size w w' := by
  unfold sizesB at hs
  refine calls_of_wp_marks Try.func22 rfl ?_
  simp only [Try.ntmps22, List.size_toArray, List.length_cons, List.length_nil, Nat.reduceAdd, Nat.reduceSub, Array.replicate_succ, Array.replicate_zero, List.push_toArray, List.append_toArray, List.nil_append, List.cons_append]
  by_cases q1 : 0 ≤ rows ∧ rows ≤ 65536
  · rw [decide_eq_true q1, Bool.true_and] at hs
    have HK1 := Lib.hid (gwithin_t 0 65536 rows true (decide_eq_true q1))
    by_cases q2 : 0 ≤ cols ∧ cols ≤ 10000
    · rw [decide_eq_true q2, Bool.true_and] at hs
      have HK2 := Lib.hid (gwithin_t 0 10000 cols true (decide_eq_true q2))
      have hmul : rows * cols ≤ 65536 * 10000 := Int.mul_le_mul q1.2 q2.2 q2.1 (by omega)
      have hmul0 : 0 ≤ rows * cols := Int.mul_nonneg q1.1 q2.1
      have hw : IntKind.i64.wrap (rows * cols) = rows * cols := IntWalk.i64_in _ (by omega)
      have hg : decide (1000000 < rows * cols) = true := decide_eq_true (by have := of_decide_eq_false hs; omega)
      clear hs q1 q2 hmul hmul0
      go_wp2_with (first
        | (go_at_call 37; (with_reducible refine (HK1.out _ _ (by simp)).mono ?_); rintro e w1 ⟨rfl, hb1⟩; have hr1 := ((ResI.new w).call hb1); clear hb1)
        | (go_at_call 37; (with_reducible refine (HK2.out _ _ (by simp)).mono ?_); rintro e w2 ⟨rfl, hb2⟩; have hr2 := (hr1.call hb2); obtain ⟨⟨f1, f2⟩, ⟨y1, y2⟩, s1, s2⟩ := hr2.facts))
      exact slots_no hr2 rfl rfl (Marks.nil _ _)
    · have HK2 := Lib.hid (gwithin_t 0 10000 cols false (decide_eq_false q2))
      clear hs q1 q2
      go_wp2_with (first
        | (go_at_call 37; (with_reducible refine (HK1.out _ _ (by simp)).mono ?_); rintro e w1 ⟨rfl, hb1⟩; have hr1 := ((ResI.new w).call hb1); clear hb1)
        | (go_at_call 37; (with_reducible refine (HK2.out _ _ (by simp)).mono ?_); rintro e w2 ⟨rfl, hb2⟩; have hr2 := (hr1.call hb2); obtain ⟨⟨f1, f2⟩, ⟨y1, y2⟩, s1, s2⟩ := hr2.facts))
      exact slots_no hr2 rfl rfl (Marks.nil _ _)
  · have HK1 := Lib.hid (gwithin_t 0 65536 rows false (decide_eq_false q1))
    clear hs q1
    go_wp2_with (go_at_call 37; (with_reducible refine (HK1.out _ _ (by simp)).mono ?_); rintro e w1 ⟨rfl, hb1⟩; have hr1 := ((ResI.new w).call hb1); obtain ⟨⟨f1, f2⟩, ⟨y1, y2⟩, s1, s2⟩ := hr1.facts)
    exact slots_no hr1 rfl rfl (Marks.nil _ _)
end Go.Proofs.Ytfoocmmjefdojaa.K
