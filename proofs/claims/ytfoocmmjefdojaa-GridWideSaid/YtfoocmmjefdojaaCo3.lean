/- Layer 13: wants, settles. -/
import Derived.Test.YtfoocmmjefdojaaCo2
import Derived.RegionTactic
import Derived.ChangeAlike
import Derived.BigRegion
import Derived.StillTailTactics
namespace Go.Proofs.Ytfoocmmjefdojaa.K
open Go.RowKit Go.Proofs.YtfoocmmjefdojaaW.PrintWords Go.Proofs.YtfoocmmjefdojaaW.PrintLast Go.Proofs.YtfoocmmjefdojaaW.PrintMore
set_option linter.unusedVariables false
set_option linter.unusedSimpArgs false

/-- block b is the cells cs, of type t -/
def BlkIs (w : World) (b t : Nat) (cs : Array Value) : Prop := w.heap[b]? = some (.cells cs t (0, 0))
theorem BlkIs.cell {w : World} {b t : Nat} {cs : Array Value} (h : BlkIs w b t cs) (j : Nat) : w.cell? ⟨b, j, none⟩ = cs[j]? := cell_of_row w b j cs t (0, 0) h
theorem BlkIs.frozen {w : World} {b t : Nat} {cs : Array Value} (h : BlkIs w b t cs) (j : Nat) : w.frozen? ⟨b, j, none⟩ = false := frozen_of_row w b j cs t h
theorem BlkIs.lt {w : World} {b t : Nat} {cs : Array Value} (h : BlkIs w b t cs) : b < w.heap.size := (Array.getElem?_eq_some_iff.1 h).1
theorem BlkIs.alloc {w : World} {b t : Nat} {cs : Array Value} (h : BlkIs w b t cs) (o : Obj) : BlkIs (w.alloc o) b t cs := (Below.heap_alloc w o b h.lt).trans h
theorem BlkIs.set {w : World} {b t : Nat} {cs : Array Value} (h : BlkIs w b t cs) (i : Nat) (v : Value) : BlkIs (w.setCell ⟨b, i, none⟩ v) b t (cs.setIfInBounds i v) := heap_setCell_same w b i cs t v h
theorem BlkIs.drew {w : World} {b t : Nat} {cs : Array Value} (h : BlkIs w b t cs) : BlkIs w.drew b t cs := h
theorem BlkIs.grown {w w' : World} {b t : Nat} {cs : Array Value} {row : Option Nat} (h : BlkIs w b t cs) (hg : w.grownBy w' row) (hne : some b ≠ row) : BlkIs w' b t cs := (hg.block b h.lt hne).trans h

theorem grown_set {w w1 : World} {O : Nat} (h : w.grownBy w1 (some O)) (o : Nat) (v : Value) : w.grownBy (w1.setCell ⟨O, o, none⟩ v) (some O) :=
  ⟨h.os, h.tape, h.output, by simpa using h.size, fun k hk hne => (Below.heap_setCell w1 ⟨O, o, none⟩ v k (fun e => hne (by rw [e]))).trans (h.block k hk hne)⟩
theorem grown_alloc {w w1 : World} {row : Option Nat} (h : w.grownBy w1 row) (o : Obj) : w.grownBy (w1.alloc o) row := World.grownBy.trans h (World.grownBy_alloc w1 o row)
theorem grown_drew {w w1 : World} {row : Option Nat} (h : w.grownBy w1 row) : w.grownBy w1.drew row := ⟨h.os, h.tape, h.output, h.size, h.block⟩
theorem grown_below {w w1 w2 : World} {row : Option Nat} (h : w.grownBy w1 row) (hb : Below w1.heap.size w1 w2) : w.grownBy w2 row :=
  ⟨hb.os.trans h.os, hb.tape.trans h.tape, hb.output.trans h.output, Nat.le_trans h.size hb.size, fun k hk hne => (hb.block k (Nat.lt_of_lt_of_le hk h.size)).trans (h.block k hk hne)⟩

/-! rows of equal parts -/
theorem flat_len {α : Type} (c : α → List Value) (n : Nat) (hc : ∀ x, (c x).length = n) : ∀ xs : List α, (xs.flatMap c).length = xs.length * n
  | [] => by simp
  | x :: xs => by simp [hc x, flat_len c n hc xs, Nat.succ_mul]; omega
theorem flat_get {α : Type} (c : α → List Value) (n : Nat) (hc : ∀ x, (c x).length = n) (i : Nat) (hi : i < n) : ∀ (xs : List α) (j : Nat) (x : α), xs[j]? = some x → (xs.flatMap c)[j * n + i]? = (c x)[i]?
  | [], j, x, h => by simp at h
  | y :: ys, 0, x, h => by
    simp at h; subst h
    rw [List.flatMap_cons, List.getElem?_append_left (by rw [hc]; omega)]; simp
  | y :: ys, j + 1, x, h => by
    simp at h
    rw [List.flatMap_cons, List.getElem?_append_right (by rw [hc, Nat.succ_mul]; omega), ← flat_get c n hc i hi ys j x h, hc]
    congr 1; rw [Nat.succ_mul]; omega
theorem flat_set {α : Type} (c : α → List Value) (n : Nat) (hc : ∀ x, (c x).length = n) (i : Nat) (hi : i < n) (v : Value) : ∀ (xs : List α) (j : Nat) (x x' : α), xs[j]? = some x → c x' = (c x).set i v → (xs.flatMap c).set (j * n + i) v = (xs.set j x').flatMap c
  | [], j, x, x', h, _ => by simp at h
  | y :: ys, 0, x, x', h, e => by
    simp at h; subst h
    rw [List.flatMap_cons, List.set_append_left _ _ (by rw [hc]; omega)]; simp [e]
  | y :: ys, j + 1, x, x', h, e => by
    simp at h
    rw [List.flatMap_cons, List.set_append_right _ _ (by rw [hc, Nat.succ_mul]; omega), List.set_cons_succ, List.flatMap_cons, ← flat_set c n hc i hi v ys j x x' h e, hc]
    congr 2; rw [Nat.succ_mul]; omega

def bandC (b : S62) : List Value := [.int .i64 b.f0, .int .i64 b.f1, .int .i64 b.f2, .int .i64 b.f3]
theorem bandC_len (b : S62) : (bandC b).length = 4 := rfl
/-- block O is the row of the bands bs -/
def OutIs (w : World) (O : Nat) (bs : List S62) : Prop := BlkIs w O 62 (bs.flatMap bandC).toArray
theorem OutIs.at_ {w : World} {O : Nat} {bs : List S62} (h : OutIs w O bs) {j : Nat} {b : S62} (hj : bs[j]? = some b) (i : Nat) (hi : i < 4) : w.cell? ⟨O, j * 4 + i, none⟩ = (bandC b)[i]? := by
  rw [BlkIs.cell h, List.getElem?_toArray, flat_get bandC 4 bandC_len i hi bs j b hj]
theorem OutIs.put {w : World} {O : Nat} {bs : List S62} (h : OutIs w O bs) {j : Nat} {b b' : S62} (hj : bs[j]? = some b) (i : Nat) (hi : i < 4) (v : Value) (hb : bandC b' = (bandC b).set i v) : OutIs (w.setCell ⟨O, j * 4 + i, none⟩ v) O (bs.set j b') := by
  have := BlkIs.set h (j * 4 + i) v
  unfold OutIs
  rwa [List.setIfInBounds_toArray, flat_set bandC 4 bandC_len i hi v bs j b b' hj hb] at this

/-- what a size asks of a band -/
def wantsP (b : S62) (s : S58) : S62 :=
  if s.f0 = 2 then { b with f2 := max b.f2 s.f1 } else if s.f0 = 1 then { b with f3 := max b.f3 s.f1 } else b

theorem set_self {α : Type} {xs : List α} {j : Nat} {x : α} (h : xs[j]? = some x) : xs.set j x = xs := by
  apply List.ext_getElem?
  intro i
  rw [List.getElem?_set]
  by_cases e : j = i
  · subst e
    rw [if_pos rfl, h, if_pos (List.getElem?_eq_some_iff.1 h).1]
  · rw [if_neg e]
theorem mx_if (a n : Int) : (if a < n then n else a) = max a n := by split <;> omega

set_option maxHeartbeats 4000000 in
theorem wants_any (O j : Nat) (bs : List S62) (b : S62) (k n : Int) (w : World) (hO : OutIs w O bs) (hj : bs[j]? = some b) :
    Calls Try.prog 40 #[.pointer (some ⟨O, j * 4, none⟩), .agg #[.int .i64 k, .int .i64 n]] w fun e w' => e = .returned (.tuple #[]) ∧ OutIs w' O (bs.set j (wantsP b ⟨k, n⟩)) ∧ w.grownBy w' (some O) := by
  have hlt := BlkIs.lt hO
  have c2 : w.cell? ⟨O, j * 4 + 2, none⟩ = some (.int .i64 b.f2) := hO.at_ hj 2 (by decide)
  have c3 : w.cell? ⟨O, j * 4 + 3, none⟩ = some (.int .i64 b.f3) := hO.at_ hj 3 (by decide)
  have f2 := BlkIs.frozen hO (j * 4 + 2)
  have f3 := BlkIs.frozen hO (j * 4 + 3)
  have HO := Lib.hid hO
  have HJ := Lib.hid hj
  clear hO hj
  by_cases h2 : k = 2
  · subst h2
    go_enter Try.func40, Try.ntmps40
    go_wp2
    go_region
    all_goals
      simp only [Exit.inBlock, Exit.then]
      refine bodyPost_end (results_none rfl _ _ _) rfl ?_
      refine ⟨rfl, ?_, grown_drew (grown_alloc (grown_set (World.grownBy.refl w _) _ _) _)⟩
      rw [mx_if]
      exact (BlkIs.alloc (OutIs.put (b' := wantsP b ⟨2, n⟩) HO.out HJ.out 2 (by decide) (.int .i64 (max b.f2 n)) (by simp [wantsP, bandC])) _).drew
  by_cases h1 : k = 1
  · subst h1
    go_enter Try.func40, Try.ntmps40
    go_wp2
    go_region
    all_goals
      simp only [Exit.inBlock, Exit.then]
      refine bodyPost_end (results_none rfl _ _ _) rfl ?_
      refine ⟨rfl, ?_, grown_drew (grown_alloc (grown_set (World.grownBy.refl w _) _ _) _)⟩
      rw [mx_if]
      exact (BlkIs.alloc (OutIs.put (b' := wantsP b ⟨1, n⟩) HO.out HJ.out 3 (by decide) (.int .i64 (max b.f3 n)) (by simp [wantsP, bandC])) _).drew
  · have e1 : (k == 1) = false := by simpa using h1
    have e2 : (k == 2) = false := by simpa using h2
    have hw : wantsP b ⟨k, n⟩ = b := by simp [wantsP, h1, h2]
    have HW := Lib.hid hw
    clear hw h1 h2
    go_enter Try.func40, Try.ntmps40
    go_wp2
    refine bodyPost_end (results_none rfl _ _ _) rfl ?_
    refine ⟨rfl, ?_, grown_alloc (World.grownBy.refl w _) _⟩
    rw [HW.out, set_self HJ.out]
    exact BlkIs.alloc HO.out _

/-- what a band wants, settled -/
def settlesP (b : S62) : S62 :=
  if b.f2 ≥ 0 then { b with f3 := -1, f1 := max b.f1 b.f0 } else if b.f3 < 0 then { b with f1 := max b.f1 b.f0 } else { b with f1 := max b.f3 b.f0 }

set_option maxHeartbeats 4000000 in
theorem settles_any (O j : Nat) (bs : List S62) (b : S62) (w : World) (hO : OutIs w O bs) (hj : bs[j]? = some b) :
    Calls Try.prog 42 #[.pointer (some ⟨O, j * 4, none⟩)] w fun e w' => e = .returned (.tuple #[]) ∧ OutIs w' O (bs.set j (settlesP b)) ∧ w.grownBy w' (some O) := by
  have hlt := BlkIs.lt hO
  have c0 : w.cell? ⟨O, j * 4, none⟩ = some (.int .i64 b.f0) := hO.at_ hj 0 (by decide)
  have c1 : w.cell? ⟨O, j * 4 + 1, none⟩ = some (.int .i64 b.f1) := hO.at_ hj 1 (by decide)
  have c2 : w.cell? ⟨O, j * 4 + 2, none⟩ = some (.int .i64 b.f2) := hO.at_ hj 2 (by decide)
  have c3 : w.cell? ⟨O, j * 4 + 3, none⟩ = some (.int .i64 b.f3) := hO.at_ hj 3 (by decide)
  have f1 := BlkIs.frozen hO (j * 4 + 1)
  have f3 := BlkIs.frozen hO (j * 4 + 3)
  have HO := Lib.hid hO
  have HJ := Lib.hid hj
  clear hO hj
  by_cases h2 : b.f2 ≥ 0
  · have hs : settlesP b = { b with f3 := -1, f1 := max b.f1 b.f0 } := by unfold settlesP; rw [if_pos h2]
    have HS := Lib.hid hs
    clear hs
    have h2' : 0 ≤ b.f2 := h2
    go_enter Try.func42, Try.ntmps42
    go_wp2
    go_region
    all_goals
      (try simp only [Exit.inBlock, Exit.then])
      (try go_wp2)
    all_goals
      refine bodyPost_end (results_none rfl _ _ _) rfl ?_
      refine ⟨rfl, ?_, grown_drew (grown_set (grown_set (World.grownBy.refl w _) _ _) _ _)⟩
      rw [HS.out]
      have key : ∀ X, X = max b.f1 b.f0 → OutIs ((w.setCell ⟨O, j * 4 + 3, none⟩ (.int .i64 (-1))).setCell ⟨O, j * 4 + 1, none⟩ (.int .i64 X)).drew O (bs.set j { b with f3 := -1, f1 := max b.f1 b.f0 }) := by
        rintro X rfl
        have h1 := OutIs.put (b' := { b with f3 := -1 }) HO.out HJ.out 3 (by decide) (.int .i64 (-1)) rfl
        have h2 := OutIs.put (b' := { b with f3 := -1, f1 := max b.f1 b.f0 }) h1 (List.getElem?_set_self (List.getElem?_eq_some_iff.1 HJ.out).1) 1 (by decide) (.int .i64 (max b.f1 b.f0)) rfl
        rw [List.set_set] at h2
        exact BlkIs.drew h2
      first | exact key _ (mx_if _ _) | exact key _ (by omega)
  have h2' : ¬ 0 ≤ b.f2 := h2
  by_cases h3 : b.f3 < 0
  · have hs : settlesP b = { b with f1 := max b.f1 b.f0 } := by unfold settlesP; rw [if_neg h2, if_pos h3]
    have HS := Lib.hid hs
    clear hs
    go_enter Try.func42, Try.ntmps42
    go_wp2
    go_region
    all_goals
      (try simp only [Exit.inBlock, Exit.then])
      (try go_wp2)
    all_goals
      refine bodyPost_end (results_none rfl _ _ _) rfl ?_
      refine ⟨rfl, ?_, grown_drew (grown_set (World.grownBy.refl w _) _ _)⟩
      rw [HS.out]
      have key : ∀ X, X = max b.f1 b.f0 → OutIs (w.setCell ⟨O, j * 4 + 1, none⟩ (.int .i64 X)).drew O (bs.set j { b with f1 := max b.f1 b.f0 }) := by
        rintro X rfl
        exact BlkIs.drew (OutIs.put (b' := { b with f1 := max b.f1 b.f0 }) HO.out HJ.out 1 (by decide) (.int .i64 (max b.f1 b.f0)) rfl)
      first | exact key _ (mx_if _ _) | exact key _ (by omega)
  · have hs : settlesP b = { b with f1 := max b.f3 b.f0 } := by unfold settlesP; rw [if_neg h2, if_neg h3]
    have HS := Lib.hid hs
    clear hs
    go_enter Try.func42, Try.ntmps42
    go_wp2
    go_region
    all_goals
      (try simp only [Exit.inBlock, Exit.then])
      (try go_wp2)
    all_goals
      refine bodyPost_end (results_none rfl _ _ _) rfl ?_
      refine ⟨rfl, ?_, grown_drew (grown_set (World.grownBy.refl w _) _ _)⟩
      rw [HS.out]
      have key : ∀ X, X = max b.f3 b.f0 → OutIs (w.setCell ⟨O, j * 4 + 1, none⟩ (.int .i64 X)).drew O (bs.set j { b with f1 := max b.f3 b.f0 }) := by
        rintro X rfl
        exact BlkIs.drew (OutIs.put (b' := { b with f1 := max b.f3 b.f0 }) HO.out HJ.out 1 (by decide) (.int .i64 (max b.f3 b.f0)) rfl)
      first | exact key _ (mx_if _ _) | exact key _ (by omega)
end Go.Proofs.Ytfoocmmjefdojaa.K
