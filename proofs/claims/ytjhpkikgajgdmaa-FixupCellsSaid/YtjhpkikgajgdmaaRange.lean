/- A law of my own for 'for x := range seq { .. }' at the wide fence: the iterator's contract over a known list, the caller's invariant, the rounds. No program in sight. -/
import Derived.RangeFuncNested
import Derived.RangeFuncBound
import Derived.RangeFuncCalls
import Derived.RangeFuncLeaves
import Derived.Shelf.Abstract
import Derived.WalkKit
import Derived.OwnWalkIn
import Derived.TacticsInMore
import Derived.LoopNIn
import Derived.LoopIn
import Derived.ScopeJumps
import Derived.Test.YtjhpkikgajgdmaaDefs
namespace Go.Proofs.Ytjhpkikgajgdmaa
open Go.RowKit
set_option linter.unusedVariables false
set_option linter.unusedSimpArgs false

@[go_sem] theorem wide_depth : Fence.wide.depth = none := rfl
@[go_sem] theorem wide_fn (f : FuncId) : Fence.wide.fn f = True := rfl
@[go_sem] theorem wide_round : Fence.wide.round = none := rfl
@[go_sem] theorem wideIn_depth (l : Nat) : (Fence.wide.inRound l).depth = none := rfl
@[go_sem] theorem wideIn_fn (l : Nat) (f : FuncId) : (Fence.wide.inRound l).fn f = True := rfl
@[go_sem] theorem wideIn_round (l : Nat) : (Fence.wide.inRound l).round = some l := rfl

/-- the objects of a loop's book-keeping -/
def isBook : Obj → Bool
  | .loop _ => true
  | .deferred _ => true
  | _ => false

theorem book_not_cells {o : Obj} (h : isBook o = true) : o.isCells = false := by cases o <;> simp_all [isBook, Obj.isCells]

/-- every object of book-keeping lies as it lay -/
structure KeepBook (W W' : World) : Prop where
  size : W.heap.size ≤ W'.heap.size
  same : ∀ (k : Nat) (o : Obj), W.heap[k]? = some o → isBook o = true → W'.heap[k]? = some o

/-- the same without the size -/
def BookTo (W W' : World) : Prop := ∀ (k : Nat) (o : Obj), W.heap[k]? = some o → isBook o = true → W'.heap[k]? = some o
theorem KeepBook.to {W W' : World} (h : KeepBook W W') : BookTo W W' := h.same
theorem BookTo.trans {A B C : World} (h : BookTo A B) (k : BookTo B C) : BookTo A C := fun i o hi ho => k i o (h i o hi ho) ho

theorem KeepBook.refl (W : World) : KeepBook W W := ⟨Nat.le_refl _, fun _ _ h _ => h⟩
theorem KeepBook.trans {A B C : World} (h : KeepBook A B) (k : KeepBook B C) : KeepBook A C :=
  ⟨Nat.le_trans h.size k.size, fun i o hi ho => k.same i o (h.same i o hi ho) ho⟩
theorem KeepBook.of_others {A B : World} (h : KeepsOthers A B) : KeepBook A B := ⟨h.size, fun k o hk ho => h.same k o hk (book_not_cells ho)⟩
theorem KeepBook.of_below {A B : World} (h : Below A.heap.size A B) : KeepBook A B :=
  ⟨h.size, fun k o hk _ => (h.block k (Array.getElem?_eq_some_iff.1 hk).1).trans hk⟩
theorem KeepBook.below {A B C : World} (h : KeepBook A B) (k : Below B.heap.size B C) : KeepBook A C := h.trans (.of_below k)
theorem KeepBook.alloc {A B : World} (h : KeepBook A B) (o : Obj) : KeepBook A (B.alloc o) := h.trans (.of_others (KeepsOthers.alloc _ _))
theorem KeepBook.setCell {A B : World} (h : KeepBook A B) (a : Addr) (v : Value) : KeepBook A (B.setCell a v) := h.trans (.of_others (KeepsOthers.setCell _ _ _))
theorem KeepBook.drew {A B : World} (h : KeepBook A B) : KeepBook A B.drew := ⟨h.size, h.same⟩
theorem KeepBook.grown {A B C : World} {row : Option Nat} (h : KeepBook A B) (hg : B.grownBy C row) (hrow : ∀ (j : Nat) (o : Obj), row = some j → B.heap[j]? = some o → isBook o = false) : KeepBook A C :=
  ⟨Nat.le_trans h.size hg.size, fun k o hk ho => by
    have hB := h.same k o hk ho
    refine (hg.block k (Array.getElem?_eq_some_iff.1 hB).1 ?_).trans hB
    intro e
    rw [hrow k o e.symm hB] at ho; cases ho⟩

/-- what abides new blocks, and a turn of book-keeping from block B on -/
def Stab {β : Type} (B : Nat) (I : β → World → Prop) : Prop :=
  ∀ s W W' row, I s W → W.grownBy W' row → (∀ r, row = some r → B ≤ r ∧ ∃ o : Obj, W.heap[r]? = some o ∧ isBook o = true) → I s W'

theorem Stab.and {β : Type} {B : Nat} {I I' : β → World → Prop} (h : Stab B I) (h' : Stab B I') : Stab B (fun s W => I s W ∧ I' s W) :=
  fun s W W' row hs hg hr => ⟨h s W W' row hs.1 hg hr, h' s W W' row hs.2 hg hr⟩
theorem Stab.const {β : Type} {B : Nat} (I : World → Prop) (h : Stab B (fun (_ : Unit) => I)) : Stab B (fun (_ : β) => I) := fun _ W W' row hs hg hr => h () W W' row hs hg hr
theorem Stab.pure {β : Type} (B : Nat) (p : β → Prop) : Stab B (fun s (_ : World) => p s) := fun _ _ _ _ hs _ _ => hs
theorem Stab.own {β : Type} {B : Nat} {I : β → World → Prop} (h : Own I) : Stab B I := fun s W W' row hs hg hr =>
  h s W W' row hs hg (fun r e => let ⟨_, o, ho, hb⟩ := hr r e; ⟨o, ho, book_not_cells hb⟩)
theorem Stab.below {β : Type} {n₀ B : Nat} {w₀ : World} (hn : n₀ ≤ w₀.heap.size) (hB : n₀ ≤ B) : Stab B (fun (_ : β) W => Below n₀ w₀ W) :=
  fun _ W W' _ hs hg hr => hs.grown hg (Nat.le_trans hn hs.size) (fun k e => Nat.le_trans hB (hr k e).1)
theorem Stab.cell {β : Type} {B : Nat} (a : Addr) (f : β → Value) : Stab B (fun s W => W.cell? a = some (f s)) :=
  .own fun _ _ _ _ hs hg hr => cell_kept hs hg hr

/-- an iterator's contract over a known list: for whatever rounds; Rd: what it reads -/
def IterC {α : Type} (P : Program) (gf : Nat) (lb : Array Value) (encs : α → Array Value) (xs : List α) (Rd : World → Prop) : Prop :=
  ∀ (l : Nat) (J Jx : List α → World → Prop) (W : World),
    (∀ s A B, J s A → A.grownBy B none → J s B) → (∀ s A B, Jx s A → A.grownBy B none → Jx s B) → (∀ s A, J s A → Rd A) →
    (∀ pre x rest A, xs = pre ++ x :: rest → J pre A → YieldAt Fence.wide 0 P l (encs x) A fun e B =>
      (e = .returned (.bool true) ∧ J (pre ++ [x]) B) ∨ (e = .returned (.bool false) ∧ Jx (pre ++ [x]) B)) →
    J [] W →
    Calls P gf (#[.func (.yield l) #[] #[]] ++ lb) W fun e B => (∃ v, e = .returned v) ∧ (J xs B ∨ ∃ pre x rest, xs = pre ++ x :: rest ∧ Jx (pre ++ [x]) B)

/-- how a round's body may end -/
def roundEnd {α : Type} (I : List α → World → Prop) (Ix : Code → World → Prop) (xs : List α) (W : World) : Exit → Act → World → Prop
  | .normal, _, W' => KeepBook W W' ∧ I xs W'
  | .ret, _, W' => KeepBook W W' ∧ Ix .ret W'
  | .exit id, _, W' => KeepBook W W' ∧ Ix (.exit id) W'
  | .goto t, _, W' => KeepBook W W' ∧ Ix (.goto t) W'
  | .panic _, _, _ => False
  | .outgrown, _, _ => False

/-- W2 is W1 but for the loop's record -/
structure SameBut (B : Nat) (W1 W2 : World) : Prop where
  cell : ∀ a, W2.cell? a = W1.cell? a
  frozen : ∀ a, W2.frozen? a = W1.frozen? a
  size : W2.heap.size = W1.heap.size
  stab : ∀ K : World → Prop, Stab B (fun (_ : Unit) => K) → K W1 → K W2

theorem sameBut_putObj {B l : Nat} {W : World} {o : Obj} (o' : Obj) (hB : B ≤ l) (hl : W.heap[l]? = some o) (ho : isBook o = true) (ho' : isBook o' = true) : SameBut B W (W.putObj l o') := by
  have hlt := (Array.getElem?_eq_some_iff.1 hl).1
  refine ⟨fun a => ?_, fun a => ?_, by simp, fun K hK h => hK () W _ (some l) h (grownBy_putObj' W l o') (fun r e => by cases e; exact ⟨hB, o, hl, ho⟩)⟩
  · by_cases e : a.block = l
    · unfold World.cell?
      rw [e, World.putObj_heap_same hlt, hl]
      cases o <;> cases o' <;> simp_all [isBook]
    · unfold World.cell?; rw [World.putObj_heap_other e]
  · by_cases e : a.block = l
    · unfold World.frozen?
      rw [e, World.putObj_heap_same hlt, hl]
      cases o <;> cases o' <;> simp_all [isBook]
    · unfold World.frozen?; rw [World.putObj_heap_other e]

section
variable {P : Program} {α : Type}

/-- the rounds of a loop whose record lies at l -/
theorem range_core {gf : Nat} {lb : Array Value} {encs : α → Array Value} {xs : List α} {Rd : World → Prop} (hit : IterC P gf lb encs xs Rd)
    {fn : FuncId} {tmps : Array Value} {ps : Array Tmp} {assign body : Code} {dd B l : Nat} {W1 : World} (hB : B ≤ l)
    (hL : W1.heap[l]? = some (.loop { state := .ready, pending := none, fn, tmps, params := ps, assign, body, defers := dd }))
    (hps : ∀ x, (encs x).size = ps.size)
    (I : List α → World → Prop) (Ix : Code → World → Prop) (hI : Stab B I) (hIx : Stab B Ix) (hRd : ∀ pre A, I pre A → Rd A) (h0 : I [] W1)
    (hround : ∀ pre x rest W, xs = pre ++ x :: rest → (∃ r, W.heap[l]? = some (.loop r)) → I pre W →
      assign.wpIn (Fence.wide.inRound l) 0 P (Exit.then (fun a1 Wa => KeepBook W Wa ∧ ∀ W2, SameBut B Wa W2 → (∃ r, W2.heap[l]? = some (.loop r)) → body.wpIn (Fence.wide.inRound l) 0 P (roundEnd I Ix (pre ++ [x]) W2) a1 W2) (fun _ _ _ => False))
        { tmps := (ps.zip (encs x)).foldl (fun t (p, v) => t.setIfInBounds p v) tmps, defers := [] } W) :
    Calls P gf (#[.func (.yield l) #[] #[]] ++ lb) W1 fun e W2 => (∃ v, e = .returned v) ∧
      ((I xs W2 ∧ KeepBook W1 W2 ∧ W2.heap[l]? = some (.loop { state := .ready, pending := none, fn, tmps, params := ps, assign, body, defers := dd })) ∨
       (∃ c, Ix c W2 ∧ (∀ k o, k ≠ l → W1.heap[k]? = some o → isBook o = true → W2.heap[k]? = some o) ∧ W2.heap[l]? = some (.loop { state := .done, pending := some c, fn, tmps, params := ps, assign, body, defers := dd }))) := by
  obtain ⟨rec, hrec⟩ : ∃ rec : LoopState → Option Code → Loop, rec = fun st pe => { state := st, pending := pe, fn, tmps, params := ps, assign, body, defers := dd } := ⟨_, rfl⟩
  have hL' : W1.heap[l]? = some (.loop (rec .ready none)) := by rw [hrec]; exact hL
  refine (hit l (fun pre W => I pre W ∧ KeepBook W1 W ∧ W.heap[l]? = some (.loop (rec .ready none)))
    (fun _ W => ∃ c, Ix c W ∧ (∀ k o, k ≠ l → W1.heap[k]? = some o → isBook o = true → W.heap[k]? = some o) ∧ W.heap[l]? = some (.loop (rec .done (some c)))) W1 ?_ ?_ (fun s A h => hRd s A h.1) ?_ ⟨h0, KeepBook.refl _, hL'⟩).mono ?_
  · rintro s A B' ⟨h1, h2, h3⟩ hg
    exact ⟨hI s A B' none h1 hg (fun r e => by cases e), h2.grown hg (fun j o e => by cases e), (hg.block l (Array.getElem?_eq_some_iff.1 h3).1 (by simp)).trans h3⟩
  · rintro s A B' ⟨c, h1, h2, h3⟩ hg
    exact ⟨c, hIx c A B' none h1 hg (fun r e => by cases e), fun k o hk hw ho => (hg.block k (Array.getElem?_eq_some_iff.1 (h2 k o hk hw ho)).1 (by simp)).trans (h2 k o hk hw ho), (hg.block l (Array.getElem?_eq_some_iff.1 h3).1 (by simp)).trans h3⟩
  · rintro pre x rest W hx ⟨hi, hk, hl⟩
    have hy := run_yield (P := P) (args := encs x) hl (by rw [hrec]; exact hps x)
    rw [hrec] at hy
    refine ⟨fn, _, assign, body, hy, roundIn_of_wpIn trivial (wpIn_mono (hround pre x rest W hx ⟨_, hl⟩ hi) ?_)⟩
    clear hy
    rintro e a1 Wa hq
    cases e with
    | normal =>
      obtain ⟨hka, hbody⟩ := hq
      have hla := hka.same l _ hl rfl
      refine ⟨_, run_beginRound hla (by rw [hrec]), ?_⟩
      have hlt := (Array.getElem?_eq_some_iff.1 hla).1
      have hl2 : (Wa.putObj l (.loop { rec .ready none with state := .busy })).heap[l]? = some (.loop { rec .ready none with state := .busy }) := World.putObj_heap_same hlt
      refine wpIn_mono (hbody _ (sameBut_putObj _ hB hla rfl rfl) ⟨_, hl2⟩) ?_
      have fin : ∀ (jump : Option Code) (W3 : World), KeepBook (Wa.putObj l (.loop { rec .ready none with state := .busy })) W3 →
          (Instr.endRound l jump).run P W3 = .ok (.bool jump.isNone) (W3.putObj l (.loop (rec (if jump.isNone then .ready else .done) jump))) ∧
          W3.heap[l]? = some (.loop { rec .ready none with state := .busy }) ∧
          (W3.putObj l (.loop (rec (if jump.isNone then .ready else .done) jump))).heap[l]? = some (.loop (rec (if jump.isNone then .ready else .done) jump)) ∧
          (∀ k o, k ≠ l → W1.heap[k]? = some o → isBook o = true → (W3.putObj l (.loop (rec (if jump.isNone then .ready else .done) jump))).heap[k]? = some o) := fun jump W3 hk3 => by
        have hl3 := hk3.same _ _ hl2 rfl
        have := run_endRound (P := P) jump hl3
        rw [hrec] at this ⊢
        refine ⟨this, by rw [hrec] at hl3; exact hl3, World.putObj_heap_same (Array.getElem?_eq_some_iff.1 hl3).1, fun k o hne hko ho => ?_⟩
        have h1 := hka.same k o (hk.same k o hko ho) ho
        have h2 : (Wa.putObj l (.loop { rec .ready none with state := .busy })).heap[k]? = some o := (World.putObj_heap_other hne).trans h1
        exact (World.putObj_heap_other hne).trans (hk3.same k o h2 ho)
      rintro e a3 W3 hp
      cases e with
      | normal =>
        obtain ⟨hk3, hi3⟩ := hp
        obtain ⟨hr, hl3, hl4, hb4⟩ := fin none W3 hk3
        refine ⟨_, _, hr, .inl ⟨rfl, hI _ _ _ (some l) hi3 (grownBy_putObj' _ _ _) (fun r e => by cases e; exact ⟨hB, _, hl3, rfl⟩), ⟨?_, fun k o hko ho => ?_⟩, hl4⟩⟩
        · have h1 := hk.size; have h2 := hka.size; have h3 := hk3.size
          simp at h3 ⊢; omega
        · by_cases e : k = l
          · subst e; rw [hL'] at hko; cases hko; exact hl4
          · exact hb4 k o e hko ho
      | ret =>
        obtain ⟨hk3, hi3⟩ := hp
        obtain ⟨hr, hl3, hl4, hb4⟩ := fin (some .ret) W3 hk3
        exact ⟨_, _, hr, .inr ⟨rfl, .ret, hIx _ _ _ (some l) hi3 (grownBy_putObj' _ _ _) (fun r e => by cases e; exact ⟨hB, _, hl3, rfl⟩), hb4, hl4⟩⟩
      | exit id =>
        obtain ⟨hk3, hi3⟩ := hp
        obtain ⟨hr, hl3, hl4, hb4⟩ := fin (some (.exit id)) W3 hk3
        exact ⟨_, _, hr, .inr ⟨rfl, .exit id, hIx _ _ _ (some l) hi3 (grownBy_putObj' _ _ _) (fun r e => by cases e; exact ⟨hB, _, hl3, rfl⟩), hb4, hl4⟩⟩
      | goto t =>
        obtain ⟨hk3, hi3⟩ := hp
        obtain ⟨hr, hl3, hl4, hb4⟩ := fin (some (.goto t)) W3 hk3
        exact ⟨_, _, hr, .inr ⟨rfl, .goto t, hIx _ _ _ (some l) hi3 (grownBy_putObj' _ _ _) (fun r e => by cases e; exact ⟨hB, _, hl3, rfl⟩), hb4, hl4⟩⟩
      | panic ch => exact hp.elim
      | outgrown => exact hp.elim
    | exit id => exact hq.elim
    | goto t => exact hq.elim
    | ret => exact hq.elim
    | panic ch => exact hq.elim
    | outgrown => exact hq.elim
  · rintro e W2 ⟨hv, ⟨h1, h2, h3⟩ | ⟨pre, x, rest, hx, c, h1, h2, h3⟩⟩
    · rw [hrec] at h3; exact ⟨hv, .inl ⟨h1, h2, h3⟩⟩
    · rw [hrec] at h3; exact ⟨hv, .inr ⟨c, h1, h2, h3⟩⟩

/-- the mark of a loop that stands in no round -/
def markOf (D : Nat) : Deferred := { target := .collected D, args := #[] }

/-- 'for x := range seq { .. }' that stands in no round -/
theorem wp_range {gf : Nat} {lb : Array Value} {encs : α → Array Value} {xs : List α} {Rd : World → Prop} (hit : IterC P gf lb encs xs Rd)
    (eg : ∀ args w, (callFunc gf args).run P w = .ok (.enter gf args) w)
    {g : Operand} {ps : Array Tmp} {assign body : Code} {Q : Exit → Act → World → Prop} {a : Act} {w : World} (hg : a.eval g = .func (.func gf) #[] lb)
    (hps : ∀ x, (encs x).size = ps.size)
    (I : List α → World → Prop) (Ix : Code → World → Prop) (hI : Stab w.heap.size I) (hIx : Stab w.heap.size Ix) (hRd : ∀ pre A, I pre A → Rd A) (h0 : I [] w)
    (hround : ∀ l pre x rest W, xs = pre ++ x :: rest → w.heap.size < l → I pre W →
      assign.wpIn (Fence.wide.inRound l) 0 P (Exit.then (fun a1 Wa => KeepBook W Wa ∧ ∀ W2, SameBut w.heap.size Wa W2 → (∃ r, W2.heap[l]? = some (.loop r)) → body.wpIn (Fence.wide.inRound l) 0 P (roundEnd I Ix (pre ++ [x]) W2) a1 W2) (fun _ _ _ => False))
        { tmps := (ps.zip (encs x)).foldl (fun t (p, v) => t.setIfInBounds p v) a.tmps, defers := [] } W)
    (hdone : ∀ (D : Nat) (W : World), w.heap.size ≤ D → I xs W → BookTo w W → W.heap[D]? = some (.deferred (some [])) → Q .normal { a with defers := markOf D :: a.defers } W)
    (hstop : ∀ (D : Nat) (c : Code) (W : World), w.heap.size ≤ D → Ix c W → BookTo w W → W.heap[D]? = some (.deferred (some [])) → c.wpIn Fence.wide 0 P Q { a with defers := markOf D :: a.defers } W) :
    (Code.rangeFunc g ps assign body).wpIn Fence.wide 0 P Q a w := by
  refine wpIn_rangeFunc ?_
  intro fn hfn
  obtain ⟨W1, hW1⟩ : ∃ W1, (w.alloc (.deferred (some []))).alloc (.loop { state := .ready, pending := none, fn, tmps := a.tmps, params := ps, assign, body, defers := w.heap.size }) = W1 := ⟨_, rfl⟩
  have hL1 : W1.heap[w.heap.size + 1]? = some (.loop { state := .ready, pending := none, fn, tmps := a.tmps, params := ps, assign, body, defers := w.heap.size }) := by
    rw [← hW1]; have := World.alloc_heap_new (w.alloc (.deferred (some []))) (.loop { state := .ready, pending := none, fn, tmps := a.tmps, params := ps, assign, body, defers := w.heap.size }); rwa [World.size_alloc] at this
  have hK1 : W1.heap[w.heap.size]? = some (.deferred (some [])) := by
    rw [← hW1]; exact (Below.heap_alloc _ _ _ (by simp)).trans (World.alloc_heap_new w _)
  have hI1 : I [] W1 := by
    rw [← hW1]
    exact hI _ _ _ none (hI _ _ _ none h0 (World.grownBy_alloc _ _ none) (fun r e => by cases e)) (World.grownBy_alloc _ _ none) (fun r e => by cases e)
  have hb1 : ∀ k o, w.heap[k]? = some o → isBook o = true → W1.heap[k]? = some o := fun k o hk _ => by
    have hlt := (Array.getElem?_eq_some_iff.1 hk).1
    rw [← hW1]; exact (Below.heap_alloc _ _ _ (by simp; omega)).trans ((Below.heap_alloc _ _ _ hlt).trans hk)
  refine ⟨w.heap.size + 1, [markOf w.heap.size], W1, { target := .fn (.func gf) lb, args := #[.func (.yield (w.heap.size + 1)) #[] #[]] }, W1, gf,
    #[.func (.yield (w.heap.size + 1)) #[] #[]] ++ lb, W1, ?_, ?_, ?_, ?_, fun h => by simp [Fence.wide] at h, ?_⟩
  · rw [← hW1]; exact run_enterLoop_outer _ _ _ _ _
  · simp only [resolve, hg]
    simp [go_sem]
  · intro f' hf'; trivial
  · simp [invoke, go_sem, eg]
  · refine callsIn_wide.2 ((range_core hit (B := w.heap.size) (by omega) hL1 hps I Ix hI hIx hRd hI1 (fun pre x rest W hx hl hi => hround (w.heap.size + 1) pre x rest W hx (by omega) hi)).mono ?_)
    rintro e W2 ⟨⟨v, rfl⟩, ⟨hi, hk, hl⟩ | ⟨c, hi, hk, hl⟩⟩
    · refine ⟨none, _, run_endLoop (P := P) hl (by simp), hdone w.heap.size _ (Nat.le_refl _) (hI _ _ _ (some (w.heap.size + 1)) hi (grownBy_putObj' _ _ _) (fun r e => by cases e; exact ⟨by omega, _, hl, rfl⟩)) (fun k o hko ho => ?_) ((World.putObj_heap_other (by omega)).trans (hk.same _ _ hK1 rfl))⟩
      have hlt := (Array.getElem?_eq_some_iff.1 hko).1
      exact (World.putObj_heap_other (by omega)).trans (hk.same k o (hb1 k o hko ho) ho)
    · refine ⟨some c, _, run_endLoop (P := P) hl (by simp), hstop w.heap.size c _ (Nat.le_refl _) (hIx _ _ _ (some (w.heap.size + 1)) hi (grownBy_putObj' _ _ _) (fun r e => by cases e; exact ⟨by omega, _, hl, rfl⟩)) (fun k o hko ho => ?_) ((World.putObj_heap_other (by omega)).trans (hk _ _ (by omega) hK1 rfl))⟩
      have hlt := (Array.getElem?_eq_some_iff.1 hko).1
      exact (World.putObj_heap_other (by omega)).trans (hk k o (by omega) (hb1 k o hko ho) ho)

/-- 'for x := range seq { .. }' in a round of loop l₀ -/
theorem wp_range_in {gf : Nat} {lb : Array Value} {encs : α → Array Value} {xs : List α} {Rd : World → Prop} (hit : IterC P gf lb encs xs Rd)
    (eg : ∀ args w, (callFunc gf args).run P w = .ok (.enter gf args) w)
    {l₀ : Nat} {g : Operand} {ps : Array Tmp} {assign body : Code} {Q : Exit → Act → World → Prop} {a : Act} {w : World} (hl₀ : ∃ r, w.heap[l₀]? = some (.loop r)) (hg : a.eval g = .func (.func gf) #[] lb)
    (hps : ∀ x, (encs x).size = ps.size)
    (I : List α → World → Prop) (Ix : Code → World → Prop) (hI : Stab w.heap.size I) (hIx : Stab w.heap.size Ix) (hRd : ∀ pre A, I pre A → Rd A) (h0 : I [] w)
    (hround : ∀ l pre x rest W, xs = pre ++ x :: rest → w.heap.size ≤ l → I pre W →
      assign.wpIn (Fence.wide.inRound l) 0 P (Exit.then (fun a1 Wa => KeepBook W Wa ∧ ∀ W2, SameBut w.heap.size Wa W2 → (∃ r, W2.heap[l]? = some (.loop r)) → body.wpIn (Fence.wide.inRound l) 0 P (roundEnd I Ix (pre ++ [x]) W2) a1 W2) (fun _ _ _ => False))
        { tmps := (ps.zip (encs x)).foldl (fun t (p, v) => t.setIfInBounds p v) a.tmps, defers := [] } W)
    (hdone : ∀ (W : World), I xs W → BookTo w W → Q .normal a W)
    (hstop : ∀ (c : Code) (W : World), Ix c W → BookTo w W → c.wpIn (Fence.wide.inRound l₀) 0 P Q a W) :
    (Code.rangeFunc g ps assign body).wpIn (Fence.wide.inRound l₀) 0 P Q a w := by
  obtain ⟨r₀, hl₀⟩ := hl₀
  refine wpIn_rangeFunc ?_
  intro fn hfn
  obtain ⟨W1, hW1⟩ : ∃ W1, w.alloc (.loop { state := .ready, pending := none, fn, tmps := a.tmps, params := ps, assign, body, defers := r₀.defers }) = W1 := ⟨_, rfl⟩
  have hL1 : W1.heap[w.heap.size]? = some (.loop { state := .ready, pending := none, fn, tmps := a.tmps, params := ps, assign, body, defers := r₀.defers }) := by
    rw [← hW1]; exact World.alloc_heap_new _ _
  have hI1 : I [] W1 := by
    rw [← hW1]
    exact hI _ _ _ none h0 (World.grownBy_alloc _ _ none) (fun r e => by cases e)
  have hb1 : ∀ k o, w.heap[k]? = some o → isBook o = true → W1.heap[k]? = some o := fun k o hk _ => by
    have hlt := (Array.getElem?_eq_some_iff.1 hk).1
    rw [← hW1]; exact (Below.heap_alloc _ _ _ hlt).trans hk
  refine ⟨w.heap.size, [], W1, { target := .fn (.func gf) lb, args := #[.func (.yield w.heap.size) #[] #[]] }, W1, gf,
    #[.func (.yield w.heap.size) #[] #[]] ++ lb, W1, ?_, ?_, ?_, ?_, fun h => by simp [Fence.wide] at h, ?_⟩
  · rw [← hW1]; exact run_enterLoop_inner hl₀ _ _ _ _ _
  · simp only [resolve, hg]
    simp [go_sem]
  · intro f' hf'; trivial
  · simp [invoke, go_sem, eg]
  · refine CallsIn.inRound l₀ (callsIn_wide.2 ((range_core hit (B := w.heap.size) (Nat.le_refl _) hL1 hps I Ix hI hIx hRd hI1 (fun pre x rest W hx hl hi => hround w.heap.size pre x rest W hx (Nat.le_refl _) hi)).mono ?_))
    rintro e W2 ⟨⟨v, rfl⟩, ⟨hi, hk, hl⟩ | ⟨c, hi, hk, hl⟩⟩
    · refine ⟨none, _, run_endLoop (P := P) hl (by simp), hdone _ (hI _ _ _ (some w.heap.size) hi (grownBy_putObj' _ _ _) (fun r e => by cases e; exact ⟨Nat.le_refl _, _, hl, rfl⟩)) (fun k o hko ho => ?_)⟩
      have hlt := (Array.getElem?_eq_some_iff.1 hko).1
      exact (World.putObj_heap_other (by omega)).trans (hk.same k o (hb1 k o hko ho) ho)
    · refine ⟨some c, _, run_endLoop (P := P) hl (by simp), hstop c _ (hIx _ _ _ (some w.heap.size) hi (grownBy_putObj' _ _ _) (fun r e => by cases e; exact ⟨Nat.le_refl _, _, hl, rfl⟩)) (fun k o hko ho => ?_)⟩
      have hlt := (Array.getElem?_eq_some_iff.1 hko).1
      exact (World.putObj_heap_other (by omega)).trans (hk k o (by omega) (hb1 k o hko ho) ho)
end

/-- the marks of loops that are over, each at a block of its own from B on -/
def Marks (B : Nat) (ds : List Deferred) (W : World) : Prop :=
  ∃ Ds : List Nat, ds = Ds.map markOf ∧ Ds.Nodup ∧ ∀ D ∈ Ds, B ≤ D ∧ W.heap[D]? = some (.deferred (some []))

theorem Marks.nil (B : Nat) (W : World) : Marks B [] W := ⟨[], rfl, List.nodup_nil, fun _ h => by cases h⟩
theorem Marks.keep {B : Nat} {ds : List Deferred} {W W' : World} (h : Marks B ds W) (hk : BookTo W W') : Marks B ds W' := by
  obtain ⟨Ds, h1, h2, h3⟩ := h
  exact ⟨Ds, h1, h2, fun D hD => ⟨(h3 D hD).1, hk _ _ (h3 D hD).2 rfl⟩⟩
/-- one loop more -/
theorem Marks.cons {B D : Nat} {ds : List Deferred} {w W : World} (h : Marks B ds w) (hB : B ≤ w.heap.size) (hD : w.heap.size ≤ D) (hk : BookTo w W)
    (hd : W.heap[D]? = some (.deferred (some []))) : Marks B (markOf D :: ds) W := by
  obtain ⟨Ds, h1, h2, h3⟩ := h
  refine ⟨D :: Ds, by rw [h1]; rfl, List.nodup_cons.2 ⟨fun hm => ?_, h2⟩, fun E hE => ?_⟩
  · have := (Array.getElem?_eq_some_iff.1 (h3 D hm).2).1
    omega
  · rcases List.mem_cons.1 hE with rfl | hE
    · exact ⟨by omega, hd⟩
    · exact ⟨(h3 E hE).1, hk _ _ (h3 E hE).2 rfl⟩

/-- a function's return behind such loops -/
theorem leaves_marks {P : Program} {fn : Func} {tmps : Array Value} {R : Ending → World → Prop} {v : Value} {B : Nat} : ∀ {ds : List Deferred} {W : World}, Marks B ds W →
    (∀ W', SameBut B W W' → (results fn tmps).run P W' = .ok v W' ∧ R (.returned v) W') → LeavesInM Fence.wide 0 P fn tmps R ds .returning W := by
  rintro ds W ⟨Ds, rfl, hnd, hall⟩
  induction Ds generalizing W with
  | nil =>
    intro h
    obtain ⟨h1, h2⟩ := h W ⟨fun _ => rfl, fun _ => rfl, rfl, fun _ _ h => h⟩
    exact ⟨v, h1, h2⟩
  | cons D Ds ih =>
    intro h
    obtain ⟨hDB, hD⟩ := hall D (by simp)
    have hsb := sameBut_putObj (B := B) (.deferred none) hDB hD rfl rfl
    refine ⟨by simp, .inl ⟨D, _, rfl, run_takeDeferred hD, ih (List.nodup_cons.1 hnd).2 (fun E hE => ?_) (fun W' hs => h W' ?_)⟩⟩
    · obtain ⟨e1, e2⟩ := hall E (by simp [hE])
      refine ⟨e1, (World.putObj_heap_other ?_).trans e2⟩
      intro e; subst e; exact (List.nodup_cons.1 hnd).1 hE
    · exact ⟨fun a => (hs.cell a).trans (hsb.cell a), fun a => (hs.frozen a).trans (hsb.frozen a), hs.size.trans hsb.size, fun K hK hW => hs.stab K hK (hsb.stab K hK hW)⟩

/-- the law in the plain walk's words -/
theorem wp_range_plain {P : Program} {α : Type} {gf : Nat} {lb : Array Value} {encs : α → Array Value} {xs : List α} {Rd : World → Prop} (hit : IterC P gf lb encs xs Rd)
    (eg : ∀ args w, (callFunc gf args).run P w = .ok (.enter gf args) w)
    {g : Operand} {ps : Array Tmp} {assign body : Code} {Q : Exit → Act → World → Prop} {a : Act} {w : World} (hg : a.eval g = .func (.func gf) #[] lb)
    (hps : ∀ x, (encs x).size = ps.size)
    (I : List α → World → Prop) (Ix : Code → World → Prop) (hI : Stab w.heap.size I) (hIx : Stab w.heap.size Ix) (hRd : ∀ pre A, I pre A → Rd A) (h0 : I [] w)
    (hround : ∀ l pre x rest W, xs = pre ++ x :: rest → w.heap.size < l → I pre W →
      assign.wpIn (Fence.wide.inRound l) 0 P (Exit.then (fun a1 Wa => KeepBook W Wa ∧ ∀ W2, SameBut w.heap.size Wa W2 → (∃ r, W2.heap[l]? = some (.loop r)) → body.wpIn (Fence.wide.inRound l) 0 P (roundEnd I Ix (pre ++ [x]) W2) a1 W2) (fun _ _ _ => False))
        { tmps := (ps.zip (encs x)).foldl (fun t (p, v) => t.setIfInBounds p v) a.tmps, defers := [] } W)
    (hdone : ∀ (D : Nat) (W : World), w.heap.size ≤ D → I xs W → BookTo w W → W.heap[D]? = some (.deferred (some [])) → Q .normal { a with defers := markOf D :: a.defers } W)
    (hstop : ∀ (D : Nat) (c : Code) (W : World), w.heap.size ≤ D → Ix c W → BookTo w W → W.heap[D]? = some (.deferred (some [])) → c.wp P Q { a with defers := markOf D :: a.defers } W) :
    (Code.rangeFunc g ps assign body).wp P Q a w :=
  wpIn_wide.1 (wp_range hit eg hg hps I Ix hI hIx hRd h0 hround hdone (fun D c W h1 h2 h3 h4 => wpIn_wide.2 (hstop D c W h1 h2 h3 h4)))

theorem calls_of_wp_marks {P : Program} {f : FuncId} {fn : Func} {c : Code} {args : Array Value} {w : World} {R : Ending → World → Prop}
    (hf : P.funcs[f]? = some fn) (hb : fn.body = some c)
    (h : c.wp P (bodyPostM Fence.wide 0 P fn R) { tmps := args ++ Array.replicate (fn.ntmps - args.size) undef, defers := [] } w) : Calls P f args w R :=
  callsIn_wide.1 (callsIn_of_wp_marks (n := 0) hf hb trivial (wpIn_wide.2 h) rfl)

theorem bcell {W w1 : World} (hb : Below W.heap.size W w1) : (∀ b o, b < W.heap.size → w1.cell? ⟨b, o, none⟩ = W.cell? ⟨b, o, none⟩) ∧ (∀ b o, b < W.heap.size → w1.frozen? ⟨b, o, none⟩ = W.frozen? ⟨b, o, none⟩) :=
  ⟨fun b o h => hb.cell (p := ⟨b, o, none⟩) h, fun b o h => hb.frozen (p := ⟨b, o, none⟩) h⟩

theorem Stab.boxed {β : Type} {B : Nat} (b : Nat) (t : TypeId) (f : β → Value) : Stab B (fun s W => Boxed W b t (f s)) := .own (boxed_own b t f)
theorem Stab.range {β : Type} {B : Nat} (b o : Nat) (f : β → List Value) : Stab B (fun s W => W.rangeAt b o (f s)) := .own fun _ _ _ _ hs hg hr j v hv => cell_kept (hs j v hv) hg hr
theorem Stab.sty {β : Type} {B : Nat} (b o : Nat) (s : Sty) : Stab B (fun (_ : β) W => StyAt b o s W) := Stab.range b o (fun _ => s.cells.toList)
theorem Boxed.below {W W' : World} {b B : Nat} {t : TypeId} {v : Value} (h : Boxed W b t v) (hb : Below B W W') (hB : b < B) : Boxed W' b t v := (hb.block b hB).trans h

/-- a scope in which the run jumps back to one label: the pass is proved once -/
theorem wp_scope_jumps2 {P : Program} {a : Act} {w : World} {Q : Exit → Act → World → Prop} {c rest : Code} (l : Nat) (J : Act → World → Prop) (μ : Act → World → Nat) (hf : findLabel c l = some (Code.skip.seq rest))
    (pass : ∀ a w, J a w → rest.wp P (Exit.jump l (fun a' w' => J a' w' ∧ μ a' w' < μ a w) Q) a w)
    (first : (∀ a w, J a w → rest.wp P (Exit.jump l J Q) a w) → c.wp P (Exit.jump l J Q) a w) : (Code.scope c).wp P Q a w :=
  wp_scope_jumps l J μ hf (first fun a w h => Code.wp_mono (fun e a' w' hq => by
    cases e with
    | goto l' => exact ⟨hq.1, hq.2.1⟩
    | normal => exact hq
    | exit id => exact hq
    | ret => exact hq
    | panic ch => exact hq
    | outgrown => exact hq) (pass a w h)) (fun a w h => wp_seq (wp_skip (pass a w h)))

theorem Stab.blk {β : Type} {B : Nat} (b : Nat) (t : TypeId) (f : β → Array Value) : Stab B (fun s W => Blk W b t (f s)) := .own fun s X Y row hs hg hrow =>
  (hg.block b hs.lt (fun e => by obtain ⟨o, ho, hc⟩ := hrow b e.symm; rw [show X.heap[b]? = _ from hs] at ho; cases ho; cases hc)).trans hs
/-- what is stable lies in the round's world -/
theorem SameBut.blk {B : Nat} {A W : World} (hs : SameBut B A W) {b : Nat} {t : TypeId} {cs : Array Value} (h : Blk A b t cs) : Blk W b t cs := hs.stab _ (Stab.blk b t (fun _ => cs)) h
theorem SameBut.sty {B : Nat} {A W : World} (hs : SameBut B A W) {b o : Nat} {s : Sty} (h : StyAt b o s A) : StyAt b o s W := h.same hs.cell
theorem SameBut.range {B : Nat} {A W : World} (hs : SameBut B A W) {b o : Nat} {cs : List Value} (h : A.rangeAt b o cs) : W.rangeAt b o cs := rangeAt_same h hs.cell
theorem SameBut.below {B n₀ : Nat} {w A W : World} (hs : SameBut B A W) (h : Below n₀ w A) (hn : n₀ ≤ w.heap.size) (hB : n₀ ≤ B) : Below n₀ w W := hs.stab _ (Stab.below hn hB) h

end Go.Proofs.Ytjhpkikgajgdmaa
