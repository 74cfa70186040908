/- Layer 6: the iterator over a table's columns. -/
import Derived.Test.YtdmnaehgngpikaaRangeF
import Derived.Test.YtdmnaehgngpikaaLaB
import Derived.Test.YtdmnaehgngpikaaLaC
import Derived.Laws.EntriesVeiled
namespace Go.Proofs.Ytdmnaehgngpikaa
open Go.RowKit
set_option linter.unusedVariables false
set_option linter.unusedSimpArgs false
theorem roundIn_in {F : Fence} {n : Nat} {P : Program} {l : Nat} {f : FuncId} {tmps : Array Value} {assign body : Code} {w : World} {R : Ending → World → Prop} (l' : Nat) (h : RoundIn F n P l f tmps assign body w R) : RoundIn (F.inRound l') n P l f tmps assign body w R := h
/-- W2 is W1 but for the record at l -/
structure But (l : Nat) (W1 W2 : World) : Prop where
  cell : ∀ a, W2.cell? a = W1.cell? a
  frozen : ∀ a, W2.frozen? a = W1.frozen? a
  size : W2.heap.size = W1.heap.size
  os : W2.os = W1.os
  tape : W2.tape = W1.tape
  output : W2.output = W1.output
  heap : ∀ k, k ≠ l → W2.heap[k]? = W1.heap[k]?
  book : ∃ o, W1.heap[l]? = some o ∧ isBook o = true
  loop : ∃ r, W2.heap[l]? = some (.loop r)
theorem but_put {l : Nat} {W : World} {o : Obj} (r : Loop) (hl : W.heap[l]? = some o) (ho : isBook o = true) : But l W (W.putObj l (.loop r)) := by
  have h := sameBut_putObj (B := l) (.loop r) (Nat.le_refl _) hl ho rfl
  exact ⟨h.cell, h.frozen, h.size, rfl, rfl, rfl, fun k hk => World.putObj_heap_other hk, ⟨o, hl, ho⟩, ⟨r, World.putObj_heap_same (Array.getElem?_eq_some_iff.1 hl).1⟩⟩
theorem But.blk {l : Nat} {A W : World} (h : But l A W) {b t : Nat} {cs : Array Value} (hb : Blk A b t cs) : Blk W b t cs := (h.heap b (fun e => by
  obtain ⟨o, ho, hk⟩ := h.book
  rw [← e, show A.heap[b]? = _ from hb] at ho; cases ho; cases hk)).trans hb
theorem But.kept {l : Nat} {A W : World} (h : But l A W) {S : Nat → Prop} (hl : S l) : KeptS S A W := ⟨by rw [h.size]; exact Nat.le_refl _, h.os, h.tape, h.output, fun k _ hk => h.heap k (fun e => hk (e ▸ hl))⟩
theorem But.below {l n₀ : Nat} {w A W : World} (h : But l A W) (hb : Below n₀ w A) (hl : n₀ ≤ l) : Below n₀ w W := ⟨h.os.trans hb.os, h.tape.trans hb.tape, h.output.trans hb.output, by rw [h.size]; exact hb.size, fun k hk => (h.heap k (by omega)).trans (hb.block k hk)⟩
/-- how a round's body may end -/
def roundEnd1 {α : Type} (l : Nat) (I : List α → World → Prop) (Ix : Code → World → Prop) (xs : List α) (W : World) : Exit → Act → World → Prop
  | .normal, _, W' => W'.heap[l]? = W.heap[l]? ∧ I xs W'
  | .ret, _, W' => W'.heap[l]? = W.heap[l]? ∧ Ix .ret W'
  | .exit id, _, W' => W'.heap[l]? = W.heap[l]? ∧ Ix (.exit id) W'
  | .goto t, _, W' => W'.heap[l]? = W.heap[l]? ∧ Ix (.goto t) W'
  | .panic _, _, _ => False
  | .outgrown, _, _ => False
section
variable {P : Program} {α : Type}
theorem range_core1 {gf : Nat} {lb : Array Value} {encs : α → Array Value} {xs : List α} {Rd : World → Prop} (hit : IterC P gf lb encs xs Rd)
    {fn : FuncId} {tmps : Array Value} {ps : Array Tmp} {assign body : Code} {dd l : Nat} {W1 : World}
    (hL : W1.heap[l]? = some (.loop { state := .ready, pending := none, fn, tmps, params := ps, assign, body, defers := dd }))
    (hps : ∀ x, (encs x).size = ps.size)
    (I : List α → World → Prop) (Ix : Code → World → Prop)
    (hI : ∀ s W W', I s W → W.grownBy W' none → I s W') (hIl : ∀ s W W', I s W → But l W W' → I s W')
    (hIx : ∀ s W W', Ix s W → W.grownBy W' none → Ix s W') (hIxl : ∀ s W W', Ix s W → But l W W' → Ix s W')
    (hRd : ∀ pre A, I pre A → Rd A) (h0 : I [] W1)
    (hround : ∀ pre x rest W, xs = pre ++ x :: rest → (∃ r, W.heap[l]? = some (.loop r)) → I pre W →
      assign.wpIn (Fence.wide.inRound l) 0 P (Exit.then (fun a1 Wa => Wa.heap[l]? = W.heap[l]? ∧ ∀ W2, But l Wa W2 → body.wpIn (Fence.wide.inRound l) 0 P (roundEnd1 l I Ix (pre ++ [x]) W2) a1 W2) (fun _ _ _ => False))
        { tmps := (ps.zip (encs x)).foldl (fun t (p, v) => t.setIfInBounds p v) tmps, defers := [] } W) :
    Calls P gf (#[.func (.yield l) #[] #[]] ++ lb) W1 fun e W2 => (∃ v, e = .returned v) ∧
      ((I xs W2 ∧ W2.heap[l]? = some (.loop { state := .ready, pending := none, fn, tmps, params := ps, assign, body, defers := dd })) ∨
       (∃ c, Ix c W2 ∧ W2.heap[l]? = some (.loop { state := .done, pending := some c, fn, tmps, params := ps, assign, body, defers := dd }))) := by
  obtain ⟨rec, hrec⟩ : ∃ rec : LoopState → Option Code → Loop, rec = fun st pe => { state := st, pending := pe, fn, tmps, params := ps, assign, body, defers := dd } := ⟨_, rfl⟩
  have hL' : W1.heap[l]? = some (.loop (rec .ready none)) := by rw [hrec]; exact hL
  refine (hit l (fun pre W => I pre W ∧ W.heap[l]? = some (.loop (rec .ready none)))
    (fun _ W => ∃ c, Ix c W ∧ W.heap[l]? = some (.loop (rec .done (some c)))) W1 ?_ ?_ (fun s A h => hRd s A h.1) ?_ ⟨h0, hL'⟩).mono ?_
  · rintro s A B' ⟨h1, h3⟩ hg
    exact ⟨hI s A B' h1 hg, (hg.block l (Array.getElem?_eq_some_iff.1 h3).1 (by simp)).trans h3⟩
  · rintro s A B' ⟨c, h1, h3⟩ hg
    exact ⟨c, hIx c A B' h1 hg, (hg.block l (Array.getElem?_eq_some_iff.1 h3).1 (by simp)).trans h3⟩
  · rintro pre x rest W hx ⟨hi, hl⟩
    have hy := run_yield (P := P) (args := encs x) hl (by rw [hrec]; exact hps x)
    rw [hrec] at hy
    refine ⟨fn, _, assign, body, hy, roundIn_of_wpIn trivial (wpIn_mono (hround pre x rest W hx ⟨_, hl⟩ hi) ?_)⟩
    clear hy
    rintro e a1 Wa hq
    cases e with
    | normal =>
      obtain ⟨hka, hbody⟩ := hq
      have hla := hka.trans hl
      refine ⟨_, run_beginRound hla (by rw [hrec]), ?_⟩
      have hlt := (Array.getElem?_eq_some_iff.1 hla).1
      have hl2 : (Wa.putObj l (.loop { rec .ready none with state := .busy })).heap[l]? = some (.loop { rec .ready none with state := .busy }) := World.putObj_heap_same hlt
      refine wpIn_mono (hbody _ (but_put _ hla rfl)) ?_
      have fin : ∀ (jump : Option Code) (W3 : World), W3.heap[l]? = (Wa.putObj l (.loop { rec .ready none with state := .busy })).heap[l]? →
          (Instr.endRound l jump).run P W3 = .ok (.bool jump.isNone) (W3.putObj l (.loop (rec (if jump.isNone then .ready else .done) jump))) ∧
          But l W3 (W3.putObj l (.loop (rec (if jump.isNone then .ready else .done) jump))) ∧
          (W3.putObj l (.loop (rec (if jump.isNone then .ready else .done) jump))).heap[l]? = some (.loop (rec (if jump.isNone then .ready else .done) jump)) := fun jump W3 hk3 => by
        have hl3 := hk3.trans hl2
        have := run_endRound (P := P) jump hl3
        rw [hrec] at this ⊢
        refine ⟨this, but_put _ hl3 rfl, World.putObj_heap_same (Array.getElem?_eq_some_iff.1 hl3).1⟩
      rintro e a3 W3 hp
      cases e with
      | normal =>
        obtain ⟨hk3, hi3⟩ := hp
        obtain ⟨hr, hl3, hl4⟩ := fin none W3 hk3
        exact ⟨_, _, hr, .inl ⟨rfl, hIl _ _ _ hi3 hl3, hl4⟩⟩
      | ret =>
        obtain ⟨hk3, hi3⟩ := hp
        obtain ⟨hr, hl3, hl4⟩ := fin (some .ret) W3 hk3
        exact ⟨_, _, hr, .inr ⟨rfl, .ret, hIxl _ _ _ hi3 hl3, hl4⟩⟩
      | exit id =>
        obtain ⟨hk3, hi3⟩ := hp
        obtain ⟨hr, hl3, hl4⟩ := fin (some (.exit id)) W3 hk3
        exact ⟨_, _, hr, .inr ⟨rfl, .exit id, hIxl _ _ _ hi3 hl3, hl4⟩⟩
      | goto t =>
        obtain ⟨hk3, hi3⟩ := hp
        obtain ⟨hr, hl3, hl4⟩ := fin (some (.goto t)) W3 hk3
        exact ⟨_, _, hr, .inr ⟨rfl, .goto t, hIxl _ _ _ hi3 hl3, hl4⟩⟩
      | panic ch => exact hp.elim
      | outgrown => exact hp.elim
    | exit id => exact hq.elim
    | goto t => exact hq.elim
    | ret => exact hq.elim
    | panic ch => exact hq.elim
    | outgrown => exact hq.elim
  · rintro e W2 ⟨hv, ⟨h1, h3⟩ | ⟨pre, x, rest, hx, c, h1, h3⟩⟩
    · rw [hrec] at h3; exact ⟨hv, .inl ⟨h1, h3⟩⟩
    · rw [hrec] at h3; exact ⟨hv, .inr ⟨c, h1, h3⟩⟩
/-- 'for x := range seq { .. }' that stands in no round: its mark lies at w's end, its record behind it -/
theorem wp_range_1 {gf : Nat} {lb : Array Value} {encs : α → Array Value} {xs : List α} {Rd : World → Prop} (hit : IterC P gf lb encs xs Rd)
    (eg : ∀ args w, (callFunc gf args).run P w = .ok (.enter gf args) w)
    {g : Operand} {ps : Array Tmp} {assign body : Code} {Q : Exit → Act → World → Prop} {a : Act} {w : World} (hg : a.eval g = .func (.func gf) #[] lb)
    (hps : ∀ x, (encs x).size = ps.size)
    (I : List α → World → Prop) (Ix : Code → World → Prop)
    (hI : ∀ s W W', I s W → W.grownBy W' none → I s W') (hIl : ∀ s W W', I s W → But (w.heap.size + 1) W W' → I s W')
    (hIx : ∀ s W W', Ix s W → W.grownBy W' none → Ix s W') (hIxl : ∀ s W W', Ix s W → But (w.heap.size + 1) W W' → Ix s W')
    (hRd : ∀ pre A, I pre A → Rd A) (h0 : ∀ r, I [] ((w.alloc (.deferred (some []))).alloc (.loop r)))
    (hround : ∀ pre x rest W, xs = pre ++ x :: rest → (∃ r, W.heap[w.heap.size + 1]? = some (.loop r)) → I pre W →
      assign.wpIn (Fence.wide.inRound (w.heap.size + 1)) 0 P (Exit.then (fun a1 Wa => Wa.heap[w.heap.size + 1]? = W.heap[w.heap.size + 1]? ∧ ∀ W2, But (w.heap.size + 1) Wa W2 → body.wpIn (Fence.wide.inRound (w.heap.size + 1)) 0 P (roundEnd1 (w.heap.size + 1) I Ix (pre ++ [x]) W2) a1 W2) (fun _ _ _ => False))
        { tmps := (ps.zip (encs x)).foldl (fun t (p, v) => t.setIfInBounds p v) a.tmps, defers := [] } W)
    (hdone : ∀ (W : World), I xs W → Q .normal { a with defers := markOf w.heap.size :: a.defers } W)
    (hstop : ∀ (c : Code) (W : World), Ix c W → c.wp P Q { a with defers := markOf w.heap.size :: a.defers } W) :
    (Code.rangeFunc g ps assign body).wp P Q a w := by
  refine (wpIn_wide (n := 0)).1 (wpIn_rangeFunc ?_)
  intro fn hfn
  obtain ⟨W1, hW1⟩ : ∃ W1, (w.alloc (.deferred (some []))).alloc (.loop { state := .ready, pending := none, fn, tmps := a.tmps, params := ps, assign, body, defers := w.heap.size }) = W1 := ⟨_, rfl⟩
  have hL1 : W1.heap[w.heap.size + 1]? = some (.loop { state := .ready, pending := none, fn, tmps := a.tmps, params := ps, assign, body, defers := w.heap.size }) := by
    rw [← hW1]; have := World.alloc_heap_new (w.alloc (.deferred (some []))) (.loop { state := .ready, pending := none, fn, tmps := a.tmps, params := ps, assign, body, defers := w.heap.size }); rwa [World.size_alloc] at this
  have hI1 : I [] W1 := by rw [← hW1]; exact h0 _
  refine ⟨w.heap.size + 1, [markOf w.heap.size], W1, { target := .fn (.func gf) lb, args := #[.func (.yield (w.heap.size + 1)) #[] #[]] }, W1, gf,
    #[.func (.yield (w.heap.size + 1)) #[] #[]] ++ lb, W1, ?_, ?_, ?_, ?_, fun h => by simp [Fence.wide] at h, ?_⟩
  · rw [← hW1]; exact run_enterLoop_outer _ _ _ _ _
  · simp only [resolve, hg]
    simp [go_sem]
  · intro f' hf'; trivial
  · simp [invoke, go_sem, eg]
  · refine callsIn_wide.2 ((range_core1 hit hL1 hps I Ix hI hIl hIx hIxl hRd hI1 hround).mono ?_)
    rintro e W2 ⟨⟨v, rfl⟩, ⟨hi, hl⟩ | ⟨c, hi, hl⟩⟩
    · exact ⟨none, _, run_endLoop (P := P) hl (by simp), hdone _ (hIl _ _ _ hi (but_put _ hl rfl))⟩
    · exact ⟨some c, _, run_endLoop (P := P) hl (by simp), wpIn_wide.2 (hstop c _ (hIxl _ _ _ hi (but_put _ hl rfl)))⟩
/-- 'for x := range seq { .. }' in a round of loop l₀: its record lies at w's end -/
theorem wp_range_in1 {gf : Nat} {lb : Array Value} {encs : α → Array Value} {xs : List α} {Rd : World → Prop} (hit : IterC P gf lb encs xs Rd)
    (eg : ∀ args w, (callFunc gf args).run P w = .ok (.enter gf args) w)
    {l₀ : Nat} {g : Operand} {ps : Array Tmp} {assign body : Code} {Q : Exit → Act → World → Prop} {a : Act} {w : World} (hl₀ : ∃ r, w.heap[l₀]? = some (.loop r)) (hg : a.eval g = .func (.func gf) #[] lb)
    (hps : ∀ x, (encs x).size = ps.size)
    (I : List α → World → Prop) (Ix : Code → World → Prop)
    (hI : ∀ s W W', I s W → W.grownBy W' none → I s W') (hIl : ∀ s W W', I s W → But w.heap.size W W' → I s W')
    (hIx : ∀ s W W', Ix s W → W.grownBy W' none → Ix s W') (hIxl : ∀ s W W', Ix s W → But w.heap.size W W' → Ix s W')
    (hRd : ∀ pre A, I pre A → Rd A) (h0 : ∀ r, I [] (w.alloc (.loop r)))
    (hround : ∀ pre x rest W, xs = pre ++ x :: rest → (∃ r, W.heap[w.heap.size]? = some (.loop r)) → I pre W →
      assign.wpIn (Fence.wide.inRound w.heap.size) 0 P (Exit.then (fun a1 Wa => Wa.heap[w.heap.size]? = W.heap[w.heap.size]? ∧ ∀ W2, But w.heap.size Wa W2 → body.wpIn (Fence.wide.inRound w.heap.size) 0 P (roundEnd1 w.heap.size I Ix (pre ++ [x]) W2) a1 W2) (fun _ _ _ => False))
        { tmps := (ps.zip (encs x)).foldl (fun t (p, v) => t.setIfInBounds p v) a.tmps, defers := [] } W)
    (hdone : ∀ (W : World), I xs W → Q .normal a W)
    (hstop : ∀ (c : Code) (W : World), Ix c W → c.wpIn (Fence.wide.inRound l₀) 0 P Q a W) :
    (Code.rangeFunc g ps assign body).wpIn (Fence.wide.inRound l₀) 0 P Q a w := by
  obtain ⟨r₀, hl₀⟩ := hl₀
  refine wpIn_rangeFunc ?_
  intro fn hfn
  obtain ⟨W1, hW1⟩ : ∃ W1, w.alloc (.loop { state := .ready, pending := none, fn, tmps := a.tmps, params := ps, assign, body, defers := r₀.defers }) = W1 := ⟨_, rfl⟩
  have hL1 : W1.heap[w.heap.size]? = some (.loop { state := .ready, pending := none, fn, tmps := a.tmps, params := ps, assign, body, defers := r₀.defers }) := by
    rw [← hW1]; exact World.alloc_heap_new _ _
  have hI1 : I [] W1 := by rw [← hW1]; exact h0 _
  refine ⟨w.heap.size, [], W1, { target := .fn (.func gf) lb, args := #[.func (.yield w.heap.size) #[] #[]] }, W1, gf,
    #[.func (.yield w.heap.size) #[] #[]] ++ lb, W1, ?_, ?_, ?_, ?_, fun h => by simp [Fence.wide] at h, ?_⟩
  · rw [← hW1]; exact run_enterLoop_inner hl₀ _ _ _ _ _
  · simp only [resolve, hg]
    simp [go_sem]
  · intro f' hf'; trivial
  · simp [invoke, go_sem, eg]
  · refine CallsIn.inRound l₀ (callsIn_wide.2 ((range_core1 hit hL1 hps I Ix hI hIl hIx hIxl hRd hI1 hround).mono ?_))
    rintro e W2 ⟨⟨v, rfl⟩, ⟨hi, hl⟩ | ⟨c, hi, hl⟩⟩
    · exact ⟨none, _, run_endLoop (P := P) hl (by simp), hdone _ (hIl _ _ _ hi (but_put _ hl rfl))⟩
    · exact ⟨some c, _, run_endLoop (P := P) hl (by simp), hstop c _ (hIxl _ _ _ hi (but_put _ hl rfl))⟩
end
end Go.Proofs.Ytdmnaehgngpikaa
namespace Go.Proofs.Ytdmnaehgngpikaa.K
open Go.RowKit Go.Proofs.YtdmnaehgngpikaaW.PrintWords Go.Proofs.YtdmnaehgngpikaaW.PrintLast Go.Proofs.YtdmnaehgngpikaaW.PrintMore
set_option linter.unusedVariables false
set_option linter.unusedSimpArgs false
attribute [local go_sem] Oper.semAt_some
def spanK (l : List Nd) (k : Int) : Int := max (rd_T48 l k).f2.f4 1
abbrev Ln1 := S35 × Int
/-- one kid's columns -/
def inner_ (l : List Nd) (k : Int) (cs : List Int) : List Ln1 := cs.map fun c => (⟨c, k⟩, spanK l c)
def colsOf (l : List Nd) (k : Int) : List Ln1 :=
  if kindOf l k = 4 then (if kidsK l k [5] = [] then [(⟨-1, k⟩, spanK l k)] else inner_ l k (kidsK l k [5])) else [(⟨k, -1⟩, spanK l k)]
def colsP (l : List Nd) (a : Nat) : List Ln1 := (kidsK l a [5, 4]).flatMap (colsOf l)
def colV (x : Ln1) : Array Value := #[.agg #[.int .i64 x.1.f0, .int .i64 x.1.f1], .int .i64 x.2]
theorem span_any (l : List Nd) (b : Nat) (A : Option Addr) (CS : Nat → List Value) (c : Nat) (hbig : l.length ≤ 9223372036854775807) (W : World) (hb : W.cell? ⟨b, 0, none⟩ = some (.slice A l.length c)) (hN : NodesAt W A CS l) (k : Nat) (hk : k < l.length) :
    Calls Try.prog 36 #[.int .i64 (k : Int), .pointer (some ⟨b, 0, none⟩)] W fun e w' => e = .returned (.int .i64 (spanK l k)) ∧ w' = W := by
  obtain ⟨x, hx⟩ : ∃ x, l[k]? = some x := ⟨_, List.getElem?_eq_getElem hk⟩
  obtain ⟨ad, hA, hlen, hone, hcells, hKk⟩ := hN k x hx
  obtain ⟨_, _, _, _, hcs, -, -, -, -⟩ := k48_open hKk
  have hsp : spanK l k = max x.f2.f4 1 := by unfold spanK rd_T48; rw [Int.toNat_natCast, List.getD_eq_getElem?_getD, hx]; rfl
  have hck : (CS k)[22]? = some (.int .i64 x.f2.f4) := by rw [hcs]; rfl
  have y1 : W.cell? ⟨(ad.add (k * 34)).block, (ad.add (k * 34)).off + 22, none⟩ = some (.int .i64 x.f2.f4) := by rw [← add_field _ _ 22 (by omega)]; exact hcells 22 _ hck
  have hkz : (k : Int) < (l.length : Int) := by omega
  have hk0 : ¬ ((k : Int) < 0) := by omega
  rw [hsp]
  subst hA
  clear hcs hck hcells hKk hone hlen hsp hN
  go_enter Try.func36, Try.ntmps36
  go_wp2
  all_goals (try go_ret)
  all_goals (first | exact ⟨by show Ending.returned (.int .i64 _) = _; congr 2; omega, rfl⟩ | skip)
/-- the function that tells how many of a column there are, as 'cols' makes it -/
def spanF (b : Nat) : Value := .func (.func 36) #[] #[.pointer (some ⟨b, 0, none⟩)]
def colsW (w : World) (A : Option Addr) (n c : Nat) (a : Int) : World := ((w.alloc (.cells #[.slice A n c] 22)).alloc (.cells #[.int .i64 a] 3)).alloc (.cells #[spanF w.heap.size] 74)
theorem cols_any (A : Option Addr) (n c : Nat) (a : Int) (w : World) :
    Calls Try.prog 24 #[.slice A n c, .int .i64 a] w fun e w' => e = .returned (.func (.func 37) #[] #[.pointer (some ⟨w.heap.size, 0, none⟩), .pointer (some ⟨w.heap.size + 1, 0, none⟩), .pointer (some ⟨w.heap.size + 1 + 1, 0, none⟩)]) ∧ colsW w A n c a = w' := by
  go_enter Try.func24, Try.ntmps24
  go_wp2
  go_ret
  exact ⟨rfl, rfl⟩
theorem kept_grown {S : Nat → Prop} {w W : World} (h : w.grownBy W none) : KeptS S w W := ⟨h.size, h.os, h.tape, h.output, fun k hk _ => h.block k hk (by simp)⟩
def Out_ (lo hi : Nat) (F : Nat → Prop) : Prop := ∀ k, F k → k < lo ∨ hi ≤ k
theorem KidsB.kept {S : Nat → Prop} {V V' : World} {N : Nat} {A : Option Addr} {n c : Nat} {a : Int} {Ak : Option Addr} {nk ck : Nat} (h : KidsB V N A n c a Ak nk ck) (hk : KeptS S V V') (hS : ∀ k, N ≤ k → k < N + 3 → ¬ S k) : KidsB V' N A n c a Ak nk ck :=
  ⟨hk.blk h.b1 (hS _ (by omega) (by omega)), hk.blk h.b2 (hS _ (by omega) (by omega)), hk.blk h.b3 (hS _ (by omega) (by omega))⟩
/-- the iterator's own blocks -/
structure OwnC (A : Option Addr) (n c : Nat) (a : Int) (lp n0 : Nat) (V : World) : Prop where
  y : Blk V n0 75 #[.func (.yield lp) #[] #[]]
  ks : Blk V (n0 + 1) 3 #[.int .i64 5, .int .i64 4]
  kb : KidsB V (n0 + 1 + 1) A n c a (some ⟨n0 + 1, 0, none⟩) 2 2
  mark : V.heap[n0 + 1 + 1 + 3]? = some (.deferred (some []))
  size : n0 + 7 ≤ V.heap.size
theorem OwnC.kept {S : Nat → Prop} {V V' : World} {A : Option Addr} {n c : Nat} {a : Int} {lp n0 : Nat} (h : OwnC A n c a lp n0 V) (hk : KeptS S V V') (hS : ∀ k, n0 ≤ k → k < n0 + 6 → ¬ S k) : OwnC A n c a lp n0 V' :=
  ⟨hk.blk h.y (hS _ (by omega) (by omega)), hk.blk h.ks (hS _ (by omega) (by omega)), h.kb.kept hk (fun k h1 h2 => hS k (by omega) (by omega)), (hk.block _ (by have := h.size; omega) (hS _ (by omega) (by omega))).trans h.mark, Nat.le_trans h.size hk.size⟩
theorem OwnC.but {V V' : World} {A : Option Addr} {n c : Nat} {a : Int} {lp n0 k : Nat} (h : OwnC A n c a lp n0 V) (hb : But k V V') (hk : n0 + 6 ≤ k) : OwnC A n c a lp n0 V' := h.kept (hb.kept (S := fun x => x = k) rfl) (fun x _ _ e => by omega)
/-- a round's own blocks -/
structure OwnR (A : Option Addr) (n c : Nat) (y : Int) (e : Bool) (n2 : Nat) (V : World) : Prop where
  k : Blk V n2 3 #[.int .i64 y]
  lane : Blk V (n2 + 1) 35 #[.int .i64 y, .int .i64 (-1)]
  em : Blk V (n2 + 1 + 1) 4 #[.bool e]
  ks : Blk V (n2 + 1 + 1 + 1) 3 #[.int .i64 5]
  kb : KidsB V (n2 + 1 + 1 + 1 + 1) A n c y (some ⟨n2 + 1 + 1 + 1, 0, none⟩) 1 1
  size : n2 + 8 ≤ V.heap.size
theorem OwnR.kept {S : Nat → Prop} {V V' : World} {A : Option Addr} {n c : Nat} {y : Int} {e : Bool} {n2 : Nat} (h : OwnR A n c y e n2 V) (hk : KeptS S V V') (hS : ∀ k, n2 ≤ k → k < n2 + 7 → ¬ S k) : OwnR A n c y e n2 V' :=
  ⟨hk.blk h.k (hS _ (by omega) (by omega)), hk.blk h.lane (hS _ (by omega) (by omega)), hk.blk h.em (hS _ (by omega) (by omega)), hk.blk h.ks (hS _ (by omega) (by omega)), h.kb.kept hk (fun k h1 h2 => hS k (by omega) (by omega)), Nat.le_trans h.size hk.size⟩
theorem OwnR.but {V V' : World} {A : Option Addr} {n c : Nat} {y : Int} {e : Bool} {n2 k : Nat} (h : OwnR A n c y e n2 V) (hb : But k V V') (hk : n2 + 7 ≤ k) : OwnR A n c y e n2 V' := h.kept (hb.kept (S := fun x => x = k) rfl) (fun x _ _ e => by omega)
def ColI (J : List Ln1 → (Nat → Prop) → World → Prop) (A : Option Addr) (n c : Nat) (a : Int) (lp n0 : Nat) (st : List Ln1) (V : World) : Prop := ∃ F, J st F V ∧ Out_ n0 (n0 + 7) F ∧ OwnC A n c a lp n0 V
def ColX (J : List Ln1 → (Nat → Prop) → World → Prop) (n0 : Nat) (xs : List Ln1) (V : World) : Prop := ∃ pre x rest F, xs = pre ++ x :: rest ∧ J (pre ++ [x]) F V ∧ Out_ n0 (n0 + 7) F ∧ V.heap[n0 + 1 + 1 + 3]? = some (.deferred (some [])) ∧ n0 + 7 ≤ V.heap.size
theorem leaves_one {P : Program} {fn : Func} {tmps : Array Value} {R : Ending → World → Prop} {v : Value} {D : Nat} {W : World} (hD : W.heap[D]? = some (.deferred (some [])))
    (h : (results fn tmps).run P (W.putObj D (.deferred none)) = .ok v (W.putObj D (.deferred none)) ∧ R (.returned v) (W.putObj D (.deferred none))) : LeavesInM Fence.wide 0 P fn tmps R [markOf D] .returning W :=
  ⟨by simp, .inl ⟨D, _, rfl, run_takeDeferred hD, ⟨v, h.1, h.2⟩⟩⟩
theorem OwnR.setEm {V : World} {A : Option Addr} {n c : Nat} {y : Int} {e : Bool} {n2 : Nat} (h : OwnR A n c y e n2 V) (e' : Bool) : OwnR A n c y e' n2 (V.setCell ⟨n2 + 1 + 1, 0, none⟩ (.bool e')) :=
  ⟨Blk.other h.k (p := ⟨n2 + 1 + 1, 0, none⟩) (by show n2 ≠ n2 + 1 + 1; omega) _, Blk.other h.lane (p := ⟨n2 + 1 + 1, 0, none⟩) (by show n2 + 1 ≠ n2 + 1 + 1; omega) _, Blk.set h.em 0 (.bool e'), Blk.other h.ks (p := ⟨n2 + 1 + 1, 0, none⟩) (by show n2 + 1 + 1 + 1 ≠ n2 + 1 + 1; omega) _,
    ⟨Blk.other h.kb.b1 (p := ⟨n2 + 1 + 1, 0, none⟩) (by show n2 + 1 + 1 + 1 + 1 ≠ n2 + 1 + 1; omega) _, Blk.other h.kb.b2 (p := ⟨n2 + 1 + 1, 0, none⟩) (by show n2 + 1 + 1 + 1 + 1 + 1 ≠ n2 + 1 + 1; omega) _, Blk.other h.kb.b3 (p := ⟨n2 + 1 + 1, 0, none⟩) (by show n2 + 1 + 1 + 1 + 1 + 1 + 1 ≠ n2 + 1 + 1; omega) _⟩, by rw [World.size_setCell]; exact h.size⟩
theorem kept_set {S : Nat → Prop} {V : World} (p : Addr) (hp : S p.block) (v : Value) : KeptS S V (V.setCell p v) := (KeptS.refl _ V).setCell (fun k _ hk e => hk (e ▸ hp)) v
def InI (J : List Ln1 → (Nat → Prop) → World → Prop) (A : Option Addr) (n c : Nat) (a : Int) (lp n0 n2 : Nat) (y : Int) (X : Option Obj) (st : List Ln1) (e : Bool) (V : World) : Prop :=
  ∃ F, J st F V ∧ Out_ n0 (n0 + 7) F ∧ Out_ n2 (n2 + 8) F ∧ OwnC A n c a lp n0 V ∧ OwnR A n c y e n2 V ∧ V.heap[n0 + 1 + 1 + 3 + 1]? = X
def InX (J : List Ln1 → (Nat → Prop) → World → Prop) (n0 n2 : Nat) (X : Option Obj) (xs : List Ln1) (V : World) : Prop :=
  ∃ pre x rest F, xs = pre ++ x :: rest ∧ J (pre ++ [x]) F V ∧ Out_ n0 (n0 + 7) F ∧ Out_ n2 (n2 + 8) F ∧ V.heap[n0 + 1 + 1 + 3]? = some (.deferred (some [])) ∧ n0 + 7 ≤ V.heap.size ∧ V.heap[n0 + 1 + 1 + 3 + 1]? = X
set_option maxRecDepth 100000 in
set_option maxHeartbeats 4000000 in
theorem cols2_iter (l : List Nd) (b1 b2 b3 : Nat) (A : Option Addr) (CS : Nat → List Value) (c : Nat) (hc : l.length ≤ c) (hbig : l.length ≤ 9223372036854775807) (a : Nat) (ha : a < l.length) (hki : KidsIn l) :
    IterF Try.prog 37 #[.pointer (some ⟨b1, 0, none⟩), .pointer (some ⟨b2, 0, none⟩), .pointer (some ⟨b3, 0, none⟩)] colV (colsP l a)
      (fun W => (W.cell? ⟨b1, 0, none⟩ = some (.slice A l.length c) ∧ W.cell? ⟨b2, 0, none⟩ = some (.int .i64 (a : Int)) ∧ W.cell? ⟨b3, 0, none⟩ = some (spanF b1)) ∧ NodesAt W A CS l) := by
  intro lp J Jx F0 W hJ hJx hF hFx hY h0
  have HY := Lib.hid hY
  have HF := Lib.hid hF
  have HFx := Lib.hid hFx
  have HJ := Lib.hid hJ
  have HJx := Lib.hid hJx
  have hout : Out_ W.heap.size (W.heap.size + 7) F0 := fun k hk => .inl ((hF _ _ _ h0).1 k hk)
  obtain ⟨⟨hc1, hc2, hc3⟩, hN⟩ := (hF _ _ _ h0).2
  have HIT := Lib.hid (fun b => kids1_iter l b (b + 1) (b + 1 + 1) A CS c hc hbig a ha hki (some ⟨W.heap.size + 1, 0, none⟩) 2 [5, 4] (Nat.le_refl _) (by decide))
  have H0 := Lib.hid h0
  have lb1 := World.block_lt_of_cell? W _ hc1
  have lb2 := World.block_lt_of_cell? W _ hc2
  clear hY hF hFx hJ hJx hN h0
  refine calls_of_wp_marks Try.func37 rfl ?_
  simp only [Try.ntmps37, List.size_toArray, List.length_cons, List.length_nil, Nat.reduceAdd, Nat.reduceSub, Array.replicate_succ, Array.replicate_zero, List.push_toArray, List.append_toArray, List.nil_append, List.cons_append]
  go_wp2_with (go_at_call 30; refine (kids_any A l.length c (a : Int) (some ⟨W.heap.size + 1, 0, none⟩) 2 2 _).mono ?_; rintro e w1 ⟨rfl, rfl⟩)
  obtain ⟨n0, hn0⟩ : ∃ n0, n0 = W.heap.size := ⟨_, rfl⟩
  have hW4 : ∃ W4, W4 = kidsW ((W.alloc (Obj.cells #[.func (.yield lp) #[] #[]] 75)).alloc (Obj.cells #[.int .i64 5, .int .i64 4] 3)) A l.length c (a : Int) (some ⟨W.heap.size + 1, 0, none⟩) 2 2 := ⟨_, rfl⟩
  obtain ⟨W4, hW4⟩ := hW4
  have gy : Blk W4 n0 75 #[.func (.yield lp) #[] #[]] := by
    rw [hW4, hn0]
    exact ((kidsW_below ..).block _ (by simp; omega)).trans (Blk.alloc (Blk.new W _ _) _)
  have gk : Blk W4 (n0 + 1) 3 #[.int .i64 5, .int .i64 4] := by
    have h := Blk.new (W.alloc (Obj.cells #[.func (.yield lp) #[] #[]] 75)) 3 #[.int .i64 5, .int .i64 4]
    rw [World.size_alloc] at h
    rw [hW4, hn0]
    exact ((kidsW_below ..).block _ (by simp)).trans h
  have gb : KidsB W4 (n0 + 1 + 1) A l.length c (a : Int) (some ⟨n0 + 1, 0, none⟩) 2 2 := by
    have h := kidsW_blk ((W.alloc (Obj.cells #[.func (.yield lp) #[] #[]] 75)).alloc (Obj.cells #[.int .i64 5, .int .i64 4] 3)) A l.length c (a : Int) (some ⟨W.heap.size + 1, 0, none⟩) 2 2
    rw [World.size_alloc, World.size_alloc] at h
    rw [hW4, hn0]
    exact h
  have hs4 : W4.heap.size = n0 + 1 + 1 + 3 := by
    have h := kidsW_size ((W.alloc (Obj.cells #[.func (.yield lp) #[] #[]] 75)).alloc (Obj.cells #[.int .i64 5, .int .i64 4] 3)) A l.length c (a : Int) (some ⟨W.heap.size + 1, 0, none⟩) 2 2
    rw [World.size_alloc, World.size_alloc] at h
    rw [hW4, hn0]
    exact h
  have hb4 : Below W.heap.size W W4 := by
    rw [hW4]
    exact (((Below.refl _ W).alloc (Nat.le_refl _) _).alloc (by simp) _).trans ((kidsW_below ..).mono (by simp; omega))
  have HJ4 := Lib.hid (HJ.out _ _ _ _ H0.out (KeptS.of_below hb4))
  rw [← hW4]
  rw [← hn0] at HIT hout ⊢
  clear hW4 hb4 H0 hc1 hc2 hc3 lb1 lb2 hn0
  refine wp_range_1 (HIT.out (n0 + 1 + 1)) (enters_of Try.func43 (by kernel_rfl) rfl) rfl (fun _ => rfl)
    (fun (pre : List Int) V => ColI J A l.length c (a : Int) lp n0 (pre.flatMap (colsOf l)) V)
    (fun (cd : Code) V => cd = .ret ∧ ColX Jx n0 (colsP l a) V)
    ?hI ?hIl ?hIx ?hIxl ?hRd ?hs ?round ?done ?stop
  case hI =>
    rintro s V V' ⟨F, h1, h2, h3⟩ hg
    exact ⟨F, HJ.out _ _ _ _ h1 (kept_grown hg), h2, h3.kept (S := fun _ => False) (kept_grown hg) (fun _ _ _ h => h)⟩
  case hIl =>
    rintro s V V' ⟨F, h1, h2, h3⟩ hb
    rw [hs4] at hb
    exact ⟨F, HJ.out _ _ _ _ h1 (hb.kept (fun hf => by have := h2 _ hf; omega)), h2, h3.but hb (by omega)⟩
  case hIx =>
    rintro s V V' ⟨rfl, pre, x, rest, F, hx, h1, h2, h3, h4⟩ hg
    exact ⟨rfl, pre, x, rest, F, hx, HJx.out _ _ _ _ h1 (kept_grown hg), h2, (hg.block _ (by omega) (by simp)).trans h3, Nat.le_trans h4 hg.size⟩
  case hIxl =>
    rintro s V V' ⟨rfl, pre, x, rest, F, hx, h1, h2, h3, h4⟩ hb
    rw [hs4] at hb
    exact ⟨rfl, pre, x, rest, F, hx, HJx.out _ _ _ _ h1 (hb.kept (fun hf => by have := h2 _ hf; omega)), h2, (hb.heap _ (by omega)).trans h3, by rw [hb.size]; exact h4⟩
  case hRd =>
    rintro pre V ⟨F, h1, h2, h3⟩
    exact ⟨h3.kb.cells, (HF.out _ _ _ h1).2.2, c_ints (b := n0 + 1) (xs := [5, 4]) h3.ks rfl (by decide)⟩
  case hs =>
    intro r
    have hk : KeptS (fun _ => False) W4 ((W4.alloc (.deferred (some []))).alloc (.loop r)) := ((KeptS.refl _ _).alloc _).alloc _
    refine ⟨F0, HJ.out _ _ _ _ HJ4.out (hk.mono (fun _ _ h => h.elim)), hout, hk.blk gy (fun h => h), hk.blk gk (fun h => h), gb.kept hk (fun _ _ _ h => h), ?_, by simp; omega⟩
    rw [← hs4]
    exact (Below.heap_alloc _ _ _ (by simp)).trans (World.alloc_heap_new W4 _)
  case done =>
    rintro V ⟨F, h1, h2, h3⟩
    rw [hs4]
    have hk : KeptS (fun k => ¬ F k) V (V.putObj (n0 + 1 + 1 + 3) (.deferred none)) := KeptS.put (fun hf => by have := h2 _ hf; omega) _
    have h5 := HJ.out _ _ _ _ h1 hk
    have hm := h3.mark
    clear h1 hk h3
    refine leaves_one (v := .tuple #[]) hm ⟨?_, ⟨_, rfl⟩, F, .inl h5⟩
    simp [results, Try.results37]
  case stop =>
    rintro cd V ⟨rfl, pre, x, rest, F, hx, h1, h2, h3, h4⟩
    rw [hs4]
    have hk : KeptS (fun k => ¬ F k) V (V.putObj (n0 + 1 + 1 + 3) (.deferred none)) := KeptS.put (fun hf => by have := h2 _ hf; omega) _
    have h5 := HJx.out _ _ _ _ h1 hk
    have HX := Lib.hid hx
    clear h1 hk hx
    go_wp2
    refine leaves_one (v := .tuple #[]) h3 ⟨?_, ⟨_, rfl⟩, F, .inr ⟨pre, x, rest, HX.out, h5⟩⟩
    simp [results, Try.results37]
  case round =>
    rintro pre y rest V hx hl ⟨F, h1, h2, h3⟩
    rw [hs4] at hl ⊢
    dsimp only [kidV]
    have hFs := (HF.out _ _ _ h1).1
    have hyk := (kidsIn_of hki (by omega : (0 : Int) ≤ (a : Int)) (by omega)) y ((List.mem_filter.1 (show y ∈ kidsK l a [5, 4] by rw [hx]; simp)).1)
    obtain ⟨yn, rfl⟩ := Int.eq_ofNat_of_zero_le hyk.1
    have hyn : yn < l.length := by omega
    have hcol : colsP l a = pre.flatMap (colsOf l) ++ (colsOf l (yn : Int) ++ rest.flatMap (colsOf l)) := by unfold colsP; rw [hx, List.flatMap_append, List.flatMap_cons]
    have HCOL := Lib.hid hcol
    have hks : kindOf l (yn : Int) = 5 ∨ kindOf l (yn : Int) = 4 := by
      have := (List.mem_filter.1 (show (yn : Int) ∈ kidsK l a [5, 4] by rw [hx]; simp)).2
      simpa using this
    clear gy gk gb hx hcol hyk
    have lV := h3.size
    gi_wp2
    refine ⟨Below.heap_alloc _ _ _ (by omega), ?_⟩
    rintro W2 hb
    obtain ⟨n2, hn2⟩ : ∃ n2, n2 = V.heap.size := ⟨_, rfl⟩
    have hka : KeptS (fun k => ¬ F k) V W2 := ((KeptS.refl _ V).alloc _).trans (hb.kept (fun hf => by have := h2 _ hf; omega))
    have hj2 := HJ.out _ _ _ _ h1 hka
    have hown2 : OwnC A l.length c (a : Int) lp n0 W2 := (h3.kept (S := fun _ => False) ((KeptS.refl _ V).alloc _) (fun _ _ _ h => h)).but hb (by omega)
    have hk2 : Blk W2 n2 3 #[.int .i64 (yn : Int)] := by rw [hn2]; exact hb.blk (Blk.new V _ _)
    have hs2 : W2.heap.size = n2 + 1 := by rw [hb.size, hn2]; simp
    have hl2 := hb.loop
    rw [← hn2] at hFs lV ⊢
    clear hb hka h1 h3 hl hn2
    obtain ⟨⟨k1, k2, k3⟩, hN2⟩ := (HF.out _ _ _ hj2).2
    have yk : W2.cell? ⟨n2, 0, none⟩ = some (.int .i64 (yn : Int)) := Blk.cell hk2 0
    obtain ⟨z, hz⟩ : ∃ z, l[yn]? = some z := ⟨_, List.getElem?_eq_getElem hyn⟩
    obtain ⟨ad2, hA2, hl2', -, hcells2, hK2⟩ := hN2 yn z hz
    obtain ⟨_, _, _, _, hcs3, -, -, -, -⟩ := k48_open hK2
    have hk0 : (CS yn)[0]? = some (.int .i64 z.f0) := by rw [hcs3]; rfl
    have hz0 : W2.cell? (ad2.add (yn * 34)) = some (.int .i64 z.f0) := hcells2 0 _ hk0
    have hkz : kindOf l (yn : Int) = z.f0 := by unfold kindOf rd_T48; rw [Int.toNat_natCast, List.getD_eq_getElem?_getD, hz]; rfl
    have hyz : (yn : Int) < (l.length : Int) := by omega
    have hy0' : ¬ ((yn : Int) < 0) := by omega
    have lb1 := World.block_lt_of_cell? W2 _ k1
    have HK2 := Lib.hid hk2
    have HOWN2 := Lib.hid hown2
    have HJ2 := Lib.hid hj2
    have hlt2 : n0 + 7 ≤ W2.heap.size := by omega
    have lk : n2 < W2.heap.size := by omega
    subst hA2
    clear hcells2 hl2' hK2 hcs3 hk0 hz hN2 hk2 hown2 hj2 k2
    by_cases q4 : z.f0 = 4
    · have hd4 : (z.f0 == 4) = true := beq_iff_eq.2 q4
      have HC4 := Lib.hid (show colsOf l (yn : Int) = if kidsK l (yn : Int) [5] = [] then [(⟨-1, (yn : Int)⟩, spanK l (yn : Int))] else inner_ l (yn : Int) (kidsK l (yn : Int) [5]) by unfold colsOf; rw [if_pos (by omega)])
      clear hks q4 hkz
      gi_upto_region 4 with fail
      have hka : KeptS (fun _ => False) W2 (W2.alloc (.cells #[.int .i64 (yn : Int), .int .i64 (-1)] 35)) := (KeptS.refl _ _).alloc _
      have hj6 := HJ.out _ _ _ _ HJ2.out (hka.mono (S' := fun k => ¬ F k) (fun _ _ h => h.elim))
      have hown6 := HOWN2.out.kept hka (fun _ _ _ h => h)
      have hk6 := hka.blk HK2.out (fun h => h)
      have hlane6 := Blk.new W2 35 #[.int .i64 (yn : Int), .int .i64 (-1)]
      have hl6 : (W2.alloc (.cells #[.int .i64 (yn : Int), .int .i64 (-1)] 35)).heap[n0 + 1 + 1 + 3 + 1]? = W2.heap[n0 + 1 + 1 + 3 + 1]? := hka.block _ (by omega) (fun h => h)
      have hs6 : (W2.alloc (.cells #[.int .i64 (yn : Int), .int .i64 (-1)] 35)).heap.size = n2 + 1 + 1 := by rw [World.size_alloc]; omega
      have hz6 : (W2.alloc (.cells #[.int .i64 (yn : Int), .int .i64 (-1)] 35)).cell? (ad2.add (yn * 34)) = some (.int .i64 z.f0) := (World.cell?_alloc_lt _ _ _ (World.block_lt_of_cell? W2 _ hz0)).trans hz0
      have k16 : (W2.alloc (.cells #[.int .i64 (yn : Int), .int .i64 (-1)] 35)).cell? ⟨b1, 0, none⟩ = some (.slice (some ad2) l.length c) := (World.cell?_alloc_lt _ _ _ lb1).trans k1
      have yk6 : (W2.alloc (.cells #[.int .i64 (yn : Int), .int .i64 (-1)] 35)).cell? ⟨n2, 0, none⟩ = some (.int .i64 (yn : Int)) := Blk.cell hk6 0
      have lb6 : b1 < n2 + 1 + 1 := by have h : b1 < W2.heap.size := lb1; omega
      have hl2' : ∃ r, (W2.alloc (.cells #[.int .i64 (yn : Int), .int .i64 (-1)] 35)).heap[n0 + 1 + 1 + 3 + 1]? = some (.loop r) := by rw [hl6]; exact hl2
      rw [hs2] at hlane6
      clear HK2 HOWN2 hz0 k1 k3 yk hka HJ2 lk hs2 hl2 lb1
      generalize hX : W2.heap[n0 + 1 + 1 + 3 + 1]? = X at hl6 ⊢
      generalize W2.alloc (.cells #[.int .i64 (yn : Int), .int .i64 (-1)] 35) = W6 at hj6 hown6 hk6 hlane6 hl6 hs6 hz6 k16 yk6 hl2' ⊢
      have HA := Lib.hid (And.intro hj6 (And.intro hown6 (And.intro hk6 (And.intro hlane6 (And.intro hl6 hl2')))))
      have HX := Lib.hid hX
      clear hj6 hown6 hk6 hlane6 hl6 hl2' hX
      gi_wp2_with (gi_at_call 30; refine (CallsIn.inRound _ (callsIn_wide.2 (kids_any _ l.length c (yn : Int) (some ⟨n2 + 1 + 1 + 1, 0, none⟩) 1 1 _))).mono ?_; rintro e w1 ⟨rfl, rfl⟩)
      obtain ⟨W5, hW5⟩ : ∃ W5, W5 = kidsW ((W6.alloc (Obj.cells #[.bool true] 4)).alloc (Obj.cells #[.int .i64 5] 3)) (some ad2) l.length c (yn : Int) (some ⟨n2 + 1 + 1 + 1, 0, none⟩) 1 1 := ⟨_, rfl⟩
      have g7 : Blk W5 (n2 + 1 + 1) 4 #[.bool true] := by
        have h := Blk.new W6 4 #[.bool true]
        rw [hs6] at h
        rw [hW5]
        exact ((kidsW_below ..).block _ (by simp; omega)).trans (Blk.alloc h _)
      have gk : Blk W5 (n2 + 1 + 1 + 1) 3 #[.int .i64 5] := by
        have h := Blk.new (W6.alloc (Obj.cells #[.bool true] 4)) 3 #[.int .i64 5]
        rw [World.size_alloc, hs6] at h
        rw [hW5]
        exact ((kidsW_below ..).block _ (by simp; omega)).trans h
      have gb : KidsB W5 (n2 + 1 + 1 + 1 + 1) (some ad2) l.length c (yn : Int) (some ⟨n2 + 1 + 1 + 1, 0, none⟩) 1 1 := by
        have h := kidsW_blk ((W6.alloc (Obj.cells #[.bool true] 4)).alloc (Obj.cells #[.int .i64 5] 3)) (some ad2) l.length c (yn : Int) (some ⟨n2 + 1 + 1 + 1, 0, none⟩) 1 1
        rw [World.size_alloc, World.size_alloc, hs6] at h
        rw [hW5]
        exact h
      have hs5 : W5.heap.size = n2 + 1 + 1 + 1 + 1 + 3 := by
        have h := kidsW_size ((W6.alloc (Obj.cells #[.bool true] 4)).alloc (Obj.cells #[.int .i64 5] 3)) (some ad2) l.length c (yn : Int) (some ⟨n2 + 1 + 1 + 1, 0, none⟩) 1 1
        rw [World.size_alloc, World.size_alloc, hs6] at h
        rw [hW5]
        exact h
      have hb5 : Below W6.heap.size W6 W5 := by
        rw [hW5]
        exact (((Below.refl _ W6).alloc (Nat.le_refl _) _).alloc (by simp) _).trans ((kidsW_below ..).mono (by simp; omega))
      rw [← hW5]
      have hk5 : KeptS (fun _ => False) W6 W5 := KeptS.of_below hb5
      have hj5 := HJ.out _ _ _ _ HA.out.1 (hk5.mono (S' := fun k => ¬ F k) (fun _ _ h => h.elim))
      have hown5 := HA.out.2.1.kept hk5 (fun _ _ _ h => h)
      have gn : Blk W5 n2 3 #[.int .i64 (yn : Int)] := hk5.blk HA.out.2.2.1 (fun h => h)
      have gl : Blk W5 (n2 + 1) 35 #[.int .i64 (yn : Int), .int .i64 (-1)] := hk5.blk HA.out.2.2.2.1 (fun h => h)
      have hx5 : W5.heap[n0 + 1 + 1 + 3 + 1]? = X := (hk5.block _ (by have := HA.out.2.1.size; omega) (fun h => h)).trans HA.out.2.2.2.2.1
      have hl5 : ∃ r, W5.heap[n0 + 1 + 1 + 3 + 1]? = some (.loop r) := by obtain ⟨r, hr⟩ := HA.out.2.2.2.2.2; exact ⟨r, (hk5.block _ (by have := HA.out.2.1.size; omega) (fun h => h)).trans hr⟩
      have HIT2 := Lib.hid (kids1_iter l (n2 + 1 + 1 + 1 + 1) (n2 + 1 + 1 + 1 + 1 + 1) (n2 + 1 + 1 + 1 + 1 + 1 + 1) (some ad2) CS c hc hbig yn hyn hki (some ⟨n2 + 1 + 1 + 1, 0, none⟩) 1 [5] (Nat.le_refl _) (by decide))
      have hfn : Out_ n2 (n2 + 8) F := fun k hk => .inl (hFs k hk)
      clear hW5 hb5 hk5 HA hz6 k16 yk6 lb6 hs6
      refine wp_range_in1 HIT2.out (enters_of Try.func43 (by kernel_rfl) rfl) hl5 rfl (fun _ => rfl)
        (fun (pre2 : List Int) V => InI J (some ad2) l.length c (a : Int) lp n0 n2 (yn : Int) X (pre.flatMap (colsOf l) ++ inner_ l (yn : Int) pre2) pre2.isEmpty V)
        (fun (cd : Code) V => cd = .ret ∧ InX Jx n0 n2 X (colsP l a) V)
        ?hI2 ?hIl2 ?hIx2 ?hIxl2 ?hRd2 ?hs2 ?round2 ?done2 ?stop2
      case hI2 =>
        rintro s V V' ⟨F, h1, h2, h3, h4, h5, h6⟩ hg
        exact ⟨F, HJ.out _ _ _ _ h1 (kept_grown hg), h2, h3, h4.kept (S := fun _ => False) (kept_grown hg) (fun _ _ _ h => h), h5.kept (S := fun _ => False) (kept_grown hg) (fun _ _ _ h => h), (hg.block _ (by have := h4.size; omega) (by simp)).trans h6⟩
      case hIl2 =>
        rintro s V V' ⟨F, h1, h2, h3, h4, h5, h6⟩ hb
        rw [hs5] at hb
        exact ⟨F, HJ.out _ _ _ _ h1 (hb.kept (fun hf => by have := h3 _ hf; omega)), h2, h3, h4.but hb (by omega), h5.but hb (by omega), (hb.heap _ (by omega)).trans h6⟩
      case hIx2 =>
        rintro s V V' ⟨rfl, pre, x, rest, F, hx, h1, h2, h3, h4, h5, h6⟩ hg
        exact ⟨rfl, pre, x, rest, F, hx, HJx.out _ _ _ _ h1 (kept_grown hg), h2, h3, (hg.block _ (by omega) (by simp)).trans h4, Nat.le_trans h5 hg.size, (hg.block _ (by omega) (by simp)).trans h6⟩
      case hIxl2 =>
        rintro s V V' ⟨rfl, pre, x, rest, F, hx, h1, h2, h3, h4, h5, h6⟩ hb
        rw [hs5] at hb
        exact ⟨rfl, pre, x, rest, F, hx, HJx.out _ _ _ _ h1 (hb.kept (fun hf => by have := h3 _ hf; omega)), h2, h3, (hb.heap _ (by omega)).trans h4, by rw [hb.size]; exact h5, (hb.heap _ (by omega)).trans h6⟩
      case hRd2 =>
        rintro pre2 V ⟨F, h1, h2, h3, h4, h5, h6⟩
        exact ⟨h5.kb.cells, (HF.out _ _ _ h1).2.2, c_ints (b := n2 + 1 + 1 + 1) (xs := [5]) h5.ks rfl (by decide)⟩
      case hs2 =>
        intro r
        have hk : KeptS (fun _ => False) W5 (W5.alloc (.loop r)) := (KeptS.refl _ _).alloc _
        refine ⟨F, by rw [show inner_ l (yn : Int) [] = [] from rfl, List.append_nil]; exact HJ.out _ _ _ _ hj5 (hk.mono (fun _ _ h => h.elim)), h2, hfn, hown5.kept hk (fun _ _ _ h => h), ⟨hk.blk gn (fun h => h), hk.blk gl (fun h => h), hk.blk g7 (fun h => h), hk.blk gk (fun h => h), gb.kept hk (fun _ _ _ h => h), by simp; omega⟩, (hk.block _ (by have := hown5.size; omega) (fun h => h)).trans hx5⟩
      case done2 =>
        rintro V5 ⟨F5, h1, h2', h3, h4, h5, h6⟩
        clear hj5 hown5 gn gl hx5 hl5 HIT2 hfn h2 g7 gk gb hs5
        have ye : V5.cell? ⟨n2 + 1 + 1, 0, none⟩ = some (.bool (kidsK l (yn : Int) [5]).isEmpty) := Blk.cell h5.em 0
        have le5 : n2 + 1 + 1 < V5.heap.size := by have := h5.size; omega
        by_cases he : kidsK l (yn : Int) [5] = []
        · rw [he] at ye h1
          have HC := Lib.hid (HC4.out.trans (by rw [if_pos he]))
          have yk : V5.cell? ⟨n2, 0, none⟩ = some (.int .i64 (yn : Int)) := Blk.cell h5.k 0
          have y0 : V5.cell? ⟨n2 + 1, 0, none⟩ = some (.int .i64 (yn : Int)) := Blk.cell h5.lane 0
          have y1 : V5.cell? ⟨n2 + 1, 1, none⟩ = some (.int .i64 (-1)) := Blk.cell h5.lane 1
          have f0 := Blk.frozen h5.lane 0
          have f1 := Blk.frozen h5.lane 1
          have ll5 : n2 + 1 < V5.heap.size := by omega
          have lk5 : n2 < V5.heap.size := by omega
          have hA := Lib.hid (And.intro h1 (And.intro h2' (And.intro h3 (And.intro h4 (And.intro h5 h6)))))
          clear h1 h2' h3 h4 h5 h6 he HC4
          dsimp only [List.isEmpty] at ye
          gi_upto_region 14 with fail
          have hks : KeptS (fun k => k = n2 + 1) V5 ((V5.setCell ⟨n2 + 1, 0, none⟩ (.int .i64 (-1))).setCell ⟨n2 + 1, 1, none⟩ (.int .i64 (yn : Int))) := (kept_set (S := fun k => k = n2 + 1) ⟨n2 + 1, 0, none⟩ rfl _).trans (kept_set (S := fun k => k = n2 + 1) ⟨n2 + 1, 1, none⟩ rfl _)
          have hj6 : J (pre.flatMap (colsOf l)) F5 ((V5.setCell ⟨n2 + 1, 0, none⟩ (.int .i64 (-1))).setCell ⟨n2 + 1, 1, none⟩ (.int .i64 (yn : Int))) := by
            have h := HJ.out _ _ _ _ hA.out.1 (hks.mono (S' := fun k => ¬ F5 k) (fun k _ hk hf => by have := hA.out.2.2.1 _ hf; omega))
            rwa [show inner_ l (yn : Int) [] = [] from rfl, List.append_nil] at h
          have hown6 := hA.out.2.2.2.1.kept hks (fun k h1 h2 e => by omega)
          have hk6 := hks.blk hA.out.2.2.2.2.1.k (by omega)
          have hlane6 := Blk.set (Blk.set hA.out.2.2.2.2.1.lane 0 (.int .i64 (-1))) 1 (.int .i64 (yn : Int))
          have hl6 := (hks.block (n0 + 1 + 1 + 3 + 1) (by have := hA.out.2.2.2.1.size; omega) (by omega)).trans (hA.out.2.2.2.2.2.trans HX.out.symm)
          have hlt6 : n0 + 7 ≤ ((V5.setCell ⟨n2 + 1, 0, none⟩ (.int .i64 (-1))).setCell ⟨n2 + 1, 1, none⟩ (.int .i64 (yn : Int))).heap.size := hown6.size
          have ho6 := hA.out.2.1
          clear hks yk y0 y1 f0 f1 ye hA
          generalize (V5.setCell ⟨n2 + 1, 0, none⟩ (.int .i64 (-1))).setCell ⟨n2 + 1, 1, none⟩ (.int .i64 (yn : Int)) = W6 at hj6 hown6 hk6 hlane6 hl6 hlt6 ⊢
          obtain ⟨⟨k1, k2, k3⟩, hN6⟩ := (HF.out _ _ _ hj6).2
          have yy : W6.cell? ⟨n0, 0, none⟩ = some (.func (.yield lp) #[] #[]) := Blk.cell hown6.y 0
          have yk : W6.cell? ⟨n2, 0, none⟩ = some (.int .i64 (yn : Int)) := Blk.cell hk6 0
          have y0 : W6.cell? ⟨n2 + 1, 0, none⟩ = some (.int .i64 (-1)) := Blk.cell hlane6 0
          have y1 : W6.cell? ⟨n2 + 1, 1, none⟩ = some (.int .i64 (yn : Int)) := Blk.cell hlane6 1
          have HSPAN := Lib.hid (span_any l b1 _ CS c hbig W6.drew k1 (hN6.below ((Below.refl _ W6).drew)) yn hyn)
          have HJ6 := Lib.hid (HJ.out _ _ _ _ hj6 (KeptS.drew (KeptS.refl _ _)))
          have HO6 := Lib.hid ho6
          have HOWN := Lib.hid hown6
          have HL6 := Lib.hid hl6
          have HLL := Lib.hid hlt6
          clear hj6 ho6 hown6 hl6 hk6 hlane6 hN6 k1 k2 hlt6
          gi_upto_region 14 with fail
          refine beginU (fun V : World => V.cell? ⟨n0, 0, none⟩ = some (.func (.yield lp) #[] #[]) ∧ V.cell? ⟨n2, 0, none⟩ = some (.int .i64 (yn : Int)) ∧ V.cell? ⟨n2 + 1, 0, none⟩ = some (.int .i64 (-1)) ∧ V.cell? ⟨n2 + 1, 1, none⟩ = some (.int .i64 (yn : Int)) ∧ V.cell? ⟨b3, 0, none⟩ = some (spanF b1)) 5 (by kernel_rfl) ?_
          have HS : (fun V : World => V.cell? ⟨n0, 0, none⟩ = some (.func (.yield lp) #[] #[]) ∧ V.cell? ⟨n2, 0, none⟩ = some (.int .i64 (yn : Int)) ∧ V.cell? ⟨n2 + 1, 0, none⟩ = some (.int .i64 (-1)) ∧ V.cell? ⟨n2 + 1, 1, none⟩ = some (.int .i64 (yn : Int)) ∧ V.cell? ⟨b3, 0, none⟩ = some (spanF b1)) W6.drew := ⟨yy, yk, y0, y1, k3⟩
          clear yy yk y0 y1 k3
          obtain ⟨W7, hW7⟩ : ∃ W7, W7 = W6.drew := ⟨_, rfl⟩
          have HW7 := Lib.hid hW7
          rw [← hW7] at HSPAN HJ6 HS ⊢
          clear hW7
          (refine takeV (i := 0) (d := 43) (v := ?_) [5] rfl rfl (by kernel_rfl) (by kernel_rfl) (by kernel_rfl) (by kernel_rfl) (by kernel_rfl) (fun _ _ _ h => h) ⟨Or.inl ⟨by kernel_rfl, ?_⟩, fun _ => rfl⟩ HS ?_; rotate_left; (focus (rintro wS ⟨s1, s2, s3, s4, s5⟩; go_simp; try (with_reducible rfl))); (simp only [List.setIfInBounds_toArray, List.set_cons_zero, List.set_cons_succ]))
          (refine takeV (i := 1) (d := 44) (v := ?_) [5] rfl rfl (by kernel_rfl) (by kernel_rfl) (by kernel_rfl) (by kernel_rfl) (by kernel_rfl) (fun _ _ _ h => h) ⟨Or.inl ⟨by kernel_rfl, ?_⟩, fun _ => rfl⟩ HS ?_; rotate_left; (focus (rintro wS ⟨s1, s2, s3, s4, s5⟩; go_simp; try (with_reducible rfl))); (simp only [List.setIfInBounds_toArray, List.set_cons_zero, List.set_cons_succ]))
          (refine takeV (i := 2) (d := 45) (v := ?_) [5, 4] rfl rfl (by kernel_rfl) (by kernel_rfl) (by kernel_rfl) (by kernel_rfl) (by kernel_rfl) (fun _ _ _ h => h) ⟨Or.inl ⟨by kernel_rfl, ?_⟩, fun _ => rfl⟩ HS ?_; rotate_left; (focus (rintro wS ⟨s1, s2, s3, s4, s5⟩; go_simp; try (with_reducible rfl))); (simp only [List.setIfInBounds_toArray, List.set_cons_zero, List.set_cons_succ]))
          (refine takeV (i := 3) (d := 46) (v := ?_) [5, 4] rfl rfl (by kernel_rfl) (by kernel_rfl) (by kernel_rfl) (by kernel_rfl) (by kernel_rfl) (fun _ _ _ h => h) ⟨Or.inl ⟨by kernel_rfl, ?_⟩, fun _ => rfl⟩ HS ?_; rotate_left; (focus (rintro wS ⟨s1, s2, s3, s4, s5⟩; go_simp; try (with_reducible rfl))); (simp only [List.setIfInBounds_toArray, List.set_cons_zero, List.set_cons_succ]))
          dsimp only [spanF]
          (refine oneU (i := 4) rfl (by kernel_rfl) (fun K hK => ?_); go_simp)
          refine (CallsIn.inRound _ (callsIn_wide.2 HSPAN.out)).mono ?_
          rintro e w8 ⟨rfl, rfl⟩
          dsimp only
          (refine hK _ _ ⟨(fun _ => HS), ?_⟩; clear hK K; (try (simp only [List.setIfInBounds_toArray, List.set_cons_zero, List.set_cons_succ])))
          clear HS HSPAN
          obtain ⟨fn, tmps, assign, body, hyy, hRR⟩ := HY.out (pre.flatMap (colsOf l)) (⟨(-1), (yn : Int)⟩, spanK l (yn : Int)) (rest.flatMap (colsOf l)) F5 w8 (by rw [HCOL.out, HC.out]; rfl) HJ6.out
          dsimp only [colV] at hyy
          (refine oneU (i := 5) rfl (by kernel_rfl) (fun K hK => ?_); go_simp)
          refine (roundIn_in _ hRR).mono ?_
          rintro e w9 ⟨hk9, F9, hF9, he9⟩
          have hk96 : KeptS F5 W6 w9 := ((KeptS.refl _ W6).drew).trans (by rw [← HW7.out]; exact hk9)
          have hO9 : Out_ n0 (n0 + 7) F9 := fun k hk => by
            rcases hF9 k hk with h | h
            · exact HO6.out k h
            · rw [HW7.out] at h; exact .inr (Nat.le_trans HLL.out h)
          have hL9 : w9.heap[n0 + 1 + 1 + 3 + 1]? = W2.heap[n0 + 1 + 1 + 3 + 1]? := (hk96.block _ (by have := HLL.out; omega) (fun hf => by have := HO6.out _ hf; omega)).trans HL6.out
          have hO' := HOWN.out.kept hk96 (fun k h1 h2 hf => by have := HO6.out _ hf; omega)
          rcases he9 with ⟨rfl, hJ9⟩ | ⟨rfl, hJ9⟩
          · dsimp only
            have HE9 := Lib.hid (And.intro hL9 (And.intro hJ9 (And.intro hO9 hO')))
            clear hk9 hF9 hk96 hO9 hL9 hO' hJ9 hyy hRR HJ6
            (refine hK _ _ ⟨(no_more (by kernel_rfl)), ?_⟩; clear hK K; (try (simp only [List.setIfInBounds_toArray, List.set_cons_zero, List.set_cons_succ])))
            (refine takeP (i := 6) (d := 49) (v := ?_) rfl rfl (by kernel_rfl) (by kernel_rfl) (by kernel_rfl) (by kernel_rfl) (by kernel_rfl) (fun _ _ _ h => h) ⟨Or.inl ⟨by kernel_rfl, ?_⟩, fun _ => rfl⟩ (no_more (by kernel_rfl)) ?_; rotate_left; (focus (rintro wS -; go_simp; try (with_reducible rfl))); (simp only [List.setIfInBounds_toArray, List.set_cons_zero, List.set_cons_succ]))
            (refine doneU (by kernel_rfl) ?_ _)
            gi_wp2
            refine ⟨HE9.out.1, F9, ?_, HE9.out.2.2.1, HE9.out.2.2.2⟩
            rw [List.flatMap_append, List.flatMap_cons, List.flatMap_nil, List.append_nil, HC.out]
            exact HE9.out.2.1
          · dsimp only
            have HE9 := Lib.hid (And.intro hL9 (And.intro hJ9 (And.intro hO9 hO')))
            clear hk9 hF9 hk96 hO9 hL9 hO' hJ9 hyy hRR HJ6
            (refine hK _ _ ⟨(no_more (by kernel_rfl)), ?_⟩; clear hK K; (try (simp only [List.setIfInBounds_toArray, List.set_cons_zero, List.set_cons_succ])))
            (refine takeP (i := 6) (d := 49) (v := ?_) rfl rfl (by kernel_rfl) (by kernel_rfl) (by kernel_rfl) (by kernel_rfl) (by kernel_rfl) (fun _ _ _ h => h) ⟨Or.inl ⟨by kernel_rfl, ?_⟩, fun _ => rfl⟩ (no_more (by kernel_rfl)) ?_; rotate_left; (focus (rintro wS -; go_simp; try (with_reducible rfl))); (simp only [List.setIfInBounds_toArray, List.set_cons_zero, List.set_cons_succ]))
            (refine doneU (by kernel_rfl) ?_ _)
            gi_wp2
            exact ⟨HE9.out.1, rfl, pre.flatMap (colsOf l), (⟨(-1), (yn : Int)⟩, spanK l (yn : Int)), rest.flatMap (colsOf l), F9, (by rw [HCOL.out, HC.out]; rfl), HE9.out.2.1, HE9.out.2.2.1, HE9.out.2.2.2.mark, HE9.out.2.2.2.size⟩
        · have hie : (kidsK l (yn : Int) [5]).isEmpty = false := by simp [he]
          rw [hie] at ye
          have HC := Lib.hid (HC4.out.trans (by rw [if_neg he]))
          have hA := Lib.hid (And.intro h1 (And.intro h2' (And.intro h4 h6)))
          clear h1 h2' h3 h4 h5 h6 he HC4 hie
          gi_wp2
          refine ⟨hA.out.2.2.2.trans HX.out.symm, F5, ?_, hA.out.2.1, hA.out.2.2.1⟩
          rw [List.flatMap_append, List.flatMap_cons, List.flatMap_nil, List.append_nil, HC.out]
          exact hA.out.1
      case stop2 =>
        rintro cd V5 ⟨rfl, pre2, x, rest2, F5, hx, h1, h2', h3, h4, h5, h6⟩
        have hA := Lib.hid (And.intro hx (And.intro h1 (And.intro h2' (And.intro h4 (And.intro h5 h6)))))
        clear hj5 hown5 gn gl hx5 hl5 HIT2 hfn h2 g7 gk gb hs5 hx h1 h2' h3 h4 h5 h6
        gi_wp2
        exact ⟨hA.out.2.2.2.2.2.trans HX.out.symm, rfl, pre2, x, rest2, F5, hA.out.1, hA.out.2.1, hA.out.2.2.1, hA.out.2.2.2.1, hA.out.2.2.2.2.1⟩
      case round2 =>
        rintro pre2 y2 rest2 V2 hx2 hl3 ⟨F2, h1, h2', h3, h4, h5, h6⟩
        rw [hs5] at hl3 ⊢
        clear hj5 hown5 gn gl hx5 hl5 HIT2 hfn h2 g7 gk gb hs5
        dsimp only [kidV]
        have hyk2 := (kidsIn_of hki (by omega : (0 : Int) ≤ (yn : Int)) (by omega)) y2 ((List.mem_filter.1 (show y2 ∈ kidsK l (yn : Int) [5] by rw [hx2]; simp)).1)
        obtain ⟨cn, rfl⟩ := Int.eq_ofNat_of_zero_le hyk2.1
        have hcn : cn < l.length := by omega
        have hne : kidsK l (yn : Int) [5] ≠ [] := by rw [hx2]; simp
        have hcol2 : colsP l a = (pre.flatMap (colsOf l) ++ inner_ l (yn : Int) pre2) ++ (⟨(cn : Int), (yn : Int)⟩, spanK l (cn : Int)) :: (inner_ l (yn : Int) rest2 ++ rest.flatMap (colsOf l)) := by
          rw [HCOL.out, HC4.out, if_neg hne, hx2]
          simp [inner_]
        have HCOL2 := Lib.hid hcol2
        clear hx2 hyk2 hne hcol2
        gi_wp2
        refine ⟨trivial, ?_⟩
        rintro W3 hb3
        have hj3 := HJ.out _ _ _ _ h1 (hb3.kept (fun hf => by have := h3 _ hf; omega))
        have ho3 := h4.but hb3 (by omega)
        have hr3 := h5.but hb3 (by omega)
        have hx3 := (hb3.heap (n0 + 1 + 1 + 3 + 1) (by omega)).trans h6
        clear hb3 h1 h4 h5 h6 hl3
        have ye : W3.cell? ⟨n2 + 1 + 1, 0, none⟩ = some (.bool pre2.isEmpty) := Blk.cell hr3.em 0
        have fe := Blk.frozen hr3.em 0
        have le3 : n2 + 1 + 1 < W3.heap.size := by have := hr3.size; omega
        have hA := Lib.hid (And.intro hj3 (And.intro ho3 (And.intro hr3 hx3)))
        clear hj3 ho3 hr3 hx3
        gi_upto_region 11 with fail
        have hks : KeptS (fun k => k = n2 + 1 + 1) W3 (W3.setCell ⟨n2 + 1 + 1, 0, none⟩ (.bool false)) := kept_set (S := fun k => k = n2 + 1 + 1) ⟨n2 + 1 + 1, 0, none⟩ rfl _
        have hj6 := HJ.out _ _ _ _ hA.out.1 (hks.mono (S' := fun k => ¬ F2 k) (fun k _ hk hf => by have := h3 _ hf; omega))
        have hown6 := hA.out.2.1.kept hks (fun k h1 h2 e => by omega)
        have hr6 := hA.out.2.2.1.setEm false
        have hl6 := (hks.block (n0 + 1 + 1 + 3 + 1) (by have := hA.out.2.1.size; omega) (by omega)).trans hA.out.2.2.2
        have hp6 := hks.block (n2 + 1 + 1 + 1 + 1 + 3) (by have := hA.out.2.2.1.size; omega) (by omega)
        clear hks ye fe hA
        generalize W3.setCell ⟨n2 + 1 + 1, 0, none⟩ (.bool false) = W6 at hj6 hown6 hr6 hl6 hp6 ⊢
        obtain ⟨⟨k1, k2, k3⟩, hN6⟩ := (HF.out _ _ _ hj6).2
        have yy : W6.cell? ⟨n0, 0, none⟩ = some (.func (.yield lp) #[] #[]) := Blk.cell hown6.y 0
        have yk : W6.cell? ⟨n2, 0, none⟩ = some (.int .i64 (yn : Int)) := Blk.cell hr6.k 0
        have HSPAN := Lib.hid (span_any l b1 _ CS c hbig W6.drew k1 (hN6.below ((Below.refl _ W6).drew)) cn hcn)
        have HJ6 := Lib.hid (HJ.out _ _ _ _ hj6 (KeptS.drew (KeptS.refl _ _)))
        have HA := Lib.hid (And.intro hown6 (And.intro hr6 (And.intro hl6 hp6)))
        clear hj6 hown6 hr6 hl6 hp6 hN6 k1 k2
        refine beginU (fun V : World => V.cell? ⟨n0, 0, none⟩ = some (.func (.yield lp) #[] #[]) ∧ V.cell? ⟨n2, 0, none⟩ = some (.int .i64 (yn : Int)) ∧ V.cell? ⟨b3, 0, none⟩ = some (spanF b1)) 7 (by kernel_rfl) ?_
        have HS : (fun V : World => V.cell? ⟨n0, 0, none⟩ = some (.func (.yield lp) #[] #[]) ∧ V.cell? ⟨n2, 0, none⟩ = some (.int .i64 (yn : Int)) ∧ V.cell? ⟨b3, 0, none⟩ = some (spanF b1)) W6.drew := ⟨yy, yk, k3⟩
        clear yy yk k3
        obtain ⟨W7, hW7⟩ : ∃ W7, W7 = W6.drew := ⟨_, rfl⟩
        have HW7 := Lib.hid hW7
        rw [← hW7] at HSPAN HJ6 HS ⊢
        clear hW7
        (refine takeV (i := 0) (d := 30) (v := ?_) [7] rfl rfl (by kernel_rfl) (by kernel_rfl) (by kernel_rfl) (by kernel_rfl) (by kernel_rfl) (fun _ _ _ h => h) ⟨Or.inl ⟨by kernel_rfl, ?_⟩, fun _ => rfl⟩ HS ?_; rotate_left; (focus (rintro wS ⟨s1, s2, s3⟩; go_simp; try (with_reducible rfl))); (simp only [List.setIfInBounds_toArray, List.set_cons_zero, List.set_cons_succ]))
        (refine takeP (i := 1) (d := 31) (v := ?_) rfl rfl (by kernel_rfl) (by kernel_rfl) (by kernel_rfl) (by kernel_rfl) (by kernel_rfl) (fun _ _ _ h => h) ⟨Or.inl ⟨by kernel_rfl, ?_⟩, fun _ => rfl⟩ (fun _ => HS) ?_; rotate_left; (focus (rintro wS -; go_simp; try (with_reducible rfl))); (simp only [List.setIfInBounds_toArray, List.set_cons_zero, List.set_cons_succ]))
        (refine takeV (i := 2) (d := 32) (v := ?_) [7, 3] rfl rfl (by kernel_rfl) (by kernel_rfl) (by kernel_rfl) (by kernel_rfl) (by kernel_rfl) (fun _ _ _ h => h) ⟨Or.inl ⟨by kernel_rfl, ?_⟩, fun _ => rfl⟩ HS ?_; rotate_left; (focus (rintro wS ⟨s1, s2, s3⟩; go_simp; try (with_reducible rfl))); (simp only [List.setIfInBounds_toArray, List.set_cons_zero, List.set_cons_succ]))
        (refine takeP (i := 3) (d := 33) (v := ?_) rfl rfl (by kernel_rfl) (by kernel_rfl) (by kernel_rfl) (by kernel_rfl) (by kernel_rfl) (fun _ _ _ h => h) ⟨Or.inl ⟨by kernel_rfl, ?_⟩, fun _ => rfl⟩ (fun _ => HS) ?_; rotate_left; (focus (rintro wS -; go_simp; try (with_reducible rfl))); (simp only [List.setIfInBounds_toArray, List.set_cons_zero, List.set_cons_succ]))
        (refine takeV (i := 4) (d := 34) (v := ?_) [7, 6] rfl rfl (by kernel_rfl) (by kernel_rfl) (by kernel_rfl) (by kernel_rfl) (by kernel_rfl) (fun _ _ _ h => h) ⟨Or.inl ⟨by kernel_rfl, ?_⟩, fun _ => rfl⟩ HS ?_; rotate_left; (focus (rintro wS ⟨s1, s2, s3⟩; go_simp; try (with_reducible rfl))); (simp only [List.setIfInBounds_toArray, List.set_cons_zero, List.set_cons_succ]))
        (refine takeP (i := 5) (d := 35) (v := ?_) rfl rfl (by kernel_rfl) (by kernel_rfl) (by kernel_rfl) (by kernel_rfl) (by kernel_rfl) (fun _ _ _ h => h) ⟨Or.inl ⟨by kernel_rfl, ?_⟩, fun _ => rfl⟩ (fun _ => HS) ?_; rotate_left; (focus (rintro wS -; go_simp; try (with_reducible rfl))); (simp only [List.setIfInBounds_toArray, List.set_cons_zero, List.set_cons_succ]))
        dsimp only [spanF]
        (refine oneU (i := 6) rfl (by kernel_rfl) (fun K hK => ?_); go_simp)
        refine (CallsIn.inRound _ (callsIn_wide.2 HSPAN.out)).mono ?_
        rintro e w8 ⟨rfl, rfl⟩
        dsimp only
        (refine hK _ _ ⟨(fun _ => HS), ?_⟩; clear hK K; (try (simp only [List.setIfInBounds_toArray, List.set_cons_zero, List.set_cons_succ])))
        clear HS HSPAN
        obtain ⟨fn, tmps, assign, body, hyy, hRR⟩ := HY.out _ _ _ F2 w8 HCOL2.out HJ6.out
        dsimp only [colV] at hyy
        (refine oneU (i := 7) rfl (by kernel_rfl) (fun K hK => ?_); go_simp)
        refine (roundIn_in _ hRR).mono ?_
        rintro e w9 ⟨hk9, F9, hF9, he9⟩
        have hk96 : KeptS F2 W6 w9 := ((KeptS.refl _ W6).drew).trans (by rw [← HW7.out]; exact hk9)
        have hsz : n2 + 8 ≤ w8.heap.size := by rw [HW7.out]; exact HA.out.2.1.size
        have hO9 : Out_ n0 (n0 + 7) F9 := fun k hk => by
          rcases hF9 k hk with h | h
          · exact h2' k h
          · exact .inr (by omega)
        have hO9b : Out_ n2 (n2 + 8) F9 := fun k hk => by
          rcases hF9 k hk with h | h
          · exact h3 k h
          · exact .inr (by omega)
        have hL9 := (hk96.block (n0 + 1 + 1 + 3 + 1) (by have := HA.out.1.size; omega) (fun hf => by have := h2' _ hf; omega)).trans HA.out.2.2.1
        have hP9 := (hk96.block (n2 + 1 + 1 + 1 + 1 + 3) (by have := HA.out.2.1.size; omega) (fun hf => by have := h3 _ hf; omega)).trans HA.out.2.2.2
        have hO' := HA.out.1.kept hk96 (fun k h1 h2 hf => by have := h2' _ hf; omega)
        have hR' := HA.out.2.1.kept hk96 (fun k h1 h2 hf => by have := h3 _ hf; omega)
        have HE9 := Lib.hid (And.intro hL9 (And.intro hP9 (And.intro hO9 (And.intro hO9b (And.intro hO' hR')))))
        clear hk9 hF9 hk96 hO9 hO9b hL9 hP9 hO' hR' hyy hRR HJ6 HA hsz
        rcases he9 with ⟨rfl, hJ9⟩ | ⟨rfl, hJ9⟩
        · dsimp only
          have HJ9 := Lib.hid hJ9
          clear hJ9
          (refine hK _ _ ⟨(no_more (by kernel_rfl)), ?_⟩; clear hK K; (try (simp only [List.setIfInBounds_toArray, List.set_cons_zero, List.set_cons_succ])))
          (refine takeP (i := 8) (d := 38) (v := ?_) rfl rfl (by kernel_rfl) (by kernel_rfl) (by kernel_rfl) (by kernel_rfl) (by kernel_rfl) (fun _ _ _ h => h) ⟨Or.inl ⟨by kernel_rfl, ?_⟩, fun _ => rfl⟩ (no_more (by kernel_rfl)) ?_; rotate_left; (focus (rintro wS -; go_simp; try (with_reducible rfl))); (simp only [List.setIfInBounds_toArray, List.set_cons_zero, List.set_cons_succ]))
          (refine doneU (by kernel_rfl) ?_ _)
          gi_wp2
          refine ⟨HE9.out.2.1, F9, ?_, HE9.out.2.2.1, HE9.out.2.2.2.1, HE9.out.2.2.2.2.1, ?_, HE9.out.1⟩
          · rw [show inner_ l (yn : Int) (pre2 ++ [(cn : Int)]) = inner_ l (yn : Int) pre2 ++ [(⟨(cn : Int), (yn : Int)⟩, spanK l (cn : Int))] by simp [inner_], ← List.append_assoc]
            exact HJ9.out
          · rw [show (pre2 ++ [(cn : Int)]).isEmpty = false by simp]
            exact HE9.out.2.2.2.2.2
        · dsimp only
          have HJ9 := Lib.hid hJ9
          clear hJ9
          (refine hK _ _ ⟨(no_more (by kernel_rfl)), ?_⟩; clear hK K; (try (simp only [List.setIfInBounds_toArray, List.set_cons_zero, List.set_cons_succ])))
          (refine takeP (i := 8) (d := 38) (v := ?_) rfl rfl (by kernel_rfl) (by kernel_rfl) (by kernel_rfl) (by kernel_rfl) (by kernel_rfl) (fun _ _ _ h => h) ⟨Or.inl ⟨by kernel_rfl, ?_⟩, fun _ => rfl⟩ (no_more (by kernel_rfl)) ?_; rotate_left; (focus (rintro wS -; go_simp; try (with_reducible rfl))); (simp only [List.setIfInBounds_toArray, List.set_cons_zero, List.set_cons_succ]))
          (refine doneU (by kernel_rfl) ?_ _)
          gi_wp2
          exact ⟨HE9.out.2.1, rfl, _, _, _, F9, HCOL2.out, HJ9.out, HE9.out.2.2.1, HE9.out.2.2.2.1, HE9.out.2.2.2.2.1.mark, HE9.out.2.2.2.2.1.size, HE9.out.1⟩
    · have hd4 : (z.f0 == 4) = false := beq_eq_false_iff_ne.2 q4
      have hd5 : (z.f0 == 5) = true := beq_iff_eq.2 (by omega)
      have HC := Lib.hid (show colsOf l (yn : Int) = [(⟨(yn : Int), -1⟩, spanK l (yn : Int))] by unfold colsOf; rw [if_neg (by omega)])
      clear hks q4 hkz
      gi_upto_region 4 with fail
      have hka : KeptS (fun _ => False) W2 (W2.alloc (.cells #[.int .i64 (yn : Int), .int .i64 (-1)] 35)) := (KeptS.refl _ _).alloc _
      have hj6 := HJ.out _ _ _ _ HJ2.out (hka.mono (S' := fun k => ¬ F k) (fun _ _ h => h.elim))
      have hown6 := HOWN2.out.kept hka (fun _ _ _ h => h)
      have hk6 := hka.blk HK2.out (fun h => h)
      have hlane6 := Blk.new W2 35 #[.int .i64 (yn : Int), .int .i64 (-1)]
      have hl6 : (W2.alloc (.cells #[.int .i64 (yn : Int), .int .i64 (-1)] 35)).heap[n0 + 1 + 1 + 3 + 1]? = W2.heap[n0 + 1 + 1 + 3 + 1]? := hka.block _ (by omega) (fun h => h)
      have hlt6 : n0 + 7 ≤ (W2.alloc (.cells #[.int .i64 (yn : Int), .int .i64 (-1)] 35)).heap.size := by simp; omega
      have ho6 := h2
      have hz6 : (W2.alloc (.cells #[.int .i64 (yn : Int), .int .i64 (-1)] 35)).cell? (ad2.add (yn * 34)) = some (.int .i64 z.f0) := (World.cell?_alloc_lt _ _ _ (World.block_lt_of_cell? W2 _ hz0)).trans hz0
      have k16 : (W2.alloc (.cells #[.int .i64 (yn : Int), .int .i64 (-1)] 35)).cell? ⟨b1, 0, none⟩ = some (.slice (some ad2) l.length c) := (World.cell?_alloc_lt _ _ _ lb1).trans k1
      have yk6 : (W2.alloc (.cells #[.int .i64 (yn : Int), .int .i64 (-1)] 35)).cell? ⟨n2, 0, none⟩ = some (.int .i64 (yn : Int)) := Blk.cell hk6 0
      rw [hs2] at hlane6
      clear HK2 HOWN2 hz0 k1 k3 yk h2 hka
      generalize W2.alloc (.cells #[.int .i64 (yn : Int), .int .i64 (-1)] 35) = W6 at hj6 hown6 hk6 hlane6 hl6 hlt6 hz6 k16 yk6 ⊢
      obtain ⟨⟨k1, k2, k3⟩, hN6⟩ := (HF.out _ _ _ hj6).2
      have yy : W6.cell? ⟨n0, 0, none⟩ = some (.func (.yield lp) #[] #[]) := Blk.cell hown6.y 0
      have yk : W6.cell? ⟨n2, 0, none⟩ = some (.int .i64 (yn : Int)) := Blk.cell hk6 0
      have y0 : W6.cell? ⟨n2 + 1, 0, none⟩ = some (.int .i64 (yn : Int)) := Blk.cell hlane6 0
      have y1 : W6.cell? ⟨n2 + 1, 1, none⟩ = some (.int .i64 (-1)) := Blk.cell hlane6 1
      have HSPAN := Lib.hid (span_any l b1 _ CS c hbig W6.drew k1 (hN6.below ((Below.refl _ W6).drew)) yn hyn)
      have HJ6 := Lib.hid (HJ.out _ _ _ _ hj6 (KeptS.drew (KeptS.refl _ _)))
      have HO6 := Lib.hid ho6
      have HOWN := Lib.hid hown6
      have HL6 := Lib.hid hl6
      have HLL := Lib.hid hlt6
      clear hj6 ho6 hown6 hl6 hk6 hlane6 hN6 k1 k2 hlt6
      gi_upto_region 14 with fail
      refine beginU (fun V : World => V.cell? ⟨n0, 0, none⟩ = some (.func (.yield lp) #[] #[]) ∧ V.cell? ⟨n2, 0, none⟩ = some (.int .i64 (yn : Int)) ∧ V.cell? ⟨n2 + 1, 0, none⟩ = some (.int .i64 (yn : Int)) ∧ V.cell? ⟨n2 + 1, 1, none⟩ = some (.int .i64 (-1)) ∧ V.cell? ⟨b3, 0, none⟩ = some (spanF b1)) 5 (by kernel_rfl) ?_
      have HS : (fun V : World => V.cell? ⟨n0, 0, none⟩ = some (.func (.yield lp) #[] #[]) ∧ V.cell? ⟨n2, 0, none⟩ = some (.int .i64 (yn : Int)) ∧ V.cell? ⟨n2 + 1, 0, none⟩ = some (.int .i64 (yn : Int)) ∧ V.cell? ⟨n2 + 1, 1, none⟩ = some (.int .i64 (-1)) ∧ V.cell? ⟨b3, 0, none⟩ = some (spanF b1)) W6.drew := ⟨yy, yk, y0, y1, k3⟩
      clear yy yk y0 y1 k3
      obtain ⟨W7, hW7⟩ : ∃ W7, W7 = W6.drew := ⟨_, rfl⟩
      have HW7 := Lib.hid hW7
      rw [← hW7] at HSPAN HJ6 HS ⊢
      clear hW7
      (refine takeV (i := 0) (d := 43) (v := ?_) [5] rfl rfl (by kernel_rfl) (by kernel_rfl) (by kernel_rfl) (by kernel_rfl) (by kernel_rfl) (fun _ _ _ h => h) ⟨Or.inl ⟨by kernel_rfl, ?_⟩, fun _ => rfl⟩ HS ?_; rotate_left; (focus (rintro wS ⟨s1, s2, s3, s4, s5⟩; go_simp; try (with_reducible rfl))); (simp only [List.setIfInBounds_toArray, List.set_cons_zero, List.set_cons_succ]))
      (refine takeV (i := 1) (d := 44) (v := ?_) [5] rfl rfl (by kernel_rfl) (by kernel_rfl) (by kernel_rfl) (by kernel_rfl) (by kernel_rfl) (fun _ _ _ h => h) ⟨Or.inl ⟨by kernel_rfl, ?_⟩, fun _ => rfl⟩ HS ?_; rotate_left; (focus (rintro wS ⟨s1, s2, s3, s4, s5⟩; go_simp; try (with_reducible rfl))); (simp only [List.setIfInBounds_toArray, List.set_cons_zero, List.set_cons_succ]))
      (refine takeV (i := 2) (d := 45) (v := ?_) [5, 4] rfl rfl (by kernel_rfl) (by kernel_rfl) (by kernel_rfl) (by kernel_rfl) (by kernel_rfl) (fun _ _ _ h => h) ⟨Or.inl ⟨by kernel_rfl, ?_⟩, fun _ => rfl⟩ HS ?_; rotate_left; (focus (rintro wS ⟨s1, s2, s3, s4, s5⟩; go_simp; try (with_reducible rfl))); (simp only [List.setIfInBounds_toArray, List.set_cons_zero, List.set_cons_succ]))
      (refine takeV (i := 3) (d := 46) (v := ?_) [5, 4] rfl rfl (by kernel_rfl) (by kernel_rfl) (by kernel_rfl) (by kernel_rfl) (by kernel_rfl) (fun _ _ _ h => h) ⟨Or.inl ⟨by kernel_rfl, ?_⟩, fun _ => rfl⟩ HS ?_; rotate_left; (focus (rintro wS ⟨s1, s2, s3, s4, s5⟩; go_simp; try (with_reducible rfl))); (simp only [List.setIfInBounds_toArray, List.set_cons_zero, List.set_cons_succ]))
      dsimp only [spanF]
      (refine oneU (i := 4) rfl (by kernel_rfl) (fun K hK => ?_); go_simp)
      refine (CallsIn.inRound _ (callsIn_wide.2 HSPAN.out)).mono ?_
      rintro e w8 ⟨rfl, rfl⟩
      dsimp only
      (refine hK _ _ ⟨(fun _ => HS), ?_⟩; clear hK K; (try (simp only [List.setIfInBounds_toArray, List.set_cons_zero, List.set_cons_succ])))
      clear HS HSPAN
      obtain ⟨fn, tmps, assign, body, hyy, hRR⟩ := HY.out (pre.flatMap (colsOf l)) (⟨(yn : Int), (-1)⟩, spanK l (yn : Int)) (rest.flatMap (colsOf l)) F w8 (by rw [HCOL.out, HC.out]; rfl) HJ6.out
      dsimp only [colV] at hyy
      (refine oneU (i := 5) rfl (by kernel_rfl) (fun K hK => ?_); go_simp)
      refine (roundIn_in _ hRR).mono ?_
      rintro e w9 ⟨hk9, F9, hF9, he9⟩
      have hk96 : KeptS F W6 w9 := ((KeptS.refl _ W6).drew).trans (by rw [← HW7.out]; exact hk9)
      have hO9 : Out_ n0 (n0 + 7) F9 := fun k hk => by
        rcases hF9 k hk with h | h
        · exact HO6.out k h
        · rw [HW7.out] at h; exact .inr (Nat.le_trans HLL.out h)
      have hL9 : w9.heap[n0 + 1 + 1 + 3 + 1]? = W2.heap[n0 + 1 + 1 + 3 + 1]? := (hk96.block _ (by have := HLL.out; omega) (fun hf => by have := HO6.out _ hf; omega)).trans HL6.out
      have hO' := HOWN.out.kept hk96 (fun k h1 h2 hf => by have := HO6.out _ hf; omega)
      rcases he9 with ⟨rfl, hJ9⟩ | ⟨rfl, hJ9⟩
      · dsimp only
        have HE9 := Lib.hid (And.intro hL9 (And.intro hJ9 (And.intro hO9 hO')))
        clear hk9 hF9 hk96 hO9 hL9 hO' hJ9 hyy hRR HJ6
        (refine hK _ _ ⟨(no_more (by kernel_rfl)), ?_⟩; clear hK K; (try (simp only [List.setIfInBounds_toArray, List.set_cons_zero, List.set_cons_succ])))
        (refine takeP (i := 6) (d := 49) (v := ?_) rfl rfl (by kernel_rfl) (by kernel_rfl) (by kernel_rfl) (by kernel_rfl) (by kernel_rfl) (fun _ _ _ h => h) ⟨Or.inl ⟨by kernel_rfl, ?_⟩, fun _ => rfl⟩ (no_more (by kernel_rfl)) ?_; rotate_left; (focus (rintro wS -; go_simp; try (with_reducible rfl))); (simp only [List.setIfInBounds_toArray, List.set_cons_zero, List.set_cons_succ]))
        (refine doneU (by kernel_rfl) ?_ _)
        gi_wp2
        refine ⟨HE9.out.1, F9, ?_, HE9.out.2.2.1, HE9.out.2.2.2⟩
        rw [List.flatMap_append, List.flatMap_cons, List.flatMap_nil, List.append_nil, HC.out]
        exact HE9.out.2.1
      · dsimp only
        have HE9 := Lib.hid (And.intro hL9 (And.intro hJ9 (And.intro hO9 hO')))
        clear hk9 hF9 hk96 hO9 hL9 hO' hJ9 hyy hRR HJ6
        (refine hK _ _ ⟨(no_more (by kernel_rfl)), ?_⟩; clear hK K; (try (simp only [List.setIfInBounds_toArray, List.set_cons_zero, List.set_cons_succ])))
        (refine takeP (i := 6) (d := 49) (v := ?_) rfl rfl (by kernel_rfl) (by kernel_rfl) (by kernel_rfl) (by kernel_rfl) (by kernel_rfl) (fun _ _ _ h => h) ⟨Or.inl ⟨by kernel_rfl, ?_⟩, fun _ => rfl⟩ (no_more (by kernel_rfl)) ?_; rotate_left; (focus (rintro wS -; go_simp; try (with_reducible rfl))); (simp only [List.setIfInBounds_toArray, List.set_cons_zero, List.set_cons_succ]))
        (refine doneU (by kernel_rfl) ?_ _)
        gi_wp2
        exact ⟨HE9.out.1, rfl, pre.flatMap (colsOf l), (⟨(yn : Int), (-1)⟩, spanK l (yn : Int)), rest.flatMap (colsOf l), F9, (by rw [HCOL.out, HC.out]; rfl), HE9.out.2.1, HE9.out.2.2.1, HE9.out.2.2.2.mark, HE9.out.2.2.2.size⟩
end Go.Proofs.Ytdmnaehgngpikaa.K
