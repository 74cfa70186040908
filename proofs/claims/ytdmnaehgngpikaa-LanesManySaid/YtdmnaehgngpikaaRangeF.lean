/- A second law for 'for x := range seq { .. }' at the wide fence, for an iterator that has blocks of its own into which it stores between its rounds: what the caller cares of is a set of blocks. No program in sight. -/
import Derived.Test.YtdmnaehgngpikaaRange
namespace Go.Proofs.Ytdmnaehgngpikaa
open Go.RowKit
set_option linter.unusedVariables false
set_option linter.unusedSimpArgs false
/-- all old blocks but those that S names are as they were -/
structure KeptS (S : Nat → Prop) (w W : World) : Prop where
  size : w.heap.size ≤ W.heap.size
  os : W.os = w.os
  tape : W.tape = w.tape
  output : W.output = w.output
  block : ∀ k, k < w.heap.size → ¬ S k → W.heap[k]? = w.heap[k]?
section
variable {S : Nat → Prop} {w W V : World}
theorem KeptS.refl (S : Nat → Prop) (w : World) : KeptS S w w := ⟨Nat.le_refl _, rfl, rfl, rfl, fun _ _ _ => rfl⟩
theorem KeptS.trans (h : KeptS S w W) (k : KeptS S W V) : KeptS S w V := ⟨Nat.le_trans h.size k.size, k.os.trans h.os, k.tape.trans h.tape, k.output.trans h.output, fun q hq hs => (k.block q (by have := h.size; omega) hs).trans (h.block q hq hs)⟩
theorem KeptS.mono {S' : Nat → Prop} (h : KeptS S w W) (hs : ∀ k, k < w.heap.size → S k → S' k) : KeptS S' w W := ⟨h.size, h.os, h.tape, h.output, fun k hk hn => h.block k hk (fun hS => hn (hs k hk hS))⟩
theorem KeptS.alloc (h : KeptS S w W) (o : Obj) : KeptS S w (W.alloc o) := ⟨by have := h.size; simp; omega, h.os, h.tape, h.output, fun k hk hs => (Below.heap_alloc W o k (by have := h.size; omega)).trans (h.block k hk hs)⟩
theorem KeptS.drew (h : KeptS S w W) : KeptS S w W.drew := ⟨h.size, h.os, h.tape, h.output, h.block⟩
theorem KeptS.setCell (h : KeptS S w W) {p : Addr} (hp : ∀ k, k < w.heap.size → ¬ S k → k ≠ p.block) (v : Value) : KeptS S w (W.setCell p v) :=
  ⟨by have := h.size; simpa using this, h.os, h.tape, h.output, fun k hk hs => (heap_setCell_other W p k v (hp k hk hs)).trans (h.block k hk hs)⟩
theorem KeptS.of_below (hb : Below w.heap.size w W) : KeptS S w W := ⟨hb.size, hb.os, hb.tape, hb.output, fun k hk _ => hb.block k hk⟩
theorem KeptS.put {l : Nat} (hl : S l) (o : Obj) : KeptS S w (w.putObj l o) := ⟨by simp, rfl, rfl, rfl, fun k _ hs => World.putObj_heap_other (fun e => hs (e ▸ hl))⟩
theorem KeptS.grown (h : KeptS S w W) {n : Nat} (hb : Below n W V) {row : Option Nat} (hg : W.grownBy V row) (hp : ∀ k, k < w.heap.size → ¬ S k → some k ≠ row) : KeptS S w V :=
  ⟨Nat.le_trans h.size hb.size, hb.os.trans h.os, hb.tape.trans h.tape, hb.output.trans h.output, fun k hk hs => (hg.block k (by have := h.size; omega) (hp k hk hs)).trans (h.block k hk hs)⟩
theorem KeptS.blk {b t : Nat} {cs : Array Value} (h : KeptS S w W) (hb : Blk w b t cs) (hS : ¬ S b) : Blk W b t cs := (h.block b (Blk.lt hb) hS).trans hb
theorem KeptS.boxed {b : Nat} {o : Obj} (h : KeptS S w W) (hb : w.heap[b]? = some o) (hS : ¬ S b) : W.heap[b]? = some o := (h.block b (Array.getElem?_eq_some_iff.1 hb).1 hS).trans hb
end
/-- what F names is as it was, but for book-keeping from block B on -/
structure KeepsF (B : Nat) (F : Nat → Prop) (W W' : World) : Prop where
  size : W.heap.size ≤ W'.heap.size
  os : W'.os = W.os
  tape : W'.tape = W.tape
  output : W'.output = W.output
  block : ∀ k, F k → W'.heap[k]? = W.heap[k]? ∨ (B ≤ k ∧ ∃ o, W.heap[k]? = some o ∧ isBook o = true)
theorem KeepsF.of_kept {B : Nat} {F : Nat → Prop} {W W' : World} (h : KeptS (fun k => ¬ F k) W W') (hF : ∀ k, F k → k < W.heap.size) : KeepsF B F W W' :=
  ⟨h.size, h.os, h.tape, h.output, fun k hk => .inl (h.block k (hF k hk) (fun hn => hn hk))⟩
theorem KeepsF.of_put {B l : Nat} {F : Nat → Prop} {W : World} {o : Obj} (o' : Obj) (hB : B ≤ l) (hl : W.heap[l]? = some o) (ho : isBook o = true) : KeepsF B F W (W.putObj l o') :=
  ⟨by simp, rfl, rfl, rfl, fun k _ => by
    by_cases e : k = l
    · subst e; exact .inr ⟨hB, o, hl, ho⟩
    · exact .inl (World.putObj_heap_other e)⟩
theorem KeepsF.blk {B : Nat} {F : Nat → Prop} {W W' : World} {b t : Nat} {cs : Array Value} (h : KeepsF B F W W') (hF : F b) (hb : Blk W b t cs) : Blk W' b t cs := by
  rcases h.block b hF with e | ⟨_, o, ho, hbk⟩
  · exact e.trans hb
  · rw [show W.heap[b]? = _ from hb] at ho; cases ho; cases hbk
theorem KeepsF.below {B n : Nat} {F : Nat → Prop} {w W W' : World} (h : KeepsF B F W W') (hF : ∀ k, k < n → F k) (hB : n ≤ B) (hb : Below n w W) : Below n w W' :=
  ⟨h.os.trans hb.os, h.tape.trans hb.tape, h.output.trans hb.output, Nat.le_trans hb.size h.size, fun k hk => by
    rcases h.block k (hF k hk) with e | ⟨h1, _⟩
    · exact e.trans (hb.block k hk)
    · omega⟩
/-- an iterator's contract over a known list; F: the blocks that its caller cares of -/
def IterF {α : Type} (P : Program) (gf : Nat) (lb : Array Value) (encs : α → Array Value) (xs : List α) (Rd : World → Prop) : Prop :=
  ∀ (l : Nat) (J Jx : List α → (Nat → Prop) → World → Prop) (F0 : Nat → Prop) (W : World),
    (∀ s F A B, J s F A → KeptS (fun k => ¬ F k) A B → J s F B) → (∀ s F A B, Jx s F A → KeptS (fun k => ¬ F k) A B → Jx s F B) →
    (∀ s F A, J s F A → (∀ k, F k → k < A.heap.size) ∧ Rd A) → (∀ s F A, Jx s F A → (∀ k, F k → k < A.heap.size)) →
    (∀ pre x rest F A, xs = pre ++ x :: rest → J pre F A → YieldAt Fence.wide 0 P l (encs x) A fun e B =>
      KeptS F A B ∧ ∃ F', (∀ k, F' k → F k ∨ A.heap.size ≤ k) ∧ ((e = .returned (.bool true) ∧ J (pre ++ [x]) F' B) ∨ (e = .returned (.bool false) ∧ Jx (pre ++ [x]) F' B))) →
    J [] F0 W →
    Calls P gf (#[.func (.yield l) #[] #[]] ++ lb) W fun e B => (∃ v, e = .returned v) ∧ ∃ F, (J xs F B ∨ ∃ pre x rest, xs = pre ++ x :: rest ∧ Jx (pre ++ [x]) F B)
/-- how a round's body may end; n: the heap's size ahead of the iterator; G: the blocks made in rounds that matter; W: the world at the round's begin, W2: behind the parameters -/
def roundEndF {α : Type} (I : List α → (Nat → Prop) → World → Prop) (Ix : Code → (Nat → Prop) → World → Prop) (n : Nat) (G : Nat → Prop) (xs : List α) (W W2 : World) : Exit → Act → World → Prop
  | .normal, _, W' => KeepBook W2 W' ∧ KeptS (fun k => k < n ∨ G k) W2 W' ∧ ∃ G', (∀ k, G' k → (G k ∨ W.heap.size ≤ k) ∧ k < W'.heap.size) ∧ I xs G' W'
  | .ret, _, W' => KeepBook W2 W' ∧ KeptS (fun k => k < n ∨ G k) W2 W' ∧ ∃ G', (∀ k, G' k → (G k ∨ W.heap.size ≤ k) ∧ k < W'.heap.size) ∧ Ix .ret G' W'
  | .exit id, _, W' => KeepBook W2 W' ∧ KeptS (fun k => k < n ∨ G k) W2 W' ∧ ∃ G', (∀ k, G' k → (G k ∨ W.heap.size ≤ k) ∧ k < W'.heap.size) ∧ Ix (.exit id) G' W'
  | .goto t, _, W' => KeepBook W2 W' ∧ KeptS (fun k => k < n ∨ G k) W2 W' ∧ ∃ G', (∀ k, G' k → (G k ∨ W.heap.size ≤ k) ∧ k < W'.heap.size) ∧ Ix (.goto t) G' W'
  | .panic _, _, _ => False
  | .outgrown, _, _ => False
section
variable {P : Program} {α : Type}
theorem range_coreF {gf : Nat} {lb : Array Value} {encs : α → Array Value} {xs : List α} {Rd : World → Prop} (hit : IterF P gf lb encs xs Rd)
    {fn : FuncId} {tmps : Array Value} {ps : Array Tmp} {assign body : Code} {dd B l : Nat} {W1 : World} (hB : B ≤ l)
    (hL : W1.heap[l]? = some (.loop { state := .ready, pending := none, fn, tmps, params := ps, assign, body, defers := dd }))
    (hps : ∀ x, (encs x).size = ps.size)
    (I : List α → (Nat → Prop) → World → Prop) (Ix : Code → (Nat → Prop) → World → Prop)
    (hI : ∀ s G W W', I s G W → KeepsF B (fun k => k < W1.heap.size ∨ G k) W W' → I s G W') (hIx : ∀ s G W W', Ix s G W → KeepsF B (fun k => k < W1.heap.size ∨ G k) W W' → Ix s G W')
    (hRd : ∀ pre G A, I pre G A → Rd A) (h0 : I [] (fun _ => False) W1)
    (hround : ∀ pre x rest G W, xs = pre ++ x :: rest → (∃ r, W.heap[l]? = some (.loop r)) → W1.heap.size ≤ W.heap.size → (∀ k, G k → k < W.heap.size) → I pre G W →
      assign.wpIn (Fence.wide.inRound l) 0 P (Exit.then (fun a1 Wa => KeepBook W Wa ∧ KeptS (fun k => k < W1.heap.size ∨ G k) W Wa ∧ ∀ W2, SameBut B Wa W2 → (∃ r, W2.heap[l]? = some (.loop r)) → body.wpIn (Fence.wide.inRound l) 0 P (roundEndF I Ix W1.heap.size G (pre ++ [x]) W W2) a1 W2) (fun _ _ _ => False))
        { tmps := (ps.zip (encs x)).foldl (fun t (p, v) => t.setIfInBounds p v) tmps, defers := [] } W) :
    Calls P gf (#[.func (.yield l) #[] #[]] ++ lb) W1 fun e W2 => (∃ v, e = .returned v) ∧ ∃ G,
      ((I xs G W2 ∧ KeepBook W1 W2 ∧ W2.heap[l]? = some (.loop { state := .ready, pending := none, fn, tmps, params := ps, assign, body, defers := dd })) ∨
       (∃ c, Ix c G W2 ∧ (∀ k o, k ≠ l → W1.heap[k]? = some o → isBook o = true → W2.heap[k]? = some o) ∧ W2.heap[l]? = some (.loop { state := .done, pending := some c, fn, tmps, params := ps, assign, body, defers := dd }))) := by
  obtain ⟨rec, hrec⟩ : ∃ rec : LoopState → Option Code → Loop, rec = fun st pe => { state := st, pending := pe, fn, tmps, params := ps, assign, body, defers := dd } := ⟨_, rfl⟩
  have hL' : W1.heap[l]? = some (.loop (rec .ready none)) := by rw [hrec]; exact hL
  have hl1 := (Array.getElem?_eq_some_iff.1 hL').1
  refine (hit l (fun pre F W => ∃ G, F = (fun k => k < W1.heap.size ∨ G k) ∧ I pre G W ∧ KeepBook W1 W ∧ W.heap[l]? = some (.loop (rec .ready none)) ∧ W1.heap.size ≤ W.heap.size ∧ ∀ k, G k → k < W.heap.size)
    (fun _ F W => ∃ G c, F = (fun k => k < W1.heap.size ∨ G k) ∧ Ix c G W ∧ (∀ k o, k ≠ l → W1.heap[k]? = some o → isBook o = true → W.heap[k]? = some o) ∧ W.heap[l]? = some (.loop (rec .done (some c))) ∧ W1.heap.size ≤ W.heap.size ∧ ∀ k, G k → k < W.heap.size)
    (fun k => k < W1.heap.size ∨ False) W1 ?_ ?_ ?_ ?_ ?_ ⟨fun _ => False, rfl, h0, KeepBook.refl _, hL', Nat.le_refl _, fun _ h => h.elim⟩).mono ?_
  · rintro s F A B' ⟨G, rfl, h1, h2, h3, h4, h5⟩ hk
    have hF : ∀ k, (k < W1.heap.size ∨ G k) → k < A.heap.size := fun k h => h.elim (fun h => by omega) (h5 k)
    exact ⟨G, rfl, hI _ _ _ _ h1 (.of_kept hk hF), ⟨by have := hk.size; have := h2.size; omega, fun k o hko hb => (hk.block k (by have := (Array.getElem?_eq_some_iff.1 hko).1; omega) (fun hn => hn (.inl (Array.getElem?_eq_some_iff.1 hko).1))).trans (h2.same k o hko hb)⟩,
      (hk.block l (by omega) (fun hn => hn (.inl hl1))).trans h3, by have := hk.size; omega, fun k hG => by have := h5 k hG; have := hk.size; omega⟩
  · rintro s F A B' ⟨G, c, rfl, h1, h2, h3, h4, h5⟩ hk
    have hF : ∀ k, (k < W1.heap.size ∨ G k) → k < A.heap.size := fun k h => h.elim (fun h => by omega) (h5 k)
    exact ⟨G, c, rfl, hIx _ _ _ _ h1 (.of_kept hk hF), fun k o hne hko hb => (hk.block k (by have := (Array.getElem?_eq_some_iff.1 hko).1; omega) (fun hn => hn (.inl (Array.getElem?_eq_some_iff.1 hko).1))).trans (h2 k o hne hko hb),
      (hk.block l (by omega) (fun hn => hn (.inl hl1))).trans h3, by have := hk.size; omega, fun k hG => by have := h5 k hG; have := hk.size; omega⟩
  · rintro s F A ⟨G, rfl, h1, h2, h3, h4, h5⟩
    exact ⟨fun k h => h.elim (fun h => by omega) (h5 k), hRd _ _ _ h1⟩
  · rintro s F A ⟨G, c, rfl, h1, h2, h3, h4, h5⟩
    exact fun k h => h.elim (fun h => by omega) (h5 k)
  · rintro pre x rest F W hx ⟨G, rfl, hi, hk, hl, hsz, hG⟩
    have hy := run_yield (P := P) (args := encs x) hl (by rw [hrec]; exact hps x)
    rw [hrec] at hy
    refine ⟨fn, _, assign, body, hy, roundIn_of_wpIn trivial (wpIn_mono (hround pre x rest G W hx ⟨_, hl⟩ hsz hG hi) ?_)⟩
    clear hy
    rintro e a1 Wa hq
    cases e with
    | normal =>
      obtain ⟨hka, hkf, hbody⟩ := hq
      have hla := hka.same l _ hl rfl
      refine ⟨_, run_beginRound hla (by rw [hrec]), ?_⟩
      have hlt := (Array.getElem?_eq_some_iff.1 hla).1
      have hl2 : (Wa.putObj l (.loop { rec .ready none with state := .busy })).heap[l]? = some (.loop { rec .ready none with state := .busy }) := World.putObj_heap_same hlt
      refine wpIn_mono (hbody _ (sameBut_putObj _ hB hla rfl rfl) ⟨_, hl2⟩) ?_
      have fin : ∀ (jump : Option Code) (W3 : World), KeepBook (Wa.putObj l (.loop { rec .ready none with state := .busy })) W3 →
          (Instr.endRound l jump).run P W3 = .ok (.bool jump.isNone) (W3.putObj l (.loop (rec (if jump.isNone then .ready else .done) jump))) ∧
          W3.heap[l]? = some (.loop { rec .ready none with state := .busy }) ∧
          (W3.putObj l (.loop (rec (if jump.isNone then .ready else .done) jump))).heap[l]? = some (.loop (rec (if jump.isNone then .ready else .done) jump)) ∧
          (∀ k o, k ≠ l → W1.heap[k]? = some o → isBook o = true → (W3.putObj l (.loop (rec (if jump.isNone then .ready else .done) jump))).heap[k]? = some o) := fun jump W3 hk3 => by
        have hl3 := hk3.same _ _ hl2 rfl
        have := run_endRound (P := P) jump hl3
        rw [hrec] at this ⊢
        refine ⟨this, by rw [hrec] at hl3; exact hl3, World.putObj_heap_same (Array.getElem?_eq_some_iff.1 hl3).1, fun k o hne hko ho => ?_⟩
        have h1 := hka.same k o (hk.same k o hko ho) ho
        have h2 : (Wa.putObj l (.loop { rec .ready none with state := .busy })).heap[k]? = some o := (World.putObj_heap_other hne).trans h1
        exact (World.putObj_heap_other hne).trans (hk3.same k o h2 ho)
      have kf : ∀ (W3 : World) (o : Obj), KeptS (fun k => k < W1.heap.size ∨ G k) (Wa.putObj l (.loop { rec .ready none with state := .busy })) W3 → KeptS (fun k => k < W1.heap.size ∨ G k) W (W3.putObj l o) := fun W3 o h =>
        ((hkf.trans (KeptS.put (.inl hl1) _)).trans h).trans (KeptS.put (.inl hl1) _)
      have szf : ∀ (W3 : World) (o : Obj), KeptS (fun k => k < W1.heap.size ∨ G k) (Wa.putObj l (.loop { rec .ready none with state := .busy })) W3 → W1.heap.size ≤ (W3.putObj l o).heap.size := fun W3 o h => Nat.le_trans hsz (kf W3 o h).size
      rintro e a3 W3 hp
      cases e with
      | normal =>
        obtain ⟨hk3, hs3, G', hG', hi3⟩ := hp
        obtain ⟨hr, hl3, hl4, hb4⟩ := fin none W3 hk3
        refine ⟨_, _, hr, kf W3 _ hs3, fun k => k < W1.heap.size ∨ G' k, fun k h => h.elim (fun h => .inl (.inl h)) (fun h => (hG' k h).1.elim (fun h => .inl (.inr h)) .inr), .inl ⟨rfl, G', rfl, hI _ _ _ _ hi3 (.of_put _ hB hl3 rfl), ⟨?_, fun k o hko ho => ?_⟩, hl4, szf W3 _ hs3, fun k hk' => by simpa using (hG' k hk').2⟩⟩
        · have := (kf W3 (.loop (rec (if (none : Option Code).isNone then .ready else .done) none)) hs3).size
          have := hk.size
          omega
        · by_cases e : k = l
          · subst e; rw [hL'] at hko; cases hko; exact hl4
          · exact hb4 k o e hko ho
      | ret =>
        obtain ⟨hk3, hs3, G', hG', hi3⟩ := hp
        obtain ⟨hr, hl3, hl4, hb4⟩ := fin (some .ret) W3 hk3
        exact ⟨_, _, hr, kf W3 _ hs3, fun k => k < W1.heap.size ∨ G' k, fun k h => h.elim (fun h => .inl (.inl h)) (fun h => (hG' k h).1.elim (fun h => .inl (.inr h)) .inr), .inr ⟨rfl, G', .ret, rfl, hIx _ _ _ _ hi3 (.of_put _ hB hl3 rfl), hb4, hl4, szf W3 _ hs3, fun k hk' => by simpa using (hG' k hk').2⟩⟩
      | exit id =>
        obtain ⟨hk3, hs3, G', hG', hi3⟩ := hp
        obtain ⟨hr, hl3, hl4, hb4⟩ := fin (some (.exit id)) W3 hk3
        exact ⟨_, _, hr, kf W3 _ hs3, fun k => k < W1.heap.size ∨ G' k, fun k h => h.elim (fun h => .inl (.inl h)) (fun h => (hG' k h).1.elim (fun h => .inl (.inr h)) .inr), .inr ⟨rfl, G', .exit id, rfl, hIx _ _ _ _ hi3 (.of_put _ hB hl3 rfl), hb4, hl4, szf W3 _ hs3, fun k hk' => by simpa using (hG' k hk').2⟩⟩
      | goto t =>
        obtain ⟨hk3, hs3, G', hG', hi3⟩ := hp
        obtain ⟨hr, hl3, hl4, hb4⟩ := fin (some (.goto t)) W3 hk3
        exact ⟨_, _, hr, kf W3 _ hs3, fun k => k < W1.heap.size ∨ G' k, fun k h => h.elim (fun h => .inl (.inl h)) (fun h => (hG' k h).1.elim (fun h => .inl (.inr h)) .inr), .inr ⟨rfl, G', .goto t, rfl, hIx _ _ _ _ hi3 (.of_put _ hB hl3 rfl), hb4, hl4, szf W3 _ hs3, fun k hk' => by simpa using (hG' k hk').2⟩⟩
      | panic ch => exact hp.elim
      | outgrown => exact hp.elim
    | exit id => exact hq.elim
    | goto t => exact hq.elim
    | ret => exact hq.elim
    | panic ch => exact hq.elim
    | outgrown => exact hq.elim
  · rintro e W2 ⟨hv, F, ⟨G, -, h1, h2, h3, -, -⟩ | ⟨pre, x, rest, hx, G, c, -, h1, h2, h3, -, -⟩⟩
    · rw [hrec] at h3; exact ⟨hv, G, .inl ⟨h1, h2, h3⟩⟩
    · rw [hrec] at h3; exact ⟨hv, G, .inr ⟨c, h1, h2, h3⟩⟩
/-- 'for x := range seq { .. }' that stands in no round -/
theorem wp_rangeF {gf : Nat} {lb : Array Value} {encs : α → Array Value} {xs : List α} {Rd : World → Prop} (hit : IterF P gf lb encs xs Rd)
    (eg : ∀ args w, (callFunc gf args).run P w = .ok (.enter gf args) w)
    {g : Operand} {ps : Array Tmp} {assign body : Code} {Q : Exit → Act → World → Prop} {a : Act} {w : World} (hg : a.eval g = .func (.func gf) #[] lb)
    (hps : ∀ x, (encs x).size = ps.size)
    (I : List α → (Nat → Prop) → World → Prop) (Ix : Code → (Nat → Prop) → World → Prop)
    (hI : ∀ s G W W', I s G W → KeepsF w.heap.size (fun k => k < w.heap.size + 2 ∨ G k) W W' → I s G W') (hIx : ∀ s G W W', Ix s G W → KeepsF w.heap.size (fun k => k < w.heap.size + 2 ∨ G k) W W' → Ix s G W')
    (hRd : ∀ pre G A, I pre G A → Rd A) (h0 : I [] (fun _ => False) w) (h00 : ∀ W', Below w.heap.size w W' → I [] (fun _ => False) w → I [] (fun _ => False) W')
    (hround : ∀ l pre x rest G W, xs = pre ++ x :: rest → w.heap.size < l → w.heap.size + 2 ≤ W.heap.size → (∀ k, G k → k < W.heap.size) → I pre G W →
      assign.wpIn (Fence.wide.inRound l) 0 P (Exit.then (fun a1 Wa => KeepBook W Wa ∧ KeptS (fun k => k < w.heap.size + 2 ∨ G k) W Wa ∧ ∀ W2, SameBut w.heap.size Wa W2 → (∃ r, W2.heap[l]? = some (.loop r)) → body.wpIn (Fence.wide.inRound l) 0 P (roundEndF I Ix (w.heap.size + 2) G (pre ++ [x]) W W2) a1 W2) (fun _ _ _ => False))
        { tmps := (ps.zip (encs x)).foldl (fun t (p, v) => t.setIfInBounds p v) a.tmps, defers := [] } W)
    (hdone : ∀ (D : Nat) (G : Nat → Prop) (W : World), w.heap.size ≤ D → I xs G W → BookTo w W → W.heap[D]? = some (.deferred (some [])) → Q .normal { a with defers := markOf D :: a.defers } W)
    (hstop : ∀ (D : Nat) (G : Nat → Prop) (c : Code) (W : World), w.heap.size ≤ D → Ix c G W → BookTo w W → W.heap[D]? = some (.deferred (some [])) → c.wpIn Fence.wide 0 P Q { a with defers := markOf D :: a.defers } W) :
    (Code.rangeFunc g ps assign body).wpIn Fence.wide 0 P Q a w := by
  refine wpIn_rangeFunc ?_
  intro fn hfn
  obtain ⟨W1, hW1⟩ : ∃ W1, (w.alloc (.deferred (some []))).alloc (.loop { state := .ready, pending := none, fn, tmps := a.tmps, params := ps, assign, body, defers := w.heap.size }) = W1 := ⟨_, rfl⟩
  have hS1 : W1.heap.size = w.heap.size + 2 := by rw [← hW1]; simp
  have hL1 : W1.heap[w.heap.size + 1]? = some (.loop { state := .ready, pending := none, fn, tmps := a.tmps, params := ps, assign, body, defers := w.heap.size }) := by
    rw [← hW1]; have := World.alloc_heap_new (w.alloc (.deferred (some []))) (.loop { state := .ready, pending := none, fn, tmps := a.tmps, params := ps, assign, body, defers := w.heap.size }); rwa [World.size_alloc] at this
  have hK1 : W1.heap[w.heap.size]? = some (.deferred (some [])) := by
    rw [← hW1]; exact (Below.heap_alloc _ _ _ (by simp)).trans (World.alloc_heap_new w _)
  have hI1 : I [] (fun _ => False) W1 := h00 W1 (by rw [← hW1]; exact ((Below.refl _ w).alloc (Nat.le_refl _) _).alloc (by simp) _) h0
  have hb1 : ∀ k o, w.heap[k]? = some o → isBook o = true → W1.heap[k]? = some o := fun k o hk _ => by
    have hlt := (Array.getElem?_eq_some_iff.1 hk).1
    rw [← hW1]; exact (Below.heap_alloc _ _ _ (by simp; omega)).trans ((Below.heap_alloc _ _ _ hlt).trans hk)
  rw [← hS1] at hI hIx hround
  refine ⟨w.heap.size + 1, [markOf w.heap.size], W1, { target := .fn (.func gf) lb, args := #[.func (.yield (w.heap.size + 1)) #[] #[]] }, W1, gf,
    #[.func (.yield (w.heap.size + 1)) #[] #[]] ++ lb, W1, ?_, ?_, ?_, ?_, fun h => by simp [Fence.wide] at h, ?_⟩
  · rw [← hW1]; exact run_enterLoop_outer _ _ _ _ _
  · simp only [resolve, hg]
    simp [go_sem]
  · intro f' hf'; trivial
  · simp [invoke, go_sem, eg]
  · refine callsIn_wide.2 ((range_coreF hit (B := w.heap.size) (by omega) hL1 hps I Ix hI hIx hRd hI1 (fun pre x rest G W hx hl hs hG hi => hround (w.heap.size + 1) pre x rest G W hx (by omega) (by omega) hG hi)).mono ?_)
    rintro e W2 ⟨⟨v, rfl⟩, G, ⟨hi, hk, hl⟩ | ⟨c, hi, hk, hl⟩⟩
    · refine ⟨none, _, run_endLoop (P := P) hl (by simp), hdone w.heap.size G _ (Nat.le_refl _) (hI _ _ _ _ hi (.of_put _ (by omega) hl rfl)) (fun k o hko ho => ?_) ((World.putObj_heap_other (by omega)).trans (hk.same _ _ hK1 rfl))⟩
      have hlt := (Array.getElem?_eq_some_iff.1 hko).1
      exact (World.putObj_heap_other (by omega)).trans (hk.same k o (hb1 k o hko ho) ho)
    · refine ⟨some c, _, run_endLoop (P := P) hl (by simp), hstop w.heap.size G c _ (Nat.le_refl _) (hIx _ _ _ _ hi (.of_put _ (by omega) hl rfl)) (fun k o hko ho => ?_) ((World.putObj_heap_other (by omega)).trans (hk _ _ (by omega) hK1 rfl))⟩
      have hlt := (Array.getElem?_eq_some_iff.1 hko).1
      exact (World.putObj_heap_other (by omega)).trans (hk k o (by omega) (hb1 k o hko ho) ho)
end
end Go.Proofs.Ytdmnaehgngpikaa
