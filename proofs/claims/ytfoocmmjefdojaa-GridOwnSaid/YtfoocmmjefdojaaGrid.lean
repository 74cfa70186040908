/- Layer 7: lays, Lay. -/
import Derived.Test.YtfoocmmjefdojaaGrA
import Derived.Test.YtfoocmmjefdojaaMap
import Derived.Outline
import Derived.BigQuiet
import Derived.Deep.QuietTactic
import Derived.ScopeJumps
import Derived.WalkMore
import Derived.IntWalk
import Derived.Test.YtfoocmmjefdojaaHeld
namespace Go.Proofs.Ytfoocmmjefdojaa.K
open Go.RowKit Go.Proofs.YtfoocmmjefdojaaW.PrintWords Go.Proofs.YtfoocmmjefdojaaW.PrintLast Go.Proofs.YtfoocmmjefdojaaW.PrintMore
set_option linter.unusedVariables false
set_option linter.unusedSimpArgs false

def slotK (a : Int × Int) : Value := .agg #[.int .i64 a.1, .int .i64 a.2]
theorem slot_eq (a c : Int × Int) (w : World) : (Op.equal 78 (slotK a) (slotK c)).run Try.prog w = .ok (decide (a = c)) w := by
  obtain ⟨a0, a1⟩ := a
  obtain ⟨c0, c1⟩ := c
  unfold Op.equal slotK
  have hi : ∃ i, Try.prog.info? 3 = some i := info_of_underlying Try.underlying3
  obtain ⟨i, hi⟩ := hi
  rw [show Op.maxDepth = 9998 + 1 + 1 from rfl, run_equalIn_array w (9998 + 1) _ _ Try.underlying78 hi]
  rw [show List.range 2 = [0, 1] from rfl]
  have p0 : ∀ (x y : Int) w, (part 3 #[.int .i64 x, .int .i64 y] (0 * Try.prog.cellsOf 3)).run Try.prog w = .ok (.int .i64 x) w := fun x y w => by kernel_rfl
  have p1 : ∀ (x y : Int) w, (part 3 #[.int .i64 x, .int .i64 y] (1 * Try.prog.cellsOf 3)).run Try.prog w = .ok (.int .i64 y) w := fun x y w => by kernel_rfl
  have q : ∀ x y w, (Op.equalIn (9998 + 1) 3 (.int .i64 x) (.int .i64 y)).run Try.prog w = .ok (x == y) w := fun x y w => by rw [run_equalIn_int w 9998 3 .i64 .i64 x y Try.underlying3]
  have p1' : ∀ (x y : Int) w, (part 3 #[.int .i64 x, .int .i64 y] (Try.prog.cellsOf 3)).run Try.prog w = .ok (.int .i64 y) w := fun x y w => by kernel_rfl
  have q' : ∀ x y w, (Op.equalIn 9999 3 (.int .i64 x) (.int .i64 y)).run Try.prog w = .ok (x == y) w := q
  simp only [Op.eqItems, Sem.run_bind, p0, p1, q, Result.andThen_ok]
  by_cases h0 : a0 = c0 <;> by_cases h1 : a1 = c1 <;> simp [h0, h1, Sem.run_pure, p1', q', Result.andThen]
theorem slot_key : KeyOK Try.prog 78 slotK :=
  keyOK_asks Try.underlying78 (fun a c => by kernel_rfl) slot_eq (fun w e a => by kernel_rfl) (fun a => by simp [slotK, Instr.sameBits])
end Go.Proofs.Ytfoocmmjefdojaa.K
namespace Go.Proofs.Ytfoocmmjefdojaa.K
open Go.RowKit Go.Proofs.YtfoocmmjefdojaaW.PrintWords Go.Proofs.YtfoocmmjefdojaaW.PrintLast Go.Proofs.YtfoocmmjefdojaaW.PrintMore
set_option linter.unusedVariables false
set_option linter.unusedSimpArgs false

abbrev Pl := S40
def mapT (T : Int × Int → Bool) : Int × Int → Option Value := fun a => if T a then some (.bool true) else none
/-- what is taken, with i rows of a rectangle, and k slots of the next -/
def stT (T : Int × Int → Bool) (r q n i k : Int) : Int × Int → Bool := fun a => T a || decide (r ≤ a.1 ∧ a.1 < r + i ∧ q ≤ a.2 ∧ a.2 < q + n) || decide (a.1 = r + i ∧ q ≤ a.2 ∧ a.2 < q + k)
theorem stT_upd (T : Int × Int → Bool) (r q n i k : Int) (hk : 0 ≤ k) : upd (mapT (stT T r q n i k)) (r + i, q + k) (.bool true) = mapT (stT T r q n i (k + 1)) := by
  funext a
  unfold upd mapT stT
  by_cases e : a = (r + i, q + k)
  · subst e
    rw [if_pos rfl, if_pos]
    simp; right; omega
  · rw [if_neg e]
    have : (decide (a.1 = r + i ∧ q ≤ a.2 ∧ a.2 < q + k)) = decide (a.1 = r + i ∧ q ≤ a.2 ∧ a.2 < q + (k + 1)) := by
      apply decide_eq_decide.2
      constructor
      · intro h; omega
      · intro h
        have : a.2 ≠ q + k := fun h2 => e (Prod.ext h.1 h2)
        omega
    rw [this]
theorem stT_row (T : Int × Int → Bool) (r q n i : Int) (hi : 0 ≤ i) : stT T r q n i n = stT T r q n (i + 1) 0 := by
  funext a
  unfold stT
  rw [Bool.or_assoc, Bool.or_assoc]
  congr 1
  rw [← Bool.decide_or, ← Bool.decide_or]
  apply decide_eq_decide.2
  omega
theorem stT_none (T : Int × Int → Bool) (r q n : Int) : stT T r q n 0 0 = T := by
  funext a
  unfold stT
  rw [Bool.or_assoc, ← Bool.decide_or, decide_eq_false (by omega), Bool.or_false]
def rectT (T : Int × Int → Bool) (r q n h : Int) : Int × Int → Bool := fun a => T a || decide (r ≤ a.1 ∧ a.1 < r + h ∧ q ≤ a.2 ∧ a.2 < q + n)
theorem stT_all (T : Int × Int → Bool) (r q n h : Int) : stT T r q n h 0 = rectT T r q n h := by
  funext a
  unfold stT rectT
  rw [Bool.or_assoc, ← Bool.decide_or]
  congr 1
  apply decide_eq_decide.2
  omega

/-- all but what S names is as it was -/
structure KeptBut (S : Nat → Prop) (w W : World) : Prop where
  size : w.heap.size ≤ W.heap.size
  os : W.os = w.os
  tape : W.tape = w.tape
  output : W.output = w.output
  block : ∀ k, k < w.heap.size → ¬ S k → W.heap[k]? = w.heap[k]?
section
variable {S : Nat → Prop} {w W V : World}
theorem KeptBut.refl (S : Nat → Prop) (w : World) : KeptBut S w w := ⟨Nat.le_refl _, rfl, rfl, rfl, fun _ _ _ => rfl⟩
theorem KeptBut.alloc (h : KeptBut S w W) (o : Obj) : KeptBut S w (W.alloc o) := ⟨by have := h.size; simp; omega, h.os, h.tape, h.output, fun k hk hs => (Below.heap_alloc W o k (by have := h.size; omega)).trans (h.block k hk hs)⟩
theorem KeptBut.drew (h : KeptBut S w W) : KeptBut S w W.drew := ⟨h.size, h.os, h.tape, h.output, h.block⟩
theorem KeptBut.setCell (h : KeptBut S w W) {p : Addr} (hp : ∀ k, k < w.heap.size → ¬ S k → k ≠ p.block) (v : Value) : KeptBut S w (W.setCell p v) :=
  ⟨by have := h.size; simpa using this, h.os, h.tape, h.output, fun k hk hs => (heap_setCell_other W p k v (hp k hk hs)).trans (h.block k hk hs)⟩
theorem KeptBut.turned (h : KeptBut S w W) {b : Nat} (ht : MapTurned W V b) (hp : ∀ k, k < w.heap.size → ¬ S k → k ≠ b) : KeptBut S w V :=
  ⟨by rw [ht.size]; exact h.size, ht.os.trans h.os, ht.tape.trans h.tape, ht.output.trans h.output, fun k hk hs => (ht.other k (hp k hk hs)).trans (h.block k hk hs)⟩
theorem KeptBut.grown (h : KeptBut S w W) (hb : Below 0 W V) {row : Option Nat} (hg : W.grownBy V row) (hp : ∀ k, k < w.heap.size → ¬ S k → some k ≠ row) : KeptBut S w V :=
  ⟨Nat.le_trans h.size hb.size, hb.os.trans h.os, hb.tape.trans h.tape, hb.output.trans h.output, fun k hk hs => (hg.block k (by have := h.size; omega) (hp k hk hs)).trans (h.block k hk hs)⟩
theorem KeptBut.below {n : Nat} {w0 : World} (h : KeptBut S w W) (hb : Below n w0 w) (hn : n ≤ w.heap.size) (hs : ∀ k, S k → n ≤ k) : Below n w0 W :=
  ⟨h.os.trans hb.os, h.tape.trans hb.tape, h.output.trans hb.output, Nat.le_trans hb.size h.size, fun k hk => (h.block k (by omega) (fun hS => by have := hs k hS; omega)).trans (hb.block k hk)⟩
theorem KeptBut.blk {b t : Nat} {cs : Array Value} (h : KeptBut S w W) (hb : BlkIs w b t cs) (hS : ¬ S b) : BlkIs W b t cs := (h.block b (BlkIs.lt hb) hS).trans hb
end

/-- the blocks while a cell is laid -/
structure LaysW (w W : World) (c : Sp) (L M : Nat) (v : Value) (ps : List Pl) (T : Int × Int → Bool) (most r x h n : Int) (base : Nat) : Prop where
  bn : BlkIs W (w.heap.size + 1) 40 #[.int .i64 c.f0, .int .i64 r, .int .i64 x, .int .i64 h, .int .i64 n]
  bc : BlkIs W w.heap.size 34 #[.int .i64 c.f0, .int .i64 c.f1, .int .i64 c.f2]
  bl : BlkIs W L 69 #[.map (some M), v, .int .i64 most]
  mp : MapIs slotK W M (mapT T)
  out : Kd.R k40 40 W base (fun k => k < w.heap.size ∧ k ≠ L ∧ k ≠ M) v ps
  kp : KeptBut (fun k => k = L ∨ k = M ∨ some k = v.ownBlock) w W
theorem LaysW.field {w W : World} {c : Sp} {L M : Nat} {v : Value} {ps : List Pl} {T : Int × Int → Bool} {most r x h n : Int} {base : Nat} (k : LaysW w W c L M v ps T most r x h n base) (hlL : L < w.heap.size) (j : Nat) (u : Value) (hu : u.cells = #[u])
    {r' x' h' n' : Int} (he : (#[.int .i64 c.f0, .int .i64 r, .int .i64 x, .int .i64 h, .int .i64 n] : Array Value).setIfInBounds j u = #[.int .i64 c.f0, .int .i64 r', .int .i64 x', .int .i64 h', .int .i64 n']) : LaysW w (W.setCell ⟨w.heap.size + 1, j, none⟩ u) c L M v ps T most r' x' h' n' base :=
  ⟨he ▸ BlkIs.set k.bn j u, BlkIs.other k.bc (p := ⟨w.heap.size + 1, j, none⟩) (by simp) u, BlkIs.other k.bl (p := ⟨w.heap.size + 1, j, none⟩) (by simp; omega) u, k.mp.setCell (p := ⟨w.heap.size + 1, j, none⟩) (by
      have h1 := k.mp.lt
      intro e
      obtain ⟨es, cl, ks, hbm, -, -⟩ := k.mp
      rw [e, show W.heap[w.heap.size + 1]? = _ from k.bn] at hbm; cases hbm) u,
    Kd.R_far (p := ⟨w.heap.size + 1, j, none⟩) k.out (fun q hq => by simp; omega) u, k.kp.setCell (p := ⟨w.heap.size + 1, j, none⟩) (fun q hq _ => by simp; omega) u⟩
theorem LaysW.drew {w W : World} {c : Sp} {L M : Nat} {v : Value} {ps : List Pl} {T : Int × Int → Bool} {most r x h n : Int} {base : Nat} (k : LaysW w W c L M v ps T most r x h n base) : LaysW w W.drew c L M v ps T most r x h n base :=
  ⟨k.bn, k.bc, k.bl, k.mp, Kd.R_step k.out (fun _ _ _ => rfl), k.kp.drew⟩
theorem LaysW.turned {w W V : World} {c : Sp} {L M : Nat} {v : Value} {ps : List Pl} {T T' : Int × Int → Bool} {most r x h n : Int} {base : Nat} (k : LaysW w W c L M v ps T most r x h n base) (ht : MapTurned W V M) (hm : MapIs slotK V M (mapT T')) (hM : M < w.heap.size) (hLM : L ≠ M) : LaysW w V c L M v ps T' most r x h n base :=
  ⟨(ht.other _ (by omega)).trans k.bn, (ht.other _ (by omega)).trans k.bc, (ht.other _ hLM).trans k.bl, hm, Kd.R_step k.out (fun q hq _ => ht.other q hq.2.2), k.kp.turned ht (fun q _ hs e => hs (.inr (.inl e)))⟩
def nOf (W : World) (b : Nat) : Int := match W.cell? ⟨b, 4, none⟩ with | some (.int _ x) => x | _ => 0
def xOf (W : World) (b : Nat) : Int := match W.cell? ⟨b, 2, none⟩ with | some (.int _ x) => x | _ => 0
theorem nOf_is {w W : World} {c : Sp} {L M : Nat} {v : Value} {ps : List Pl} {T : Int × Int → Bool} {most r x h n : Int} {base : Nat} (k : LaysW w W c L M v ps T most r x h n base) : nOf W (w.heap.size + 1) = n := by
  unfold nOf
  rw [show W.cell? ⟨w.heap.size + 1, 4, none⟩ = some (.int .i64 n) from BlkIs.cell k.bn 4]
/-- the blocks behind the append -/
structure LaysE (w W : World) (c : Sp) (L M : Nat) (v vL v1 : Value) (ps : List Pl) (T : Int × Int → Bool) (m1 r x h n : Int) (base : Nat) : Prop where
  bn : BlkIs W (w.heap.size + 1) 40 #[.int .i64 c.f0, .int .i64 r, .int .i64 x, .int .i64 h, .int .i64 n]
  bl : BlkIs W L 69 #[.map (some M), vL, .int .i64 m1]
  mp : MapIs slotK W M (mapT T)
  out : Kd.R k40 40 W base (fun k => k ≠ L ∧ k ≠ M) v1 ps
  kp : KeptBut (fun k => k = L ∨ k = M ∨ some k = v.ownBlock) w W
theorem LaysE.put {w W : World} {c : Sp} {L M : Nat} {v vL v1 : Value} {ps : List Pl} {T : Int × Int → Bool} {m1 r x h n : Int} {base : Nat} (k : LaysE w W c L M v vL v1 ps T m1 r x h n base) (hlL : L < w.heap.size) (hLM : L ≠ M) (j : Nat) (u : Value)
    {vL' : Value} {m1' : Int} (he : (#[.map (some M), vL, .int .i64 m1] : Array Value).setIfInBounds j u = #[.map (some M), vL', .int .i64 m1']) : LaysE w (W.setCell ⟨L, j, none⟩ u) c L M v vL' v1 ps T m1' r x h n base :=
  ⟨BlkIs.other k.bn (p := ⟨L, j, none⟩) (by simp; omega) u, he ▸ BlkIs.set k.bl j u, k.mp.setCell (p := ⟨L, j, none⟩) (fun e => hLM e.symm) u,
    Kd.R_far (p := ⟨L, j, none⟩) k.out (fun q hq => hq.1) u, k.kp.setCell (p := ⟨L, j, none⟩) (fun q hq hs e => hs (.inl e)) u⟩
theorem LaysE.drew {w W : World} {c : Sp} {L M : Nat} {v vL v1 : Value} {ps : List Pl} {T : Int × Int → Bool} {m1 r x h n : Int} {base : Nat} (k : LaysE w W c L M v vL v1 ps T m1 r x h n base) : LaysE w W.drew c L M v vL v1 ps T m1 r x h n base :=
  ⟨k.bn, k.bl, k.mp, Kd.R_step k.out (fun _ _ _ => rfl), k.kp.drew⟩
theorem LaysE.of {w W w1 : World} {c : Sp} {L M : Nat} {v v1 : Value} {ps ps1 : List Pl} {T : Int × Int → Bool} {most r x h n : Int} {base : Nat} (k : LaysW w W c L M v ps T most r x h n base) (hlL : L < w.heap.size) (hlM : M < w.heap.size)
    (ho : Kd.R k40 40 w1 base (fun k => k ≠ L ∧ k ≠ M) v1 ps1) (hb : Below base W w1) (hg : W.grownBy w1 v.ownBlock) : LaysE w w1 c L M v v v1 ps1 T most r x h n base :=
  have hv : ∀ q, v.ownBlock = some q → q < w.heap.size ∧ q ≠ L ∧ q ≠ M := fun q hq => k.out.1 q hq
  have ne : ∀ q, (q < w.heap.size → q = L ∨ q = M) → some q ≠ v.ownBlock := fun q hq e => by
    obtain ⟨h1, h2, h3⟩ := hv q e.symm
    rcases hq h1 with h | h
    · exact h2 h
    · exact h3 h
  ⟨(hg.block _ (BlkIs.lt k.bn) (ne _ (fun h => by omega))).trans k.bn, (hg.block _ (BlkIs.lt k.bl) (ne _ (fun _ => .inl rfl))).trans k.bl, k.mp.grown hg (ne _ (fun _ => .inr rfl)), ho,
    ⟨Nat.le_trans k.kp.size hb.size, hb.os.trans k.kp.os, hb.tape.trans k.kp.tape, hb.output.trans k.kp.output, fun q hq hs => (hg.block q (by have := k.kp.size; omega) (fun e => hs (.inr (.inr e)))).trans (k.kp.block q hq hs)⟩⟩
def LaysJ (w : World) (c : Sp) (L M : Nat) (v : Value) (ps : List Pl) (T : Int × Int → Bool) (most r from_ end_ h q : Int) (base : Nat) (a' : Act) (W : World) : Prop :=
  (∃ x : Int, from_ ≤ x ∧ x ≤ q ∧ LaysW w W c L M v ps T most r x h 1 base) ∧ ∃ u14 u15 u16 u17 u18 u19 u20 u21 u22 u23 u24 u25 u26 u27 u28 u29 u30 u31 u32 u33 u34 u35 u36 u37 u38 u39 u40 u41 u42 u43 u44 : Value, a' = { tmps := #[.pointer (some ⟨L, 0, none⟩), .agg #[.int .i64 c.f0, .int .i64 c.f1, .int .i64 c.f2], .int .i64 r, .int .i64 from_, .int .i64 end_, undef, .pointer (some ⟨w.heap.size, 0, none⟩), undef, undef, undef, .int .i64 0, .pointer (some ⟨w.heap.size + 1, 0, none⟩), undef, undef, u14, u15, u16, u17, u18, u19, u20, u21, u22, u23, u24, u25, u26, u27, u28, u29, u30, u31, u32, u33, u34, u35, u36, u37, u38, u39, u40, u41, u42, u43, u44, undef, undef, undef, undef, undef, undef, undef, undef, undef, undef, undef, undef, undef, undef, undef, undef, undef, undef, undef, undef, undef, undef, undef, undef, undef, undef, undef, undef, undef, undef, undef, undef, undef, undef, undef, undef, undef, undef, undef, undef, undef, undef, undef, undef, undef, undef, undef, undef, undef, undef, undef, undef, undef, undef, undef, undef, undef, undef, undef, undef, undef, undef, undef, undef, undef, undef, undef, undef, undef, undef, undef, undef, undef, undef, undef, undef], defers := [] }

set_option maxRecDepth 100000 in
set_option maxHeartbeats 4000000 in
theorem lays_any (c : Sp) (L M : Nat) (v : Value) (ps : List Pl) (T : Int × Int → Bool) (most r from_ end_ h q n : Int) (base : Nat) (w : World)
    (hL : BlkIs w L 69 #[.map (some M), v, .int .i64 most]) (hM : MapIs slotK w M (mapT T)) (hO : Kd.R k40 40 w base (fun _ => True) v ps)
    (hb : base ≤ w.heap.size) (hps : ps.length ≤ 1000000) (hr : 0 ≤ r ∧ r < end_ ∧ end_ ≤ 65536)
    (hf : 0 ≤ from_ ∧ from_ ≤ q ∧ q ≤ 20000) (hT1 : ∀ x, from_ ≤ x → x < q → T (r, x) = true) (hT2 : T (r, q) = false)
    (hn : 1 ≤ n ∧ n ≤ 1000) (hn1 : n = 1 ∨ n ≤ c.f1) (hT3 : ∀ y, 1 ≤ y → y < n → T (r, q + y) = false) (hT4 : n < c.f1 → T (r, q + n) = true) (hh : h = if c.f2 > 0 then min c.f2 (end_ - r) else end_ - r) :
    Calls Try.prog 35 #[.pointer (some ⟨L, 0, none⟩), .agg #[.int .i64 c.f0, .int .i64 c.f1, .int .i64 c.f2], .int .i64 r, .int .i64 from_, .int .i64 end_] w fun e w' =>
      ∃ v1, e = .returned (.int .i64 (q + n)) ∧ BlkIs w' L 69 #[.map (some M), v1, .int .i64 (max most (q + n))] ∧ MapIs slotK w' M (mapT (rectT T r q n h)) ∧ Kd.R k40 40 w' base (fun _ => True) v1 (ps ++ [⟨c.f0, r, q, h, n⟩]) ∧ KeptBut (fun k => k = L ∨ k = M ∨ some k = v.ownBlock) w w' := by
  have hw1 : IntKind.i64.wrap (end_ - r) = end_ - r := IntWalk.i64_in _ (by omega)
  have hLM : L ≠ M := by
    rintro rfl
    obtain ⟨es, cl, ks, hbm, -, -⟩ := hM
    rw [show w.heap[L]? = _ from hL] at hbm; cases hbm
  have hO1 : Kd.R k40 40 w base (fun k => k < w.heap.size ∧ k ≠ L ∧ k ≠ M) v ps := Kd.R_mono (Kd.R_bound hO) (fun k hk => by
    obtain ⟨_, _, h3, q, hq, cells, hc⟩ := hk
    refine ⟨h3, ?_, ?_⟩
    · rintro rfl
      rw [show w.heap[k]? = _ from hL] at hc
      injection hc with hc; injection hc with _ hc
      subst hc
      revert hq; decide
    · rintro rfl
      obtain ⟨es, cl, ks, hbm, -, -⟩ := hM
      rw [hc] at hbm; cases hbm)
  have hlL := BlkIs.lt hL
  have hlM := MapIs.lt hM
  have HO := Lib.hid hO1
  have HM := Lib.hid hM
  have HLL := Lib.hid hL
  have HT1 := Lib.hid hT1
  have HT2 := Lib.hid hT2
  have HT3 := Lib.hid hT3
  have HT4 := Lib.hid hT4
  have HLM := Lib.hid hLM
  have HH := Lib.hid hh
  clear hO hO1 hM hL hT1 hT2 hT3 hT4 hLM hh
  go_enter Try.func35, Try.ntmps35
  go_wp2
  refine wp_scope_jumps2 0 (LaysJ w c L M v ps T most r from_ end_ h q base) (fun _ W => (q - xOf W (w.heap.size + 1)).toNat) rfl ?_ ?_
  · rintro a' W ⟨⟨x, hx1, hx2, hw⟩, u14, u15, u16, u17, u18, u19, u20, u21, u22, u23, u24, u25, u26, u27, u28, u29, u30, u31, u32, u33, u34, u35, u36, u37, u38, u39, u40, u41, u42, u43, u44, rfl⟩
    have y0 : W.cell? ⟨L, 0, none⟩ = some (.map (some M)) := BlkIs.cell hw.bl 0
    have y2 : W.cell? ⟨w.heap.size + 1, 2, none⟩ = some (.int .i64 x) := BlkIs.cell hw.bn 2
    have f2 := BlkIs.frozen hw.bn 2
    have l2 := BlkIs.lt hw.bn
    have l0 := BlkIs.lt hw.bl
    by_cases hlt : x < q
    · have hk := hw.mp.drew.lookup (P := Try.prog) slot_key Try.underlying67 (z := .bool false) (by kernel_rfl) (r, x)
      rw [show (mapT T (r, x)).getD (.bool false) = .bool true by unfold mapT; rw [HT1.out x hx1 hlt]; rfl] at hk
      unfold slotK at hk
      have HW := Lib.hid hw
      clear hw
      go_wp2
      go_region
      simp only [Exit.then]
      go_wp2
      go_step3
      refine ⟨rfl, ⟨⟨x + 1, by omega, by omega, (HW.out.field hlL 2 (.int .i64 (x + 1)) rfl rfl).drew⟩, _, _, _, _, _, _, _, _, _, _, _, _, _, _, _, _, _, _, _, _, _, _, _, _, _, _, _, _, _, _, _, rfl⟩, ?_⟩
      have e1 : xOf W (w.heap.size + 1) = x := by unfold xOf; rw [y2]
      have e2 : xOf (W.setCell ⟨w.heap.size + 1, 2, none⟩ (.int .i64 (x + 1))).drew (w.heap.size + 1) = x + 1 := by
        unfold xOf
        rw [show (W.setCell ⟨w.heap.size + 1, 2, none⟩ (.int .i64 (x + 1))).drew.cell? ⟨w.heap.size + 1, 2, none⟩ = some (.int .i64 (x + 1)) from BlkIs.cell (HW.out.field hlL 2 (.int .i64 (x + 1)) rfl rfl).drew.bn 2]
      rw [e1, e2]; omega
    · obtain rfl : x = q := by omega
      have hk := hw.mp.drew.lookup (P := Try.prog) slot_key Try.underlying67 (z := .bool false) (by kernel_rfl) (r, x)
      rw [show (mapT T (r, x)).getD (.bool false) = .bool false by unfold mapT; rw [HT2.out]; rfl] at hk
      unfold slotK at hk
      have HW := Aside0.mk (hw.drew)
      clear hw
      go_wp2
      go_region
      simp only [Exit.then]
      clear hk y0 y2 f2 l2 l0
      generalize W.drew = W1 at HW ⊢
      go_wp2
      go_loopw [64] (fun _ wr => ∃ y : Int, 1 ≤ y ∧ y ≤ n ∧ Aside0 (LaysW w wr c L M v ps T most r x h y base)) (fun _ wr => (n - nOf wr (w.heap.size + 1)).toNat)
      case atStart => exact ⟨1, by omega, by omega, HW⟩
      case round =>
        obtain ⟨y, hy1, hy2, hW⟩ := hrel
        clear HW
        have y0 : wr.cell? ⟨L, 0, none⟩ = some (.map (some M)) := BlkIs.cell hW.out.bl 0
        have y1 : wr.cell? ⟨w.heap.size, 1, none⟩ = some (.int .i64 c.f1) := BlkIs.cell hW.out.bc 1
        have y2 : wr.cell? ⟨w.heap.size + 1, 2, none⟩ = some (.int .i64 x) := BlkIs.cell hW.out.bn 2
        have y4 : wr.cell? ⟨w.heap.size + 1, 4, none⟩ = some (.int .i64 y) := BlkIs.cell hW.out.bn 4
        have f4 := BlkIs.frozen hW.out.bn 4
        have l4 := BlkIs.lt hW.out.bn
        have l0 := BlkIs.lt hW.out.bl
        have hwy : IntKind.i64.wrap (x + y) = x + y := IntWalk.i64_in _ (by omega)
        have hk := hW.out.mp.drew.lookup (P := Try.prog) slot_key Try.underlying67 (z := .bool false) (by kernel_rfl) (r, x + y)
        unfold slotK at hk
        by_cases hlt2 : y < n
        · have hlt3 : y < c.f1 := by omega
          rw [show (mapT T (r, x + y)).getD (.bool false) = .bool false by unfold mapT; rw [HT3.out y hy1 hlt2]; rfl] at hk
          have hd : decide (y < c.f1) = true := decide_eq_true hlt3
          go_wp2
          go_region
          simp only [Exit.then]
          go_wp2
          go_roundw
          case rel => exact ⟨y + 1, by omega, by omega, ⟨hW.out.drew.field hlL 4 (.int .i64 (y + 1)) rfl rfl⟩⟩
          case measure =>
            rw [nOf_is hW.out, nOf_is (hW.out.field hlL 4 (.int .i64 (y + 1)) rfl rfl).drew]; omega
        · obtain rfl : n = y := by omega
          have y3 : wr.cell? ⟨w.heap.size + 1, 3, none⟩ = some (.int .i64 h) := BlkIs.cell hW.out.bn 3
          have hh : 1 ≤ h ∧ h ≤ 65536 := by
            have := HH.out
            split at this <;> omega
          clear f4
          have hWd := Aside0.mk hW.out.drew
          rw [← stT_none T r x n] at hWd
          clear hW
          by_cases hlt3 : n < c.f1
          · have hd : decide (n < c.f1) = true := decide_eq_true hlt3
            rw [show (mapT T (r, x + n)).getD (.bool false) = .bool true by unfold mapT; rw [HT4.out hlt3]; rfl] at hk
            go_wp2
            go_region
            simp only [Exit.then]
            go_wp2
            clear hk hd
            go_loopw [12, 13, 71] (fun _ _ i wr => ∃ k : Nat, (k : Int) ≤ h ∧ i = .int .i64 k ∧ Aside0 (LaysW w wr c L M v ps (stT T r x n k 0) most r x h n base)) (fun _ _ i _ => (h - intOf i).toNat)
            case atStart => exact ⟨0, by omega, rfl, hWd⟩
            case round =>
              obtain ⟨k, hk1, rfl, hW⟩ := hrel
              clear hWd y0 y1 y2 y3 y4 l4 l0
              have y4 : wr.cell? ⟨w.heap.size + 1, 4, none⟩ = some (.int .i64 n) := BlkIs.cell hW.out.bn 4
              by_cases hlt4 : (k : Int) < h
              · go_wp2
                go_loopw [13, 76] (fun _ i wr => ∃ m : Nat, (m : Int) ≤ n ∧ i = .int .i64 m ∧ Aside0 (LaysW w wr c L M v ps (stT T r x n k m) most r x h n base)) (fun _ i _ => (n - intOf i).toNat)
                case atStart => exact ⟨0, by omega, rfl, hW⟩
                case round =>
                  obtain ⟨m, hm1, rfl, hW⟩ := hrel
                  clear y4
                  by_cases hlt5 : (m : Int) < n
                  · have y0 : wr.cell? ⟨L, 0, none⟩ = some (.map (some M)) := BlkIs.cell hW.out.bl 0
                    have y2 : wr.cell? ⟨w.heap.size + 1, 2, none⟩ = some (.int .i64 x) := BlkIs.cell hW.out.bn 2
                    have l0 := BlkIs.lt hW.out.bl
                    have hwa : IntKind.i64.wrap (r + k) = r + k := IntWalk.i64_in _ (by omega)
                    have hwb : IntKind.i64.wrap (x + m) = x + m := IntWalk.i64_in _ (by omega)
                    obtain ⟨V, hr1, hm2, ht⟩ := (hW.out.drew.mp).update (P := Try.prog) slot_key Try.underlying67 (r + k, x + m) (.bool true)
                    rw [stT_upd _ _ _ _ _ _ (by omega)] at hm2
                    have hV := Aside0.mk (hW.out.drew.turned ht hm2 hlM HLM.out)
                    unfold slotK at hr1
                    clear hm2 ht hW
                    go_wp2
                    go_region
                    (try simp only [Exit.then])
                    go_wp2
                    go_roundw
                    case rel => exact ⟨m + 1, by omega, by go_num, hV⟩
                    case measure => simp [intOf]; omega
                  · obtain rfl : n = (m : Int) := by omega
                    rw [stT_row _ _ _ _ _ (by omega)] at hW
                    go_wp2
                    go_roundw
                    case rel => exact ⟨k + 1, by omega, by go_num, hW⟩
                    case measure => simp [intOf]; omega
              · obtain rfl : h = (k : Int) := by omega
                rw [stT_all] at hW
                have n0 : wr.cell? ⟨w.heap.size + 1, 0, none⟩ = some (.int .i64 c.f0) := BlkIs.cell hW.out.bn 0
                have n1 : wr.cell? ⟨w.heap.size + 1, 1, none⟩ = some (.int .i64 r) := BlkIs.cell hW.out.bn 1
                have n2 : wr.cell? ⟨w.heap.size + 1, 2, none⟩ = some (.int .i64 x) := BlkIs.cell hW.out.bn 2
                have n3 : wr.cell? ⟨w.heap.size + 1, 3, none⟩ = some (.int .i64 k) := BlkIs.cell hW.out.bn 3
                have y1 : wr.cell? ⟨L, 1, none⟩ = some v := BlkIs.cell hW.out.bl 1
                have l4 := BlkIs.lt hW.out.bn
                have l0 := BlkIs.lt hW.out.bl
                have hW1 := hW.out.drew
                have HD := Aside0.mk hW1
                clear hW hW1
                go_wp2
                go_region_law ((refine Kd.R_append_step k40 (w0 := wr.drew) (W := wr.drew) base ?hw (.tmp 97) (.tmp 99) 26 40 (.agg #[(.int .i64 0), (.int .i64 0), (.int .i64 0), (.int .i64 0), (.int .i64 0)]) 40 ?ho Try.underlying26 ?hinfo rfl (by decide) (by omega) v ps (⟨c.f0, r, x, k, n⟩ : Pl) [.int .i64 c.f0, .int .i64 r, .int .i64 x, .int .i64 k, .int .i64 n] (fun q => q ≠ L ∧ q ≠ M) (fun _ => False) ?hs ?hx ?hp (fun _ hk => hk.elim) ?hfr ?hO ?hB ?hbase ?hl ?_); (case hw => kernel_rfl); (case ho => rfl); (case hinfo => exact info40); (case hs => go_simp); (case hx => go_simp); (case hp => exact k40_mkM _ _ _ _); (case hfr => exact (fun q hq => ⟨by have := BlkIs.lt HD.out.bl; intro e; omega, by have := MapIs.lt HD.out.mp; intro e; omega⟩)); (case hO => exact Kd.R_mono HD.out.out (fun q hq => ⟨hq.2.1, hq.2.2⟩)); (case hB => exact Below.refl _ _); (case hbase => exact (by have := HD.out.kp.size; simp at this; simp; omega)); (case hl => omega); intro v1 w1 ho1 hb1 hg1 hat1; obtain ⟨A1, m1, c1, rfl⟩ : ∃ A m c, v1 = .slice A m c := (by obtain ⟨A, c, h⟩ := Kd.R_slice ho1; exact ⟨A, _, c, h⟩); have HE := Aside0.mk (LaysE.of HD.out hlL hlM ho1 hb1 hg1); have y1 : w1.cell? ⟨L, 1, none⟩ = some v := (BlkIs.cell HE.out.bl 1); have f1 := BlkIs.frozen HE.out.bl 1; have l1 := BlkIs.lt HE.out.bl; clear ho1 hb1 hg1 hat1)
                all_goals
                  (try simp only [Exit.then])
                  have HE1 := Aside0.mk (HE.out.put hlL HLM.out 1 (.slice A1 m1 c1) rfl)
                  clear HE HD y1 f1 l1 n0 n1 n2 n3 l4 l0
                  generalize w1.setCell ⟨L, 1, none⟩ (.slice A1 m1 c1) = W3 at HE1 ⊢
                  have z2 : W3.cell? ⟨w.heap.size + 1, 2, none⟩ = some (.int .i64 x) := BlkIs.cell HE1.out.bn 2
                  have z4 : W3.cell? ⟨w.heap.size + 1, 4, none⟩ = some (.int .i64 n) := BlkIs.cell HE1.out.bn 4
                  have y2 : W3.cell? ⟨L, 2, none⟩ = some (.int .i64 most) := BlkIs.cell HE1.out.bl 2
                  have f2 := BlkIs.frozen HE1.out.bl 2
                  have l2 := BlkIs.lt HE1.out.bl
                  have hwy : IntKind.i64.wrap (x + n) = x + n := IntWalk.i64_in _ (by omega)
                  go_wp2
                  go_region
                  all_goals
                    (try simp only [Exit.then])
                    have hmx : (if most < x + n then x + n else most) = max most (x + n) := by omega
                    have HE2 := Aside0.mk (HE1.out.put hlL HLM.out 2 (.int .i64 (max most (x + n))) rfl).drew
                    rw [hmx]
                    clear HE1 z2 z4 y2 f2 l2 hmx
                    generalize (W3.setCell ⟨L, 2, none⟩ (.int .i64 (max most (x + n)))).drew = W4 at HE2 ⊢
                    have z2 : W4.cell? ⟨w.heap.size + 1, 2, none⟩ = some (.int .i64 x) := BlkIs.cell HE2.out.bn 2
                    have z4 : W4.cell? ⟨w.heap.size + 1, 4, none⟩ = some (.int .i64 n) := BlkIs.cell HE2.out.bn 4
                    go_wp2
                    simp only [Exit.jump]
                    go_ret
                    exact ⟨_, rfl, HE2.out.bl, HE2.out.mp, Kd.R_mono HE2.out.out (fun _ _ => trivial), HE2.out.kp⟩
          · have hd : decide (n < c.f1) = false := decide_eq_false hlt3
            go_wp2
            go_region
            simp only [Exit.then]
            go_wp2
            clear hk hd
            go_loopw [12, 13, 71] (fun _ _ i wr => ∃ k : Nat, (k : Int) ≤ h ∧ i = .int .i64 k ∧ Aside0 (LaysW w wr c L M v ps (stT T r x n k 0) most r x h n base)) (fun _ _ i _ => (h - intOf i).toNat)
            case atStart => exact ⟨0, by omega, rfl, hWd⟩
            case round =>
              obtain ⟨k, hk1, rfl, hW⟩ := hrel
              clear hWd y0 y1 y2 y3 y4 l4 l0
              have y4 : wr.cell? ⟨w.heap.size + 1, 4, none⟩ = some (.int .i64 n) := BlkIs.cell hW.out.bn 4
              by_cases hlt4 : (k : Int) < h
              · go_wp2
                go_loopw [13, 76] (fun _ i wr => ∃ m : Nat, (m : Int) ≤ n ∧ i = .int .i64 m ∧ Aside0 (LaysW w wr c L M v ps (stT T r x n k m) most r x h n base)) (fun _ i _ => (n - intOf i).toNat)
                case atStart => exact ⟨0, by omega, rfl, hW⟩
                case round =>
                  obtain ⟨m, hm1, rfl, hW⟩ := hrel
                  clear y4
                  by_cases hlt5 : (m : Int) < n
                  · have y0 : wr.cell? ⟨L, 0, none⟩ = some (.map (some M)) := BlkIs.cell hW.out.bl 0
                    have y2 : wr.cell? ⟨w.heap.size + 1, 2, none⟩ = some (.int .i64 x) := BlkIs.cell hW.out.bn 2
                    have l0 := BlkIs.lt hW.out.bl
                    have hwa : IntKind.i64.wrap (r + k) = r + k := IntWalk.i64_in _ (by omega)
                    have hwb : IntKind.i64.wrap (x + m) = x + m := IntWalk.i64_in _ (by omega)
                    obtain ⟨V, hr1, hm2, ht⟩ := (hW.out.drew.mp).update (P := Try.prog) slot_key Try.underlying67 (r + k, x + m) (.bool true)
                    rw [stT_upd _ _ _ _ _ _ (by omega)] at hm2
                    have hV := Aside0.mk (hW.out.drew.turned ht hm2 hlM HLM.out)
                    unfold slotK at hr1
                    clear hm2 ht hW
                    go_wp2
                    go_region
                    (try simp only [Exit.then])
                    go_wp2
                    go_roundw
                    case rel => exact ⟨m + 1, by omega, by go_num, hV⟩
                    case measure => simp [intOf]; omega
                  · obtain rfl : n = (m : Int) := by omega
                    rw [stT_row _ _ _ _ _ (by omega)] at hW
                    go_wp2
                    go_roundw
                    case rel => exact ⟨k + 1, by omega, by go_num, hW⟩
                    case measure => simp [intOf]; omega
              · obtain rfl : h = (k : Int) := by omega
                rw [stT_all] at hW
                have n0 : wr.cell? ⟨w.heap.size + 1, 0, none⟩ = some (.int .i64 c.f0) := BlkIs.cell hW.out.bn 0
                have n1 : wr.cell? ⟨w.heap.size + 1, 1, none⟩ = some (.int .i64 r) := BlkIs.cell hW.out.bn 1
                have n2 : wr.cell? ⟨w.heap.size + 1, 2, none⟩ = some (.int .i64 x) := BlkIs.cell hW.out.bn 2
                have n3 : wr.cell? ⟨w.heap.size + 1, 3, none⟩ = some (.int .i64 k) := BlkIs.cell hW.out.bn 3
                have y1 : wr.cell? ⟨L, 1, none⟩ = some v := BlkIs.cell hW.out.bl 1
                have l4 := BlkIs.lt hW.out.bn
                have l0 := BlkIs.lt hW.out.bl
                have hW1 := hW.out.drew
                have HD := Aside0.mk hW1
                clear hW hW1
                go_wp2
                go_region_law ((refine Kd.R_append_step k40 (w0 := wr.drew) (W := wr.drew) base ?hw (.tmp 97) (.tmp 99) 26 40 (.agg #[(.int .i64 0), (.int .i64 0), (.int .i64 0), (.int .i64 0), (.int .i64 0)]) 40 ?ho Try.underlying26 ?hinfo rfl (by decide) (by omega) v ps (⟨c.f0, r, x, k, n⟩ : Pl) [.int .i64 c.f0, .int .i64 r, .int .i64 x, .int .i64 k, .int .i64 n] (fun q => q ≠ L ∧ q ≠ M) (fun _ => False) ?hs ?hx ?hp (fun _ hk => hk.elim) ?hfr ?hO ?hB ?hbase ?hl ?_); (case hw => kernel_rfl); (case ho => rfl); (case hinfo => exact info40); (case hs => go_simp); (case hx => go_simp); (case hp => exact k40_mkM _ _ _ _); (case hfr => exact (fun q hq => ⟨by have := BlkIs.lt HD.out.bl; intro e; omega, by have := MapIs.lt HD.out.mp; intro e; omega⟩)); (case hO => exact Kd.R_mono HD.out.out (fun q hq => ⟨hq.2.1, hq.2.2⟩)); (case hB => exact Below.refl _ _); (case hbase => exact (by have := HD.out.kp.size; simp at this; simp; omega)); (case hl => omega); intro v1 w1 ho1 hb1 hg1 hat1; obtain ⟨A1, m1, c1, rfl⟩ : ∃ A m c, v1 = .slice A m c := (by obtain ⟨A, c, h⟩ := Kd.R_slice ho1; exact ⟨A, _, c, h⟩); have HE := Aside0.mk (LaysE.of HD.out hlL hlM ho1 hb1 hg1); have y1 : w1.cell? ⟨L, 1, none⟩ = some v := (BlkIs.cell HE.out.bl 1); have f1 := BlkIs.frozen HE.out.bl 1; have l1 := BlkIs.lt HE.out.bl; clear ho1 hb1 hg1 hat1)
                all_goals
                  (try simp only [Exit.then])
                  have HE1 := Aside0.mk (HE.out.put hlL HLM.out 1 (.slice A1 m1 c1) rfl)
                  clear HE HD y1 f1 l1 n0 n1 n2 n3 l4 l0
                  generalize w1.setCell ⟨L, 1, none⟩ (.slice A1 m1 c1) = W3 at HE1 ⊢
                  have z2 : W3.cell? ⟨w.heap.size + 1, 2, none⟩ = some (.int .i64 x) := BlkIs.cell HE1.out.bn 2
                  have z4 : W3.cell? ⟨w.heap.size + 1, 4, none⟩ = some (.int .i64 n) := BlkIs.cell HE1.out.bn 4
                  have y2 : W3.cell? ⟨L, 2, none⟩ = some (.int .i64 most) := BlkIs.cell HE1.out.bl 2
                  have f2 := BlkIs.frozen HE1.out.bl 2
                  have l2 := BlkIs.lt HE1.out.bl
                  have hwy : IntKind.i64.wrap (x + n) = x + n := IntWalk.i64_in _ (by omega)
                  go_wp2
                  go_region
                  all_goals
                    (try simp only [Exit.then])
                    have hmx : (if most < x + n then x + n else most) = max most (x + n) := by omega
                    have HE2 := Aside0.mk (HE1.out.put hlL HLM.out 2 (.int .i64 (max most (x + n))) rfl).drew
                    rw [hmx]
                    clear HE1 z2 z4 y2 f2 l2 hmx
                    generalize (W3.setCell ⟨L, 2, none⟩ (.int .i64 (max most (x + n)))).drew = W4 at HE2 ⊢
                    have z2 : W4.cell? ⟨w.heap.size + 1, 2, none⟩ = some (.int .i64 x) := BlkIs.cell HE2.out.bn 2
                    have z4 : W4.cell? ⟨w.heap.size + 1, 4, none⟩ = some (.int .i64 n) := BlkIs.cell HE2.out.bn 4
                    go_wp2
                    simp only [Exit.jump]
                    go_ret
                    exact ⟨_, rfl, HE2.out.bl, HE2.out.mp, Kd.R_mono HE2.out.out (fun _ _ => trivial), HE2.out.kp⟩
  · intro pass
    have HP := Lib.hid pass
    clear pass
    have hN : ∀ o : Obj, (w.alloc o).heap.size = w.heap.size + 1 := fun o => by simp
    have G := fun (hq : Int) => LaysW.mk (w := w) (c := c) (L := L) (M := M) (v := v) (ps := ps) (T := T) (most := most) (r := r) (x := from_) (h := hq) (n := 1) (base := base) (W := (w.alloc (.cells #[.int .i64 c.f0, .int .i64 c.f1, .int .i64 c.f2] 34)).alloc (.cells #[.int .i64 c.f0, .int .i64 r, .int .i64 from_, .int .i64 hq, .int .i64 1] 40))
      (by rw [← hN]; exact World.alloc_heap_new _ _) (BlkIs.alloc (World.alloc_heap_new w _) _) (BlkIs.alloc (BlkIs.alloc HLL.out _) _) ((HM.out.alloc _).alloc _)
      (Kd.R_below (Kd.R_below HO.out ((Below.refl _ _).alloc (Nat.le_refl _) _)) ((Below.refl _ _).alloc (Nat.le_refl _) _)) (((KeptBut.refl _ _).alloc _).alloc _)
    have HG := Lib.hid G
    clear G hN
    have hh := HH.out
    by_cases h2 : 0 < c.f2
    · rw [if_pos h2] at hh
      by_cases h3 : c.f2 ≤ end_ - r
      · obtain rfl : h = c.f2 := by omega
        clear hh
        go_wp2
        go_step3
        rename_i hK
        exact hK _ _ (HP.out _ _ ⟨⟨from_, by omega, by omega, HG.out _⟩, _, _, _, _, _, _, _, _, _, _, _, _, _, _, _, _, _, _, _, _, _, _, _, _, _, _, _, _, _, _, _, rfl⟩)
      · obtain rfl : h = end_ - r := by omega
        clear hh
        go_wp2
        go_step3
        rename_i hK
        exact hK _ _ (HP.out _ _ ⟨⟨from_, by omega, by omega, HG.out _⟩, _, _, _, _, _, _, _, _, _, _, _, _, _, _, _, _, _, _, _, _, _, _, _, _, _, _, _, _, _, _, _, rfl⟩)
    · rw [if_neg h2] at hh
      subst hh
      go_wp2
      go_step3
      rename_i hK
      exact hK _ _ (HP.out _ _ ⟨⟨from_, by omega, by omega, HG.out _⟩, _, _, _, _, _, _, _, _, _, _, _, _, _, _, _, _, _, _, _, _, _, _, _, _, _, _, _, _, _, _, _, rfl⟩)
end Go.Proofs.Ytfoocmmjefdojaa.K
namespace Go.Proofs.Ytfoocmmjefdojaa.K
open Go.RowKit Go.Proofs.YtfoocmmjefdojaaW.PrintWords Go.Proofs.YtfoocmmjefdojaaW.PrintLast Go.Proofs.YtfoocmmjefdojaaW.PrintMore
set_option linter.unusedVariables false
set_option linter.unusedSimpArgs false

def inP (a : Int × Int) (p : Pl) : Bool := decide (p.f1 ≤ a.1 ∧ a.1 < p.f1 + p.f3 ∧ p.f2 ≤ a.2 ∧ a.2 < p.f2 + p.f4)
def takenT (ps : List Pl) : Int × Int → Bool := fun a => ps.any (inP a)
def freeN (T : Int × Int → Bool) (r : Int) : Nat → Int → Int
  | 0, c => c
  | k + 1, c => if T (r, c) then freeN T r k (c + 1) else c
def wideN (T : Int × Int → Bool) (r q cols : Int) : Nat → Int → Int
  | 0, y => y
  | k + 1, y => if y < cols ∧ T (r, q + y) = false then wideN T r q cols k (y + 1) else y
def placeP (ps : List Pl) (end_ r from_ : Int) (c : Sp) : Pl :=
  ⟨c.f0, r, freeN (takenT ps) r 20001 from_, if c.f2 > 0 then min c.f2 (end_ - r) else end_ - r, wideN (takenT ps) r (freeN (takenT ps) r 20001 from_) c.f1 1001 1⟩
structure LSt where
  ps : List Pl
  at_ : Int
  col : Int
  most : Int
def stepP (ends : List Int) (s : LSt) (x : Nat × Sp) : LSt :=
  let p := placeP s.ps (ends.getD x.1 0) x.1 (if (x.1 : Int) = s.at_ then s.col else 0) x.2
  ⟨s.ps ++ [p], x.1, p.f2 + p.f4, max s.most (p.f2 + p.f4)⟩
def runP (ends : List Int) : List (Nat × Sp) → LSt → LSt
  | [], s => s
  | x :: xs, s => if (stepP ends s x).most > 10000 then stepP ends s x else runP ends xs (stepP ends s x)
/-- what holds of a state -/
structure BdS (s : LSt) : Prop where
  inb : ∀ p ∈ s.ps, p.f2 + p.f4 ≤ s.most
  c0 : 0 ≤ s.col
  cm : s.col ≤ s.most
theorem BdS.init : BdS ⟨[], 0, 0, 0⟩ := ⟨(fun p h => nomatch h), Int.le_refl _, Int.le_refl _⟩

theorem freeN_spec (T : Int × Int → Bool) (r B : Int) (hB : ∀ x, B ≤ x → T (r, x) = false) : ∀ (k : Nat) (c : Int), B - c < k →
    c ≤ freeN T r k c ∧ (freeN T r k c ≤ max c B) ∧ (∀ x, c ≤ x → x < freeN T r k c → T (r, x) = true) ∧ T (r, freeN T r k c) = false
  | 0, c, h => by
    unfold freeN
    exact ⟨by omega, by omega, fun x h1 h2 => by omega, hB _ (by omega)⟩
  | k + 1, c, h => by
    unfold freeN
    by_cases hT : T (r, c) = true
    · rw [if_pos hT]
      have hc : c < B := by
        apply Decidable.byContradiction
        intro hn
        rw [hB c (by omega)] at hT; cases hT
      obtain ⟨h1, h2, h3, h4⟩ := freeN_spec T r B hB k (c + 1) (by omega)
      refine ⟨by omega, by omega, fun x hx hy => ?_, h4⟩
      by_cases e : x = c
      · rw [e]; exact hT
      · exact h3 x (by omega) hy
    · rw [if_neg hT]
      exact ⟨by omega, by omega, fun x hx hy => by omega, by simpa using hT⟩
theorem wideN_spec (T : Int × Int → Bool) (r q cols : Int) : ∀ (k : Nat) (y : Int), cols - y < k →
    y ≤ wideN T r q cols k y ∧ wideN T r q cols k y ≤ max y cols ∧ (∀ z, y ≤ z → z < wideN T r q cols k y → T (r, q + z) = false) ∧ (wideN T r q cols k y < cols → T (r, q + wideN T r q cols k y) = true)
  | 0, y, h => by
    unfold wideN
    exact ⟨by omega, by omega, fun z h1 h2 => by omega, fun h2 => by omega⟩
  | k + 1, y, h => by
    unfold wideN
    by_cases hT : y < cols ∧ T (r, q + y) = false
    · rw [if_pos hT]
      obtain ⟨h1, h2, h3, h4⟩ := wideN_spec T r q cols k (y + 1) (by omega)
      refine ⟨by omega, by omega, fun x hx hy => ?_, h4⟩
      by_cases e : x = y
      · rw [e]; exact hT.2
      · exact h3 x (by omega) hy
    · rw [if_neg hT]
      refine ⟨by omega, by omega, fun x hx hy => by omega, fun hlt => ?_⟩
      have : ¬ T (r, q + y) = false := fun h => hT ⟨hlt, h⟩
      simpa using this
theorem taken_out {ps : List Pl} {m : Int} (h : ∀ p ∈ ps, p.f2 + p.f4 ≤ m) (r x : Int) (hx : m ≤ x) : takenT ps (r, x) = false := by
  unfold takenT
  rw [List.any_eq_false]
  intro p hp
  have := h p hp
  unfold inP
  simp; omega
/-- what lays wants of the place -/
structure PlaceOK (ps : List Pl) (most from_ r : Int) (c : Sp) (q n : Int) : Prop where
  q0 : from_ ≤ q
  q1 : q ≤ most
  t1 : ∀ x, from_ ≤ x → x < q → takenT ps (r, x) = true
  t2 : takenT ps (r, q) = false
  n0 : 1 ≤ n
  n1 : n = 1 ∨ n ≤ c.f1
  n2 : n ≤ 1000
  t3 : ∀ y, 1 ≤ y → y < n → takenT ps (r, q + y) = false
  t4 : n < c.f1 → takenT ps (r, q + n) = true
theorem place_ok {ps : List Pl} {most from_ r end_ : Int} {c : Sp} (h : ∀ p ∈ ps, p.f2 + p.f4 ≤ most) (hm : most ≤ 10000) (h0 : 0 ≤ from_) (h1 : from_ ≤ most) (hc : 1 ≤ c.f1 ∧ c.f1 ≤ 1000) :
    PlaceOK ps most from_ r c (placeP ps end_ r from_ c).f2 (placeP ps end_ r from_ c).f4 := by
  obtain ⟨a1, a2, a3, a4⟩ := freeN_spec (takenT ps) r most (taken_out h r) 20001 from_ (by omega)
  obtain ⟨b1, b2, b3, b4⟩ := wideN_spec (takenT ps) r (freeN (takenT ps) r 20001 from_) c.f1 1001 1 (by omega)
  exact ⟨a1, by unfold placeP; dsimp only; omega, a3, a4, b1, by unfold placeP; dsimp only; omega, by unfold placeP; dsimp only; omega, b3, b4⟩
theorem rect_taken (ps : List Pl) (p : Pl) : rectT (takenT ps) p.f1 p.f2 p.f4 p.f3 = takenT (ps ++ [p]) := by
  funext a
  unfold rectT takenT
  rw [List.any_append]
  simp only [List.any_cons, List.any_nil, Bool.or_false]
  rfl
theorem step_bd {ends : List Int} {s : LSt} {x : Nat × Sp} (hs : BdS s) (hm : s.most ≤ 10000) (hc : 1 ≤ x.2.f1 ∧ x.2.f1 ≤ 1000) : BdS (stepP ends s x) := by
  have hk := place_ok (r := x.1) (end_ := ends.getD x.1 0) (from_ := if (x.1 : Int) = s.at_ then s.col else 0) hs.inb hm (by have := hs.c0; split <;> omega) (by have := hs.cm; have := hs.c0; split <;> omega) hc
  have h1 := hk.q0
  have h2 := hk.n0
  have h3 := hs.c0
  refine ⟨fun p hp => ?_, ?_, ?_⟩
  · unfold stepP at hp ⊢
    dsimp only at hp ⊢
    rcases List.mem_append.1 hp with hp | hp
    · have := hs.inb p hp; omega
    · rw [List.mem_singleton.1 hp]; omega
  · unfold stepP; dsimp only; split at h1 <;> rename_i hq <;> simp only [hq, if_true, if_false] at h1 h2 ⊢ <;> omega
  · unfold stepP; dsimp only; omega
end Go.Proofs.Ytfoocmmjefdojaa.K
namespace Go.Proofs.Ytfoocmmjefdojaa.K
open Go.RowKit Go.Proofs.YtfoocmmjefdojaaW.PrintWords Go.Proofs.YtfoocmmjefdojaaW.PrintLast Go.Proofs.YtfoocmmjefdojaaW.PrintMore
set_option linter.unusedVariables false
set_option linter.unusedSimpArgs false
attribute [local go_sem] Oper.semAt_some

theorem R_book {α : Type} {d : Kd α} {e : Nat} {W W' : World} {base : Nat} {ok : Nat → Prop} {v : Value} {xs : List α} {row : Option Nat} (h : Kd.R d e W base ok v xs) (hg : W.grownBy W' row) (hr : ∀ r, row = some r → ∃ o : Obj, W.heap[r]? = some o ∧ isBook o = true) : Kd.R d e W' base ok v xs :=
  Kd.R_mono (Kd.R_move (Kd.R_bound h) (fun k hk => hg.block k hk.2.2.1 (fun e => by
    obtain ⟨o, ho, hb⟩ := hr k e.symm
    obtain ⟨_, _, _, q, _, cells, hc⟩ := hk
    rw [hc] at ho; cases ho; cases hb))) (fun _ hk => hk.1)
theorem mapIs_book {α : Type} [DecidableEq α] {key : α → Value} {W W' : World} {b : Nat} {f : α → Option Value} {row : Option Nat} (h : MapIs key W b f) (hg : W.grownBy W' row) (hr : ∀ r, row = some r → ∃ o : Obj, W.heap[r]? = some o ∧ isBook o = true) : MapIs key W' b f :=
  h.grown hg (fun e => by
    obtain ⟨o, ho, hb⟩ := hr b e.symm
    obtain ⟨es, c, ks, hm, -, -⟩ := h
    rw [hm] at ho; cases ho; cases hb)

/-- the blocks of Lay's loop -/
structure LayI (w : World) (b3 M : Nat) (A0 A1 : Option Addr) (n0 c0 n1 c1 : Nat) (s : LSt) (v : Value) (W : World) : Prop where
  e : BlkIs W b3 23 #[.slice A1 n1 c1]
  l : BlkIs W (M + 1) 69 #[.map (some M), v, .int .i64 s.most]
  p : BlkIs W (M + 1 + 1) 66 #[.pointer (some ⟨M + 1, 0, none⟩)]
  a : BlkIs W (M + 1 + 1 + 1) 3 #[.int .i64 s.at_]
  c : BlkIs W (M + 1 + 1 + 1 + 1) 3 #[.int .i64 s.col]
  i : BlkIs W (M + 1 + 1 + 1 + 1 + 1) 22 #[.slice A0 n0 c0]
  m : MapIs slotK W M (mapT (takenT s.ps))
  o : Kd.R k40 40 W w.heap.size (fun _ => True) v s.ps
  b : Below w.heap.size w W
theorem LayI.grown {w : World} {b3 M : Nat} {A0 A1 : Option Addr} {n0 c0 n1 c1 : Nat} {s : LSt} {v : Value} {W W' : World} {B : Nat} {row : Option Nat} (h : LayI w b3 M A0 A1 n0 c0 n1 c1 s v W) (hB : w.heap.size ≤ B)
    (hg : W.grownBy W' row) (hr : ∀ r, row = some r → B ≤ r ∧ ∃ o : Obj, W.heap[r]? = some o ∧ isBook o = true) : LayI w b3 M A0 A1 n0 c0 n1 c1 s v W' :=
  have hr' : ∀ r, row = some r → ∃ o : Obj, W.heap[r]? = some o ∧ isBook o = true := fun r e => (hr r e).2
  have K : ∀ (b t : Nat) (cs : Array Value), BlkIs W b t cs → BlkIs W' b t cs := fun b t cs hb => Stab.blk (B := B) b t (fun _ : Unit => cs) () W W' row hb hg hr
  ⟨K _ _ _ h.e, K _ _ _ h.l, K _ _ _ h.p, K _ _ _ h.a, K _ _ _ h.c, K _ _ _ h.i, mapIs_book h.m hg hr', R_book h.o hg hr', (Stab.below (β := Unit) (Nat.le_refl _) hB) () W W' row h.b hg hr⟩
theorem LayI.stab {B : Nat} (w : World) (b3 M : Nat) (A0 A1 : Option Addr) (n0 c0 n1 c1 : Nat) (hB : w.heap.size ≤ B) (p : List (Nat × Sp) → LSt → Prop) : Stab B (fun (pre : List (Nat × Sp)) W => ∃ s v, p pre s ∧ LayI w b3 M A0 A1 n0 c0 n1 c1 s v W) := by
  rintro pre W W' row ⟨s, v, hp, h⟩ hg hr
  exact ⟨s, v, hp, h.grown hB hg hr⟩
theorem LayI.stabc {B : Nat} (w : World) (b3 M : Nat) (A0 A1 : Option Addr) (n0 c0 n1 c1 : Nat) (hB : w.heap.size ≤ B) (p : Code → LSt → Prop) : Stab B (fun (c : Code) W => ∃ s v, p c s ∧ LayI w b3 M A0 A1 n0 c0 n1 c1 s v W) := by
  rintro pre W W' row ⟨s, v, hp, h⟩ hg hr
  exact ⟨s, v, hp, h.grown hB hg hr⟩
theorem LayI.drew {w : World} {b3 M : Nat} {A0 A1 : Option Addr} {n0 c0 n1 c1 : Nat} {s : LSt} {v : Value} {W : World} (h : LayI w b3 M A0 A1 n0 c0 n1 c1 s v W) : LayI w b3 M A0 A1 n0 c0 n1 c1 s v W.drew := ⟨h.e, h.l, h.p, h.a, h.c, h.i, h.m, Kd.R_step h.o (fun _ _ _ => rfl), h.b.drew⟩
theorem LayI.alloc {w : World} {b3 M : Nat} {A0 A1 : Option Addr} {n0 c0 n1 c1 : Nat} {s : LSt} {v : Value} {W : World} (h : LayI w b3 M A0 A1 n0 c0 n1 c1 s v W) (o : Obj) : LayI w b3 M A0 A1 n0 c0 n1 c1 s v (W.alloc o) := h.grown (B := w.heap.size) (Nat.le_refl _) (World.grownBy_alloc _ _ none) (fun r e => by cases e)

theorem mem_cells {α : Type} : ∀ (rows : List (List α)) (r0 : Nat) (x : Nat × α), x ∈ cellsFrom r0 rows → r0 ≤ x.1 ∧ x.1 < r0 + rows.length
  | [], r0, x, h => by simp [cellsFrom] at h
  | y :: ys, r0, x, h => by
    unfold cellsFrom at h
    rcases List.mem_append.1 h with h | h
    · obtain ⟨c, hc, rfl⟩ := List.mem_map.1 h
      simp
    · have := mem_cells ys (r0 + 1) x h
      simp only [List.length_cons]; omega
theorem right_end {rows : List (List Sp)} {ends : List Int} (hR : gridRightB rows ends = true) {x : Nat × Sp} (hx : x ∈ cellsFrom 0 rows) : ∃ e, ends[x.1]? = some e ∧ (x.1 : Int) + 1 ≤ e ∧ e ≤ 65536 ∧ (1 ≤ x.2.f1 ∧ x.2.f1 ≤ 1000) ∧ (0 ≤ x.2.f2 ∧ x.2.f2 ≤ 1000) := by
  unfold gridRightB at hR
  simp only [Bool.and_eq_true, List.all_eq_true, decide_eq_true_eq] at hR
  obtain ⟨⟨⟨h1, h2⟩, h3⟩, h4⟩ := hR
  have hm := mem_cells rows 0 x hx
  have hlt : x.1 < ends.length := by omega
  refine ⟨ends[x.1], List.getElem?_eq_getElem hlt, ?_⟩
  have := h3 (ends[x.1], x.1) (List.mem_of_getElem? (i := x.1) (by rw [List.getElem?_zipIdx, List.getElem?_eq_getElem hlt]; simp))
  unfold endOK at this
  simp only [decide_eq_true_eq] at this
  have h5 := h4 x hx
  unfold spOK at h5
  simp only [Bool.and_eq_true, decide_eq_true_eq] at h5
  omega
theorem LayI.put {w : World} {b3 M : Nat} {A0 A1 : Option Addr} {n0 c0 n1 c1 : Nat} {s : LSt} {v : Value} {W : World} (h : LayI w b3 M A0 A1 n0 c0 n1 c1 s v W) (hb : b3 < M) (hw : w.heap.size ≤ M) (a c : Int) :
    LayI w b3 M A0 A1 n0 c0 n1 c1 { s with at_ := a, col := c } v ((W.setCell ⟨M + 1 + 1 + 1, 0, none⟩ (.int .i64 a)).setCell ⟨M + 1 + 1 + 1 + 1, 0, none⟩ (.int .i64 c)) :=
  have o : ∀ (q b t : Nat) (cs : Array Value) (V : World) (u : Value), b ≠ q → BlkIs V b t cs → BlkIs (V.setCell ⟨q, 0, none⟩ u) b t cs := fun q b t cs V u hq hb => BlkIs.other hb (p := ⟨q, 0, none⟩) hq u
  have ok := Kd.R_mono (Kd.R_bound h.o) (ok' := fun k => k ≠ M + 1 + 1 + 1 ∧ k ≠ M + 1 + 1 + 1 + 1) (fun k hk => by
    obtain ⟨_, _, _, q, hq, cells, hc⟩ := hk
    refine ⟨?_, ?_⟩
    · rintro rfl
      rw [show W.heap[M + 1 + 1 + 1]? = _ from h.a] at hc
      injection hc with hc; injection hc with _ hc
      subst hc
      revert hq; decide
    · rintro rfl
      rw [show W.heap[M + 1 + 1 + 1 + 1]? = _ from h.c] at hc
      injection hc with hc; injection hc with _ hc
      subst hc
      revert hq; decide)
  ⟨o _ _ _ _ _ _ (by omega) (o _ _ _ _ _ _ (by omega) h.e), o _ _ _ _ _ _ (by omega) (o _ _ _ _ _ _ (by omega) h.l), o _ _ _ _ _ _ (by omega) (o _ _ _ _ _ _ (by omega) h.p),
    o _ _ _ _ _ _ (by omega) (BlkIs.set h.a 0 _), BlkIs.set (o _ _ _ _ _ _ (by omega) h.c) 0 _, o _ _ _ _ _ _ (by omega) (o _ _ _ _ _ _ (by omega) h.i),
    (h.m.setCell (p := ⟨M + 1 + 1 + 1, 0, none⟩) (by show M ≠ M + 1 + 1 + 1; omega) _).setCell (p := ⟨M + 1 + 1 + 1 + 1, 0, none⟩) (by show M ≠ M + 1 + 1 + 1 + 1; omega) _,
    Kd.R_mono (Kd.R_far (p := ⟨M + 1 + 1 + 1 + 1, 0, none⟩) (Kd.R_far (p := ⟨M + 1 + 1 + 1, 0, none⟩) ok (fun k hk => hk.1) _) (fun k hk => hk.2) _) (fun _ _ => trivial),
    (h.b.setCell (p := ⟨M + 1 + 1 + 1, 0, none⟩) (by simp; omega) _).setCell (p := ⟨M + 1 + 1 + 1 + 1, 0, none⟩) (by simp; omega) _⟩

theorem LayI.col {w : World} {b3 M : Nat} {A0 A1 : Option Addr} {n0 c0 n1 c1 : Nat} {s : LSt} {v : Value} {W : World} (h : LayI w b3 M A0 A1 n0 c0 n1 c1 s v W) (hb : b3 < M) (hw : w.heap.size ≤ M) (c : Int) :
    LayI w b3 M A0 A1 n0 c0 n1 c1 ⟨s.ps, s.at_, c, s.most⟩ v (W.setCell ⟨M + 1 + 1 + 1 + 1, 0, none⟩ (.int .i64 c)) :=
  have o : ∀ (q b t : Nat) (cs : Array Value) (V : World) (u : Value), b ≠ q → BlkIs V b t cs → BlkIs (V.setCell ⟨q, 0, none⟩ u) b t cs := fun q b t cs V u hq hb => BlkIs.other hb (p := ⟨q, 0, none⟩) hq u
  have ok := Kd.R_mono (Kd.R_bound h.o) (ok' := fun k => k ≠ M + 1 + 1 + 1 + 1) (fun k hk => by
    obtain ⟨_, _, _, q, hq, cells, hc⟩ := hk
    rintro rfl
    rw [show W.heap[M + 1 + 1 + 1 + 1]? = _ from h.c] at hc
    injection hc with hc; injection hc with _ hc
    subst hc
    revert hq; decide)
  ⟨o _ _ _ _ _ _ (by omega) h.e, o _ _ _ _ _ _ (by omega) h.l, o _ _ _ _ _ _ (by omega) h.p,
    o _ _ _ _ _ _ (by omega) h.a, BlkIs.set h.c 0 _, o _ _ _ _ _ _ (by omega) h.i,
    h.m.setCell (p := ⟨M + 1 + 1 + 1 + 1, 0, none⟩) (by show M ≠ M + 1 + 1 + 1 + 1; omega) _,
    Kd.R_mono (Kd.R_far (p := ⟨M + 1 + 1 + 1 + 1, 0, none⟩) ok (fun k hk => hk) _) (fun _ _ => trivial),
    h.b.setCell (p := ⟨M + 1 + 1 + 1 + 1, 0, none⟩) (by simp; omega) _⟩
theorem LayI.free {w : World} {b3 M : Nat} {A0 A1 : Option Addr} {n0 c0 n1 c1 : Nat} {s : LSt} {v : Value} {W : World} (h : LayI w b3 M A0 A1 n0 c0 n1 c1 s v W) {g t : Nat} {cells : Array Value} (hg : BlkIs W g t cells) (ht : 40 ≠ t) (h1 : g ≠ M + 1) : ¬ (g = M + 1 ∨ g = M ∨ some g = v.ownBlock) := by
  rintro (e | e | e)
  · exact h1 e
  · subst e
    obtain ⟨es, c, ks, hm, -, -⟩ := h.m
    rw [show W.heap[g]? = _ from hg] at hm; cases hm
  · exact Kd.R_ne h.o hg ht e
theorem LayI.old {w : World} {b3 M : Nat} {A0 A1 : Option Addr} {n0 c0 n1 c1 : Nat} {s : LSt} {v : Value} {W : World} (h : LayI w b3 M A0 A1 n0 c0 n1 c1 s v W) {g : Nat} (hg : g < w.heap.size) (hM : w.heap.size ≤ M) : ¬ (g = M + 1 ∨ g = M ∨ some g = v.ownBlock) := by
  rintro (e | e | e)
  · omega
  · omega
  · have := own_base h.o.2.choose_spec.1 g e.symm; omega
theorem LayI.next {w : World} {b3 M : Nat} {A0 A1 : Option Addr} {n0 c0 n1 c1 : Nat} {s : LSt} {v v1 : Value} {W V : World} {p : Pl} {m1 : Int} (h : LayI w b3 M A0 A1 n0 c0 n1 c1 s v W) (hb : b3 < M) (hM : w.heap.size ≤ M)
    (hl : BlkIs V (M + 1) 69 #[.map (some M), v1, .int .i64 m1]) (hm : MapIs slotK V M (mapT (takenT (s.ps ++ [p])))) (ho : Kd.R k40 40 V w.heap.size (fun _ => True) v1 (s.ps ++ [p]))
    (hk : KeptBut (fun k => k = M + 1 ∨ k = M ∨ some k = v.ownBlock) W V) : LayI w b3 M A0 A1 n0 c0 n1 c1 ⟨s.ps ++ [p], s.at_, s.col, m1⟩ v1 V :=
  ⟨hk.blk h.e (h.free h.e (by decide) (by omega)), hl, hk.blk h.p (h.free h.p (by decide) (by omega)), hk.blk h.a (h.free h.a (by decide) (by omega)), hk.blk h.c (h.free h.c (by decide) (by omega)), hk.blk h.i (h.free h.i (by decide) (by omega)), hm, ho,
    hk.below h.b h.b.size (fun k hk => by
      rcases hk with e | e | e
      · omega
      · omega
      · exact own_base h.o.2.choose_spec.1 k e.symm)⟩
theorem LayI.keep {w : World} {b3 M : Nat} {A0 A1 : Option Addr} {n0 c0 n1 c1 : Nat} {s : LSt} {v : Value} {W V : World} (h : LayI w b3 M A0 A1 n0 c0 n1 c1 s v W) (hk : KeptBut (fun k => k = M + 1 ∨ k = M ∨ some k = v.ownBlock) W V) : KeepBook W V :=
  ⟨hk.size, fun k o ho hb => (hk.block k (Array.getElem?_eq_some_iff.1 ho).1 (by
    rintro (e | e | e)
    · subst e; rw [show W.heap[M + 1]? = _ from h.l] at ho; cases ho; cases hb
    · subst e
      obtain ⟨es, c, ks, hm, -, -⟩ := h.m
      rw [hm] at ho; cases ho; cases hb
    · obtain ⟨cells, hc⟩ := own_typed h.o.2.choose_spec.1 k e.symm
      rw [hc] at ho; cases ho; cases hb)).trans ho⟩

set_option maxRecDepth 100000 in
set_option maxHeartbeats 4000000 in
theorem lay_yes (rows : List (List Sp)) (ends : List Int) (A0 A1 : Option Addr) (c0 c1 : Nat) (w : World) (hr0 : Kd.C (Kd.slice 34 k34) w A0 rows.length rows) (hc0 : rows.length ≤ c0) (hr1 : Kd.C (Kd.int .i64) w A1 ends.length ends) (hc1 : ends.length ≤ c1)
    (hR : gridRightB rows ends = true) (hcells : (cellsFrom 0 rows).length ≤ 100000) (s1 : LSt) (hs1 : runP ends (cellsFrom 0 rows) ⟨[], 0, 0, 0⟩ = s1) :
    Calls Try.prog 17 #[.slice A0 rows.length c0, .slice A1 ends.length c1] w fun e w' => ∃ v0_ : Value, e = .returned (.tuple #[v0_, .int .i64 (if s1.most > 10000 then 0 else s1.most), .int .i64 (if s1.most > 10000 then 43 else 0)]) ∧
      Kd.R k40 40 w' w.heap.size (fun _ => True) v0_ (if s1.most > 10000 then [] else s1.ps) ∧ Below w.heap.size w w' := by
  have hb0 := hr0.2.1
  have hn0 := gright_any rows ends A0 A1 c0 c1 (w.alloc (.cells #[.slice A1 ends.length c1] 23)) (Kd.C_alloc hr0 _) hc0 (Kd.C_alloc hr1 _) hc1
  rw [hR] at hn0
  have HN := Lib.hid hn0
  have HR := Lib.hid hR
  have H0 := Lib.hid hr0
  have H1 := Lib.hid hr1
  have HC0 := Lib.hid hc0
  have HC1 := Lib.hid hc1
  have HCL := Lib.hid hcells
  have HS1 := Lib.hid hs1
  clear hn0 hr0 hr1 hR hc0 hc1 hcells hs1
  refine calls_of_wp_marks Try.func17 rfl ?_
  simp only [Try.ntmps17, List.size_toArray, List.length_cons, List.length_nil, Nat.reduceAdd, Nat.reduceSub, Array.replicate_succ, Array.replicate_zero, List.push_toArray, List.append_toArray, List.nil_append, List.cons_append]
  have hmm := @run_makeMap Try.prog
  go_wp2
  go_step3
  go_wp2_with (first | (go_at_call 19; refine HN.out.mono ?_; rintro e w1 ⟨rfl, hb1⟩; have HB1 := Lib.hid hb1; have hz1 := hb1.size; clear hb1) | (go_at_call 34; refine (cells_any rows A0 c0 _).mono ?_; rintro e w5 ⟨rfl, rfl⟩))
  go_step3
  rename_i hK
  refine hK _ _ ?_
  clear hK
  go_wp2_with (go_at_call 34; refine (cells_any rows A0 c0 _).mono ?_; rintro e w5 ⟨rfl, rfl⟩)
  obtain ⟨M, hM⟩ : ∃ M, M = w1.heap.size := ⟨_, rfl⟩
  simp only [World.size_alloc] at hz1
  have hs1 : LayI w w.heap.size M A0 A1 rows.length c0 ends.length c1 ⟨[], 0, 0, 0⟩ (.slice none 0 0) ((((((w1.alloc (.map #[] 0)).alloc (.cells #[.map (some M), .slice none 0 0, .int .i64 0] 69)).alloc (.cells #[.pointer (some ⟨M + 1, 0, none⟩)] 66)).alloc (.cells #[.int .i64 0] 3)).alloc (.cells #[.int .i64 0] 3)).alloc (.cells #[.slice A0 rows.length c0] 22)) := by
    have e0 : BlkIs w1 w.heap.size 23 #[.slice A1 ends.length c1] := (HB1.out.block _ (by simp)).trans (World.alloc_heap_new w _)
    have x1 := MapIs.made (key := slotK) w1
    subst hM
    refine ⟨((((((BlkIs.alloc e0 _).alloc _).alloc _).alloc _).alloc _).alloc _), ?_, ?_, ?_, ?_, ?_, ?_, Kd.R_nil _ _ _ _ _, ?_⟩
    · refine ((((BlkIs.alloc ?_ _).alloc _).alloc _).alloc _); rw [← World.size_alloc w1 (.map #[] 0)]; exact World.alloc_heap_new _ _
    · refine (((BlkIs.alloc ?_ _).alloc _).alloc _)
      have := World.alloc_heap_new ((w1.alloc (.map #[] 0)).alloc (.cells #[.map (some w1.heap.size), .slice none 0 0, .int .i64 0] 69)) (.cells #[.pointer (some ⟨w1.heap.size + 1, 0, none⟩)] 66)
      rw [World.size_alloc, World.size_alloc] at this; exact this
    · refine ((BlkIs.alloc ?_ _).alloc _)
      have := World.alloc_heap_new (((w1.alloc (.map #[] 0)).alloc (.cells #[.map (some w1.heap.size), .slice none 0 0, .int .i64 0] 69)).alloc (.cells #[.pointer (some ⟨w1.heap.size + 1, 0, none⟩)] 66)) (.cells #[.int .i64 0] 3)
      rw [World.size_alloc, World.size_alloc, World.size_alloc] at this; exact this
    · refine (BlkIs.alloc ?_ _)
      have := World.alloc_heap_new ((((w1.alloc (.map #[] 0)).alloc (.cells #[.map (some w1.heap.size), .slice none 0 0, .int .i64 0] 69)).alloc (.cells #[.pointer (some ⟨w1.heap.size + 1, 0, none⟩)] 66)).alloc (.cells #[.int .i64 0] 3)) (.cells #[.int .i64 0] 3)
      rw [World.size_alloc, World.size_alloc, World.size_alloc, World.size_alloc] at this; exact this
    · have := World.alloc_heap_new (((((w1.alloc (.map #[] 0)).alloc (.cells #[.map (some w1.heap.size), .slice none 0 0, .int .i64 0] 69)).alloc (.cells #[.pointer (some ⟨w1.heap.size + 1, 0, none⟩)] 66)).alloc (.cells #[.int .i64 0] 3)).alloc (.cells #[.int .i64 0] 3)) (.cells #[.slice A0 rows.length c0] 22)
      rw [World.size_alloc, World.size_alloc, World.size_alloc, World.size_alloc, World.size_alloc] at this; exact this
    · have h := (((((x1.alloc (.cells #[.map (some w1.heap.size), .slice none 0 0, .int .i64 0] 69)).alloc (.cells #[.pointer (some ⟨w1.heap.size + 1, 0, none⟩)] 66)).alloc (.cells #[.int .i64 0] 3)).alloc (.cells #[.int .i64 0] 3)).alloc (.cells #[.slice A0 rows.length c0] 22))
      exact h
    · have hb : Below w.heap.size w w1 := ((Below.refl _ w).alloc (Nat.le_refl _) _).trans (HB1.out.mono (by simp))
      exact (((((hb.alloc hb.size _).alloc (by have := hb.size; simp; omega) _).alloc (by have := hb.size; simp; omega) _).alloc (by have := hb.size; simp; omega) _).alloc (by have := hb.size; simp; omega) _).alloc (by have := hb.size; simp; omega) _
  rw [← hM]
  have hsz : (((((((w1.alloc (.map #[] 0)).alloc (.cells #[.map (some M), .slice none 0 0, .int .i64 0] 69)).alloc (.cells #[.pointer (some ⟨M + 1, 0, none⟩)] 66)).alloc (.cells #[.int .i64 0] 3)).alloc (.cells #[.int .i64 0] 3)).alloc (.cells #[.slice A0 rows.length c0] 22))).heap.size = M + 6 := by simp; omega
  have HS := Lib.hid hs1
  have HZ := Lib.hid hsz
  have hwM : w.heap.size < M := by omega
  clear hs1 hsz hM hz1 hmm HB1 HN
  generalize ((((((w1.alloc (.map #[] 0)).alloc (.cells #[.map (some M), .slice none 0 0, .int .i64 0] 69)).alloc (.cells #[.pointer (some ⟨M + 1, 0, none⟩)] 66)).alloc (.cells #[.int .i64 0] 3)).alloc (.cells #[.int .i64 0] 3)).alloc (.cells #[.slice A0 rows.length c0] 22)) = W0 at HS HZ ⊢
  have hpos : ∀ x ∈ cellsFrom 0 rows, spOK x = true := by
    have h := HR.out
    unfold gridRightB at h
    simp only [Bool.and_eq_true, List.all_eq_true] at h
    exact h.2
  have HP := Lib.hid hpos
  clear hpos
  obtain ⟨H, hH⟩ := rowsAt_of H0.out
  have HH := Lib.hid hH
  clear hH
  refine wp_range_plain (cells1_iter rows (M + 1 + 1 + 1 + 1 + 1) A0 H c0 HC0.out hb0) (enters_of Try.func52 (by kernel_rfl) rfl) rfl (fun _ => rfl)
    (fun (pre : List (Nat × Sp)) W => ∃ s v, ((∀ rest, cellsFrom 0 rows = pre ++ rest → runP ends rest s = s1) ∧ s.most ≤ 10000 ∧ BdS s ∧ s.ps.length ≤ pre.length) ∧ LayI w w.heap.size M A0 A1 rows.length c0 ends.length c1 s v W)
    (fun (c : Code) W => ∃ s v, (c = .exit 0 ∧ s = s1 ∧ s.most > 10000) ∧ LayI w w.heap.size M A0 A1 rows.length c0 ends.length c1 s v W)
    (LayI.stab w w.heap.size M A0 A1 rows.length c0 ends.length c1 (by rw [HZ.out]; omega) (fun (pre : List (Nat × Sp)) s => (∀ rest, cellsFrom 0 rows = pre ++ rest → runP ends rest s = s1) ∧ s.most ≤ 10000 ∧ BdS s ∧ s.ps.length ≤ pre.length))
    (LayI.stabc w w.heap.size M A0 A1 rows.length c0 ends.length c1 (by rw [HZ.out]; omega) (fun (c : Code) s => c = .exit 0 ∧ s = s1 ∧ s.most > 10000))
    (fun pre A ⟨s, v, _, h⟩ => ⟨BlkIs.cell h.i 0, HH.out.below h.b⟩) ⟨⟨[], 0, 0, 0⟩, .slice none 0 0, ⟨fun rest hr => by rw [← HS1.out, show rest = cellsFrom 0 rows from hr.symm], by decide, BdS.init, Nat.le_refl _⟩, HS.out⟩ ?round ?done ?stop
  case stop =>
    rintro D c W hD ⟨s, v, ⟨rfl, rfl, hm⟩, hL⟩ hbook hd
    have y7 : W.cell? ⟨M + 1 + 1, 0, none⟩ = some (.pointer (some ⟨M + 1, 0, none⟩)) := BlkIs.cell hL.p 0
    have y2 : W.cell? ⟨M + 1, 2, none⟩ = some (.int .i64 s.most) := BlkIs.cell hL.l 2
    have l1 := BlkIs.lt hL.l
    have l2 := BlkIs.lt hL.p
    have hm' : 10000 < s.most := hm
    have HL := Lib.hid hL
    have HD := Lib.hid hd
    clear hL hd hbook
    go_wp2
    rw [Exit.noGoto_ret]
    refine leaves_marks (v := .tuple #[.slice none 0 0, .int .i64 0, .int .i64 43]) (B := w.heap.size) ⟨[D], rfl, by simp, by rw [HZ.out] at hD; simp; exact ⟨by omega, HD.out⟩⟩ (fun W' hs => ⟨?_, ?_⟩)
    · simp [results, Try.results17]
    · rw [if_pos hm, if_pos hm, if_pos hm]
      exact ⟨_, rfl, Kd.R_nil _ _ _ _ _, hs.stab _ (Stab.below (Nat.le_refl _) (Nat.le_refl _)) HL.out.b⟩
  case done =>
    rintro D W hD ⟨s, v, ⟨hrun, hm, hbd, hlen⟩, hL⟩ hbook hd
    have hs1 : s = s1 := hrun [] (by simp)
    subst hs1
    have y7 : W.cell? ⟨M + 1 + 1, 0, none⟩ = some (.pointer (some ⟨M + 1, 0, none⟩)) := BlkIs.cell hL.p 0
    have y1 : W.cell? ⟨M + 1, 1, none⟩ = some v := BlkIs.cell hL.l 1
    have y2 : W.cell? ⟨M + 1, 2, none⟩ = some (.int .i64 s.most) := BlkIs.cell hL.l 2
    have l1 := BlkIs.lt hL.l
    have l2 := BlkIs.lt hL.p
    have hm' : ¬ 10000 < s.most := by omega
    have HL := Lib.hid hL
    have HD := Lib.hid hd
    clear hL hd hbook
    go_wp2
    go_region
    simp only [Exit.then]
    go_wp2
    rw [Exit.noGoto_ret]
    refine leaves_marks (v := .tuple #[v, .int .i64 s.most, .int .i64 0]) (B := w.heap.size) ⟨[D], rfl, by simp, by rw [HZ.out] at hD; simp; exact ⟨by omega, HD.out⟩⟩ (fun W' hs => ⟨?_, ?_⟩)
    · simp [results, Try.results17]
    · rw [if_neg (by omega), if_neg (by omega), if_neg (by omega)]
      have h := hs.stab (fun V => LayI w w.heap.size M A0 A1 rows.length c0 ends.length c1 s v V) (fun _ V V' row hV hg hr => hV.grown (Nat.le_refl _) hg hr) HL.out.drew
      exact ⟨_, rfl, h.o, h.b⟩
  case round =>
    rintro lp pre ⟨r, ⟨m0, m1, m2⟩⟩ rest W hx hl ⟨s, v, ⟨hrun, hm, hbd, hlen⟩, hL⟩
    obtain ⟨en, hen, he1, he2, hc1, hc2⟩ := right_end HR.out (x := (r, ⟨m0, m1, m2⟩)) (by rw [hx]; simp)
    dsimp only at hen he1 hc1 hc2
    obtain ⟨ad, hA, hcs⟩ := H1.out.2.2 (by have := (List.getElem?_eq_some_iff.1 hen).1; omega)
    obtain ⟨cs, hcl, hK, hcell⟩ := hcs r en hen
    obtain rfl : cs = [.int .i64 en] := hK
    have hx0 : w.cell? (ad.add (r * 1)) = some (.int .i64 en) := hcell 0 _ rfl
    rw [Nat.mul_one] at hx0
    subst hA
    have HEN := Lib.hid hen
    have hltz : (r : Int) < (ends.length : Int) := by have := (List.getElem?_eq_some_iff.1 hen).1; omega
    have HX0 := Lib.hid hx0
    have hadlt : (ad.add r).block < w.heap.size := World.block_lt_of_cell? w _ hx0
    clear hcs hcl hcell hen hx0
    have HX := Lib.hid hx
    have HRun := Lib.hid hrun
    have HBd := Lib.hid hbd
    have HLen := Lib.hid hlen
    have HLL := Lib.hid hL
    clear hx hrun hbd hlen hL
    dsimp only [cellV, spC]
    gi_wp2
    refine ⟨by (repeat (first | (with_reducible exact KeepBook.refl _) | (with_reducible refine KeepBook.alloc ?_ _) | (with_reducible refine KeepBook.setCell ?_ _ _) | (with_reducible refine KeepBook.drew ?_) | (refine KeepBook.below ?_ (by assumption)))), ?_⟩
    rintro W2 hs _
    have hL2 : LayI w w.heap.size M A0 (some ad) rows.length c0 ends.length c1 s v W2 := hs.stab (fun V => LayI w w.heap.size M A0 (some ad) rows.length c0 ends.length c1 s v V) (fun _ V V' row hV hg hr => hV.grown (by rw [HZ.out]; omega) hg hr) (HLL.out.alloc _)
    have hNM : M + 1 + 1 + 1 + 1 + 1 < W.heap.size := BlkIs.lt HLL.out.i
    have hN2 : BlkIs W2 W.heap.size 34 #[.int .i64 m0, .int .i64 m1, .int .i64 m2] := hs.blk (World.alloc_heap_new W _)
    obtain ⟨N, hN⟩ : ∃ N, N = W.heap.size := ⟨_, rfl⟩
    rw [← hN] at hN2 hNM ⊢
    clear hN hs HLL
    have y3 : W2.cell? ⟨M + 1 + 1 + 1, 0, none⟩ = some (.int .i64 s.at_) := BlkIs.cell hL2.a 0
    have f3 := BlkIs.frozen hL2.a 0
    have l3 := BlkIs.lt hL2.a
    have f4 := BlkIs.frozen hL2.c 0
    have l4 := BlkIs.lt hL2.c
    have HL2 := Aside0.mk hL2
    have HN2 := Aside0.mk hN2
    clear hL2 hN2
    have y4 : W2.cell? ⟨M + 1 + 1 + 1 + 1, 0, none⟩ = some (.int .i64 s.col) := BlkIs.cell HL2.out.c 0
    by_cases hra : (r : Int) = s.at_
    all_goals gi_wp2
    focus
      have HL3 : Aside0 (LayI w w.heap.size M A0 (some ad) rows.length c0 ends.length c1 ⟨s.ps, r, if (r : Int) = s.at_ then s.col else 0, s.most⟩ v W2) := ⟨by rw [if_pos hra, hra]; exact HL2.out⟩
      have HN3 := HN2
      clear HL2 HN2 y3 f3 l3 f4 l4 y4
      generalize hW3 : W2 = W3 at HL3 HN3 ⊢
      have HK3 : Aside0 (KeepBook W2 W3) := ⟨by rw [hW3]; exact KeepBook.refl _⟩
    rotate_left
    focus
      have HL3 : Aside0 (LayI w w.heap.size M A0 (some ad) rows.length c0 ends.length c1 ⟨s.ps, r, if (r : Int) = s.at_ then s.col else 0, s.most⟩ v ((W2.setCell ⟨M + 1 + 1 + 1, 0, none⟩ (.int .i64 r)).setCell ⟨M + 1 + 1 + 1 + 1, 0, none⟩ (.int .i64 0))) := ⟨by rw [if_neg hra]; exact HL2.out.put hwM (by omega) r 0⟩
      have HN3 := Aside0.mk (BlkIs.other (BlkIs.other HN2.out (p := ⟨M + 1 + 1 + 1, 0, none⟩) (by show N ≠ M + 1 + 1 + 1; omega) (.int .i64 r)) (p := ⟨M + 1 + 1 + 1 + 1, 0, none⟩) (by show N ≠ M + 1 + 1 + 1 + 1; omega) (.int .i64 0))
      have HK3 := Aside0.mk (((KeepBook.refl W2).setCell ⟨M + 1 + 1 + 1, 0, none⟩ (.int .i64 r)).setCell ⟨M + 1 + 1 + 1 + 1, 0, none⟩ (.int .i64 0))
      clear HL2 HN2 y3 f3 l3 f4 l4 y4
      generalize hW3 : ((W2.setCell ⟨M + 1 + 1 + 1, 0, none⟩ (.int .i64 r)).setCell ⟨M + 1 + 1 + 1 + 1, 0, none⟩ (.int .i64 0)) = W3 at HL3 HN3 HK3 ⊢
    all_goals
      clear hW3
      have HRA := Lib.hid hra
      clear hra
      have y7 : W3.cell? ⟨M + 1 + 1, 0, none⟩ = some (.pointer (some ⟨M + 1, 0, none⟩)) := BlkIs.cell HL3.out.p 0
      have y9 : W3.cell? ⟨M + 1 + 1 + 1 + 1, 0, none⟩ = some (.int .i64 (if (r : Int) = s.at_ then s.col else 0)) := BlkIs.cell HL3.out.c 0
      have y3 : W3.cell? ⟨w.heap.size, 0, none⟩ = some (.slice (some ad) ends.length c1) := BlkIs.cell HL3.out.e 0
      have ye : W3.cell? (ad.add r) = some (.int .i64 en) := (HL3.out.b.cell hadlt).trans HX0.out
      have n0 : W3.cell? ⟨N, 0, none⟩ = some (.int .i64 m0) := BlkIs.cell HN3.out 0
      have n1 : W3.cell? ⟨N, 1, none⟩ = some (.int .i64 m1) := BlkIs.cell HN3.out 1
      have n2 : W3.cell? ⟨N, 2, none⟩ = some (.int .i64 m2) := BlkIs.cell HN3.out 2
      obtain ⟨from_, hfr⟩ : ∃ f, f = (if (r : Int) = s.at_ then s.col else 0) := ⟨_, rfl⟩
      rw [← hfr] at y9 HL3
      have hf0 : 0 ≤ from_ ∧ from_ ≤ s.most := by
        have h0 := HBd.out.c0
        have h1 := HBd.out.cm
        rw [hfr]; split <;> omega
      have HF := Lib.hid hfr
      clear hfr
      have hpl := place_ok (r := r) (end_ := en) (c := ⟨m0, m1, m2⟩) HBd.out.inb hm hf0.1 hf0.2 hc1
      obtain ⟨p, hp⟩ : ∃ p, p = placeP s.ps en r from_ ⟨m0, m1, m2⟩ := ⟨_, rfl⟩
      have hp3 : p.f3 = if m2 > 0 then min m2 (en - r) else en - r := by rw [hp]; rfl
      have hp0 : p = ⟨m0, r, p.f2, p.f3, p.f4⟩ := by rw [hp]; rfl
      rw [← hp] at hpl
      have HPP := Lib.hid hp
      have hq0 := hpl.q0
      have hq1 := hpl.q1
      have hlays := lays_any ⟨m0, m1, m2⟩ (M + 1) M v s.ps (takenT s.ps) s.most r from_ en p.f3 p.f2 p.f4 w.heap.size W3.drew HL3.out.drew.l HL3.out.drew.m HL3.out.drew.o HL3.out.drew.b.size (by have := HLen.out; have := HCL.out; rw [HX.out] at this; simp at this; omega) ⟨by omega, by omega, by omega⟩ ⟨hf0.1, hq0, by omega⟩ hpl.t1 hpl.t2 ⟨hpl.n0, hpl.n2⟩ hpl.n1 hpl.t3 hpl.t4 hp3
      rw [show rectT (takenT s.ps) r p.f2 p.f4 p.f3 = takenT (s.ps ++ [p]) from by conv => rhs; rw [← rect_taken, show p.f1 = r by rw [hp0]], show (⟨(⟨m0, m1, m2⟩ : Sp).f0, r, p.f2, p.f3, p.f4⟩ : Pl) = p from hp0.symm] at hlays
      have HLY := Lib.hid hlays
      have HPL := Lib.hid hpl
      clear hlays hp hp3 hp0 hpl
      have HS := (⟨y7, y3, ye, n0, n1, n2⟩ : (fun V : World => V.cell? ⟨M + 1 + 1, 0, none⟩ = some (.pointer (some ⟨M + 1, 0, none⟩)) ∧ V.cell? ⟨w.heap.size, 0, none⟩ = some (.slice (some ad) ends.length c1) ∧ V.cell? (ad.add r) = some (.int .i64 en) ∧ V.cell? ⟨N, 0, none⟩ = some (.int .i64 m0) ∧ V.cell? ⟨N, 1, none⟩ = some (.int .i64 m1) ∧ V.cell? ⟨N, 2, none⟩ = some (.int .i64 m2)) W3.drew)
      refine beginH (fun V : World => V.cell? ⟨M + 1 + 1, 0, none⟩ = some (.pointer (some ⟨M + 1, 0, none⟩)) ∧ V.cell? ⟨w.heap.size, 0, none⟩ = some (.slice (some ad) ends.length c1) ∧ V.cell? (ad.add r) = some (.int .i64 en) ∧ V.cell? ⟨N, 0, none⟩ = some (.int .i64 m0) ∧ V.cell? ⟨N, 1, none⟩ = some (.int .i64 m1) ∧ V.cell? ⟨N, 2, none⟩ = some (.int .i64 m2)) (by kernel_rfl) ?_
      (refine takeH (i := 0) (v := ?_) rfl (by kernel_rfl) (by kernel_rfl) (by kernel_rfl) (by kernel_rfl) (fun _ _ _ h => h) ⟨Or.inl ⟨by rfl, ?_⟩, fun _ => rfl⟩ HS ?_; rotate_left; focus (rintro wS ⟨s1, s2, s3, s4, s5, s6⟩; go_simp; try (with_reducible rfl)); (try simp only [Act.put, List.setIfInBounds_toArray, List.set_cons_zero, List.set_cons_succ]))
      (refine takeH (i := 1) (v := ?_) rfl (by kernel_rfl) (by kernel_rfl) (by kernel_rfl) (by kernel_rfl) (fun _ _ _ h => h) ⟨Or.inl ⟨by rfl, ?_⟩, fun _ => rfl⟩ HS ?_; rotate_left; focus (rintro wS ⟨s1, s2, s3, s4, s5, s6⟩; go_simp; try (with_reducible rfl)); (try simp only [Act.put, List.setIfInBounds_toArray, List.set_cons_zero, List.set_cons_succ]))
      (refine takeH (i := 2) (v := ?_) rfl (by kernel_rfl) (by kernel_rfl) (by kernel_rfl) (by kernel_rfl) (fun _ _ _ h => h) ⟨Or.inl ⟨by rfl, ?_⟩, fun _ => rfl⟩ HS ?_; rotate_left; focus (rintro wS ⟨s1, s2, s3, s4, s5, s6⟩; go_simp; try (with_reducible rfl)); (try simp only [Act.put, List.setIfInBounds_toArray, List.set_cons_zero, List.set_cons_succ]))
      (refine takeH (i := 4) (v := ?_) rfl (by kernel_rfl) (by kernel_rfl) (by kernel_rfl) (by kernel_rfl) (fun _ _ _ h => h) ⟨Or.inl ⟨by rfl, ?_⟩, fun _ => rfl⟩ HS ?_; rotate_left; focus (rintro wS ⟨s1, s2, s3, s4, s5, s6⟩; go_simp; try (with_reducible rfl)); (try simp only [Act.put, List.setIfInBounds_toArray, List.set_cons_zero, List.set_cons_succ]))
      (refine takeH (i := 5) (v := ?_) rfl (by kernel_rfl) (by kernel_rfl) (by kernel_rfl) (by kernel_rfl) (fun _ _ _ h => h) ⟨Or.inl ⟨by rfl, ?_⟩, fun _ => rfl⟩ HS ?_; rotate_left; focus (rintro wS ⟨s1, s2, s3, s4, s5, s6⟩; go_simp; try (with_reducible rfl)); (try simp only [Act.put, List.setIfInBounds_toArray, List.set_cons_zero, List.set_cons_succ]))
      (refine takeH (i := 6) (v := ?_) rfl (by kernel_rfl) (by kernel_rfl) (by kernel_rfl) (by kernel_rfl) (fun _ _ _ h => h) ⟨Or.inl ⟨by rfl, ?_⟩, fun _ => rfl⟩ HS ?_; rotate_left; focus (rintro wS ⟨s1, s2, s3, s4, s5, s6⟩; go_simp; try (with_reducible rfl)); (try simp only [Act.put, List.setIfInBounds_toArray, List.set_cons_zero, List.set_cons_succ]))
      (refine takeH (i := 7) (v := ?_) rfl (by kernel_rfl) (by kernel_rfl) (by kernel_rfl) (by kernel_rfl) (fun _ _ _ h => h) ⟨Or.inl ⟨by rfl, ?_⟩, fun _ => rfl⟩ HS ?_; rotate_left; focus (rintro wS ⟨s1, s2, s3, s4, s5, s6⟩; go_simp; try (with_reducible rfl)); (try simp only [Act.put, List.setIfInBounds_toArray, List.set_cons_zero, List.set_cons_succ]))
      (refine oneH (i := 3) rfl (by kernel_rfl) (fun K hK => ?_); go_simp)
      (refine hK _ _ ⟨HS, ?_⟩; clear hK K; (try simp only [Act.put, List.setIfInBounds_toArray, List.set_cons_zero, List.set_cons_succ]))
      (refine oneH (i := 8) rfl (by kernel_rfl) (fun K hK => ?_); go_simp)
      refine (CallsIn.inRound _ (callsIn_wide.2 HLY.out)).mono ?_
      rintro e w4 ⟨v1, rfl, hl4, hm4, ho4, hk4⟩
      dsimp only
      have hL4 := HL3.out.drew.next (p := p) hwM (by omega) hl4 hm4 ho4 hk4
      have HN4 := Aside0.mk (hk4.blk (show BlkIs W3.drew N _ _ from BlkIs.drew HN3.out) (HL3.out.drew.free (BlkIs.drew HN3.out) (by decide) (by omega)))
      have HK4 := Aside0.mk (HK3.out.drew.trans (HL3.out.drew.keep hk4))
      have HS4 := (⟨BlkIs.cell hL4.p 0, BlkIs.cell hL4.e 0, (hL4.b.cell hadlt).trans HX0.out, BlkIs.cell HN4.out 0, BlkIs.cell HN4.out 1, BlkIs.cell HN4.out 2⟩ : (fun V : World => V.cell? ⟨M + 1 + 1, 0, none⟩ = some (.pointer (some ⟨M + 1, 0, none⟩)) ∧ V.cell? ⟨w.heap.size, 0, none⟩ = some (.slice (some ad) ends.length c1) ∧ V.cell? (ad.add r) = some (.int .i64 en) ∧ V.cell? ⟨N, 0, none⟩ = some (.int .i64 m0) ∧ V.cell? ⟨N, 1, none⟩ = some (.int .i64 m1) ∧ V.cell? ⟨N, 2, none⟩ = some (.int .i64 m2)) w4)
      have z9 : w4.cell? ⟨M + 1 + 1 + 1 + 1, 0, none⟩ = some (.int .i64 from_) := BlkIs.cell hL4.c 0
      have f9 := BlkIs.frozen hL4.c 0
      have l9 := BlkIs.lt hL4.c
      have HL4 := Aside0.mk hL4
      clear hL4 hl4 hm4 ho4 hk4 y7 y9 y3 ye n0 n1 n2 HL3 HN3 HK3
      (refine hK _ _ ⟨HS4, ?_⟩; clear hK K; (try simp only [Act.put, List.setIfInBounds_toArray, List.set_cons_zero, List.set_cons_succ]))
      (refine oneH (i := 9) rfl (by kernel_rfl) (fun K hK => ?_); go_simp)
      have HL5 : Aside0 (LayI w w.heap.size M A0 (some ad) rows.length c0 ends.length c1 (stepP ends s (r, ⟨m0, m1, m2⟩)) v1 (w4.setCell ⟨M + 1 + 1 + 1 + 1, 0, none⟩ (.int .i64 (p.f2 + p.f4)))) := ⟨by
        have h := HL4.out.col hwM (by omega) (p.f2 + p.f4)
        unfold stepP
        dsimp only
        rw [List.getD_eq_getElem?_getD, HEN.out, Option.getD_some, ← HF.out, ← HPP.out]
        exact h⟩
      have HN5 := Aside0.mk (BlkIs.other HN4.out (p := ⟨M + 1 + 1 + 1 + 1, 0, none⟩) (by show N ≠ M + 1 + 1 + 1 + 1; omega) (.int .i64 (p.f2 + p.f4)))
      have HK5 := Aside0.mk (HK4.out.setCell ⟨M + 1 + 1 + 1 + 1, 0, none⟩ (.int .i64 (p.f2 + p.f4)))
      have HS5 := (⟨BlkIs.cell HL5.out.p 0, BlkIs.cell HL5.out.e 0, (HL5.out.b.cell hadlt).trans HX0.out, BlkIs.cell HN5.out 0, BlkIs.cell HN5.out 1, BlkIs.cell HN5.out 2⟩ : (fun V : World => V.cell? ⟨M + 1 + 1, 0, none⟩ = some (.pointer (some ⟨M + 1, 0, none⟩)) ∧ V.cell? ⟨w.heap.size, 0, none⟩ = some (.slice (some ad) ends.length c1) ∧ V.cell? (ad.add r) = some (.int .i64 en) ∧ V.cell? ⟨N, 0, none⟩ = some (.int .i64 m0) ∧ V.cell? ⟨N, 1, none⟩ = some (.int .i64 m1) ∧ V.cell? ⟨N, 2, none⟩ = some (.int .i64 m2)) (w4.setCell ⟨M + 1 + 1 + 1 + 1, 0, none⟩ (.int .i64 (p.f2 + p.f4))))
      (refine hK _ _ ⟨HS5, ?_⟩; clear hK K; (try simp only [Act.put, List.setIfInBounds_toArray, List.set_cons_zero, List.set_cons_succ]))
      (refine doneH (by kernel_rfl) ?_ _)
      simp only [Exit.then]
      clear HS HS4 HS5 HL4 HN4 HK4 z9 f9 l9
      generalize w4.setCell ⟨M + 1 + 1 + 1 + 1, 0, none⟩ (.int .i64 (p.f2 + p.f4)) = W5 at HL5 HN5 HK5 ⊢
      obtain ⟨s', hs'⟩ : ∃ s', s' = stepP ends s (r, ⟨m0, m1, m2⟩) := ⟨_, rfl⟩
      rw [← hs'] at HL5
      have hbd' : BdS s' := by rw [hs']; exact step_bd HBd.out hm hc1
      have hlen' : s'.ps.length ≤ (pre ++ [((r, ⟨m0, m1, m2⟩) : Nat × Sp)]).length := by rw [hs']; unfold stepP; have := HLen.out; simp; omega
      have hrun' : runP ends ((r, ⟨m0, m1, m2⟩) :: rest) s = s1 := HRun.out _ HX.out
      unfold runP at hrun'
      rw [← hs'] at hrun'
      have HBd' := Lib.hid hbd'
      have HLen' := Lib.hid hlen'
      have HRun' := Lib.hid hrun'
      have HSS := Lib.hid hs'
      clear hbd' hlen' hrun' hs'
      have y7 : W5.cell? ⟨M + 1 + 1, 0, none⟩ = some (.pointer (some ⟨M + 1, 0, none⟩)) := BlkIs.cell HL5.out.p 0
      have y2 : W5.cell? ⟨M + 1, 2, none⟩ = some (.int .i64 s'.most) := BlkIs.cell HL5.out.l 2
      have l1 := BlkIs.lt HL5.out.l
      have l2 := BlkIs.lt HL5.out.p
      by_cases hbig : 10000 < s'.most
      · gi_wp2
        exact ⟨HK5.out, s', ⟨rfl, by have := HRun'.out; rwa [if_pos hbig] at this, hbig⟩, v1, HL5.out⟩
      · gi_wp2
        refine ⟨HK5.out, s', ⟨fun rest' h => ?_, by omega, HBd'.out, HLen'.out⟩, v1, HL5.out⟩
        have h2 := HX.out
        rw [h, List.append_assoc] at h2
        have h3 := List.append_cancel_left h2
        simp only [List.singleton_append, List.cons.injEq, true_and] at h3
        subst h3
        have := HRun'.out
        rwa [if_neg (by omega)] at this
end Go.Proofs.Ytfoocmmjefdojaa.K
namespace Go.Proofs.Ytfoocmmjefdojaa.K
open Go.RowKit Go.Proofs.YtfoocmmjefdojaaW.PrintWords Go.Proofs.YtfoocmmjefdojaaW.PrintLast Go.Proofs.YtfoocmmjefdojaaW.PrintMore
set_option linter.unusedVariables false
set_option linter.unusedSimpArgs false
attribute [local go_sem] Oper.semAt_some

set_option maxRecDepth 100000 in
set_option maxHeartbeats 4000000 in
theorem lay_no (rows : List (List Sp)) (ends : List Int) (A0 A1 : Option Addr) (c0 c1 : Nat) (w : World) (hr0 : Kd.C (Kd.slice 34 k34) w A0 rows.length rows) (hc0 : rows.length ≤ c0) (hr1 : Kd.C (Kd.int .i64) w A1 ends.length ends) (hc1 : ends.length ≤ c1)
    (hR : gridRightB rows ends = false) :
    Calls Try.prog 17 #[.slice A0 rows.length c0, .slice A1 ends.length c1] w fun e w' => e = .returned (.tuple #[.slice none 0 0, .int .i64 0, .int .i64 70]) ∧ Below w.heap.size w w' := by
  have hn0 := gright_any rows ends A0 A1 c0 c1 (w.alloc (.cells #[.slice A1 ends.length c1] 23)) (Kd.C_alloc hr0 _) hc0 (Kd.C_alloc hr1 _) hc1
  rw [hR] at hn0
  have HN := Lib.hid hn0
  clear hn0 hr0 hr1 hR hc0 hc1
  refine calls_of_wp_marks Try.func17 rfl ?_
  simp only [Try.ntmps17, List.size_toArray, List.length_cons, List.length_nil, Nat.reduceAdd, Nat.reduceSub, Array.replicate_succ, Array.replicate_zero, List.push_toArray, List.append_toArray, List.nil_append, List.cons_append]
  go_wp2
  go_step3
  go_wp2_with (go_at_call 19; refine HN.out.mono ?_; rintro e w1 ⟨rfl, hb1⟩; have HB1 := Lib.hid hb1; clear hb1)
  rw [Exit.noGoto_ret]
  refine leaves_marks (v := .tuple #[.slice none 0 0, .int .i64 0, .int .i64 70]) (B := w.heap.size) ⟨[], rfl, by simp, fun _ h => nomatch h⟩ (fun W' hs => ⟨?_, ?_⟩)
  · simp [results, Try.results17]
  · exact ⟨rfl, hs.stab _ (Stab.below (Nat.le_refl _) (Nat.le_refl _)) (((Below.refl _ w).alloc (Nat.le_refl _) _).trans (HB1.out.mono (by simp)))⟩

/-- Lay, told; of rows that are not too many -/
def grid_Lay.f (l0 : List (List Sp)) (l1 : List Int) : Option ((List Pl) × Int × Int) :=
  if gridRightB l0 l1 = true then
    if (cellsFrom 0 l0).length ≤ 100000 then
      some (if (runP l1 (cellsFrom 0 l0) ⟨[], 0, 0, 0⟩).most > 10000 then ([], 0, 43) else ((runP l1 (cellsFrom 0 l0) ⟨[], 0, 0, 0⟩).ps, (runP l1 (cellsFrom 0 l0) ⟨[], 0, 0, 0⟩).most, 0))
    else none
  else some ([], 0, 70)
theorem grid_Lay.calls (A0 : Option Addr) (c0 : Nat) (l0 : List (List Sp)) (A1 : Option Addr) (c1 : Nat) (l1 : List Int) (r1 : List Pl) (r2 : Int) (r3 : Int) (w : World) (hr0 : Kd.C (Kd.slice 34 k34) w A0 l0.length l0) (hc0 : l0.length ≤ c0) (hr1 : Kd.C (Kd.int .i64) w A1 l1.length l1) (hc1 : l1.length ≤ c1) (h : grid_Lay.f l0 l1 = some (r1, r2, r3)) :
    Calls Try.prog 17 #[.slice A0 l0.length c0, .slice A1 l1.length c1] w fun e w' => ∃ v0_ : Value, e = .returned (.tuple #[v0_, .int .i64 r2, .int .i64 r3]) ∧ Kd.R k40 40 w' w.heap.size (fun _ => True) v0_ r1 ∧ Below w.heap.size w w' := by
  unfold grid_Lay.f at h
  by_cases hR : gridRightB l0 l1 = true
  · rw [if_pos hR] at h
    split at h
    · rename_i hl
      have hh := Option.some.inj h
      refine (lay_yes l0 l1 A0 A1 c0 c1 w hr0 hc0 hr1 hc1 hR hl _ rfl).mono ?_
      rintro e w' ⟨v, he, hO, hB⟩
      by_cases hm : (runP l1 (cellsFrom 0 l0) ⟨[], 0, 0, 0⟩).most > 10000
      · rw [if_pos hm] at hh
        rw [if_pos hm, if_pos hm] at he
        rw [if_pos hm] at hO
        cases hh
        exact ⟨v, he, hO, hB⟩
      · rw [if_neg hm] at hh
        rw [if_neg hm, if_neg hm] at he
        rw [if_neg hm] at hO
        cases hh
        exact ⟨v, he, hO, hB⟩
    · cases h
  · rw [if_neg hR] at h
    cases h
    refine (lay_no l0 l1 A0 A1 c0 c1 w hr0 hc0 hr1 hc1 (by simpa using hR)).mono ?_
    rintro e w' ⟨rfl, hB⟩
    exact ⟨_, rfl, Kd.R_nil _ _ _ _ _, hB⟩
end Go.Proofs.Ytfoocmmjefdojaa.K
