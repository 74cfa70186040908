/- Layer 8: Break. -/
import Derived.Test.YteckkphbgfmolaaLnN
namespace Go.Proofs.Yteckkphbgfmolaa.K
open Go.RowKit Go.Proofs.YteckkphbgfmolaaW.PrintWords Go.Proofs.YteckkphbgfmolaaW.PrintLast Go.Proofs.YteckkphbgfmolaaW.PrintMore
set_option linter.unusedVariables false
set_option linter.unusedSimpArgs false
attribute [local go_sem] Oper.semAt_some

theorem infoLine : (Try.prog.info? 57).map (fun i => (i.zero, i.size, i.bytes)) = some (some (.agg #[(.int .i64 0), (.int .i64 0)]), 2, 16) := by kernel_rfl
def lineS (x : Nat × Nat) : S57 := ⟨(x.1 : Int), (x.2 : Int)⟩
def linesP (n : Nd) (width : Int) : List (Nat × Nat) := linesN n.f3 n.f4 width n.f3.length 0
theorem right_facts {n : Nd} (h : rightB n = true) : n.f0 = 1 ∧ n.f3.length ≤ 10000 ∧ (0 ≤ n.f4 ∧ n.f4 ≤ 1073741824) ∧ (0 ≤ n.f5 ∧ n.f5 ≤ 1073741824) ∧ ∀ x ∈ n.f3, 0 ≤ x ∧ x ≤ 1073741824 := by
  unfold rightB lengthB at h
  simp only [Bool.and_eq_true, decide_eq_true_eq, List.all_cons, List.all_nil, Bool.and_true, List.all_eq_true] at h
  obtain ⟨⟨h1, h2⟩, ⟨h3, h4⟩, h5⟩ := h
  exact ⟨h1, by omega, h3, h4, h5⟩

set_option maxRecDepth 100000 in
set_option maxHeartbeats 4000000 in
theorem break_no (A1 : Option Addr) (c1 : Nat) (A3 : Option Addr) (c3 : Nat) (n : Nd) (width : Int) (w : World) (hr1 : Kd.C (Kd.int .i64) w A1 n.f1.length n.f1) (hc1 : n.f1.length ≤ c1) (hr3 : Kd.C (Kd.int .i64) w A3 n.f3.length n.f3) (hc3 : n.f3.length ≤ c3) (hR : rightB n = false) :
    Calls Try.prog 12 #[.agg (nodeC A1 c1 A3 c3 n), .int .i64 width] w fun e w' => e = .returned (.tuple #[.slice none 0 0, .int .i64 90]) ∧ Below w.heap.size w w' := by
  have hn := right_any A1 c1 A3 c3 n (w.alloc (.cells (nodeC A1 c1 A3 c3 n) 35)) (Kd.C_alloc hr1 _) hc1 (Kd.C_alloc hr3 _) hc3
  rw [hR] at hn
  have hrow : (w.alloc (.cells (nodeC A1 c1 A3 c3 n) 35)).rangeAt w.heap.size 0 (nodeC A1 c1 A3 c3 n).toList := (Blk.new w 35 (nodeC A1 c1 A3 c3 n)).range
  have hlen : (Try.prog.info? 35).map (·.size) = some (nodeC A1 c1 A3 c3 n).toList.length := by kernel_rfl
  have HN := Lib.hid hn
  have HLEN := Lib.hid hlen
  clear hn hR hr1 hr3 hc1 hc3 hlen
  generalize nodeC A1 c1 A3 c3 n = cs at HN hrow HLEN ⊢
  refine calls_of_wp_marks Try.func12 rfl ?_
  simp only [Try.ntmps12, List.size_toArray, List.length_cons, List.length_nil, Nat.reduceAdd, Nat.reduceSub, Array.replicate_succ, Array.replicate_zero, List.push_toArray, List.append_toArray, List.nil_append, List.cons_append]
  go_wp2_with (first | (refine wpList_load_mid rfl 35 _ rfl _ _ rfl _ _ hrow Try.underlying35 rfl HLEN.out ?_) | (go_at_call 15; refine HN.out.mono ?_; rintro e w1 ⟨rfl, hb1⟩; have HB1 := Lib.hid hb1; clear hb1))
  refine leaves_marks (v := .tuple #[.slice none 0 0, .int .i64 90]) (B := w.heap.size) ⟨[], rfl, by simp, fun _ h => nomatch h⟩ (fun W' hs => ⟨?_, ?_⟩)
  · simp [results, Try.results12]
  · exact ⟨rfl, hs.stab _ (Stab.below (Nat.le_refl _) (Nat.le_refl _)) (((Below.refl _ w).alloc (Nat.le_refl _) _).trans (HB1.out.mono (by simp)))⟩

theorem R_keepsF {α : Type} {d : Kd α} {e : Nat} {W W' : World} {base B : Nat} {F G : Nat → Prop} {v : Value} {xs : List α} (h : Kd.R d e W base G v xs) (hk : KeepsF B F W W') (hF : ∀ k, G k → F k) : Kd.R d e W' base G v xs :=
  Kd.R_mono (Kd.R_move (Kd.R_bound h) (fun k hg => by
    obtain ⟨h1, _, _, q, _, cells, hc⟩ := hg
    rcases hk.block k (hF k h1) with e | ⟨_, o, ho, hb⟩
    · exact e
    · rw [hc] at ho; cases ho; cases hb)) (fun _ hk => hk.1)

theorem linesN_len (ws : List Int) (blank width : Int) : ∀ (k f : Nat), (linesN ws blank width k f).length ≤ k
  | 0, f => Nat.le_refl _
  | k + 1, f => by
    unfold linesN
    cases ws[f]? with
    | none => exact Nat.zero_le _
    | some x => dsimp only; rw [List.length_cons]; have := linesN_len ws blank width k (endN ws blank width ws.length (f + 1) x); omega
theorem linesN_mem (ws : List Int) (blank width : Int) : ∀ (k f : Nat), ∀ x ∈ linesN ws blank width k f, 1 ≤ x.2
  | 0, f, x, h => nomatch h
  | k + 1, f, x, h => by
    unfold linesN at h
    cases hx : ws[f]? with
    | none => rw [hx] at h; cases h
    | some y =>
      rw [hx] at h
      have hlt := (List.getElem?_eq_some_iff.1 hx).1
      rcases List.mem_cons.1 h with rfl | h
      · have := (endN_bound ws blank width ws.length (f + 1) y (by omega)).1
        dsimp only; omega
      · exact linesN_mem ws blank width k _ x h
theorem line_ne (a b : Int) (hb : 1 ≤ b) (w : World) : (Op.equalIn 10000 64 (.agg #[.int .i64 a, .int .i64 b]) (.agg #[.int .i64 0, .int .i64 0])).run Try.prog w = .ok false w := by
  have hi : ∃ i, Try.prog.info? 3 = some i := info_of_underlying Try.underlying3
  obtain ⟨i, hi⟩ := hi
  rw [show 10000 = 9998 + 1 + 1 from rfl, run_equalIn_array w (9998 + 1) _ _ Try.underlying64 hi]
  rw [show List.range 2 = [0, 1] from rfl]
  have p0 : ∀ (x y : Int) w, (part 3 #[.int .i64 x, .int .i64 y] (0 * Try.prog.cellsOf 3)).run Try.prog w = .ok (.int .i64 x) w := fun x y w => by kernel_rfl
  have p1 : ∀ (x y : Int) w, (part 3 #[.int .i64 x, .int .i64 y] (1 * Try.prog.cellsOf 3)).run Try.prog w = .ok (.int .i64 y) w := fun x y w => by kernel_rfl
  have q : ∀ x y w, (Op.equalIn (9998 + 1) 3 (.int .i64 x) (.int .i64 y)).run Try.prog w = .ok (x == y) w := fun x y w => by rw [run_equalIn_int w 9998 3 .i64 .i64 x y Try.underlying3]
  have p1' : ∀ (x y : Int) w, (part 3 #[.int .i64 x, .int .i64 y] (Try.prog.cellsOf 3)).run Try.prog w = .ok (.int .i64 y) w := fun x y w => by kernel_rfl
  have q' : ∀ x y w, (Op.equalIn 9999 3 (.int .i64 x) (.int .i64 y)).run Try.prog w = .ok (x == y) w := q
  have hb0 : ¬ b = 0 := by omega
  simp only [Op.eqItems, Sem.run_bind, p0, p1, q, Result.andThen_ok]
  by_cases h0 : a = 0 <;> simp [h0, hb0, Sem.run_pure, p1', q', Result.andThen]

/-- the blocks of Break's loop -/
structure BrkI (w : World) (O : Nat) (cs : Array Value) (width : Int) (pre : List (Nat × Nat)) (G : Nat → Prop) (v : Value) (W : World) : Prop where
  o : Blk W O 38 #[v]
  n : Blk W (O + 1) 35 cs
  d : Blk W (O + 1 + 1) 2 #[.int .i64 width]
  r : Kd.R k57 57 W w.heap.size G v (pre.map lineS)
  b : Below w.heap.size w W
theorem BrkI.keeps {w : World} {O B : Nat} {cs : Array Value} {width : Int} {pre : List (Nat × Nat)} {F G : Nat → Prop} {v : Value} {W W' : World} (h : BrkI w O cs width pre G v W) (hk : KeepsF B F W W') (h1 : ∀ k, k < O + 3 → F k) (h2 : ∀ k, G k → F k) (hw : w.heap.size ≤ B) (hwO : w.heap.size ≤ O) : BrkI w O cs width pre G v W' :=
  ⟨hk.blk (h1 _ (by omega)) h.o, hk.blk (h1 _ (by omega)) h.n, hk.blk (h1 _ (by omega)) h.d, R_keepsF h.r hk h2, hk.below (fun k hk => h1 k (by omega)) hw h.b⟩

set_option maxRecDepth 100000 in
set_option maxHeartbeats 4000000 in
theorem break_yes (A1 : Option Addr) (c1 : Nat) (A3 : Option Addr) (c3 : Nat) (n : Nd) (width : Int) (w : World) (hr1 : Kd.C (Kd.int .i64) w A1 n.f1.length n.f1) (hc1 : n.f1.length ≤ c1) (hr3 : Kd.C (Kd.int .i64) w A3 n.f3.length n.f3) (hc3 : n.f3.length ≤ c3) (hR : rightB n = true) :
    Calls Try.prog 12 #[.agg (nodeC A1 c1 A3 c3 n), .int .i64 width] w fun e w' => ∃ v0_ : Value, e = .returned (.tuple #[v0_, .int .i64 0]) ∧ Kd.R k57 57 w' w.heap.size (fun _ => True) v0_ ((linesP n width).map lineS) ∧ Below w.heap.size w w' := by
  have hn := right_any A1 c1 A3 c3 n (w.alloc (.cells (nodeC A1 c1 A3 c3 n) 35)) (Kd.C_alloc hr1 _) hc1 (Kd.C_alloc hr3 _) hc3
  rw [hR] at hn
  have hrow : (w.alloc (.cells (nodeC A1 c1 A3 c3 n) 35)).rangeAt w.heap.size 0 (nodeC A1 c1 A3 c3 n).toList := (Blk.new w 35 (nodeC A1 c1 A3 c3 n)).range
  have hlen : (Try.prog.info? 35).map (·.size) = some (nodeC A1 c1 A3 c3 n).toList.length := by kernel_rfl
  have hbr := fun W : World => broken_any A1 c1 A3 c3 n width W
  obtain ⟨-, hf2, hf4, -, hf3⟩ := right_facts hR
  have hit := fun B B2 => broken1_iter n.f3 n.f4 width B B2 A3 c3 hc3 (fun x hx => by have := hf3 x hx; unfold I64; omega) (by unfold I64; omega)
  have q31 : (nodeC A1 c1 A3 c3 n)[31]? = some (.slice A3 n.f3.length c3) := rfl
  have q32 : (nodeC A1 c1 A3 c3 n)[32]? = some (.int .i64 n.f4) := rfl
  have HN := Lib.hid hn
  have HLEN := Lib.hid hlen
  have HBR := Lib.hid hbr
  have HIT := Lib.hid hit
  have H3 := Lib.hid hr3
  have Q31 := Lib.hid q31
  have Q32 := Lib.hid q32
  have hll : (linesP n width).length ≤ 10000 := Nat.le_trans (linesN_len _ _ _ _ _) hf2
  have hl1 : ∀ x ∈ linesP n width, 1 ≤ x.2 := fun x hx => (linesN_mem _ _ _ _ _ x hx)
  have HL1 := Lib.hid hl1
  clear hl1
  have HLL := Lib.hid hll
  clear hn hR hr1 hr3 hc1 hc3 hlen hbr hit hf3 hf2 hf4 q31 q32 hll
  obtain ⟨lines, hlines⟩ : ∃ lines, lines = linesP n width := ⟨_, rfl⟩
  unfold linesP at hlines HLL HL1
  unfold linesP
  rw [← hlines] at HIT HLL HL1 ⊢
  clear hlines
  obtain ⟨ws, hws⟩ : ∃ ws, ws = n.f3 := ⟨_, rfl⟩
  rw [← hws] at HIT Q31 H3
  obtain ⟨blank, hblank⟩ : ∃ b, b = n.f4 := ⟨_, rfl⟩
  rw [← hblank] at HIT Q32
  clear hws hblank
  generalize nodeC A1 c1 A3 c3 n = cs at HN hrow HLEN HBR Q31 Q32 ⊢
  refine calls_of_wp_marks Try.func12 rfl ?_
  simp only [Try.ntmps12, List.size_toArray, List.length_cons, List.length_nil, Nat.reduceAdd, Nat.reduceSub, Array.replicate_succ, Array.replicate_zero, List.push_toArray, List.append_toArray, List.nil_append, List.cons_append]
  go_wp2_with (first | (refine wpList_load_mid rfl 35 _ rfl _ _ rfl _ _ hrow Try.underlying35 rfl HLEN.out ?_) | (go_at_call 15; refine HN.out.mono ?_; rintro e w1 ⟨rfl, hb1⟩; have HB1 := Lib.hid hb1; have hz1 := hb1.size; have hrow1 : (w1.alloc (.cells #[.slice none 0 0] 38)).rangeAt w.heap.size 0 cs.toList := (Blk.alloc (Blk.below (Blk.new w 35 cs) hb1 (by simp)) _).range; clear hb1) | (refine wpList_load_mid rfl 35 _ rfl _ _ rfl _ _ hrow1 Try.underlying35 rfl HLEN.out ?_) | (go_at_call 25; refine (HBR.out _).mono ?_; rintro e w5 ⟨rfl, rfl⟩))
  obtain ⟨O, hO⟩ : ∃ O, O = w1.heap.size := ⟨_, rfl⟩
  simp only [World.size_alloc] at hz1
  have hz0 : (((w1.alloc (.cells #[.slice none 0 0] 38)).alloc (.cells cs 35)).alloc (.cells #[.int .i64 width] 2)).heap.size = O + 3 := by simp; omega
  have hI0 : BrkI w O cs width [] (fun _ => False) (.slice none 0 0) (((w1.alloc (.cells #[.slice none 0 0] 38)).alloc (.cells cs 35)).alloc (.cells #[.int .i64 width] 2)) := by
    have e1 : Blk ((w1.alloc (.cells #[.slice none 0 0] 38)).alloc (.cells cs 35)) (O + 1) 35 cs := by
      have := Blk.new (w1.alloc (.cells #[.slice none 0 0] 38)) 35 cs
      rw [World.size_alloc, ← hO] at this; exact this
    have e2 : Blk (((w1.alloc (.cells #[.slice none 0 0] 38)).alloc (.cells cs 35)).alloc (.cells #[.int .i64 width] 2)) (O + 1 + 1) 2 #[.int .i64 width] := by
      have := Blk.new ((w1.alloc (.cells #[.slice none 0 0] 38)).alloc (.cells cs 35)) 2 #[.int .i64 width]
      rw [World.size_alloc, World.size_alloc, ← hO] at this; exact this
    have hb : Below w.heap.size w w1 := ((Below.refl _ w).alloc (Nat.le_refl _) _).trans (HB1.out.mono (by simp))
    exact ⟨(Blk.alloc (Blk.alloc (hO ▸ Blk.new w1 _ _) _) _), Blk.alloc e1 _, e2, Kd.R_nil _ _ _ _ _, ((hb.alloc hb.size _).alloc (by have := hb.size; simp; omega) _).alloc (by have := hb.size; simp; omega) _⟩
  rw [← hO]
  have HI0 := Lib.hid hI0
  have HZ0 := Lib.hid hz0
  have hwO : w.heap.size < O := by omega
  clear hI0 hz0 hO hz1 hrow1 HB1 HN hrow
  generalize (((w1.alloc (.cells #[.slice none 0 0] 38)).alloc (.cells cs 35)).alloc (.cells #[.int .i64 width] 2)) = W0 at HI0 HZ0 ⊢
  refine (wpIn_wide (n := 0)).1 (wp_rangeF (HIT.out (O + 1) (O + 1 + 1)) (enters_of Try.func31 (by kernel_rfl) rfl) rfl (fun _ => rfl)
    (fun pre G W => ∃ v, BrkI w O cs width pre G v W) (fun c G W => False)
    (fun s G W W' h hk => h.elim (fun v h => ⟨v, h.keeps hk (fun k hk => .inl (by rw [HZ0.out]; omega)) (fun k hk => .inr hk) (by rw [HZ0.out]; omega) (by omega)⟩)) (fun _ _ _ _ h _ => h.elim)
    (fun pre G A h => h.elim (fun v h => ⟨(Blk.cell h.n 31).trans Q31.out, (Blk.cell h.n 32).trans Q32.out, Blk.cell h.d 0, Kd.C_below H3.out h.b⟩)) ⟨_, HI0.out⟩
    (fun W' hb h => h.elim (fun v h => ⟨v, h.keeps (B := W0.heap.size) (F := fun k => k < W0.heap.size) ⟨hb.size, hb.os, hb.tape, hb.output, fun k hk => .inl (hb.block k hk)⟩ (fun k hk => by rw [HZ0.out]; omega) (fun k hk => hk.elim) (by rw [HZ0.out]; omega) (by omega)⟩)) ?round ?done (fun _ _ _ _ _ h _ _ => h.elim))
  case done =>
    rintro D G W hD ⟨v, hI⟩ hbook hd
    have y6 : W.cell? ⟨O, 0, none⟩ = some v := Blk.cell hI.o 0
    have HI := Lib.hid hI
    have HD := Lib.hid hd
    clear hI hd hbook
    go_wp2
    refine leaves_marks (v := .tuple #[v, .int .i64 0]) (B := w.heap.size) ⟨[D], rfl, by simp, by rw [HZ0.out] at hD; simp; exact ⟨by omega, HD.out⟩⟩ (fun W' hs => ⟨?_, ?_⟩)
    · simp [results, Try.results12]
    · have hr := hs.stab (fun V => Kd.R k57 57 V w.heap.size G v (lines.map lineS)) (fun _ V V' row hV hg hr => Kd.R_mono (Kd.R_move (Kd.R_bound hV) (fun k hk => hg.block k hk.2.2.1 (fun e => by
        obtain ⟨_, o, ho, hb⟩ := hr k e.symm
        obtain ⟨_, _, _, q, _, cells, hc⟩ := hk
        rw [hc] at ho; cases ho; cases hb))) (fun _ hk => hk.1)) HI.out.r
      exact ⟨v, rfl, Kd.R_mono hr (fun _ _ => trivial), hs.stab _ (Stab.below (Nat.le_refl _) (Nat.le_refl _)) HI.out.b⟩
  case round =>
    rintro lp pre ⟨a, b⟩ rest G W hx hl hsz hG ⟨v, hI⟩
    have hpl : pre.length ≤ 10000 := by have := HLL.out; rw [hx] at this; simp at this; omega
    have hb1 : 1 ≤ b := HL1.out (a, b) (by rw [hx]; simp)
    have HI := Lib.hid hI
    have HX := Lib.hid hx
    clear hI hx
    dsimp only [lineV]
    gi_wp2
    refine ⟨by (repeat (first | (with_reducible exact KeepBook.refl _) | (with_reducible refine KeepBook.alloc ?_ _) | (with_reducible refine KeepBook.setCell ?_ _ _) | (with_reducible refine KeepBook.drew ?_) | (refine KeepBook.below ?_ (by assumption)))), ((KeptS.refl _ W).alloc _), ?_⟩
    rintro W2 hs _
    have hN : W.heap.size ≥ O + 5 := by rw [HZ0.out] at hsz; omega
    have hI2 : BrkI w O cs width pre G v W2 := hs.stab (fun V => BrkI w O cs width pre G v V) (fun _ V V' row hV hg hr => ⟨Stab.blk O _ (fun _ : Unit => _) () V V' row hV.o hg hr, Stab.blk (O + 1) _ (fun _ : Unit => _) () V V' row hV.n hg hr, Stab.blk (O + 1 + 1) _ (fun _ : Unit => _) () V V' row hV.d hg hr, Kd.R_mono (Kd.R_move (Kd.R_bound hV.r) (fun k hk => hg.block k hk.2.2.1 (fun e => by
        obtain ⟨_, o, ho, hb⟩ := hr k e.symm
        obtain ⟨_, _, _, q, _, cells, hc⟩ := hk
        rw [hc] at ho; cases ho; cases hb))) (fun _ hk => hk.1), (Stab.below (β := Unit) (Nat.le_refl _) (by rw [HZ0.out]; omega)) () V V' row hV.b hg hr⟩) ⟨Blk.alloc HI.out.o _, Blk.alloc HI.out.n _, Blk.alloc HI.out.d _, Kd.R_below HI.out.r ((Below.refl _ _).alloc (Nat.le_refl _) _), HI.out.b.alloc HI.out.b.size _⟩
    have hN2 : Blk W2 W.heap.size 64 #[.int .i64 a, .int .i64 b] := hs.blk (Blk.new W _ _)
    have hS2 : W2.heap.size = W.heap.size + 1 := by rw [hs.size]; simp
    obtain ⟨N, hNe⟩ : ∃ N, N = W.heap.size := ⟨_, rfl⟩
    rw [← hNe] at hN2 hS2 hN hG ⊢
    have HS2 := Lib.hid hS2
    have HNe := Lib.hid hNe
    clear hNe hs hS2
    have y6 : W2.cell? ⟨O, 0, none⟩ = some v := Blk.cell hI2.o 0
    have f6 := Blk.frozen hI2.o 0
    have l6 := Blk.lt hI2.o
    have n0 : W2.cell? ⟨N, 0, none⟩ = some (.int .i64 a) := Blk.cell hN2 0
    have n1 : W2.cell? ⟨N, 1, none⟩ = some (.int .i64 b) := Blk.cell hN2 1
    have lN := Blk.lt hN2
    have HI2 := Aside0.mk hI2
    have HN2 := Aside0.mk hN2
    clear hI2 hN2
    have hne := fun V : World => line_ne a b (by omega) V
    have hbel := (Below.refl W2.heap.size W2).alloc (Nat.le_refl _) (.cells #[.int .i64 0, .int .i64 0] 64)
    gi_wp2_with (gi_at_builtin; go_loud (refine R_appendIn k57 (w0 := W2) w.heap.size rfl (.tmp 20) (.tmp 22) 38 57 (.agg #[(.int .i64 0), (.int .i64 0)]) 16 rfl Try.underlying38 infoLine rfl (by decide) (by omega) v (pre.map lineS) (lineS (a, b)) [.int .i64 a, .int .i64 b] (fun k => (G k ∨ N ≤ k)) (fun _ => False) rfl ?hx ?aP (fun _ hk => hk.elim) ?aF ?aO ?aB ?aS ?aL ?_); (case hx => go_simp); (case aP => exact k57_mkM _ _ _ _); (case aF => exact (fun k hk => .inr (by have := HS2.out; simp at hk; omega))); (case aO => exact Kd.R_mono (Kd.R_below HI2.out.r hbel) (fun _ hk => .inl hk)); (case aB => exact ((Below.refl _ _).mono (by have := HI2.out.b.size; omega)).alloc (by have := HI2.out.b.size; omega) _); (case aS => exact (by have := HI2.out.b.size; simp; omega)); (case aL => rw [List.length_map]; omega); intro v1 w1 ho hb hg hat; obtain ⟨A1', m1, c1', rfl⟩ : ∃ A m c, v1 = .slice A m c := (by obtain ⟨A, c, h⟩ := Kd.R_slice ho; exact ⟨A, _, c, h⟩); have HO1 := Aside0.mk ho; have HB1 := Aside0.mk hb; have HG1 := Aside0.mk hg; have hn' := (hg.block (O + 1) (by simp; omega) (Kd.R_ne HI2.out.r HI2.out.n (by decide))).trans (Blk.alloc HI2.out.n (.cells #[.int .i64 0, .int .i64 0] 64)); have hd' := (hg.block (O + 1 + 1) (by simp; omega) (Kd.R_ne HI2.out.r HI2.out.d (by decide))).trans (Blk.alloc HI2.out.d (.cells #[.int .i64 0, .int .i64 0] 64)); have HOn := Aside0.mk hn'; have HOd := Aside0.mk hd'; clear hn' hd'; have hO' := (hg.block O (by simp; omega) (Kd.R_ne HI2.out.r HI2.out.o (by decide))).trans (Blk.alloc HI2.out.o (.cells #[.int .i64 0, .int .i64 0] 64)); have y6' : w1.cell? ⟨O, 0, none⟩ = some v := Blk.cell (show Blk w1 O _ _ from hO') 0; have f6' := Blk.frozen (show Blk w1 O _ _ from hO') 0; have l6' := Blk.lt (show Blk w1 O _ _ from hO'); have HOo := Aside0.mk hO'; clear ho hb hg hat hO')
    have hv := HI2.out.r.1
    have hsz1 : N + 1 ≤ w1.heap.size := by have := HB1.out.size; rw [HS2.out] at this; omega
    have hbook : KeepBook W2 (w1.setCell ⟨O, 0, none⟩ (.slice A1' m1 c1')) := (((KeepBook.refl W2).alloc _).grown HG1.out (fun j o e ho => by
      obtain ⟨cells, hc⟩ := own_typed HI2.out.r.2.choose_spec.1 j e
      rw [(Below.heap_alloc W2 _ j (Array.getElem?_eq_some_iff.1 hc).1).trans hc] at ho; cases ho; rfl)).setCell _ _
    have hkept : KeptS (fun k => k < W0.heap.size + 2 ∨ G k) W2 (w1.setCell ⟨O, 0, none⟩ (.slice A1' m1 c1')) := KeptS.setCell (p := ⟨O, 0, none⟩) ⟨HB1.out.size, HB1.out.os, HB1.out.tape, HB1.out.output, fun k hk hs => (HG1.out.block k (by simp; omega) (fun e => hs (.inr (hv k e.symm)))).trans (Below.heap_alloc W2 _ k hk)⟩ (fun k hk hs e => hs (.inl (by have e' : k = O := e; rw [HZ0.out]; omega))) _
    refine ⟨hbook, hkept, fun k => (G k ∨ N ≤ k) ∧ k < (w1.setCell ⟨O, 0, none⟩ (.slice A1' m1 c1')).heap.size, fun k hk => ⟨by rw [← HNe.out]; exact hk.1, hk.2⟩, _, Blk.set HOo.out 0 _, Blk.other HOn.out (p := ⟨O, 0, none⟩) (by show O + 1 ≠ O; omega) _, Blk.other HOd.out (p := ⟨O, 0, none⟩) (by show O + 1 + 1 ≠ O; omega) _, ?_, (HI2.out.b.trans HB1.out).setCell (p := ⟨O, 0, none⟩) (by show w.heap.size ≤ O; omega) _⟩
    rw [List.map_append]
    exact Kd.R_mono (Kd.R_bound (Kd.R_set HO1.out HOo.out (by decide) 0 _)) (fun k hk => ⟨hk.1, hk.2.2.1⟩)
def lines_Break.f (a0_0 : Int) (l0_1 : List Int) (a0_2 : Int) (a0_3 : Int) (a0_4 : Int) (a0_5 : Int) (a0_6 : Int) (a0_7 : Int) (a0_8 : Int) (a0_9 : Int) (a0_10 : Int) (a0_11 : Int) (a0_12 : Int) (a0_13 : Int) (a0_14 : Int) (a0_15 : Int) (a0_16 : Int) (a0_17 : Int) (a0_18 : Int) (a0_19 : Int) (a0_20 : Int) (a0_21 : Int) (a0_22 : Int) (a0_23 : Int) (a0_24 : Int) (a0_25 : Bool) (a0_26 : Bool) (a0_27 : Int) (a0_28 : Int) (a0_29 : Bool) (a0_30 : Bool) (l0_31 : List Int) (a0_32 : Int) (a0_33 : Int) (a1 : Int) : Option ((List (S57)) × Int) :=
  if rightB (⟨a0_0, l0_1, ⟨⟨a0_2, a0_3⟩, ⟨a0_4, a0_5⟩, ⟨a0_6, a0_7, a0_8, a0_9⟩, ⟨⟨a0_10, a0_11, a0_12⟩, ⟨a0_13, a0_14, a0_15⟩, ⟨a0_16, a0_17, a0_18⟩, ⟨a0_19, a0_20, a0_21⟩⟩, a0_22, a0_23, a0_24, a0_25, a0_26, ⟨a0_27, a0_28⟩, a0_29, a0_30⟩, l0_31, a0_32, a0_33⟩ : Nd) = true then some ((linesP (⟨a0_0, l0_1, ⟨⟨a0_2, a0_3⟩, ⟨a0_4, a0_5⟩, ⟨a0_6, a0_7, a0_8, a0_9⟩, ⟨⟨a0_10, a0_11, a0_12⟩, ⟨a0_13, a0_14, a0_15⟩, ⟨a0_16, a0_17, a0_18⟩, ⟨a0_19, a0_20, a0_21⟩⟩, a0_22, a0_23, a0_24, a0_25, a0_26, ⟨a0_27, a0_28⟩, a0_29, a0_30⟩, l0_31, a0_32, a0_33⟩ : Nd) a1).map lineS, 0) else some ([], 90)
theorem lines_Break.calls (a0_0 : Int) (A0_1 : Option Addr) (c0_1 : Nat) (l0_1 : List Int) (a0_2 : Int) (a0_3 : Int) (a0_4 : Int) (a0_5 : Int) (a0_6 : Int) (a0_7 : Int) (a0_8 : Int) (a0_9 : Int) (a0_10 : Int) (a0_11 : Int) (a0_12 : Int) (a0_13 : Int) (a0_14 : Int) (a0_15 : Int) (a0_16 : Int) (a0_17 : Int) (a0_18 : Int) (a0_19 : Int) (a0_20 : Int) (a0_21 : Int) (a0_22 : Int) (a0_23 : Int) (a0_24 : Int) (a0_25 : Bool) (a0_26 : Bool) (a0_27 : Int) (a0_28 : Int) (a0_29 : Bool) (a0_30 : Bool) (A0_31 : Option Addr) (c0_31 : Nat) (l0_31 : List Int) (a0_32 : Int) (a0_33 : Int) (a1 : Int) (r1 : List (S57)) (r2 : Int) (w : World) (hr0_1 : Kd.C (Kd.int .i64) w A0_1 l0_1.length l0_1) (hc0_1 : l0_1.length ≤ c0_1) (hr0_31 : Kd.C (Kd.int .i64) w A0_31 l0_31.length l0_31) (hc0_31 : l0_31.length ≤ c0_31) (h : lines_Break.f a0_0 l0_1 a0_2 a0_3 a0_4 a0_5 a0_6 a0_7 a0_8 a0_9 a0_10 a0_11 a0_12 a0_13 a0_14 a0_15 a0_16 a0_17 a0_18 a0_19 a0_20 a0_21 a0_22 a0_23 a0_24 a0_25 a0_26 a0_27 a0_28 a0_29 a0_30 l0_31 a0_32 a0_33 a1 = some (r1, r2)) :
    Calls Try.prog 12 #[.agg #[.int .i64 a0_0, .slice A0_1 l0_1.length c0_1, .int .i64 a0_2, .int .i64 a0_3, .int .i64 a0_4, .int .i64 a0_5, .int .i64 a0_6, .int .i64 a0_7, .int .i64 a0_8, .int .i64 a0_9, .int .i64 a0_10, .int .i64 a0_11, .int .u32 a0_12, .int .i64 a0_13, .int .i64 a0_14, .int .u32 a0_15, .int .i64 a0_16, .int .i64 a0_17, .int .u32 a0_18, .int .i64 a0_19, .int .i64 a0_20, .int .u32 a0_21, .int .i64 a0_22, .int .i64 a0_23, .int .i64 a0_24, .bool a0_25, .bool a0_26, .int .i64 a0_27, .int .i64 a0_28, .bool a0_29, .bool a0_30, .slice A0_31 l0_31.length c0_31, .int .i64 a0_32, .int .i64 a0_33], .int .i64 a1] w fun e w' => ∃ v0_ : Value, e = .returned (.tuple #[v0_, .int .i64 r2]) ∧ Kd.R k57 57 w' w.heap.size (fun _ => True) v0_ r1 ∧ Below w.heap.size w w' := by
  unfold lines_Break.f at h
  by_cases hR : rightB (⟨a0_0, l0_1, ⟨⟨a0_2, a0_3⟩, ⟨a0_4, a0_5⟩, ⟨a0_6, a0_7, a0_8, a0_9⟩, ⟨⟨a0_10, a0_11, a0_12⟩, ⟨a0_13, a0_14, a0_15⟩, ⟨a0_16, a0_17, a0_18⟩, ⟨a0_19, a0_20, a0_21⟩⟩, a0_22, a0_23, a0_24, a0_25, a0_26, ⟨a0_27, a0_28⟩, a0_29, a0_30⟩, l0_31, a0_32, a0_33⟩ : Nd) = true
  · rw [if_pos hR] at h
    cases h
    exact break_yes A0_1 c0_1 A0_31 c0_31 (⟨a0_0, l0_1, ⟨⟨a0_2, a0_3⟩, ⟨a0_4, a0_5⟩, ⟨a0_6, a0_7, a0_8, a0_9⟩, ⟨⟨a0_10, a0_11, a0_12⟩, ⟨a0_13, a0_14, a0_15⟩, ⟨a0_16, a0_17, a0_18⟩, ⟨a0_19, a0_20, a0_21⟩⟩, a0_22, a0_23, a0_24, a0_25, a0_26, ⟨a0_27, a0_28⟩, a0_29, a0_30⟩, l0_31, a0_32, a0_33⟩ : Nd) a1 w hr0_1 hc0_1 hr0_31 hc0_31 hR
  · rw [if_neg hR] at h
    cases h
    refine (break_no A0_1 c0_1 A0_31 c0_31 (⟨a0_0, l0_1, ⟨⟨a0_2, a0_3⟩, ⟨a0_4, a0_5⟩, ⟨a0_6, a0_7, a0_8, a0_9⟩, ⟨⟨a0_10, a0_11, a0_12⟩, ⟨a0_13, a0_14, a0_15⟩, ⟨a0_16, a0_17, a0_18⟩, ⟨a0_19, a0_20, a0_21⟩⟩, a0_22, a0_23, a0_24, a0_25, a0_26, ⟨a0_27, a0_28⟩, a0_29, a0_30⟩, l0_31, a0_32, a0_33⟩ : Nd) a1 w hr0_1 hc0_1 hr0_31 hc0_31 (by simpa using hR)).mono ?_
    rintro e w' ⟨rfl, hB⟩
    exact ⟨_, rfl, Kd.R_nil _ _ _ _ _, hB⟩
end Go.Proofs.Yteckkphbgfmolaa.K
