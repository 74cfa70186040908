/- Layer 6: Cols. -/
import Derived.Test.YtdmnaehgngpikaaLaC
import Derived.Test.YtdmnaehgngpikaaLa7
import Derived.Test.YtdmnaehgngpikaaLaE
namespace Go.Proofs.Ytdmnaehgngpikaa.K
open Go.RowKit Go.Proofs.YtdmnaehgngpikaaW.PrintWords Go.Proofs.YtdmnaehgngpikaaW.PrintLast Go.Proofs.YtdmnaehgngpikaaW.PrintMore
set_option linter.unusedVariables false
set_option linter.unusedSimpArgs false
attribute [local go_sem] Oper.semAt_some
/-- columns, each as often as its span says -/
def replP (xs : List Ln1) : List S35 := xs.flatMap fun x => List.replicate x.2.toNat x.1
theorem replP_app (xs : List Ln1) (x : Ln1) : replP (xs ++ [x]) = replP xs ++ List.replicate x.2.toNat x.1 := by simp [replP]
theorem replP_le (xs ys : List Ln1) : (replP xs).length ≤ (replP (xs ++ ys)).length := by unfold replP; rw [List.flatMap_append, List.length_append]; omega
theorem span_bound {l : List Nd} (hok : ∀ n ∈ l, rightN n = true) (k : Int) : 1 ≤ spanK l k ∧ spanK l k ≤ 1000 := by
  have h : (rd_T48 l k).f2.f4 ≤ 1000 := by
    unfold rd_T48
    rw [List.getD_eq_getElem?_getD]
    cases q : l[k.toNat]? with
    | none => show (z48).f2.f4 ≤ 1000; decide
    | some x =>
      have := hok x (List.mem_of_getElem? q)
      unfold rightN headB validB styN at this
      simp only [Bool.and_eq_true, decide_eq_true_eq] at this
      show x.f2.f4 ≤ 1000
      omega
  unfold spanK
  omega
theorem cols_span {l : List Nd} (hok : ∀ n ∈ l, rightN n = true) (a : Nat) : ∀ x ∈ colsP l a, 1 ≤ x.2 ∧ x.2 ≤ 1000 := by
  intro x hx
  obtain ⟨k, -, hk⟩ := List.mem_flatMap.1 hx
  unfold colsOf at hk
  split at hk
  · split at hk
    · rw [List.mem_singleton.1 hk]; exact span_bound hok k
    · obtain ⟨c, -, rfl⟩ := List.mem_map.1 hk; exact span_bound hok c
  · rw [List.mem_singleton.1 hk]; exact span_bound hok k
theorem outIs_C {W : World} {O : Nat} {xs : List S35} (h : OutIs W O xs) (hl : xs.length ≤ 1000000) : Kd.C k35 W (some ⟨O, 0, none⟩) xs.length xs := by
  refine ⟨rfl, by omega, fun _ => ⟨_, rfl, fun j p hj => ⟨laneC p, rfl, k35_mk W p, fun i u hu => ?_⟩⟩⟩
  have hi : i < 2 := (List.getElem?_eq_some_iff.1 hu).1
  rw [add_at, show 0 + (j * k35.sz + i) = j * 2 + i by rw [show k35.sz = 2 from rfl]; omega]
  exact (OutIs.at_ h hj i hi).trans hu
theorem opIn_plain {P : Program} {o : Oper} {a : Act} {w : World} {K : Act → World → Prop} {Q : Exit → Act → World → Prop} (hdef : ∀ c, o.op ≠ .defer c) (h : Oper.wp P o a w K Q) : Oper.wpIn Fence.wide 0 P o a w K Q := by
  refine ⟨fun _ _ => trivial, ?_⟩
  unfold Oper.wp at h
  rw [Oper.semAt_eq _ _ _ hdef]
  generalize (execOp a.eval o).run P w = r at h
  match r, h with
  | .ok (.value v) w', h => exact h
  | .ok .skip w', h => exact h
  | .ok (.defer d) w', h => exact h
  | .ok (.enter f args) w', h => exact ⟨fun h => by simp [Fence.wide] at h, callsIn_wide.2 h⟩
  | .ok (.row row args) w', h => exact ⟨fun h => by simp [Fence.wide] at h, (rowsIn_of' h : RowsIn Fence.wide 0 P row args w' _)⟩
  | .halt (.panic v) w', h => exact h
/-- that the run goes on in its order, and nothing else -/
def onlyN1 (Q : Exit → Act → World → Prop) : Exit → Act → World → Prop
  | .normal, a, w => Q .normal a w
  | _, _, _ => False
theorem wp_onlyN1 {P : Program} {c : Code} {Q : Exit → Act → World → Prop} {a : Act} {w : World} (h : c.wp P (onlyN1 Q) a w) : c.wp P Q a w :=
  Code.wp_mono (fun e a w q => by cases e <;> first | exact q | exact q.elim) h
/-- the blocks of Cols' loop -/
structure CoI (w : World) (O : Nat) (A : Option Addr) (n c : Nat) (a : Int) (pre : List S35) (G : Nat → Prop) (v : Value) (W : World) : Prop where
  r0 : Blk W w.heap.size 25 #[.slice none 0 0]
  r1 : Blk W (w.heap.size + 1) 26 #[.int .i64 0]
  o : Blk W O 25 #[v]
  b1 : Blk W (O + 1) 22 #[.slice A n c]
  b2 : Blk W (O + 1 + 1) 3 #[.int .i64 a]
  b3 : Blk W (O + 1 + 1 + 1) 74 #[spanF (O + 1)]
  r : Kd.R k35 35 W w.heap.size G v pre
  b : Below w.heap.size w W
theorem R_keepsF {α : Type} {d : Kd α} {e : Nat} {W W' : World} {base B : Nat} {F G : Nat → Prop} {v : Value} {xs : List α} (h : Kd.R d e W base G v xs) (hk : KeepsF B F W W') (hF : ∀ k, G k → F k) : Kd.R d e W' base G v xs :=
  Kd.R_mono (Kd.R_move (Kd.R_bound h) (fun k hg => by
    obtain ⟨h1, _, _, q, _, cells, hc⟩ := hg
    rcases hk.block k (hF k h1) with e | ⟨_, o, ho, hb⟩
    · exact e
    · rw [hc] at ho; cases ho; cases hb)) (fun _ hk => hk.1)
theorem CoI.keeps {w : World} {O B : Nat} {A : Option Addr} {n c : Nat} {a : Int} {pre : List S35} {F G : Nat → Prop} {v : Value} {W W' : World} (h : CoI w O A n c a pre G v W) (hk : KeepsF B F W W') (h1 : ∀ k, k < O + 4 → F k) (h2 : ∀ k, G k → F k) (hw : w.heap.size ≤ B) (hwO : w.heap.size + 2 ≤ O) : CoI w O A n c a pre G v W' :=
  ⟨hk.blk (h1 _ (by omega)) h.r0, hk.blk (h1 _ (by omega)) h.r1, hk.blk (h1 _ (by omega)) h.o, hk.blk (h1 _ (by omega)) h.b1, hk.blk (h1 _ (by omega)) h.b2, hk.blk (h1 _ (by omega)) h.b3, R_keepsF h.r hk h2, hk.below (fun k hk => h1 k (by omega)) hw h.b⟩
def CoX (w : World) (W : World) : Prop := Blk W w.heap.size 25 #[.slice none 0 0] ∧ Blk W (w.heap.size + 1) 26 #[.int .i64 43] ∧ Below w.heap.size w W
/-- what Cols tells of a right place -/
def colsR (l : List Nd) (a n : Nat) : List S35 × Int := if 10000 < (replP (colsP l a)).length then ([], 43) else (replP (colsP l a) ++ List.replicate (n - (replP (colsP l a)).length) ⟨-1, -1⟩, 0)
theorem colsR_many {l : List Nd} {a n : Nat} (h : 10000 < (replP (colsP l a)).length) : colsR l a n = ([], 43) := by unfold colsR; rw [if_pos h]
theorem colsR_ok {l : List Nd} {a n : Nat} (h : (replP (colsP l a)).length ≤ 10000) : colsR l a n = (replP (colsP l a) ++ List.replicate (n - (replP (colsP l a)).length) ⟨-1, -1⟩, 0) := by unfold colsR; rw [if_neg (by omega)]
set_option maxRecDepth 100000 in
set_option maxHeartbeats 4000000 in
theorem cols_yes (l : List Nd) (A : Option Addr) (c : Nat) (w : World) (hNC : Kd.C k48 w A l.length l) (hc : l.length ≤ c) (hl : (linksOf l).length ≤ 1000000000) (a : Nat) (ha : a < l.length) (hki : KidsIn l) (hok : ∀ n ∈ l, rightN n = true) (hq : checkL l a = 0) (n : Nat) (hn : n ≤ 10000) :
    Calls Try.prog 12 #[.slice A l.length c, .int .i64 (a : Int), .int .i64 (n : Int)] w fun e w' => ∃ v0_ : Value, e = .returned (.tuple #[v0_, .int .i64 (colsR l a n).2]) ∧ Kd.R k35 35 w' w.heap.size (fun _ => True) v0_ (colsR l a n).1 ∧ Below w.heap.size w w' := by
  have hq2 : ((0 : Int) != 0) = false := by simp
  have HCH := Lib.hid (fun W (hW : Below w.heap.size w W) => by have := lcheck_any l A c W (Kd.C_below hNC hW) hc hl a; rw [hq] at this; exact this)
  have HNC := Lib.hid hNC
  have hbig := hNC.2.1
  obtain ⟨CS, hCS⟩ := nodesAt_of hNC
  have HN := Lib.hid hCS
  have HSP := Lib.hid (cols_span hok a)
  have HIT := Lib.hid (fun b => cols2_iter l b (b + 1) (b + 1 + 1) A CS c hc hbig a ha hki)
  have hn1 : ¬ (n : Int) > 10000 := by omega
  have hn2 : ¬ (n : Int) < 0 := by omega
  clear hq hNC hCS hok
  refine calls_of_wp_marks Try.func12 rfl ?_
  simp only [Try.ntmps12, List.size_toArray, List.length_cons, List.length_nil, Nat.reduceAdd, Nat.reduceSub, Array.replicate_succ, Array.replicate_zero, List.push_toArray, List.append_toArray, List.nil_append, List.cons_append]
  have g0 : Blk ((w.alloc (.cells #[.slice none 0 0] 25)).alloc (.cells #[.int .i64 0] 26)) w.heap.size 25 #[.slice none 0 0] := Blk.alloc (Blk.new w _ _) _
  have g1 : Blk ((w.alloc (.cells #[.slice none 0 0] 25)).alloc (.cells #[.int .i64 0] 26)) (w.heap.size + 1) 26 #[.int .i64 0] := by
    have h := Blk.new (w.alloc (.cells #[.slice none 0 0] 25)) 26 #[.int .i64 0]
    rwa [World.size_alloc] at h
  have hB0 : Below w.heap.size w ((w.alloc (.cells #[.slice none 0 0] 25)).alloc (.cells #[.int .i64 0] 26)) := ((Below.refl _ w).alloc (Nat.le_refl _) _).alloc (by simp) _
  have hs0 : ((w.alloc (.cells #[.slice none 0 0] 25)).alloc (.cells #[.int .i64 0] 26)).heap.size = w.heap.size + 1 + 1 := by simp
  go_upto_region 1 with fail
  generalize (w.alloc (.cells #[.slice none 0 0] 25)).alloc (.cells #[.int .i64 0] 26) = W0 at g0 g1 hB0 hs0 ⊢
  go_wp2_with (first
    | (go_at_call 23; refine (HCH.out _ hB0).mono ?_; rintro e w1 ⟨rfl, hb⟩; have HG0 := Lib.hid ((hb.block _ (Blk.lt g0)).trans g0); have HG1 := Lib.hid ((hb.block _ (Blk.lt g1)).trans g1); have HB1 := Lib.hid (hB0.trans (hb.mono hB0.size)); have hz1 := hb.size; clear hb HCH g0 g1 hB0)
    | (go_at_call 24; refine (cols_any A l.length c (a : Int) _).mono ?_; rintro e w2 ⟨rfl, rfl⟩))
  obtain ⟨O, hO⟩ : ∃ O, O = w1.heap.size := ⟨_, rfl⟩
  obtain ⟨W5, hW5⟩ : ∃ W5, W5 = colsW (w1.alloc (.cells #[.slice none 0 0] 25)) A l.length c (a : Int) := ⟨_, rfl⟩
  have hz5 : W5.heap.size = O + 4 := by rw [hW5, hO]; unfold colsW; simp
  have hwO : w.heap.size + 2 ≤ O := by omega
  have hb5 : Below w1.heap.size w1 W5 := by
    rw [hW5]; unfold colsW
    exact (((((Below.refl _ w1).alloc (Nat.le_refl _) _).alloc (by simp) _).alloc (by simp; omega) _).alloc (by simp; omega) _)
  have e0 : Blk W5 O 25 #[.slice none 0 0] := by
    rw [hW5, hO]; unfold colsW
    exact Blk.alloc (Blk.alloc (Blk.alloc (Blk.new w1 _ _) _) _) _
  have e1 : Blk W5 (O + 1) 22 #[.slice A l.length c] := by
    have h := Blk.new (w1.alloc (.cells #[.slice none 0 0] 25)) 22 #[.slice A l.length c]
    rw [World.size_alloc] at h
    rw [hW5, hO]; unfold colsW
    exact Blk.alloc (Blk.alloc h _) _
  have e2 : Blk W5 (O + 1 + 1) 3 #[.int .i64 (a : Int)] := by
    have h := Blk.new ((w1.alloc (.cells #[.slice none 0 0] 25)).alloc (.cells #[.slice A l.length c] 22)) 3 #[.int .i64 (a : Int)]
    rw [World.size_alloc, World.size_alloc] at h
    rw [hW5, hO]; unfold colsW
    exact Blk.alloc h _
  have e3 : Blk W5 (O + 1 + 1 + 1) 74 #[spanF (O + 1)] := by
    have h := Blk.new (((w1.alloc (.cells #[.slice none 0 0] 25)).alloc (.cells #[.slice A l.length c] 22)).alloc (.cells #[.int .i64 (a : Int)] 3)) 74 #[spanF (w1.heap.size + 1)]
    rw [World.size_alloc, World.size_alloc, World.size_alloc] at h
    rw [hW5, hO]; unfold colsW
    rw [World.size_alloc]
    exact h
  have hI0 : CoI w O A l.length c (a : Int) [] (fun _ => False) (.slice none 0 0) W5 :=
    ⟨(hb5.block _ (Blk.lt HG0.out)).trans HG0.out, (hb5.block _ (Blk.lt HG1.out)).trans HG1.out, e0, e1, e2, e3, Kd.R_nil _ _ _ _ _, HB1.out.trans (hb5.mono HB1.out.size)⟩
  have HI0 := Lib.hid hI0
  rw [← hW5]
  rw [← hO] at ⊢
  clear hI0 e0 e1 e2 e3 hb5 hW5 hz1 hO HG0 HG1 HB1 hs0
  have HZ := Lib.hid hz5
  clear hz5
  refine (wpIn_wide (n := 0)).1 (wp_rangeF (HIT.out (O + 1)) (enters_of Try.func37 (by kernel_rfl) rfl) rfl (fun _ => rfl)
    (fun pre G V => (replP pre).length ≤ 10000 ∧ ∃ v, CoI w O A l.length c (a : Int) (replP pre) G v V) (fun cd G V => cd = .ret ∧ 10000 < (replP (colsP l a)).length ∧ CoX w V)
    (fun s G V V' h hk => ⟨h.1, h.2.elim (fun v h => ⟨v, h.keeps hk (fun k hk => .inl (by rw [HZ.out]; omega)) (fun k hk => .inr hk) (by rw [HZ.out]; omega) hwO⟩)⟩)
    (fun s G V V' h hk => ⟨h.1, h.2.1, hk.blk (.inl (by rw [HZ.out]; omega)) h.2.2.1, hk.blk (.inl (by rw [HZ.out]; omega)) h.2.2.2.1, hk.below (fun k hk => .inl (by rw [HZ.out]; omega)) (by rw [HZ.out]; omega) h.2.2.2.2⟩)
    (fun pre G V h => h.2.elim (fun v h => ⟨⟨Blk.cell h.b1 0, Blk.cell h.b2 0, Blk.cell h.b3 0⟩, HN.out.below h.b⟩)) ⟨Nat.zero_le _, _, HI0.out⟩
    (fun W' hb h => ⟨h.1, h.2.elim (fun v h => ⟨v, h.keeps (B := W5.heap.size) (F := fun k => k < W5.heap.size) ⟨hb.size, hb.os, hb.tape, hb.output, fun k hk => .inl (hb.block k hk)⟩ (fun k hk => by rw [HZ.out]; omega) (fun k hk => hk.elim) (by rw [HZ.out]; omega) hwO⟩)⟩) ?round ?done ?stop)
  case stop =>
    rintro D G cd V hD ⟨rfl, hlen, hx0, hx1, hb⟩ hbook hd
    have y0 : V.cell? ⟨w.heap.size, 0, none⟩ = some (.slice none 0 0) := Blk.cell hx0 0
    have y1 : V.cell? ⟨w.heap.size + 1, 0, none⟩ = some (.int .i64 43) := Blk.cell hx1 0
    have HD := Lib.hid hd
    have HBB := Lib.hid hb
    have HLEN := Lib.hid hlen
    have HX0 := Lib.hid hx0
    have HX1 := Lib.hid hx1
    clear hx0 hx1 hb hd hbook hlen
    refine wpIn_wide.2 ?_
    go_wp2
    refine leaves_marks (v := .tuple #[.slice none 0 0, .int .i64 43]) (B := w.heap.size) ⟨[D], rfl, by simp, by rw [HZ.out] at hD; simp; exact ⟨by omega, HD.out⟩⟩ (fun W' hs => ⟨?_, _, by rw [colsR_many HLEN.out], by rw [colsR_many HLEN.out]; exact Kd.R_nil _ _ _ _ _, hs.stab _ (Stab.below (Nat.le_refl _) (Nat.le_refl _)) HBB.out⟩)
    have z0 : W'.cell? ⟨w.heap.size, 0, none⟩ = some (.slice none 0 0) := (hs.cell _).trans y0
    have z1 : W'.cell? ⟨w.heap.size + 1, 0, none⟩ = some (.int .i64 43) := (hs.cell _).trans y1
    simp [results, Try.results12, asAddr]
    go_simp
  case done =>
    rintro D G V hD ⟨hlen, v, hI⟩ hbook hd
    obtain ⟨L, hL⟩ : ∃ L, L = replP (colsP l a) := ⟨_, rfl⟩
    rw [← hL] at hlen hI
    have HLL := Lib.hid (hL ▸ colsR_ok (l := l) (a := a) (n := n) (hL ▸ hlen))
    have yO : V.cell? ⟨O, 0, none⟩ = some v := Blk.cell hI.o 0
    have lO := Blk.lt hI.o
    have HI := Lib.hid hI
    have HD := Lib.hid hd
    have HLEN := Lib.hid hlen
    clear hI hd hbook hlen hL
    obtain ⟨Av, cv, rfl⟩ := Kd.R_slice HI.out.r
    go_upto_region 14 with fail
    obtain ⟨N, hN⟩ : ∃ N, N = V.heap.size := ⟨_, rfl⟩
    have hbW : Below V.heap.size V (V.alloc (.cells #[.int .i64 (-1), .int .i64 (-1)] 35)) := (Below.refl _ V).alloc (Nat.le_refl _) _
    have hN6 : Blk (V.alloc (.cells #[.int .i64 (-1), .int .i64 (-1)] 35)) N 35 #[.int .i64 (-1), .int .i64 (-1)] := hN ▸ Blk.new V _ _
    have hz6 : (V.alloc (.cells #[.int .i64 (-1), .int .i64 (-1)] 35)).heap.size = N + 1 := by rw [World.size_alloc, hN]
    have HE := Lib.hid (hN ▸ hbW)
    have HN' := Lib.hid hN
    rw [← hN]
    clear hN hbW
    generalize V.alloc (.cells #[.int .i64 (-1), .int .i64 (-1)] 35) = W6 at hN6 hz6 HE ⊢
    refine wp_onlyN1 ((wpIn_wide (n := 0)).1 ?_)
    refine beginU (fun V : World => V.cell? ⟨O, 0, none⟩ = some (.slice Av L.length cv) ∧ V.cell? ⟨N, 0, none⟩ = some (.int .i64 (-1)) ∧ V.cell? ⟨N, 1, none⟩ = some (.int .i64 (-1))) 9 (by kernel_rfl) ?_
    have mv6 : ∀ {b t : Nat} {cs : Array Value}, Blk V b t cs → Blk W6 b t cs := fun {b t cs} h => (HE.out.block _ (by rw [HN'.out]; exact Blk.lt h)).trans h
    have HS : (fun V : World => V.cell? ⟨O, 0, none⟩ = some (.slice Av L.length cv) ∧ V.cell? ⟨N, 0, none⟩ = some (.int .i64 (-1)) ∧ V.cell? ⟨N, 1, none⟩ = some (.int .i64 (-1))) W6.drew := ⟨Blk.cell (mv6 HI.out.o) 0, Blk.cell hN6 0, Blk.cell hN6 1⟩
    have HM := Lib.hid hz6
    have HN6 := Lib.hid hN6
    clear yO hN6 hz6 mv6
    obtain ⟨M, hM⟩ : ∃ M, M = n - L.length := ⟨_, rfl⟩
    have hMn : M ≤ 10000 := by omega
    have HM2 := Lib.hid hM
    clear hM
    (refine takeV (i := 0) (d := 40) (v := ?_) [9] rfl rfl (by kernel_rfl) (by kernel_rfl) (by kernel_rfl) (by kernel_rfl) (by kernel_rfl) (fun _ _ _ h => h) ⟨Or.inl ⟨by kernel_rfl, ?_⟩, fun _ => rfl⟩ HS ?_; rotate_left; (focus (rintro wS ⟨s1, s2, s3⟩; go_simp; try (with_reducible rfl))); (simp only [List.setIfInBounds_toArray, List.set_cons_zero, List.set_cons_succ]))
    (refine takeV (i := 1) (d := 41) (v := ?_) [9, 8, 2] rfl rfl (by kernel_rfl) (by kernel_rfl) (by kernel_rfl) (by kernel_rfl) (by kernel_rfl) (fun _ _ _ h => h) ⟨Or.inl ⟨by kernel_rfl, ?_⟩, fun _ => rfl⟩ HS ?_; rotate_left; (focus (rintro wS ⟨s1, s2, s3⟩; go_simp; try (with_reducible rfl))); (simp only [List.setIfInBounds_toArray, List.set_cons_zero, List.set_cons_succ]))
    (refine takeP (i := 3) (d := 43) (v := ?_) rfl rfl (by kernel_rfl) (by kernel_rfl) (by kernel_rfl) (by kernel_rfl) (by kernel_rfl) (fun _ _ _ h => h) ⟨Or.inl ⟨by kernel_rfl, ?_⟩, fun _ => rfl⟩ (fun _ => HS) ?_; rotate_left; (focus (rintro wS -; go_simp; try (with_reducible rfl))); (simp only [List.setIfInBounds_toArray, List.set_cons_zero, List.set_cons_succ]))
    (refine takeV (i := 4) (d := 44) (v := ?_) [9, 8, 7, 6, 5] rfl rfl (by kernel_rfl) (by kernel_rfl) (by kernel_rfl) (by kernel_rfl) (by kernel_rfl) (fun _ _ _ h => h) ⟨Or.inl ⟨by kernel_rfl, ?_⟩, fun _ => rfl⟩ HS ?_; rotate_left; (focus (rintro wS ⟨s1, s2, s3⟩; go_simp; try (with_reducible rfl))); (simp only [List.setIfInBounds_toArray, List.set_cons_zero, List.set_cons_succ]))
    (refine takeP (i := 5) (d := 45) (v := ?_) rfl rfl (by kernel_rfl) (by kernel_rfl) (by kernel_rfl) (by kernel_rfl) (by kernel_rfl) (fun _ _ _ h => h) ⟨Or.inl ⟨by kernel_rfl, ?_⟩, fun _ => rfl⟩ (fun _ => HS) ?_; rotate_left; (focus (rintro wS -; go_simp; try (with_reducible rfl))); (simp only [List.setIfInBounds_toArray, List.set_cons_zero, List.set_cons_succ]))
    (refine takeP (i := 6) (d := 46) (v := ?_) rfl rfl (by kernel_rfl) (by kernel_rfl) (by kernel_rfl) (by kernel_rfl) (by kernel_rfl) (fun _ _ _ h => h) ⟨Or.inl ⟨by kernel_rfl, ?_⟩, fun _ => rfl⟩ (fun _ => HS) ?_; rotate_left; (focus (rintro wS -; go_simp; try (with_reducible rfl))); (simp only [List.setIfInBounds_toArray, List.set_cons_zero, List.set_cons_succ]))
    (refine takeP (i := 7) (d := 47) (v := .int .i64 (M : Int)) rfl rfl (by kernel_rfl) (by kernel_rfl) (by kernel_rfl) (by kernel_rfl) (by kernel_rfl) (fun _ _ _ h => h) ⟨Or.inl ⟨by kernel_rfl, ?_⟩, fun _ => rfl⟩ (fun _ => HS) ?_; (focus (rintro wS -; go_simp; have hh := HM2.out; have hq := HLEN.out; rw [IntKind.wrap_i64]; split <;> omega)); (simp only [List.setIfInBounds_toArray, List.set_cons_zero, List.set_cons_succ]))
    (refine oneU (i := 2) rfl (by kernel_rfl) (fun K hK => ?_); go_simp)
    have hb7 : Below W6.heap.size W6 (W6.alloc (.cells #[.int .i64 (-1), .int .i64 (-1)] 35)).drew := ((Below.refl _ W6).alloc (Nat.le_refl _) _).drew
    have hz7 : (W6.alloc (.cells #[.int .i64 (-1), .int .i64 (-1)] 35)).drew.heap.size = N + 1 + 1 := by rw [World.size_drew, World.size_alloc, HM.out]
    have hn7 : Blk (W6.alloc (.cells #[.int .i64 (-1), .int .i64 (-1)] 35)).drew (N + 1) 35 #[.int .i64 (-1), .int .i64 (-1)] := by
      have h := Blk.new W6 35 #[.int .i64 (-1), .int .i64 (-1)]
      rw [HM.out] at h
      exact h.drew
    have hbV : Below V.heap.size V (W6.alloc (.cells #[.int .i64 (-1), .int .i64 (-1)] 35)).drew := by have h := HE.out; rw [HN'.out] at h; exact h.trans (hb7.mono h.size)
    have HS7 : (fun V : World => V.cell? ⟨O, 0, none⟩ = some (.slice Av L.length cv) ∧ V.cell? ⟨N, 0, none⟩ = some (.int .i64 (-1)) ∧ V.cell? ⟨N, 1, none⟩ = some (.int .i64 (-1))) (W6.alloc (.cells #[.int .i64 (-1), .int .i64 (-1)] 35)).drew := ⟨Blk.cell ((hbV.block _ (Blk.lt HI.out.o)).trans HI.out.o) 0, Blk.cell ((hb7.block _ (Blk.lt HN6.out)).trans HN6.out) 0, Blk.cell ((hb7.block _ (Blk.lt HN6.out)).trans HN6.out) 1⟩
    rw [HM.out]
    have hw7N : Blk (W6.alloc (.cells #[.int .i64 (-1), .int .i64 (-1)] 35)).drew N 35 #[.int .i64 (-1), .int .i64 (-1)] := (hb7.block _ (Blk.lt HN6.out)).trans HN6.out
    clear HS hb7
    generalize (W6.alloc (.cells #[.int .i64 (-1), .int .i64 (-1)] 35)).drew = W7 at hbV hz7 hn7 HS7 hw7N ⊢
    have HW7N := Lib.hid hw7N
    clear hw7N
    have HREP := Lib.hid (repeat_lane ⟨-1, -1⟩ M (by omega) (N + 1) 1 W7 (Blk.lt hn7) (fun j u hj => (Blk.cell hn7 j).trans (by rw [← hj]; simp [laneC])))
    have HB7 := Lib.hid hbV
    have HZ7 := Lib.hid hz7
    clear hbV hz7 hn7
    (refine hK _ _ ⟨(fun _ => HS7), ?_⟩; clear hK K; (try (simp only [List.setIfInBounds_toArray, List.set_cons_zero, List.set_cons_succ])))
    clear HS7
    (refine oneU (i := 8) rfl (by kernel_rfl) (fun K hK => ?_); go_simp)
    refine (callsIn_wide.2 HREP.out).mono ?_
    rintro e w7 ⟨O7, rfl, hO7, hb8, hlt8⟩
    dsimp only
    have hbW : Below V.heap.size V w7 := HB7.out.trans (hb8.mono HB7.out.size)
    have hC7 : Kd.C k35 w7 (some ⟨O7, 0, none⟩) M (List.replicate M ⟨-1, -1⟩) := by
      have h := outIs_C hO7 (by rw [List.length_replicate]; omega)
      rwa [List.length_replicate] at h
    have hV7 : Kd.R k35 35 w7 w.heap.size (fun k => G k ∨ V.heap.size ≤ k) (.slice Av L.length cv) L := Kd.R_mono (Kd.R_below HI.out.r hbW) (fun _ hk => .inl hk)
    have mv : ∀ {b t : Nat} {cs : Array Value}, Blk V b t cs → Blk w7 b t cs := fun {b t cs} h => (hbW.block _ (Blk.lt h)).trans h
    have hB7w : Below w.heap.size w w7 := HI.out.b.trans (hbW.mono HI.out.b.size)
    have HS8 : (fun V : World => V.cell? ⟨O, 0, none⟩ = some (.slice Av L.length cv) ∧ V.cell? ⟨N, 0, none⟩ = some (.int .i64 (-1)) ∧ V.cell? ⟨N, 1, none⟩ = some (.int .i64 (-1))) w7 := by
      have h6 : Blk w7 N 35 #[.int .i64 (-1), .int .i64 (-1)] := by
        have hb := hb8
        exact (hb.block _ (by have := HZ7.out; omega)).trans HW7N.out
      exact ⟨Blk.cell (mv HI.out.o) 0, Blk.cell h6 0, Blk.cell h6 1⟩
    have hlen2 : (L.length + M) * 16 ≤ 140737488355328 := by have := HLEN.out; omega
    have hfr : ∀ k, w7.heap.size ≤ k → (G k ∨ V.heap.size ≤ k) := fun k hk => .inr (by have := hbW.size; omega)
    refine hK _ _ ⟨fun _ => HS8, ?_⟩
    clear hK K hO7 hb8 hlt8 HREP HB7 HZ7
    (try (simp only [List.setIfInBounds_toArray, List.set_cons_zero, List.set_cons_succ]))
    refine oneU (i := 9) rfl (by kernel_rfl) (fun K hK => ?_)
    rw [if_pos (by kernel_rfl)]
    refine opIn_plain (by intro c h; cases h) ?_
    refine of_if_pos (c := Region.wanted _ (yielded #[] _) = true) (B := K (Act.put _ _ undef) w7) (by kernel_rfl) (Kd.R_append_rows_step k35 (Rr := fun x cs => k35.K w7 x cs) (w0 := w7) (W := w7) w.heap.size (by kernel_rfl) (.tmp 40) (.tmp 48) 25 35 (.agg #[(.int .i64 0), (.int .i64 0)]) 16 rfl Try.underlying25 laneInfo rfl (by decide) (by omega) (.slice Av L.length cv) L (List.replicate M ⟨-1, -1⟩) (some ⟨O7, 0, none⟩) M M (fun k => G k ∨ V.heap.size ≤ k) (fun _ => False) rfl rfl hV7 hC7 (fun x cs h => by rw [k35_open h]; exact k35_mkM _ _ _ _) (fun _ hk => hk.elim) hfr ((Below.refl _ _).mono hB7w.size) hB7w.size hlen2 ?_)
    intro v1 w9 ho1 hb1 hg1 hat1
    obtain ⟨L2, hL2⟩ : ∃ L2, L2 = L ++ List.replicate M (⟨-1, -1⟩ : S35) := ⟨_, rfl⟩
    rw [← hL2] at ho1
    rw [HM2.out] at hL2
    have HL2 := Lib.hid hL2
    obtain ⟨A1', c1', rfl⟩ := Kd.R_slice ho1
    have h09 := (hg1.block _ (Blk.lt (mv HI.out.r0)) (Kd.R_ne hV7 (mv HI.out.r0) (by decide))).trans (mv HI.out.r0)
    have h19 := (hg1.block _ (Blk.lt (mv HI.out.r1)) (Kd.R_ne hV7 (mv HI.out.r1) (by decide))).trans (mv HI.out.r1)
    have hd9 : w9.heap[D]? = some (.deferred (some [])) := (hg1.block _ (Nat.lt_of_lt_of_le (Array.getElem?_eq_some_iff.1 HD.out).1 hbW.size) (fun e => by
      obtain ⟨cells, hc⟩ := own_typed hV7.2.choose_spec.1 D e.symm
      rw [(hbW.block _ (Array.getElem?_eq_some_iff.1 HD.out).1).trans HD.out] at hc; cases hc)).trans ((hbW.block _ (Array.getElem?_eq_some_iff.1 HD.out).1).trans HD.out)
    have HA := Lib.hid (And.intro ho1 (And.intro (hB7w.trans hb1) hd9))
    have H09 := Lib.hid h09
    have H19 := Lib.hid h19
    have y0 := Blk.cell h09 0
    have f0 := Blk.frozen h09 0
    have l0 := Blk.lt h09
    have y1 := Blk.cell h19 0
    have f1 := Blk.frozen h19 0
    have l1 := Blk.lt h19
    clear ho1 hb1 hg1 hat1 h09 h19 hL2 hV7 hC7 hbW mv hB7w HS8 hlen2 hfr hd9
    dsimp only [Act.put]
    refine hK _ _ ⟨no_more (by kernel_rfl), ?_⟩
    clear hK K
    (try (simp only [List.setIfInBounds_toArray, List.set_cons_zero, List.set_cons_succ]))
    (refine oneU (i := 10) rfl (by kernel_rfl) (fun K hK => ?_); go_simp)
    (refine hK _ _ ⟨(no_more (by kernel_rfl)), ?_⟩; clear hK K; (try (simp only [List.setIfInBounds_toArray, List.set_cons_zero, List.set_cons_succ])))
    (refine oneU (i := 11) rfl (by kernel_rfl) (fun K hK => ?_); go_simp)
    (refine hK _ _ ⟨(no_more (by kernel_rfl)), ?_⟩; clear hK K; (try (simp only [List.setIfInBounds_toArray, List.set_cons_zero, List.set_cons_succ])))
    (refine doneU (by kernel_rfl) ?_ _)
    have b0 := Blk.other (Blk.set H09.out 0 (.slice A1' L2.length c1')) (p := ⟨w.heap.size + 1, 0, none⟩) (by show w.heap.size ≠ w.heap.size + 1; omega) (.int .i64 0)
    have b1 := Blk.set (Blk.other H19.out (p := ⟨w.heap.size, 0, none⟩) (by show w.heap.size + 1 ≠ w.heap.size; omega) (.slice A1' L2.length c1')) 0 (.int .i64 0)
    have hR := Kd.R_set (Kd.R_set HA.out.1 H09.out (by decide) 0 (.slice A1' L2.length c1')) (Blk.other H19.out (p := ⟨w.heap.size, 0, none⟩) (by show w.heap.size + 1 ≠ w.heap.size; omega) (.slice A1' L2.length c1')) (by decide) 0 (.int .i64 0)
    have hBw := (HA.out.2.1.setCell (p := ⟨w.heap.size, 0, none⟩) (by show w.heap.size ≤ w.heap.size; omega) (.slice A1' L2.length c1')).setCell (p := ⟨w.heap.size + 1, 0, none⟩) (by show w.heap.size ≤ w.heap.size + 1; omega) (.int .i64 0)
    have hD2 : w.heap.size + 2 ≤ D := by rw [HZ.out] at hD; omega
    have hd9 : ((w9.setCell ⟨w.heap.size, 0, none⟩ (.slice A1' L2.length c1')).setCell ⟨w.heap.size + 1, 0, none⟩ (.int .i64 0)).heap[D]? = some (.deferred (some [])) :=
      (Below.heap_setCell _ ⟨w.heap.size + 1, 0, none⟩ _ D (by show D ≠ w.heap.size + 1; omega)).trans ((Below.heap_setCell _ ⟨w.heap.size, 0, none⟩ _ D (by show D ≠ w.heap.size; omega)).trans HA.out.2.2)
    clear y0 f0 l0 y1 f1 l1 HA H09 H19
    generalize (w9.setCell ⟨w.heap.size, 0, none⟩ (.slice A1' L2.length c1')).setCell ⟨w.heap.size + 1, 0, none⟩ (.int .i64 0) = Z at b0 b1 hR hBw hd9 ⊢
    have y0 := Blk.cell b0 0
    have y1 := Blk.cell b1 0
    have HA := Lib.hid (And.intro hR (And.intro hBw hd9))
    clear hR hBw hd9 b0 b1
    dsimp only [onlyN1]
    go_wp2
    refine leaves_marks (v := .tuple #[.slice A1' L2.length c1', .int .i64 0]) (B := w.heap.size) ⟨[D], rfl, by simp, by simp; exact ⟨by omega, HA.out.2.2⟩⟩ (fun W' hs => ⟨?_, _, by rw [HLL.out], ?_, hs.stab _ (Stab.below (Nat.le_refl _) (Nat.le_refl _)) HA.out.2.1⟩)
    · have z0 : W'.cell? ⟨w.heap.size, 0, none⟩ = some (.slice A1' L2.length c1') := (hs.cell _).trans y0
      have z1 : W'.cell? ⟨w.heap.size + 1, 0, none⟩ = some (.int .i64 0) := (hs.cell _).trans y1
      simp [results, Try.results12, asAddr]
      go_simp
    · have hr := hs.stab (fun V => Kd.R k35 35 V w.heap.size (fun _ => True) (.slice A1' L2.length c1') L2) (fun _ V V' row hV hg hr => Kd.R_mono (Kd.R_move (Kd.R_bound hV) (fun k hk => hg.block k hk.2.2.1 (fun e => by
        obtain ⟨_, o, ho, hb⟩ := hr k e.symm
        obtain ⟨_, _, _, q, _, cells, hc⟩ := hk
        rw [hc] at ho; cases ho; cases hb))) (fun _ hk => hk.1)) (Kd.R_mono HA.out.1 (fun _ _ => trivial))
      rw [HLL.out]
      dsimp only
      rw [← HL2.out]
      exact hr
  case round =>
    rintro lp pre ⟨⟨p, q⟩, s⟩ rest G V hx hl' hsz hG ⟨hlen, v, hI⟩
    obtain ⟨hs1, hs2⟩ := HSP.out (⟨p, q⟩, s) (by rw [hx]; simp)
    obtain ⟨m, rfl⟩ := Int.eq_ofNat_of_zero_le (by omega : 0 ≤ s)
    replace hs1 : 1 ≤ (m : Int) := hs1
    replace hs2 : (m : Int) ≤ 1000 := hs2
    have hm : m ≤ 1000 := by omega
    have HPS := Lib.hid (show replP (pre ++ [((⟨p, q⟩ : S35), (m : Int))]) = replP pre ++ List.replicate m ⟨p, q⟩ by rw [replP_app]; rfl)
    have HLE := Lib.hid (show (replP (pre ++ [((⟨p, q⟩ : S35), (m : Int))])).length ≤ (replP (colsP l a)).length by rw [hx, show pre ++ ((⟨p, q⟩ : S35), (m : Int)) :: rest = (pre ++ [(⟨p, q⟩, (m : Int))]) ++ rest by simp]; exact replP_le _ _)
    have HI := Lib.hid hI
    clear hI hx hs1 hs2
    dsimp only [colV]
    gi_wp2
    refine ⟨by (repeat (first | (with_reducible exact KeepBook.refl _) | (with_reducible refine KeepBook.alloc ?_ _) | (with_reducible refine KeepBook.setCell ?_ _ _) | (with_reducible refine KeepBook.drew ?_) | (refine KeepBook.below ?_ (by assumption)))), ((KeptS.refl _ V).alloc _), ?_⟩
    rintro W2 hs _
    have hN : V.heap.size ≥ O + 6 := by rw [HZ.out] at hsz; omega
    have hI2 : CoI w O A l.length c (a : Int) (replP pre) G v W2 := hs.stab (fun V => CoI w O A l.length c (a : Int) (replP pre) G v V) (fun _ V V' row hV hg hr => ⟨Stab.blk _ _ (fun _ : Unit => _) () V V' row hV.r0 hg hr, Stab.blk _ _ (fun _ : Unit => _) () V V' row hV.r1 hg hr, Stab.blk _ _ (fun _ : Unit => _) () V V' row hV.o hg hr, Stab.blk _ _ (fun _ : Unit => _) () V V' row hV.b1 hg hr, Stab.blk _ _ (fun _ : Unit => _) () V V' row hV.b2 hg hr, Stab.blk _ _ (fun _ : Unit => _) () V V' row hV.b3 hg hr, Kd.R_mono (Kd.R_move (Kd.R_bound hV.r) (fun k hk => hg.block k hk.2.2.1 (fun e => by
        obtain ⟨_, o, ho, hb⟩ := hr k e.symm
        obtain ⟨_, _, _, q, _, cells, hc⟩ := hk
        rw [hc] at ho; cases ho; cases hb))) (fun _ hk => hk.1), (Stab.below (β := Unit) (Nat.le_refl _) (by rw [HZ.out]; omega)) () V V' row hV.b hg hr⟩)
      ⟨Blk.alloc HI.out.r0 _, Blk.alloc HI.out.r1 _, Blk.alloc HI.out.o _, Blk.alloc HI.out.b1 _, Blk.alloc HI.out.b2 _, Blk.alloc HI.out.b3 _, Kd.R_below HI.out.r ((Below.refl _ _).alloc (Nat.le_refl _) _), HI.out.b.alloc HI.out.b.size _⟩
    have hN2 : Blk W2 V.heap.size 35 #[.int .i64 p, .int .i64 q] := hs.blk (Blk.new V _ _)
    have hS2 : W2.heap.size = V.heap.size + 1 := by rw [hs.size]; simp
    obtain ⟨N, hNe⟩ : ∃ N, N = V.heap.size := ⟨_, rfl⟩
    rw [← hNe] at hN2 hS2 hN hG ⊢
    have HS2 := Lib.hid hS2
    have HNe := Lib.hid hNe
    clear hNe hs hS2
    have yO : W2.cell? ⟨O, 0, none⟩ = some v := Blk.cell hI2.o 0
    have n0 : W2.cell? ⟨N, 0, none⟩ = some (.int .i64 p) := Blk.cell hN2 0
    have n1 : W2.cell? ⟨N, 1, none⟩ = some (.int .i64 q) := Blk.cell hN2 1
    have HI2 := Lib.hid hI2
    have HN2 := Lib.hid hN2
    clear hI2 hN2
    gi_upto_region 10 with fail
    refine beginU (fun V : World => V.cell? ⟨O, 0, none⟩ = some v ∧ V.cell? ⟨N, 0, none⟩ = some (.int .i64 p) ∧ V.cell? ⟨N, 1, none⟩ = some (.int .i64 q)) 5 (by kernel_rfl) ?_
    have HS : (fun V : World => V.cell? ⟨O, 0, none⟩ = some v ∧ V.cell? ⟨N, 0, none⟩ = some (.int .i64 p) ∧ V.cell? ⟨N, 1, none⟩ = some (.int .i64 q)) W2.drew := ⟨yO, n0, n1⟩
    clear yO n0 n1
    (refine takeV (i := 0) (d := 30) (v := ?_) [5] rfl rfl (by kernel_rfl) (by kernel_rfl) (by kernel_rfl) (by kernel_rfl) (by kernel_rfl) (fun _ _ _ h => h) ⟨Or.inl ⟨by kernel_rfl, ?_⟩, fun _ => rfl⟩ HS ?_; rotate_left; (focus (rintro wS ⟨s1, s2, s3⟩; go_simp; try (with_reducible rfl))); (simp only [List.setIfInBounds_toArray, List.set_cons_zero, List.set_cons_succ]))
    (refine takeV (i := 1) (d := 31) (v := ?_) [5, 4, 2] rfl rfl (by kernel_rfl) (by kernel_rfl) (by kernel_rfl) (by kernel_rfl) (by kernel_rfl) (fun _ _ _ h => h) ⟨Or.inl ⟨by kernel_rfl, ?_⟩, fun _ => rfl⟩ HS ?_; rotate_left; (focus (rintro wS ⟨s1, s2, s3⟩; go_simp; try (with_reducible rfl))); (simp only [List.setIfInBounds_toArray, List.set_cons_zero, List.set_cons_succ]))
    (refine takeP (i := 3) (d := 33) (v := ?_) rfl rfl (by kernel_rfl) (by kernel_rfl) (by kernel_rfl) (by kernel_rfl) (by kernel_rfl) (fun _ _ _ h => h) ⟨Or.inl ⟨by kernel_rfl, ?_⟩, fun _ => rfl⟩ (fun _ => HS) ?_; rotate_left; (focus (rintro wS -; go_simp; try (with_reducible rfl))); (simp only [List.setIfInBounds_toArray, List.set_cons_zero, List.set_cons_succ]))
    (refine oneU (i := 2) rfl (by kernel_rfl) (fun K hK => ?_); go_simp)
    have hb7 : Below W2.heap.size W2 (W2.alloc (.cells #[.int .i64 p, .int .i64 q] 35)).drew := ((Below.refl _ W2).alloc (Nat.le_refl _) _).drew
    have hz7 : (W2.alloc (.cells #[.int .i64 p, .int .i64 q] 35)).drew.heap.size = N + 1 + 1 := by rw [World.size_drew, World.size_alloc, HS2.out]
    have hn7 : Blk (W2.alloc (.cells #[.int .i64 p, .int .i64 q] 35)).drew (N + 1) 35 #[.int .i64 p, .int .i64 q] := by
      have h := Blk.new W2 35 #[.int .i64 p, .int .i64 q]
      rw [HS2.out] at h
      exact h.drew
    have HS7 : (fun V : World => V.cell? ⟨O, 0, none⟩ = some v ∧ V.cell? ⟨N, 0, none⟩ = some (.int .i64 p) ∧ V.cell? ⟨N, 1, none⟩ = some (.int .i64 q)) (W2.alloc (.cells #[.int .i64 p, .int .i64 q] 35)).drew := ⟨Blk.cell ((hb7.block _ (Blk.lt HI2.out.o)).trans HI2.out.o) 0, Blk.cell ((hb7.block _ (Blk.lt HN2.out)).trans HN2.out) 0, Blk.cell ((hb7.block _ (Blk.lt HN2.out)).trans HN2.out) 1⟩
    rw [HS2.out]
    clear HS
    generalize (W2.alloc (.cells #[.int .i64 p, .int .i64 q] 35)).drew = W7 at hb7 hz7 hn7 HS7 ⊢
    have HREP := Lib.hid (repeat_lane ⟨p, q⟩ m (by omega) (N + 1) 1 W7 (Blk.lt hn7) (fun j u hj => (Blk.cell hn7 j).trans (by rw [← hj]; simp [laneC])))
    have HB7 := Lib.hid hb7
    have HZ7 := Lib.hid hz7
    clear hb7 hz7 hn7
    (refine hK _ _ ⟨(fun _ => HS7), ?_⟩; clear hK K; (try (simp only [List.setIfInBounds_toArray, List.set_cons_zero, List.set_cons_succ])))
    clear HS7
    (refine oneU (i := 4) rfl (by kernel_rfl) (fun K hK => ?_); go_simp)
    refine (CallsIn.inRound _ (callsIn_wide.2 HREP.out)).mono ?_
    rintro e w7 ⟨O7, rfl, hO7, hb8, hlt8⟩
    dsimp only
    have hbW : Below W2.heap.size W2 w7 := HB7.out.trans (hb8.mono HB7.out.size)
    have hC7 : Kd.C k35 w7 (some ⟨O7, 0, none⟩) m (List.replicate m ⟨p, q⟩) := by
      have h := outIs_C hO7 (by rw [List.length_replicate]; omega)
      rwa [List.length_replicate] at h
    have hV7 : Kd.R k35 35 w7 w.heap.size (fun k => G k ∨ N ≤ k) v (replP pre) := Kd.R_mono (Kd.R_below HI2.out.r hbW) (fun _ hk => .inl hk)
    have mv : ∀ {b t : Nat} {cs : Array Value}, Blk W2 b t cs → Blk w7 b t cs := fun {b t cs} h => (hbW.block _ (Blk.lt h)).trans h
    have hB7w : Below w.heap.size w w7 := HI2.out.b.trans (hbW.mono HI2.out.b.size)
    have hsz7 : N + 1 ≤ w7.heap.size := by have := hbW.size; rw [HS2.out] at this; exact this
    have HS8 : (fun V : World => V.cell? ⟨O, 0, none⟩ = some v ∧ V.cell? ⟨N, 0, none⟩ = some (.int .i64 p) ∧ V.cell? ⟨N, 1, none⟩ = some (.int .i64 q)) w7 := ⟨Blk.cell (mv HI2.out.o) 0, Blk.cell (mv HN2.out) 0, Blk.cell (mv HN2.out) 1⟩
    have hlen2 : ((replP pre).length + m) * 16 ≤ 140737488355328 := by omega
    have hfr : ∀ k, w7.heap.size ≤ k → (G k ∨ N ≤ k) := fun k hk => .inr (by omega)
    refine hK _ _ ⟨fun _ => HS8, ?_⟩
    clear hK K hO7 hb8 hlt8 HREP HB7 HZ7
    (try (simp only [List.setIfInBounds_toArray, List.set_cons_zero, List.set_cons_succ]))
    refine oneU (i := 5) rfl (by kernel_rfl) (fun K hK => ?_)
    rw [if_pos (by kernel_rfl)]
    refine opIn_round (by intro c h; cases h) ?_
    refine of_if_pos (c := Region.wanted _ (yielded #[] _) = true) (B := K (Act.put _ _ undef) w7) (by kernel_rfl) (Kd.R_append_rows_step k35 (Rr := fun x cs => k35.K w7 x cs) (w0 := w7) (W := w7) w.heap.size (by kernel_rfl) (.tmp 30) (.tmp 34) 25 35 (.agg #[(.int .i64 0), (.int .i64 0)]) 16 rfl Try.underlying25 laneInfo rfl (by decide) (by omega) v (replP pre) (List.replicate m ⟨p, q⟩) (some ⟨O7, 0, none⟩) m m (fun k => G k ∨ N ≤ k) (fun _ => False) rfl rfl hV7 hC7 (fun x cs h => by rw [k35_open h]; exact k35_mkM _ _ _ _) (fun _ hk => hk.elim) hfr ((Below.refl _ _).mono hB7w.size) hB7w.size hlen2 ?_)
    intro v1 w9 ho1 hb1 hg1 hat1
    obtain ⟨L, hL⟩ : ∃ L, L = replP pre ++ List.replicate m (⟨p, q⟩ : S35) := ⟨_, rfl⟩
    rw [← hL] at ho1 HPS
    obtain ⟨A1', c1', rfl⟩ := Kd.R_slice ho1
    have hO9 := (hg1.block O (Blk.lt (mv HI2.out.o)) (Kd.R_ne hV7 (mv HI2.out.o) (by decide))).trans (mv HI2.out.o)
    have h09 := (hg1.block _ (Blk.lt (mv HI2.out.r0)) (Kd.R_ne hV7 (mv HI2.out.r0) (by decide))).trans (mv HI2.out.r0)
    have h19 := (hg1.block _ (Blk.lt (mv HI2.out.r1)) (Kd.R_ne hV7 (mv HI2.out.r1) (by decide))).trans (mv HI2.out.r1)
    have hb19 := (hg1.block _ (Blk.lt (mv HI2.out.b1)) (Kd.R_ne hV7 (mv HI2.out.b1) (by decide))).trans (mv HI2.out.b1)
    have hb29 := (hg1.block _ (Blk.lt (mv HI2.out.b2)) (Kd.R_ne hV7 (mv HI2.out.b2) (by decide))).trans (mv HI2.out.b2)
    have hb39 := (hg1.block _ (Blk.lt (mv HI2.out.b3)) (Kd.R_ne hV7 (mv HI2.out.b3) (by decide))).trans (mv HI2.out.b3)
    have hv := HI2.out.r.1
    have hk9 : KeptS (fun k => k < W5.heap.size + 2 ∨ G k) W2 w9 := (KeptS.of_below hbW).trans ⟨hb1.size, hb1.os, hb1.tape, hb1.output, fun k hk hs => hg1.block k hk (fun e => hs (.inr (hv k e.symm)))⟩
    have hbook9 : KeepBook W2 w9 := (KeepBook.of_below hbW).grown hg1 (fun j o e ho => by
      obtain ⟨cells, hc⟩ := own_typed hV7.2.choose_spec.1 j e
      rw [hc] at ho; cases ho; rfl)
    have HA := Lib.hid (And.intro ho1 (And.intro (hB7w.trans hb1) (And.intro hk9 (And.intro hbook9 (And.intro (show N + 1 ≤ w9.heap.size by have := hb1.size; omega) True.intro)))))
    have HO9 := Lib.hid hO9
    have H09 := Lib.hid h09
    have H19 := Lib.hid h19
    have HB9 := Lib.hid (And.intro hb19 (And.intro hb29 hb39))
    have yO := Blk.cell hO9 0
    have fO := Blk.frozen hO9 0
    have lO := Blk.lt hO9
    have y0 := Blk.cell h09 0
    have f0 := Blk.frozen h09 0
    have l0 := Blk.lt h09
    have y1 := Blk.cell h19 0
    have f1 := Blk.frozen h19 0
    have l1 := Blk.lt h19
    have hL2 : L.length = (replP pre).length + m := by rw [hL]; simp
    have HL2 := Lib.hid hL2
    clear ho1 hb1 hg1 hat1 hO9 h09 h19 hb19 hb29 hb39 hk9 hbook9 hv hL hL2 hV7 hC7 hbW mv hB7w hsz7 HS8 hlen2 hfr
    dsimp only [Act.put]
    refine hK _ _ ⟨no_more (by kernel_rfl), ?_⟩
    clear hK K
    (try (simp only [List.setIfInBounds_toArray, List.set_cons_zero, List.set_cons_succ]))
    (refine oneU (i := 6) rfl (by kernel_rfl) (fun K hK => ?_); go_simp)
    (refine hK _ _ ⟨(no_more (by kernel_rfl)), ?_⟩; clear hK K; (try (simp only [List.setIfInBounds_toArray, List.set_cons_zero, List.set_cons_succ])))
    (refine doneU (by kernel_rfl) ?_ _)
    have bO := Blk.set HO9.out 0 (.slice A1' L.length c1')
    have b0 := Blk.other H09.out (p := ⟨O, 0, none⟩) (by show w.heap.size ≠ O; omega) (.slice A1' L.length c1')
    have b1 := Blk.other H19.out (p := ⟨O, 0, none⟩) (by show w.heap.size + 1 ≠ O; omega) (.slice A1' L.length c1')
    have c1 := Blk.other HB9.out.1 (p := ⟨O, 0, none⟩) (by show O + 1 ≠ O; omega) (.slice A1' L.length c1')
    have c2 := Blk.other HB9.out.2.1 (p := ⟨O, 0, none⟩) (by show O + 1 + 1 ≠ O; omega) (.slice A1' L.length c1')
    have c3 := Blk.other HB9.out.2.2 (p := ⟨O, 0, none⟩) (by show O + 1 + 1 + 1 ≠ O; omega) (.slice A1' L.length c1')
    have hR := Kd.R_set HA.out.1 HO9.out (by decide) 0 (.slice A1' L.length c1')
    have hBw := HA.out.2.1.setCell (p := ⟨O, 0, none⟩) (by show w.heap.size ≤ O; omega) (.slice A1' L.length c1')
    have hKs := HA.out.2.2.1.setCell (p := ⟨O, 0, none⟩) (fun k hk hs e => hs (.inl (by have e' : k = O := e; rw [HZ.out]; omega))) (.slice A1' L.length c1')
    have hKb := HA.out.2.2.2.1.setCell ⟨O, 0, none⟩ (.slice A1' L.length c1')
    have hSz : N + 1 ≤ (w9.setCell ⟨O, 0, none⟩ (.slice A1' L.length c1')).heap.size := by rw [World.size_setCell]; exact HA.out.2.2.2.2.1
    clear yO fO lO y0 f0 l0 y1 f1 l1 HA HO9 H09 H19 HB9
    generalize w9.setCell ⟨O, 0, none⟩ (.slice A1' L.length c1') = Z at bO b0 b1 c1 c2 c3 hR hBw hKs hKb hSz ⊢
    have yO : Z.cell? ⟨O, 0, none⟩ = some (.slice A1' L.length c1') := Blk.cell bO 0
    have lO := Blk.lt bO
    have y0 : Z.cell? ⟨w.heap.size, 0, none⟩ = some (.slice none 0 0) := Blk.cell b0 0
    have f0 := Blk.frozen b0 0
    have l0 := Blk.lt b0
    have y1 : Z.cell? ⟨w.heap.size + 1, 0, none⟩ = some (.int .i64 0) := Blk.cell b1 0
    have f1 := Blk.frozen b1 0
    have l1 := Blk.lt b1
    have HC := Lib.hid (And.intro bO (And.intro b0 (And.intro b1 (And.intro c1 (And.intro c2 c3)))))
    have HR := Lib.hid hR
    have HBw := Lib.hid hBw
    have HKs := Lib.hid hKs
    have HKb := Lib.hid hKb
    clear bO b0 b1 c1 c2 c3 hR hBw hKs hKb
    by_cases hb : L.length ≤ 10000
    · have hbz : ¬ (10000 < (L.length : Int)) := by omega
      gi_wp2
      refine ⟨HKb.out, HKs.out, fun k => (G k ∨ N ≤ k) ∧ k < Z.heap.size, fun k hk => ⟨by rw [← HNe.out]; exact hk.1, hk.2⟩, ?_, .slice A1' L.length c1', HC.out.2.1, HC.out.2.2.1, HC.out.1, HC.out.2.2.2.1, HC.out.2.2.2.2.1, HC.out.2.2.2.2.2, ?_, HBw.out⟩
      · rw [HPS.out]; exact hb
      · rw [HPS.out]; exact Kd.R_mono (Kd.R_bound HR.out) (fun k hk => ⟨hk.1, hk.2.2.1⟩)
    · have hbz : 10000 < (L.length : Int) := by omega
      gi_wp2
      refine ⟨(HKb.out.setCell _ _).setCell _ _, (HKs.out.setCell (p := ⟨w.heap.size, 0, none⟩) (fun k hk hs e => hs (.inl (by have e' : k = w.heap.size := e; rw [HZ.out]; omega))) _).setCell (p := ⟨w.heap.size + 1, 0, none⟩) (fun k hk hs e => hs (.inl (by have e' : k = w.heap.size + 1 := e; rw [HZ.out]; omega))) _, fun k => (G k ∨ N ≤ k) ∧ k < Z.heap.size, fun k hk => ⟨by rw [← HNe.out]; exact hk.1, by rw [World.size_setCell, World.size_setCell]; exact hk.2⟩, rfl, ?_, ?_, ?_, ?_⟩
      · have := HLE.out; rw [HPS.out] at this; omega
      · exact Blk.other (Blk.set HC.out.2.1 0 (.slice none 0 0)) (p := ⟨w.heap.size + 1, 0, none⟩) (by show w.heap.size ≠ w.heap.size + 1; omega) _
      · exact Blk.set (Blk.other HC.out.2.2.1 (p := ⟨w.heap.size, 0, none⟩) (by show w.heap.size + 1 ≠ w.heap.size; omega) _) 0 (.int .i64 43)
      · exact (HBw.out.setCell (p := ⟨w.heap.size, 0, none⟩) (by show w.heap.size ≤ w.heap.size; omega) _).setCell (p := ⟨w.heap.size + 1, 0, none⟩) (by show w.heap.size ≤ w.heap.size + 1; omega) _
def lanes_Cols.f (l : List Nd) (a n : Int) : Option (List S35 × Int) :=
  if (linksOf l).length ≤ 1000000000 then some (if checkL l a = 0 then (if n < 0 ∨ 10000 < n then ([], 2) else colsR l a.toNat n.toNat) else ([], checkL l a)) else none
set_option maxRecDepth 100000 in
set_option maxHeartbeats 4000000 in
theorem cols_no (l : List Nd) (A : Option Addr) (c : Nat) (w : World) (hNC : Kd.C k48 w A l.length l) (hc : l.length ≤ c) (hl : (linksOf l).length ≤ 1000000000) (a n : Int) (er : Int) (he : checkL l a = er) (h2 : er ≠ 0) :
    Calls Try.prog 12 #[.slice A l.length c, .int .i64 a, .int .i64 n] w fun e w' => e = .returned (.tuple #[.slice none 0 0, .int .i64 er]) ∧ Below w.heap.size w w' := by
  have hq2 : (er != 0) = true := by simp [h2]
  have HCH := Lib.hid (fun W (hW : Below w.heap.size w W) => by have := lcheck_any l A c W (Kd.C_below hNC hW) hc hl a; rw [he] at this; exact this)
  clear hNC hc hl he
  refine calls_of_wp_marks Try.func12 rfl ?_
  simp only [Try.ntmps12, List.size_toArray, List.length_cons, List.length_nil, Nat.reduceAdd, Nat.reduceSub, Array.replicate_succ, Array.replicate_zero, List.push_toArray, List.append_toArray, List.nil_append, List.cons_append]
  have g0 : Blk ((w.alloc (.cells #[.slice none 0 0] 25)).alloc (.cells #[.int .i64 0] 26)) w.heap.size 25 #[.slice none 0 0] := Blk.alloc (Blk.new w _ _) _
  have g1 : Blk ((w.alloc (.cells #[.slice none 0 0] 25)).alloc (.cells #[.int .i64 0] 26)) (w.heap.size + 1) 26 #[.int .i64 0] := by
    have h := Blk.new (w.alloc (.cells #[.slice none 0 0] 25)) 26 #[.int .i64 0]
    rwa [World.size_alloc] at h
  have hB0 : Below w.heap.size w ((w.alloc (.cells #[.slice none 0 0] 25)).alloc (.cells #[.int .i64 0] 26)) := ((Below.refl _ w).alloc (Nat.le_refl _) _).alloc (by simp) _
  go_upto_region 1 with fail
  generalize (w.alloc (.cells #[.slice none 0 0] 25)).alloc (.cells #[.int .i64 0] 26) = W0 at g0 g1 hB0 ⊢
  go_wp2_with (go_at_call 23; refine (HCH.out _ hB0).mono ?_; rintro e w1 ⟨rfl, hb⟩; have h0 := (hb.block _ (Blk.lt g0)).trans g0; have h1 := (hb.block _ (Blk.lt g1)).trans g1; have y0 := Blk.cell h0 0; have f0 := Blk.frozen h0 0; have l0 := Blk.lt h0; have y1 := Blk.cell h1 0; have f1 := Blk.frozen h1 0; have l1 := Blk.lt h1; have HG0 := Lib.hid h0; have HG1 := Lib.hid h1; have HB1 := Lib.hid (hB0.trans (hb.mono hB0.size)); clear hb HCH g0 g1 hB0 h0 h1)
  have b0 := Blk.other (Blk.set HG0.out 0 (.slice none 0 0)) (p := ⟨w.heap.size + 1, 0, none⟩) (by show w.heap.size ≠ w.heap.size + 1; omega) (.int .i64 er)
  have b1 := Blk.set (Blk.other HG1.out (p := ⟨w.heap.size, 0, none⟩) (by show w.heap.size + 1 ≠ w.heap.size; omega) (.slice none 0 0)) 0 (.int .i64 er)
  refine leaves_marks (v := .tuple #[.slice none 0 0, .int .i64 er]) (B := w.heap.size) ⟨[], rfl, by simp, by simp⟩ (fun W' hs => ⟨?_, rfl, hs.stab _ (Stab.below (Nat.le_refl _) (Nat.le_refl _)) ((HB1.out.setCell (p := ⟨w.heap.size, 0, none⟩) (by show w.heap.size ≤ w.heap.size; omega) (.slice none 0 0)).setCell (p := ⟨w.heap.size + 1, 0, none⟩) (by show w.heap.size ≤ w.heap.size + 1; omega) (.int .i64 er))⟩)
  have z0 : W'.cell? ⟨w.heap.size, 0, none⟩ = some (.slice none 0 0) := (hs.cell _).trans (Blk.cell b0 0)
  have z1 : W'.cell? ⟨w.heap.size + 1, 0, none⟩ = some (.int .i64 er) := (hs.cell _).trans (Blk.cell b1 0)
  simp [results, Try.results12, asAddr]
  go_simp
set_option maxRecDepth 100000 in
set_option maxHeartbeats 4000000 in
theorem cols_arg (l : List Nd) (A : Option Addr) (c : Nat) (w : World) (hNC : Kd.C k48 w A l.length l) (hc : l.length ≤ c) (hl : (linksOf l).length ≤ 1000000000) (a n : Int) (he : checkL l a = 0) (h2 : n < 0 ∨ 10000 < n) :
    Calls Try.prog 12 #[.slice A l.length c, .int .i64 a, .int .i64 n] w fun e w' => e = .returned (.tuple #[.slice none 0 0, .int .i64 2]) ∧ Below w.heap.size w w' := by
  have hq2 : ((0 : Int) != 0) = false := by simp
  have hd : (decide (n < 0) || decide (10000 < n)) = true := by simpa using h2
  have hd1 : decide (n < 0) = false → decide (10000 < n) = true := by intro h; simpa [h] using hd
  have HCH := Lib.hid (fun W (hW : Below w.heap.size w W) => by have := lcheck_any l A c W (Kd.C_below hNC hW) hc hl a; rw [he] at this; exact this)
  clear hNC hc hl he
  refine calls_of_wp_marks Try.func12 rfl ?_
  simp only [Try.ntmps12, List.size_toArray, List.length_cons, List.length_nil, Nat.reduceAdd, Nat.reduceSub, Array.replicate_succ, Array.replicate_zero, List.push_toArray, List.append_toArray, List.nil_append, List.cons_append]
  have g0 : Blk ((w.alloc (.cells #[.slice none 0 0] 25)).alloc (.cells #[.int .i64 0] 26)) w.heap.size 25 #[.slice none 0 0] := Blk.alloc (Blk.new w _ _) _
  have g1 : Blk ((w.alloc (.cells #[.slice none 0 0] 25)).alloc (.cells #[.int .i64 0] 26)) (w.heap.size + 1) 26 #[.int .i64 0] := by
    have h := Blk.new (w.alloc (.cells #[.slice none 0 0] 25)) 26 #[.int .i64 0]
    rwa [World.size_alloc] at h
  have hB0 : Below w.heap.size w ((w.alloc (.cells #[.slice none 0 0] 25)).alloc (.cells #[.int .i64 0] 26)) := ((Below.refl _ w).alloc (Nat.le_refl _) _).alloc (by simp) _
  go_upto_region 1 with fail
  generalize (w.alloc (.cells #[.slice none 0 0] 25)).alloc (.cells #[.int .i64 0] 26) = W0 at g0 g1 hB0 ⊢
  by_cases q : n < 0
  all_goals
    first
      | (have q2 : decide (n < 0) = true := decide_eq_true q)
      | (have q2 : decide (n < 0) = false := decide_eq_false q; have q3 : 10000 < n := by omega)
    clear hd hd1 h2
    go_wp2_with (go_at_call 23; refine (HCH.out _ hB0).mono ?_; rintro e w1 ⟨rfl, hb⟩; have h0 := (hb.block _ (Blk.lt g0)).trans g0; have h1 := (hb.block _ (Blk.lt g1)).trans g1; have y0 := Blk.cell h0 0; have f0 := Blk.frozen h0 0; have l0 := Blk.lt h0; have y1 := Blk.cell h1 0; have f1 := Blk.frozen h1 0; have l1 := Blk.lt h1; have HG0 := Lib.hid h0; have HG1 := Lib.hid h1; have HB1 := Lib.hid (hB0.trans (hb.mono hB0.size)); clear hb HCH g0 g1 hB0 h0 h1)
    have b0 := Blk.other (Blk.set HG0.out 0 (.slice none 0 0)) (p := ⟨w.heap.size + 1, 0, none⟩) (by show w.heap.size ≠ w.heap.size + 1; omega) (.int .i64 2)
    have b1 := Blk.set (Blk.other HG1.out (p := ⟨w.heap.size, 0, none⟩) (by show w.heap.size + 1 ≠ w.heap.size; omega) (.slice none 0 0)) 0 (.int .i64 2)
    refine leaves_marks (v := .tuple #[.slice none 0 0, .int .i64 2]) (B := w.heap.size) ⟨[], rfl, by simp, by simp⟩ (fun W' hs => ⟨?_, rfl, hs.stab _ (Stab.below (Nat.le_refl _) (Nat.le_refl _)) ((HB1.out.setCell (p := ⟨w.heap.size, 0, none⟩) (by show w.heap.size ≤ w.heap.size; omega) (.slice none 0 0)).setCell (p := ⟨w.heap.size + 1, 0, none⟩) (by show w.heap.size ≤ w.heap.size + 1; omega) (.int .i64 2))⟩)
    have z0 : W'.cell? ⟨w.heap.size, 0, none⟩ = some (.slice none 0 0) := (hs.cell _).trans (Blk.cell b0 0)
    have z1 : W'.cell? ⟨w.heap.size + 1, 0, none⟩ = some (.int .i64 2) := (hs.cell _).trans (Blk.cell b1 0)
    simp [results, Try.results12, asAddr]
    go_simp
theorem lanes_Cols.calls (A : Option Addr) (c : Nat) (l : List Nd) (a n : Int) (r1 : List S35) (r2 : Int) (w : World) (hr0 : Kd.C k48 w A l.length l) (hc0 : l.length ≤ c) (h : lanes_Cols.f l a n = some (r1, r2)) :
    Calls Try.prog 12 #[.slice A l.length c, .int .i64 a, .int .i64 n] w fun e w' => ∃ v0_ : Value, e = .returned (.tuple #[v0_, .int .i64 r2]) ∧ Kd.R k35 35 w' w.heap.size (fun _ => True) v0_ r1 ∧ Below w.heap.size w w' := by
  unfold lanes_Cols.f at h
  by_cases hl : (linksOf l).length ≤ 1000000000
  · rw [if_pos hl] at h
    have hh := Option.some.inj h
    clear h
    by_cases q : checkL l a = 0
    · rw [if_pos q] at hh
      by_cases qn : n < 0 ∨ 10000 < n
      · rw [if_pos qn] at hh
        injection hh with h1 h2
        subst h1 h2
        refine (cols_arg l A c w hr0 hc0 hl a n q qn).mono ?_
        rintro e w' ⟨rfl, hb⟩
        exact ⟨_, rfl, Kd.R_nil _ _ _ _ _, hb⟩
      · rw [if_neg qn] at hh
        obtain ⟨hok, an, rfl, han, -⟩ := checkL_ok q
        obtain ⟨nn, rfl⟩ := Int.eq_ofNat_of_zero_le (by omega : 0 ≤ n)
        rw [Int.toNat_natCast, Int.toNat_natCast] at hh
        have := cols_yes l A c w hr0 hc0 hl an han hok.kidsIn hok.right q nn (by omega)
        rwa [hh] at this
    · rw [if_neg q] at hh
      injection hh with h1 h2
      subst h1
      refine (cols_no l A c w hr0 hc0 hl a n r2 h2 (h2 ▸ q)).mono ?_
      rintro e w' ⟨rfl, hb⟩
      exact ⟨_, rfl, Kd.R_nil _ _ _ _ _, hb⟩
  · rw [if_neg hl] at h; cases h
end Go.Proofs.Ytdmnaehgngpikaa.K
