/- Layer 6: Ends. -/
import Derived.Test.YtdmnaehgngpikaaLaA
import Derived.Laws.MakeOwn
import Derived.Laws.OwnMore
namespace Go.Proofs.Ytdmnaehgngpikaa.K
open Go.RowKit Go.Proofs.YtdmnaehgngpikaaW.PrintWords Go.Proofs.YtdmnaehgngpikaaW.PrintLast Go.Proofs.YtdmnaehgngpikaaW.PrintMore
set_option linter.unusedVariables false
set_option linter.unusedSimpArgs false
attribute [local go_sem] Oper.semAt_some
/-- a list's places and elements, the last first -/
def backL (rows : List S35) : List (Nat × S35) := (List.range rows.length).map fun j => (rows.length - 1 - j, rd_T35 rows ((rows.length - 1 - j : Nat) : Int))
def backV (x : Nat × S35) : Array Value := #[.int .i64 (x.1 : Int), .agg #[.int .i64 x.2.f0, .int .i64 x.2.f1]]
theorem back_at {rows : List S35} {j : Nat} (h : j < rows.length) : (backL rows)[j]? = some (rows.length - 1 - j, rd_T35 rows ((rows.length - 1 - j : Nat) : Int)) := by
  unfold backL
  rw [List.getElem?_map, List.getElem?_range h]
  rfl
theorem back_len (rows : List S35) : (backL rows).length = rows.length := by unfold backL; simp
theorem take_split {α : Type} {xs : List α} {j : Nat} {x : α} (h : xs[j]? = some x) : xs = xs.take j ++ x :: xs.drop (j + 1) := by
  obtain ⟨hl, rfl⟩ := List.getElem?_eq_some_iff.1 h
  rw [← List.drop_eq_getElem_cons hl, List.take_append_drop]
theorem take_one {α : Type} {xs : List α} {j : Nat} {x : α} (h : xs[j]? = some x) : xs.take j ++ [x] = xs.take (j + 1) := by
  rw [List.take_add_one, h]; rfl
set_option maxRecDepth 100000 in
set_option maxHeartbeats 2000000 in
theorem back1_iter (rows : List S35) (b : Nat) (A : Option Addr) (c : Nat) (hc : rows.length ≤ c) :
    IterC Try.prog 46 #[.pointer (some ⟨b, 0, none⟩)] backV (backL rows) (fun W => W.cell? ⟨b, 0, none⟩ = some (.slice A rows.length c) ∧ Kd.C k35 W A rows.length rows) := by
  intro lp J Jx W hJ hJx hRd hY h0
  have hcell := (hRd [] W h0).1
  have hbig := (hRd [] W h0).2.2.1
  have HY := Lib.hid hY
  have HR := Lib.hid hRd
  have HJ := Lib.hid hJ
  clear hY hRd hJ hJx
  refine callsIn_wide.1 (callsIn_of_wp (n := 0) Try.func46 rfl trivial ?_ rfl)
  simp only [Try.ntmps46, List.size_toArray, List.length_cons, List.length_nil, Nat.reduceAdd, Nat.reduceSub, Array.replicate_succ, Array.replicate_zero, List.push_toArray, List.append_toArray, List.nil_append, List.cons_append]
  gi_wp2
  have hw0 : IntKind.i64.wrap ((rows.length : Int) - 1) = (rows.length : Int) - 1 := by rw [IntKind.wrap_i64]; omega
  gi_loopw [3] (fun i wr => ∃ j : Nat, j ≤ rows.length ∧ i = .int .i64 ((rows.length : Int) - 1 - (j : Int)) ∧ Aside0 (J ((backL rows).take j) wr)) (fun i _ => (intOf i + 1).toNat)
  case atStart => exact ⟨0, by omega, by simp, ⟨h0⟩⟩
  case round =>
    obtain ⟨j, hj, rfl, HJj⟩ := hrel
    clear h0 hcell
    by_cases hlt : j < rows.length
    · have hidx : (rows.length : Int) - 1 - (j : Int) = ((rows.length - 1 - j : Nat) : Int) := by omega
      obtain ⟨i, hi⟩ : ∃ i, i = rows.length - 1 - j := ⟨_, rfl⟩
      have hil : i < rows.length := by omega
      obtain ⟨z1, hC⟩ := HR.out _ _ HJj.out
      have hil2 : (i : Int) < (rows.length : Int) := by omega
      obtain ⟨ad, hA, hx0, hx1⟩ := at_T35 hC (i : Int) (by omega) hil2
      rw [Int.toNat_natCast] at hx0 hx1
      have hat := back_at hlt
      rw [← hi] at hat
      obtain ⟨fn, tmps, assign, body, hy, hRR⟩ := HY.out _ _ _ _ (take_split hat) HJj.out
      have HAT := Lib.hid hat
      have HT := Lib.hid (take_one hat)
      have HI := Lib.hid (And.intro hi hidx)
      have hi0 : (0 : Int) ≤ (i : Int) := by omega
      rw [hidx, ← hi]
      dsimp only [backV] at hy
      have hw1 : IntKind.i64.wrap ((i : Int) - 1) = (rows.length : Int) - 1 - ((j + 1 : Nat) : Int) := by rw [IntKind.wrap_i64]; omega
      have HW1 := Lib.hid hw1
      have HLT := Lib.hid hlt
      clear hw1 hat hi hidx hC hw0 hlt
      subst hA
      gi_wp2
      refine hRR.mono ?_
      rintro e w7 (⟨rfl, hJ7⟩ | ⟨rfl, hJ7⟩)
      · have HJ7 := Lib.hid hJ7
        clear hJ7 hy hRR HJj
        gi_wp2
        go_roundw
        case rel => exact ⟨j + 1, by have := HLT.out; omega, by first | rw [HW1.out] | (have := HI.out.1; have := HLT.out; congr 1; omega), ⟨by rw [← HT.out]; exact HJ7.out⟩⟩
        case measure => have := HI.out.1; have := HLT.out; simp [intOf]
      · have HJ7 := Lib.hid hJ7
        clear hJ7 hy hRR HJj
        gi_wp2
        refine bodyPost_ret (results_none rfl _ _ _) rfl ?_
        exact ⟨⟨_, rfl⟩, .inr ⟨_, _, _, take_split HAT.out, HJ7.out⟩⟩
    · have hjl : j = rows.length := by omega
      subst hjl
      have HJn : Aside0 (J (backL rows) wr) := ⟨by have h := HJj.out; rwa [← back_len rows, List.take_length] at h⟩
      clear HJj
      have hneg : (rows.length : Int) - 1 - (rows.length : Int) = -1 := by omega
      rw [hneg]
      gi_wp2
      refine bodyPost_end (results_none rfl _ _ _) rfl ?_
      exact ⟨⟨_, rfl⟩, .inl HJn.out⟩
theorem back_any (A : Option Addr) (n c : Nat) (w : World) :
    Calls Try.prog 34 #[.slice A n c] w fun e w' => e = .returned (.func (.func 46) #[] #[.pointer (some ⟨w.heap.size, 0, none⟩)]) ∧ w.alloc (.cells #[.slice A n c] 25) = w' := by
  go_enter Try.func34, Try.ntmps34
  go_wp2
  go_ret
  exact ⟨rfl, rfl⟩
section
variable {F : Fence} {n : Nat} {P : Program} {ops : Array Oper} {Q : Exit → Act → World → Prop} {md : Region.Mode} {S : World → Prop}
theorem takeH2 {i : Nat} {d : Tmp} {oi : Oper} {v : Value} {fuel : Nat} {listed : Array Bool} {a : Act} {w : World} (hi : ops[i]? = some oi) (hdst : oi.dst = some d) (hd : noDefer ops = true)
    (hs : Region.noSelect ops = true) (hf : Region.free md ops listed i = true) (hr : (Region.ready md ops listed).contains i = true)
    (hQ : ∀ c a w, Q (.panic c) (a.put oi.dst v) w → Q (.panic c) a w) (hy : YieldsH P ops S oi v a) (hS : S w)
    (h : wpAnyInH F n P md ops Q S fuel (listed.setIfInBounds i true) { tmps := a.tmps.setIfInBounds d v, defers := a.defers } w) : wpAnyInH F n P md ops Q S (fuel + 1) listed a w :=
  takeH hi hd hs hf hr hQ hy hS (by unfold Act.put; rw [hdst]; exact h)
end
/-- where runs end -/
def endsL : Nat → List S35 → List Int
  | _, [] => []
  | k, x :: t => (if t.length = 0 then ((k + 1 : Nat) : Int) else if (t.headD ⟨0, 0⟩).f1 = x.f1 then (endsL (k + 1) t).headD 0 else ((k + 1 : Nat) : Int)) :: endsL (k + 1) t
theorem endsL_len : ∀ (rows : List S35) (k : Nat), (endsL k rows).length = rows.length
  | [], _ => rfl
  | _ :: t, k => by unfold endsL; rw [List.length_cons, endsL_len t, List.length_cons]
def endN (rows : List S35) (i : Nat) : Int := (endsL i (rows.drop i)).headD (rows.length : Int)
def outN (rows : List S35) (i : Nat) : List Int := List.replicate i 0 ++ endsL i (rows.drop i)
theorem rd_lane {rows : List S35} {i : Nat} {x : S35} (h : rows[i]? = some x) : rd_T35 rows (i : Int) = x := by unfold rd_T35; rw [Int.toNat_natCast, List.getD_eq_getElem?_getD, h]; rfl
theorem ends_step {rows : List S35} {i : Nat} (h : i < rows.length) :
    endsL i (rows.drop i) = (if i + 1 < rows.length ∧ (rd_T35 rows ((i + 1 : Nat) : Int)).f1 ≠ (rd_T35 rows (i : Int)).f1 then ((i + 1 : Nat) : Int) else endN rows (i + 1)) :: endsL (i + 1) (rows.drop (i + 1)) := by
  rw [List.drop_eq_getElem_cons h]
  have h1 := rd_lane (List.getElem?_eq_getElem h)
  conv => lhs; unfold endsL
  congr 1
  rw [List.length_drop, h1]
  by_cases q : i + 1 < rows.length
  · rw [if_neg (by omega)]
    have h2 := rd_lane (List.getElem?_eq_getElem q)
    rw [show (rows.drop (i + 1)).headD ⟨0, 0⟩ = rows[i + 1] by rw [List.drop_eq_getElem_cons q]; rfl, h2]
    have h3 : (endsL (i + 1) (rows.drop (i + 1))).headD 0 = endN rows (i + 1) := by
      unfold endN
      rw [List.drop_eq_getElem_cons q]
      unfold endsL
      rfl
    rw [h3]
    by_cases e : rows[i + 1].f1 = rows[i].f1
    · rw [if_pos e, if_neg (fun h => h.2 e)]
    · rw [if_neg e, if_pos ⟨q, e⟩]
  · rw [if_pos (by omega), if_neg (fun h => q h.1)]
    unfold endN
    rw [List.drop_eq_nil_of_le (by omega)]
    show ((i + 1 : Nat) : Int) = (rows.length : Int)
    omega
theorem endN_step {rows : List S35} {i : Nat} (h : i < rows.length) : endN rows i = if i + 1 < rows.length ∧ (rd_T35 rows ((i + 1 : Nat) : Int)).f1 ≠ (rd_T35 rows (i : Int)).f1 then ((i + 1 : Nat) : Int) else endN rows (i + 1) := by
  unfold endN
  rw [ends_step h]
  rfl
theorem outN_step {rows : List S35} {i : Nat} (h : i < rows.length) : (outN rows (i + 1)).set i (endN rows i) = outN rows i := by
  unfold outN
  rw [ends_step h, ← endN_step h, List.set_append_left _ _ (by simp), ← List.replicate_append_replicate (n := i) (m := 1), List.set_append_right _ _ (by simp)]
  simp
theorem outN_len (rows : List S35) {i : Nat} (h : i ≤ rows.length) : (outN rows i).length = rows.length := by unfold outN; rw [List.length_append, List.length_replicate, endsL_len, List.length_drop]; omega
def numA (xs : List Int) : Array Value := (xs.map (Value.int .i64)).toArray
theorem numA_set (xs : List Int) (i : Nat) (v : Int) : (numA xs).setIfInBounds i (.int .i64 v) = numA (xs.set i v) := by unfold numA; rw [List.setIfInBounds_toArray, List.map_set]
theorem numA_at {xs : List Int} {i : Nat} (h : i < xs.length) : (numA xs)[i]? = some (.int .i64 xs[i]) := by unfold numA; rw [List.getElem?_toArray, List.getElem?_map, List.getElem?_eq_getElem h]; rfl
structure EndI (w : World) (rows : List S35) (A : Option Addr) (c i : Nat) (V : World) : Prop where
  b0 : Blk V w.heap.size 25 #[.slice A rows.length c]
  bB : Blk V (w.heap.size + 1) 3 (numA (outN rows i))
  b2 : Blk V (w.heap.size + 1 + 1) 33 #[.slice (some ⟨w.heap.size + 1, 0, none⟩) rows.length rows.length]
  b3 : Blk V (w.heap.size + 1 + 1 + 1) 3 #[.int .i64 (endN rows i)]
  b4 : Blk V (w.heap.size + 1 + 1 + 1 + 1) 25 #[.slice A rows.length c]
  b : Below w.heap.size w V
theorem endI_stab {β : Type} {w : World} {rows : List S35} {A : Option Addr} {c B : Nat} (f : β → Nat) (hB : w.heap.size ≤ B) : Stab B (fun (s : β) V => EndI w rows A c (f s) V) := by
  rintro s V V' row ⟨h1, h2, h3, h4, h5, h6⟩ hg hr
  exact ⟨Stab.blk _ _ (fun _ : Unit => _) () V V' row h1 hg hr, Stab.blk _ _ (fun _ : Unit => _) () V V' row h2 hg hr, Stab.blk _ _ (fun _ : Unit => _) () V V' row h3 hg hr, Stab.blk _ _ (fun _ : Unit => _) () V V' row h4 hg hr, Stab.blk _ _ (fun _ : Unit => _) () V V' row h5 hg hr, (Stab.below (β := Unit) (Nat.le_refl _) hB) () V V' row h6 hg hr⟩
set_option maxRecDepth 100000 in
set_option maxHeartbeats 4000000 in
theorem ends_any (rows : List S35) (A : Option Addr) (c : Nat) (w : World) (hC : Kd.C k35 w A rows.length rows) (hc : rows.length ≤ c) (hn : rows.length ≤ 1000000) :
    Calls Try.prog 21 #[.slice A rows.length c] w fun e w' => ∃ v, e = .returned v ∧ Kd.R (Kd.int .i64) 3 w' w.heap.size (fun _ => True) v (endsL 0 rows) ∧ Below w.heap.size w w' := by
  obtain ⟨i0, hi0, hz0⟩ := Option.map_eq_some_iff.1 (show (Try.prog.info? 3).map (fun i => (i.zero, i.size, i.bytes)) = some (some (.int .i64 0), 1, 8) by kernel_rfl)
  simp only [Prod.mk.injEq] at hz0
  have HMK := Lib.hid fun (W : World) => run_make (P := Try.prog) W 33 3 i0 _ Try.underlying33 hi0 hz0.1 .i64 .i64 (rows.length : Int) (rows.length : Int) (by omega) (by omega) (by rw [hz0.2.2]; omega) (by omega)
  rw [hz0.2.1] at HMK
  simp only [Int.toNat_natCast, Nat.mul_one] at HMK
  have hmc : madeCells (Value.int IntKind.i64 0).cells rows.length = numA (outN rows rows.length) := by
    show madeCells #[.int .i64 0] rows.length = _
    apply Array.toList_inj.1
    rw [toList_madeCells_one]
    unfold numA outN
    rw [List.drop_length]
    simp [endsL]
  rw [hmc] at HMK
  have hmk := fun W => HMK.out W
  have HIT := Lib.hid (fun b => back1_iter rows b A c hc)
  have HC := Lib.hid hC
  clear HMK hz0 hi0 hC hmc
  refine calls_of_wp_marks Try.func21 rfl ?_
  simp only [Try.ntmps21, List.size_toArray, List.length_cons, List.length_nil, Nat.reduceAdd, Nat.reduceSub, Array.replicate_succ, Array.replicate_zero, List.push_toArray, List.append_toArray, List.nil_append, List.cons_append]
  go_wp2_with (go_at_call 34; refine (back_any A rows.length c _).mono ?_; rintro e w2 ⟨rfl, rfl⟩)
  obtain ⟨W5, hW5⟩ : ∃ W5, W5 = ((((w.alloc (.cells #[.slice A rows.length c] 25)).alloc (.cells (numA (outN rows rows.length)) 3)).alloc (.cells #[.slice (some ⟨w.heap.size + 1, 0, none⟩) rows.length rows.length] 33)).alloc (.cells #[.int .i64 (rows.length : Int)] 3)).alloc (.cells #[.slice A rows.length c] 25) := ⟨_, rfl⟩
  have hz5 : W5.heap.size = w.heap.size + 5 := by rw [hW5]; simp
  have hI0 : EndI w rows A c rows.length W5 := by
    have e1 := Blk.new (w.alloc (.cells #[.slice A rows.length c] 25)) 3 (numA (outN rows rows.length))
    have e2 := Blk.new ((w.alloc (.cells #[.slice A rows.length c] 25)).alloc (.cells (numA (outN rows rows.length)) 3)) 33 #[.slice (some ⟨w.heap.size + 1, 0, none⟩) rows.length rows.length]
    have e3 := Blk.new (((w.alloc (.cells #[.slice A rows.length c] 25)).alloc (.cells (numA (outN rows rows.length)) 3)).alloc (.cells #[.slice (some ⟨w.heap.size + 1, 0, none⟩) rows.length rows.length] 33)) 3 #[.int .i64 (rows.length : Int)]
    have e4 := Blk.new ((((w.alloc (.cells #[.slice A rows.length c] 25)).alloc (.cells (numA (outN rows rows.length)) 3)).alloc (.cells #[.slice (some ⟨w.heap.size + 1, 0, none⟩) rows.length rows.length] 33)).alloc (.cells #[.int .i64 (rows.length : Int)] 3)) 25 #[.slice A rows.length c]
    simp only [World.size_alloc] at e1 e2 e3 e4
    rw [hW5]
    refine ⟨Blk.alloc (Blk.alloc (Blk.alloc (Blk.alloc (Blk.new w _ _) _) _) _) _, Blk.alloc (Blk.alloc (Blk.alloc e1 _) _) _, Blk.alloc (Blk.alloc e2 _) _, ?_, e4, ((((((Below.refl _ w).alloc (Nat.le_refl _) _).alloc (by simp) _).alloc (by simp; omega) _).alloc (by simp; omega) _).alloc (by simp; omega) _)⟩
    have h := Blk.alloc e3 (.cells #[.slice A rows.length c] 25)
    rwa [show endN rows rows.length = (rows.length : Int) by unfold endN; rw [List.drop_length]; rfl]
  rw [← hW5]
  have HZ := Lib.hid hz5
  have HI0 := Lib.hid hI0
  clear hI0 hz5 hW5 hmk
  refine wp_range_plain (HIT.out (w.heap.size + 1 + 1 + 1 + 1)) (enters_of Try.func46 (by kernel_rfl) rfl) rfl (fun _ => rfl)
    (fun (pre : List (Nat × S35)) V => EndI w rows A c (rows.length - pre.length) V) (fun (cd : Code) V => False)
    (endI_stab _ (by rw [HZ.out]; omega)) (Stab.pure _ (fun _ => False)) (fun pre V h => ⟨Blk.cell h.b4 0, Kd.C_below HC.out h.b⟩) HI0.out ?round ?done (fun _ _ _ _ h => h.elim)
  case done =>
    rintro D V hD hI hbook hd
    rw [back_len, Nat.sub_self] at hI
    have y2 : V.cell? ⟨w.heap.size + 1 + 1, 0, none⟩ = some (.slice (some ⟨w.heap.size + 1, 0, none⟩) rows.length rows.length) := Blk.cell hI.b2 0
    have l2 := Blk.lt hI.b2
    have HI := Lib.hid hI
    have HD := Lib.hid hd
    clear hI hd hbook
    go_wp2
    refine leaves_marks (v := .slice (some ⟨w.heap.size + 1, 0, none⟩) rows.length rows.length) (B := w.heap.size) ⟨[D], rfl, by simp, by rw [HZ.out] at hD; simp; exact ⟨by omega, HD.out⟩⟩ (fun W' hs => ⟨?_, _, rfl, ?_, hs.stab _ (Stab.below (Nat.le_refl _) (Nat.le_refl _)) HI.out.b⟩)
    · simp [results, Try.results21]
    · have hb := hs.blk HI.out.bB
      have hlen := endsL_len rows 0
      refine Kd.R_of_own (h1 := fun _ => rfl) ?_ (fun _ _ => trivial)
      refine ⟨by unfold encs; rw [List.length_map, Nat.mul_one], .inr ⟨w.heap.size + 1, rows.length, numA (outN rows 0), by rw [hlen], by omega, hb, by omega, by unfold maxLen; omega, ?_, ?_⟩⟩
      · unfold numA; rw [List.size_toArray, List.length_map, outN_len rows (Nat.zero_le _), Nat.mul_one]
      · unfold numA outN encs
        rw [List.toList_toArray, List.replicate_zero, List.nil_append, List.drop_zero, Nat.mul_one, hlen, List.take_of_length_le (by rw [List.length_map, hlen]; omega)]
  case round =>
    rintro lp pre x rest V hx hl hI
    have hjl : pre.length < rows.length := by have h := congrArg List.length hx; rw [back_len, List.length_append, List.length_cons] at h; omega
    have hxe : x = (rows.length - 1 - pre.length, rd_T35 rows ((rows.length - 1 - pre.length : Nat) : Int)) := by
      have h := back_at hjl
      rw [hx, List.getElem?_append_right (Nat.le_refl _), Nat.sub_self] at h
      exact Option.some.inj h
    obtain ⟨i, hi⟩ : ∃ i, i = rows.length - 1 - pre.length := ⟨_, rfl⟩
    rw [← hi] at hxe
    rw [show rows.length - pre.length = i + 1 by omega] at hI
    have HPL := Lib.hid (show ∀ z : Nat × S35, rows.length - (pre ++ [z]).length = i from fun z => by rw [List.length_append, List.length_singleton]; omega)
    have hil : i < rows.length := by omega
    subst hxe
    have hxp := hx
    clear hx hxp hjl hi
    dsimp only [backV]
    obtain ⟨x, hx⟩ : ∃ x, x = rd_T35 rows (i : Int) := ⟨_, rfl⟩
    rw [← hx]
    have HX := Lib.hid hx
    have hI2 := HI0
    clear hx hI2
    have HI := Lib.hid hI
    clear hI
    gi_wp2
    refine ⟨by (repeat (first | (with_reducible exact KeepBook.refl _) | (with_reducible refine KeepBook.alloc ?_ _) | (with_reducible refine KeepBook.setCell ?_ _ _) | (with_reducible refine KeepBook.drew ?_) | (refine KeepBook.below ?_ (by assumption)))), ?_⟩
    rintro W2 hs _
    obtain ⟨N, hN⟩ : ∃ N, N = V.heap.size := ⟨_, rfl⟩
    have hI2 : EndI w rows A c (i + 1) W2 := hs.stab (fun V => EndI w rows A c (i + 1) V) (fun _ V V' row h hg hr => endI_stab (β := Unit) (fun _ => i + 1) (by rw [HZ.out]; omega) () V V' row h hg hr)
      ⟨Blk.alloc HI.out.b0 _, Blk.alloc HI.out.bB _, Blk.alloc HI.out.b2 _, Blk.alloc HI.out.b3 _, Blk.alloc HI.out.b4 _, HI.out.b.alloc HI.out.b.size _⟩
    have hN2 : Blk W2 N 35 #[.int .i64 x.f0, .int .i64 x.f1] := by rw [hN]; exact hs.blk (Blk.new V _ _)
    rw [← hN]
    have HI2 := Lib.hid hI2
    have HN2 := Lib.hid hN2
    clear hs hI2 hN2 HI hN
    have y0 : W2.cell? ⟨w.heap.size, 0, none⟩ = some (.slice A rows.length c) := Blk.cell HI2.out.b0 0
    have yN : W2.cell? ⟨N, 1, none⟩ = some (.int .i64 x.f1) := Blk.cell HN2.out 1
    have hi0 : (0 : Int) ≤ (i : Int) := by omega
    have hiz : ¬ ((i : Int) < 0) := by omega
    have hilz : (i : Int) < (rows.length : Int) := by omega
    have hw1 : IntKind.i64.wrap ((i : Int) + 1) = ((i + 1 : Nat) : Int) := by rw [IntKind.wrap_i64]; omega
    have hcell : ∀ Z : World, Blk Z (w.heap.size + 1) 3 (numA (outN rows (i + 1))) → ∃ u : Int, Z.cell? ⟨w.heap.size + 1, i, none⟩ = some (.int .i64 u) := fun Z h => ⟨_, (Blk.cell h i).trans (numA_at (by rw [outN_len rows (by omega)]; exact hil))⟩
    have HCELL := Lib.hid hcell
    clear hcell
    gi_upto_region 6 with fail
    by_cases hlt : i + 1 < rows.length
    · have hltz : ((i + 1 : Nat) : Int) < (rows.length : Int) := by omega
      obtain ⟨ad, hA, hx0, hx1⟩ := at_T35 (Kd.C_below HC.out HI2.out.b) ((i + 1 : Nat) : Int) (by omega) hltz
      rw [Int.toNat_natCast] at hx0 hx1
      obtain ⟨y, hy⟩ : ∃ y, y = rd_T35 rows ((i + 1 : Nat) : Int) := ⟨_, rfl⟩
      rw [← hy] at hx0 hx1
      have HE := Lib.hid (show endN rows i = if y.f1 = x.f1 then endN rows (i + 1) else ((i + 1 : Nat) : Int) by
        rw [endN_step hil, ← hy, ← HX.out]
        by_cases q : y.f1 = x.f1
        · rw [if_neg (fun h => h.2 q), if_pos q]
        · rw [if_pos ⟨hlt, q⟩, if_neg q])
      subst hA
      have hlt1 : (i : Int) + 1 < (rows.length : Int) := by omega
      have hge1 : (0 : Int) ≤ (i : Int) + 1 := by omega
      refine beginH (fun V : World => V.cell? ⟨w.heap.size, 0, none⟩ = some (.slice (some ad) rows.length c) ∧ V.cell? ⟨N, 1, none⟩ = some (.int .i64 x.f1) ∧ V.cell? ⟨(ad.add ((i + 1) * 2)).block, (ad.add ((i + 1) * 2)).off + 1, none⟩ = some (.int .i64 y.f1)) (by kernel_rfl) ?_
      have HS : (fun V : World => V.cell? ⟨w.heap.size, 0, none⟩ = some (.slice (some ad) rows.length c) ∧ V.cell? ⟨N, 1, none⟩ = some (.int .i64 x.f1) ∧ V.cell? ⟨(ad.add ((i + 1) * 2)).block, (ad.add ((i + 1) * 2)).off + 1, none⟩ = some (.int .i64 y.f1)) W2.drew := ⟨y0, yN, hx1⟩
      clear hx0 hx1 y0 yN hy
      (refine takeH2 (i := 0) (d := 16) (v := ?_) rfl rfl (by kernel_rfl) (by kernel_rfl) (by kernel_rfl) (by kernel_rfl) (fun _ _ _ h => h) ⟨Or.inl ⟨by kernel_rfl, ?_⟩, fun _ => rfl⟩ HS ?_; rotate_left; (focus (rintro wS ⟨s1, s2, s3⟩; go_simp; try (with_reducible rfl))); (simp only [List.setIfInBounds_toArray, List.set_cons_zero, List.set_cons_succ]))
      (refine takeH2 (i := 1) (d := 17) (v := ?_) rfl rfl (by kernel_rfl) (by kernel_rfl) (by kernel_rfl) (by kernel_rfl) (fun _ _ _ h => h) ⟨Or.inl ⟨by kernel_rfl, ?_⟩, fun _ => rfl⟩ HS ?_; rotate_left; (focus (rintro wS ⟨s1, s2, s3⟩; go_simp; try (with_reducible rfl))); (simp only [List.setIfInBounds_toArray, List.set_cons_zero, List.set_cons_succ]))
      (refine takeH2 (i := 2) (d := 18) (v := ?_) rfl rfl (by kernel_rfl) (by kernel_rfl) (by kernel_rfl) (by kernel_rfl) (fun _ _ _ h => h) ⟨Or.inl ⟨by kernel_rfl, ?_⟩, fun _ => rfl⟩ HS ?_; rotate_left; (focus (rintro wS ⟨s1, s2, s3⟩; go_simp; try (with_reducible rfl))); (simp only [List.setIfInBounds_toArray, List.set_cons_zero, List.set_cons_succ]))
      (refine takeH2 (i := 3) (d := 19) (v := ?_) rfl rfl (by kernel_rfl) (by kernel_rfl) (by kernel_rfl) (by kernel_rfl) (fun _ _ _ h => h) ⟨Or.inl ⟨by kernel_rfl, ?_⟩, fun _ => rfl⟩ HS ?_; rotate_left; (focus (rintro wS ⟨s1, s2, s3⟩; go_simp; try (with_reducible rfl))); (simp only [List.setIfInBounds_toArray, List.set_cons_zero, List.set_cons_succ]))
      (refine takeH2 (i := 4) (d := 20) (v := ?_) rfl rfl (by kernel_rfl) (by kernel_rfl) (by kernel_rfl) (by kernel_rfl) (fun _ _ _ h => h) ⟨Or.inl ⟨by kernel_rfl, ?_⟩, fun _ => rfl⟩ HS ?_; rotate_left; (focus (rintro wS ⟨s1, s2, s3⟩; go_simp; try (with_reducible rfl))); (simp only [List.setIfInBounds_toArray, List.set_cons_zero, List.set_cons_succ]))
      (refine takeH2 (i := 5) (d := 21) (v := ?_) rfl rfl (by kernel_rfl) (by kernel_rfl) (by kernel_rfl) (by kernel_rfl) (fun _ _ _ h => h) ⟨Or.inl ⟨by kernel_rfl, ?_⟩, fun _ => rfl⟩ HS ?_; rotate_left; (focus (rintro wS ⟨s1, s2, s3⟩; go_simp; try (with_reducible rfl))); (simp only [List.setIfInBounds_toArray, List.set_cons_zero, List.set_cons_succ]))
      (refine takeH2 (i := 6) (d := 22) (v := ?_) rfl rfl (by kernel_rfl) (by kernel_rfl) (by kernel_rfl) (by kernel_rfl) (fun _ _ _ h => h) ⟨Or.inl ⟨by kernel_rfl, ?_⟩, fun _ => rfl⟩ HS ?_; rotate_left; (focus (rintro wS ⟨s1, s2, s3⟩; go_simp; try (with_reducible rfl))); (simp only [List.setIfInBounds_toArray, List.set_cons_zero, List.set_cons_succ]))
      (refine takeH2 (i := 7) (d := 23) (v := ?_) rfl rfl (by kernel_rfl) (by kernel_rfl) (by kernel_rfl) (by kernel_rfl) (fun _ _ _ h => h) ⟨Or.inl ⟨by kernel_rfl, ?_⟩, fun _ => rfl⟩ HS ?_; rotate_left; (focus (rintro wS ⟨s1, s2, s3⟩; go_simp; try (with_reducible rfl))); (simp only [List.setIfInBounds_toArray, List.set_cons_zero, List.set_cons_succ]))
      (refine takeH2 (i := 8) (d := 24) (v := ?_) rfl rfl (by kernel_rfl) (by kernel_rfl) (by kernel_rfl) (by kernel_rfl) (fun _ _ _ h => h) ⟨Or.inl ⟨by kernel_rfl, ?_⟩, fun _ => rfl⟩ HS ?_; rotate_left; (focus (rintro wS ⟨s1, s2, s3⟩; go_simp; try (with_reducible rfl))); (simp only [List.setIfInBounds_toArray, List.set_cons_zero, List.set_cons_succ]))
      (refine takeH2 (i := 9) (d := 25) (v := ?_) rfl rfl (by kernel_rfl) (by kernel_rfl) (by kernel_rfl) (by kernel_rfl) (fun _ _ _ h => h) ⟨Or.inl ⟨by kernel_rfl, ?_⟩, fun _ => rfl⟩ HS ?_; rotate_left; (focus (rintro wS ⟨s1, s2, s3⟩; go_simp; try (with_reducible rfl))); (simp only [List.setIfInBounds_toArray, List.set_cons_zero, List.set_cons_succ]))
      (refine takeH2 (i := 10) (d := 26) (v := ?_) rfl rfl (by kernel_rfl) (by kernel_rfl) (by kernel_rfl) (by kernel_rfl) (fun _ _ _ h => h) ⟨Or.inl ⟨by kernel_rfl, ?_⟩, fun _ => rfl⟩ HS ?_; rotate_left; (focus (rintro wS ⟨s1, s2, s3⟩; go_simp; try (with_reducible rfl))); (simp only [List.setIfInBounds_toArray, List.set_cons_zero, List.set_cons_succ]))
      (refine takeH2 (i := 11) (d := 27) (v := ?_) rfl rfl (by kernel_rfl) (by kernel_rfl) (by kernel_rfl) (by kernel_rfl) (fun _ _ _ h => h) ⟨Or.inl ⟨by kernel_rfl, ?_⟩, fun _ => rfl⟩ HS ?_; rotate_left; (focus (rintro wS ⟨s1, s2, s3⟩; go_simp; try (with_reducible rfl))); (simp only [List.setIfInBounds_toArray, List.set_cons_zero, List.set_cons_succ]))
      (refine takeH2 (i := 12) (d := 28) (v := ?_) rfl rfl (by kernel_rfl) (by kernel_rfl) (by kernel_rfl) (by kernel_rfl) (fun _ _ _ h => h) ⟨Or.inl ⟨by kernel_rfl, ?_⟩, fun _ => rfl⟩ HS ?_; rotate_left; (focus (rintro wS ⟨s1, s2, s3⟩; go_simp; try (with_reducible rfl))); (simp only [List.setIfInBounds_toArray, List.set_cons_zero, List.set_cons_succ]))
      (refine takeH2 (i := 13) (d := 29) (v := ?_) rfl rfl (by kernel_rfl) (by kernel_rfl) (by kernel_rfl) (by kernel_rfl) (fun _ _ _ h => h) ⟨Or.inl ⟨by kernel_rfl, ?_⟩, fun _ => rfl⟩ HS ?_; rotate_left; (focus (rintro wS ⟨s1, s2, s3⟩; go_simp; try (with_reducible rfl))); (simp only [List.setIfInBounds_toArray, List.set_cons_zero, List.set_cons_succ]))
      (refine takeH2 (i := 14) (d := 30) (v := ?_) rfl rfl (by kernel_rfl) (by kernel_rfl) (by kernel_rfl) (by kernel_rfl) (fun _ _ _ h => h) ⟨Or.inl ⟨by kernel_rfl, ?_⟩, fun _ => rfl⟩ HS ?_; rotate_left; (focus (rintro wS ⟨s1, s2, s3⟩; go_simp; try (with_reducible rfl))); (simp only [List.setIfInBounds_toArray, List.set_cons_zero, List.set_cons_succ]))
      (refine takeH2 (i := 15) (d := 31) (v := ?_) rfl rfl (by kernel_rfl) (by kernel_rfl) (by kernel_rfl) (by kernel_rfl) (fun _ _ _ h => h) ⟨Or.inl ⟨by kernel_rfl, ?_⟩, fun _ => rfl⟩ HS ?_; rotate_left; (focus (rintro wS ⟨s1, s2, s3⟩; go_simp; try (with_reducible rfl))); (simp only [List.setIfInBounds_toArray, List.set_cons_zero, List.set_cons_succ]))
      (refine doneH (by kernel_rfl) ?_ _)
      have J0 := Lib.hid (show EndI w rows (some ad) c (i + 1) W2.drew from ⟨HI2.out.b0.drew, HI2.out.bB.drew, HI2.out.b2.drew, HI2.out.b3.drew, HI2.out.b4.drew, HI2.out.b.drew⟩)
      have hkb : KeepBook W2 W2.drew := (KeepBook.refl W2).drew
      have HKB := Lib.hid hkb
      clear HS HI2 HN2 hkb
      generalize W2.drew = Z at J0 HKB ⊢
      obtain ⟨u, hu⟩ := HCELL.out Z J0.out.bB
      have fu := Blk.frozen J0.out.bB i
      have lu := Blk.lt J0.out.bB
      have z2 : Z.cell? ⟨w.heap.size + 1 + 1, 0, none⟩ = some (.slice (some ⟨w.heap.size + 1, 0, none⟩) rows.length rows.length) := Blk.cell J0.out.b2 0
      have z3 : Z.cell? ⟨w.heap.size + 1 + 1 + 1, 0, none⟩ = some (.int .i64 (endN rows (i + 1))) := Blk.cell J0.out.b3 0
      have f3 := Blk.frozen J0.out.b3 0
      have l3 := Blk.lt J0.out.b3
      have l2 := Blk.lt J0.out.b2
      by_cases qe : y.f1 = x.f1
      · have hb : (y.f1 != x.f1) = false := by simp [qe]
        have HEE := Lib.hid (HE.out.trans (if_pos qe))
        clear qe
        gi_wp2
        refine ⟨HKB.out.setCell _ _, ?_⟩
        dsimp only; rw [HPL.out]
        have e : (numA (outN rows (i + 1))).setIfInBounds i (.int .i64 (endN rows (i + 1))) = numA (outN rows i) := by rw [numA_set, ← outN_step hil, HEE.out]
        exact ⟨Blk.other J0.out.b0 (p := ⟨w.heap.size + 1, i, none⟩) (by show w.heap.size ≠ w.heap.size + 1; omega) _, by rw [← e]; exact Blk.set J0.out.bB i _, Blk.other J0.out.b2 (p := ⟨w.heap.size + 1, i, none⟩) (by show w.heap.size + 1 + 1 ≠ w.heap.size + 1; omega) _, by rw [HEE.out]; exact Blk.other J0.out.b3 (p := ⟨w.heap.size + 1, i, none⟩) (by show w.heap.size + 1 + 1 + 1 ≠ w.heap.size + 1; omega) _, Blk.other J0.out.b4 (p := ⟨w.heap.size + 1, i, none⟩) (by show w.heap.size + 1 + 1 + 1 + 1 ≠ w.heap.size + 1; omega) _, J0.out.b.setCell (p := ⟨w.heap.size + 1, i, none⟩) (by show w.heap.size ≤ w.heap.size + 1; omega) _⟩
      · have hb : (y.f1 != x.f1) = true := by simp [qe]
        have HEE := Lib.hid (HE.out.trans (if_neg qe))
        clear qe
        gi_wp2
        refine ⟨(HKB.out.setCell _ _).setCell _ _, ?_⟩
        dsimp only; rw [HPL.out]
        have e : (numA (outN rows (i + 1))).setIfInBounds i (.int .i64 ((i : Int) + 1)) = numA (outN rows i) := by rw [numA_set, ← outN_step hil, HEE.out]; rfl
        have o0 := Blk.other (Blk.other J0.out.b0 (p := ⟨w.heap.size + 1 + 1 + 1, 0, none⟩) (by show w.heap.size ≠ w.heap.size + 1 + 1 + 1; omega) (.int .i64 ((i : Int) + 1))) (p := ⟨w.heap.size + 1, i, none⟩) (by show w.heap.size ≠ w.heap.size + 1; omega) (.int .i64 ((i : Int) + 1))
        have oB := Blk.set (Blk.other J0.out.bB (p := ⟨w.heap.size + 1 + 1 + 1, 0, none⟩) (by show w.heap.size + 1 ≠ w.heap.size + 1 + 1 + 1; omega) (.int .i64 ((i : Int) + 1))) i (.int .i64 ((i : Int) + 1))
        have o2 := Blk.other (Blk.other J0.out.b2 (p := ⟨w.heap.size + 1 + 1 + 1, 0, none⟩) (by show w.heap.size + 1 + 1 ≠ w.heap.size + 1 + 1 + 1; omega) (.int .i64 ((i : Int) + 1))) (p := ⟨w.heap.size + 1, i, none⟩) (by show w.heap.size + 1 + 1 ≠ w.heap.size + 1; omega) (.int .i64 ((i : Int) + 1))
        have o3 := Blk.other (Blk.set J0.out.b3 0 (.int .i64 ((i : Int) + 1))) (p := ⟨w.heap.size + 1, i, none⟩) (by show w.heap.size + 1 + 1 + 1 ≠ w.heap.size + 1; omega) (.int .i64 ((i : Int) + 1))
        have o4 := Blk.other (Blk.other J0.out.b4 (p := ⟨w.heap.size + 1 + 1 + 1, 0, none⟩) (by show w.heap.size + 1 + 1 + 1 + 1 ≠ w.heap.size + 1 + 1 + 1; omega) (.int .i64 ((i : Int) + 1))) (p := ⟨w.heap.size + 1, i, none⟩) (by show w.heap.size + 1 + 1 + 1 + 1 ≠ w.heap.size + 1; omega) (.int .i64 ((i : Int) + 1))
        have ob := (J0.out.b.setCell (p := ⟨w.heap.size + 1 + 1 + 1, 0, none⟩) (by show w.heap.size ≤ w.heap.size + 1 + 1 + 1; omega) (.int .i64 ((i : Int) + 1))).setCell (p := ⟨w.heap.size + 1, i, none⟩) (by show w.heap.size ≤ w.heap.size + 1; omega) (.int .i64 ((i : Int) + 1))
        rw [e] at oB
        exact ⟨o0, oB, o2, by rw [HEE.out]; exact o3, o4, ob⟩
    · have hlt1 : ¬ (i : Int) + 1 < (rows.length : Int) := by omega
      have HEE := Lib.hid (show endN rows i = endN rows (i + 1) by
        rw [endN_step hil, if_neg (fun h => hlt h.1)])
      refine beginH (fun V : World => V.cell? ⟨w.heap.size, 0, none⟩ = some (.slice A rows.length c) ∧ V.cell? ⟨N, 1, none⟩ = some (.int .i64 x.f1)) (by kernel_rfl) ?_
      have HS : (fun V : World => V.cell? ⟨w.heap.size, 0, none⟩ = some (.slice A rows.length c) ∧ V.cell? ⟨N, 1, none⟩ = some (.int .i64 x.f1)) W2.drew := ⟨y0, yN⟩
      clear y0 yN
      (refine takeH2 (i := 0) (d := 16) (v := ?_) rfl rfl (by kernel_rfl) (by kernel_rfl) (by kernel_rfl) (by kernel_rfl) (fun _ _ _ h => h) ⟨Or.inl ⟨by kernel_rfl, ?_⟩, fun _ => rfl⟩ HS ?_; rotate_left; (focus (rintro wS ⟨s1, s2⟩; go_simp; try (with_reducible rfl))); (simp only [List.setIfInBounds_toArray, List.set_cons_zero, List.set_cons_succ]))
      (refine takeH2 (i := 1) (d := 17) (v := ?_) rfl rfl (by kernel_rfl) (by kernel_rfl) (by kernel_rfl) (by kernel_rfl) (fun _ _ _ h => h) ⟨Or.inl ⟨by kernel_rfl, ?_⟩, fun _ => rfl⟩ HS ?_; rotate_left; (focus (rintro wS ⟨s1, s2⟩; go_simp; try (with_reducible rfl))); (simp only [List.setIfInBounds_toArray, List.set_cons_zero, List.set_cons_succ]))
      (refine takeH2 (i := 2) (d := 18) (v := ?_) rfl rfl (by kernel_rfl) (by kernel_rfl) (by kernel_rfl) (by kernel_rfl) (fun _ _ _ h => h) ⟨Or.inl ⟨by kernel_rfl, ?_⟩, fun _ => rfl⟩ HS ?_; rotate_left; (focus (rintro wS ⟨s1, s2⟩; go_simp; try (with_reducible rfl))); (simp only [List.setIfInBounds_toArray, List.set_cons_zero, List.set_cons_succ]))
      (refine takeH2 (i := 3) (d := 19) (v := ?_) rfl rfl (by kernel_rfl) (by kernel_rfl) (by kernel_rfl) (by kernel_rfl) (fun _ _ _ h => h) ⟨Or.inl ⟨by kernel_rfl, ?_⟩, fun _ => rfl⟩ HS ?_; rotate_left; (focus (rintro wS ⟨s1, s2⟩; go_simp; try (with_reducible rfl))); (simp only [List.setIfInBounds_toArray, List.set_cons_zero, List.set_cons_succ]))
      (refine takeH2 (i := 4) (d := 20) (v := ?_) rfl rfl (by kernel_rfl) (by kernel_rfl) (by kernel_rfl) (by kernel_rfl) (fun _ _ _ h => h) ⟨Or.inl ⟨by kernel_rfl, ?_⟩, fun _ => rfl⟩ HS ?_; rotate_left; (focus (rintro wS ⟨s1, s2⟩; go_simp; try (with_reducible rfl))); (simp only [List.setIfInBounds_toArray, List.set_cons_zero, List.set_cons_succ]))
      (refine takeH2 (i := 5) (d := 21) (v := ?_) rfl rfl (by kernel_rfl) (by kernel_rfl) (by kernel_rfl) (by kernel_rfl) (fun _ _ _ h => h) ⟨Or.inl ⟨by kernel_rfl, ?_⟩, fun _ => rfl⟩ HS ?_; rotate_left; (focus (rintro wS ⟨s1, s2⟩; go_simp; try (with_reducible rfl))); (simp only [List.setIfInBounds_toArray, List.set_cons_zero, List.set_cons_succ]))
      (refine takeH2 (i := 6) (d := 22) (v := undef) rfl rfl (by kernel_rfl) (by kernel_rfl) (by kernel_rfl) (by kernel_rfl) (fun _ _ _ h => h) ⟨Or.inr ⟨by kernel_rfl, rfl⟩, fun _ => rfl⟩ HS ?_; (simp only [List.setIfInBounds_toArray, List.set_cons_zero, List.set_cons_succ]))
      (refine takeH2 (i := 7) (d := 23) (v := undef) rfl rfl (by kernel_rfl) (by kernel_rfl) (by kernel_rfl) (by kernel_rfl) (fun _ _ _ h => h) ⟨Or.inr ⟨by kernel_rfl, rfl⟩, fun _ => rfl⟩ HS ?_; (simp only [List.setIfInBounds_toArray, List.set_cons_zero, List.set_cons_succ]))
      (refine takeH2 (i := 8) (d := 24) (v := undef) rfl rfl (by kernel_rfl) (by kernel_rfl) (by kernel_rfl) (by kernel_rfl) (fun _ _ _ h => h) ⟨Or.inr ⟨by kernel_rfl, rfl⟩, fun _ => rfl⟩ HS ?_; (simp only [List.setIfInBounds_toArray, List.set_cons_zero, List.set_cons_succ]))
      (refine takeH2 (i := 9) (d := 25) (v := undef) rfl rfl (by kernel_rfl) (by kernel_rfl) (by kernel_rfl) (by kernel_rfl) (fun _ _ _ h => h) ⟨Or.inr ⟨by kernel_rfl, rfl⟩, fun _ => rfl⟩ HS ?_; (simp only [List.setIfInBounds_toArray, List.set_cons_zero, List.set_cons_succ]))
      (refine takeH2 (i := 10) (d := 26) (v := undef) rfl rfl (by kernel_rfl) (by kernel_rfl) (by kernel_rfl) (by kernel_rfl) (fun _ _ _ h => h) ⟨Or.inr ⟨by kernel_rfl, rfl⟩, fun _ => rfl⟩ HS ?_; (simp only [List.setIfInBounds_toArray, List.set_cons_zero, List.set_cons_succ]))
      (refine takeH2 (i := 11) (d := 27) (v := undef) rfl rfl (by kernel_rfl) (by kernel_rfl) (by kernel_rfl) (by kernel_rfl) (fun _ _ _ h => h) ⟨Or.inr ⟨by kernel_rfl, rfl⟩, fun _ => rfl⟩ HS ?_; (simp only [List.setIfInBounds_toArray, List.set_cons_zero, List.set_cons_succ]))
      (refine takeH2 (i := 12) (d := 28) (v := undef) rfl rfl (by kernel_rfl) (by kernel_rfl) (by kernel_rfl) (by kernel_rfl) (fun _ _ _ h => h) ⟨Or.inr ⟨by kernel_rfl, rfl⟩, fun _ => rfl⟩ HS ?_; (simp only [List.setIfInBounds_toArray, List.set_cons_zero, List.set_cons_succ]))
      (refine takeH2 (i := 13) (d := 29) (v := undef) rfl rfl (by kernel_rfl) (by kernel_rfl) (by kernel_rfl) (by kernel_rfl) (fun _ _ _ h => h) ⟨Or.inr ⟨by kernel_rfl, rfl⟩, fun _ => rfl⟩ HS ?_; (simp only [List.setIfInBounds_toArray, List.set_cons_zero, List.set_cons_succ]))
      (refine takeH2 (i := 14) (d := 30) (v := undef) rfl rfl (by kernel_rfl) (by kernel_rfl) (by kernel_rfl) (by kernel_rfl) (fun _ _ _ h => h) ⟨Or.inr ⟨by kernel_rfl, rfl⟩, fun _ => rfl⟩ HS ?_; (simp only [List.setIfInBounds_toArray, List.set_cons_zero, List.set_cons_succ]))
      (refine takeH2 (i := 15) (d := 31) (v := ?_) rfl rfl (by kernel_rfl) (by kernel_rfl) (by kernel_rfl) (by kernel_rfl) (fun _ _ _ h => h) ⟨Or.inl ⟨by kernel_rfl, ?_⟩, fun _ => rfl⟩ HS ?_; rotate_left; (focus (rintro wS ⟨s1, s2⟩; go_simp; try (with_reducible rfl))); (simp only [List.setIfInBounds_toArray, List.set_cons_zero, List.set_cons_succ]))
      (refine doneH (by kernel_rfl) ?_ _)
      have J0 := Lib.hid (show EndI w rows A c (i + 1) W2.drew from ⟨HI2.out.b0.drew, HI2.out.bB.drew, HI2.out.b2.drew, HI2.out.b3.drew, HI2.out.b4.drew, HI2.out.b.drew⟩)
      have hkb : KeepBook W2 W2.drew := (KeepBook.refl W2).drew
      have HKB := Lib.hid hkb
      clear HS HI2 HN2 hkb
      generalize W2.drew = Z at J0 HKB ⊢
      obtain ⟨u, hu⟩ := HCELL.out Z J0.out.bB
      have fu := Blk.frozen J0.out.bB i
      have lu := Blk.lt J0.out.bB
      have z2 : Z.cell? ⟨w.heap.size + 1 + 1, 0, none⟩ = some (.slice (some ⟨w.heap.size + 1, 0, none⟩) rows.length rows.length) := Blk.cell J0.out.b2 0
      have z3 : Z.cell? ⟨w.heap.size + 1 + 1 + 1, 0, none⟩ = some (.int .i64 (endN rows (i + 1))) := Blk.cell J0.out.b3 0
      have f3 := Blk.frozen J0.out.b3 0
      have l3 := Blk.lt J0.out.b3
      have l2 := Blk.lt J0.out.b2
      gi_wp2
      refine ⟨HKB.out.setCell _ _, ?_⟩
      dsimp only; rw [HPL.out]
      have e : (numA (outN rows (i + 1))).setIfInBounds i (.int .i64 (endN rows (i + 1))) = numA (outN rows i) := by rw [numA_set, ← outN_step hil, HEE.out]
      exact ⟨Blk.other J0.out.b0 (p := ⟨w.heap.size + 1, i, none⟩) (by show w.heap.size ≠ w.heap.size + 1; omega) _, by rw [← e]; exact Blk.set J0.out.bB i _, Blk.other J0.out.b2 (p := ⟨w.heap.size + 1, i, none⟩) (by show w.heap.size + 1 + 1 ≠ w.heap.size + 1; omega) _, by rw [HEE.out]; exact Blk.other J0.out.b3 (p := ⟨w.heap.size + 1, i, none⟩) (by show w.heap.size + 1 + 1 + 1 ≠ w.heap.size + 1; omega) _, Blk.other J0.out.b4 (p := ⟨w.heap.size + 1, i, none⟩) (by show w.heap.size + 1 + 1 + 1 + 1 ≠ w.heap.size + 1; omega) _, J0.out.b.setCell (p := ⟨w.heap.size + 1, i, none⟩) (by show w.heap.size ≤ w.heap.size + 1; omega) _⟩
def lanes_Ends.f (rows : List S35) : Option (List Int) := if rows.length ≤ 1000000 then some (endsL 0 rows) else none
theorem lanes_Ends.calls (A0 : Option Addr) (c0 : Nat) (l0 : List S35) (r : List Int) (w : World) (hr0 : Kd.C k35 w A0 l0.length l0) (hc0 : l0.length ≤ c0) (h : lanes_Ends.f l0 = some r) :
    Calls Try.prog 21 #[.slice A0 l0.length c0] w fun e w' => ∃ v0_ : Value, e = .returned v0_ ∧ Kd.R (Kd.int .i64) 3 w' w.heap.size (fun _ => True) v0_ r ∧ Below w.heap.size w w' := by
  unfold lanes_Ends.f at h
  by_cases hn : l0.length ≤ 1000000
  · rw [if_pos hn] at h
    cases h
    exact ends_any l0 A0 c0 w hr0 hc0 hn
  · rw [if_neg hn] at h; cases h
end Go.Proofs.Ytdmnaehgngpikaa.K
