/- Layer 6: Collect, check, Captions. -/
import Derived.Test.YtdmnaehgngpikaaLaA
import Derived.Test.YtdmnaehgngpikaaK4
namespace Go.Proofs.Ytdmnaehgngpikaa.K
open Go.RowKit Go.Proofs.YtdmnaehgngpikaaW.PrintWords Go.Proofs.YtdmnaehgngpikaaW.PrintLast Go.Proofs.YtdmnaehgngpikaaW.PrintMore
set_option linter.unusedVariables false
set_option linter.unusedSimpArgs false
attribute [local go_sem] Oper.semAt_some
set_option maxRecDepth 100000 in
set_option maxHeartbeats 2000000 in
theorem appendSeq_any (gf : Nat) (lb : Array Value) (xs : List Int) (hxs : xs.length ≤ 1000000000) (Rd : World → Prop) (hit : IterC Try.prog gf lb kidV xs Rd) (eg : ∀ args w, (callFunc gf args).run Try.prog w = .ok (.enter gf args) w)
    (w : World) (hS : ∀ V, Below w.heap.size w V → Rd V) :
    Calls Try.prog 45 #[.slice none 0 0, .func (.func gf) #[] lb] w fun e w' => ∃ v, e = .returned v ∧ Kd.R (Kd.int .i64) 3 w' w.heap.size (fun _ => True) v xs ∧ Below w.heap.size w w' := by
  have HLEN := Lib.hid hxs
  refine calls_of_wp_marks Try.func45 rfl ?_
  simp only [Try.ntmps45, List.size_toArray, List.length_cons, List.length_nil, Nat.reduceAdd, Nat.reduceSub, Array.replicate_succ, Array.replicate_zero, List.push_toArray, List.append_toArray, List.nil_append, List.cons_append]
  go_wp2
  have g1 : Blk (w.alloc (.cells #[.slice none 0 0] 33)) w.heap.size 33 #[.slice none 0 0] := Blk.new w _ _
  have hB1 : Below w.heap.size w (w.alloc (.cells #[.slice none 0 0] 33)) := (Below.refl _ w).alloc (Nat.le_refl _) _
  have hs1 : (w.alloc (.cells #[.slice none 0 0] 33)).heap.size = w.heap.size + 1 := by simp
  generalize w.alloc (.cells #[.slice none 0 0] 33) = W4 at g1 hB1 hs1 ⊢
  clear hxs
  refine wp_range_plain hit eg rfl (fun _ => rfl)
    (fun (pre : List Int) V => RowB (Kd.int .i64) 3 33 w w.heap.size pre V)
    (fun (cd : Code) V => False)
    (rowB_stab _ (by omega))
    (Stab.pure _ (fun _ => False))
    (fun pre V h => hS V h.choose_spec.2.2)
    ⟨_, g1, Kd.R_nil _ _ _ _ _, hB1⟩ ?round ?done (fun _ _ _ _ h => h.elim)
  case done =>
    rintro D W hD ⟨v, hb, hR, hB⟩ hbook hd
    have y0 : W.cell? ⟨w.heap.size, 0, none⟩ = some v := Blk.cell hb 0
    have l0 := Blk.lt hb
    have HRR := Lib.hid hR
    have HBB := Lib.hid hB
    have HD := Lib.hid hd
    clear hb hR hB hd hbook g1 hB1
    go_wp2
    refine leaves_marks (v := v) (B := w.heap.size) ⟨[D], rfl, by simp, by simp; exact ⟨by omega, HD.out⟩⟩ (fun W' hs => ⟨?_, v, rfl, ?_, ?_⟩)
    · simp [results, Try.results45]
    · have hr := hs.stab (fun V => Kd.R (Kd.int .i64) 3 V w.heap.size (fun k => k ≠ w.heap.size) v xs) (fun _ V V' row hV hg hr => Kd.R_mono (Kd.R_move (Kd.R_bound hV) (fun k hk => hg.block k hk.2.2.1 (fun e => by
        obtain ⟨_, o, ho, hb⟩ := hr k e.symm
        obtain ⟨_, _, _, q, _, cells, hc⟩ := hk
        rw [hc] at ho; cases ho; cases hb))) (fun _ hk => hk.1)) HRR.out
      exact Kd.R_mono hr (fun _ _ => trivial)
    · exact hs.stab _ (Stab.below (Nat.le_refl _) (Nat.le_refl _)) HBB.out
  case round =>
    rintro lp pre y rest W hx hl ⟨v, hb, hR, hB⟩
    have hpl : pre.length < 1000000000 := by have := HLEN.out; rw [hx] at this; simp at this; omega
    clear hx g1 hB1
    dsimp only [kidV]
    gi_wp2
    refine ⟨by (repeat (first | (with_reducible exact KeepBook.refl _) | (with_reducible refine KeepBook.alloc ?_ _) | (with_reducible refine KeepBook.setCell ?_ _ _) | (with_reducible refine KeepBook.drew ?_) | (refine KeepBook.below ?_ (by assumption)))), ?_⟩
    rintro W2 hs _
    have hI2 := hs.stab (fun V => RowB (Kd.int .i64) 3 33 w w.heap.size pre V) (fun _ V V' row h hg hr => rowB_stab (β := Unit) (fun _ => pre) (by omega) () V V' row h hg hr) ⟨v, hb, hR, hB⟩
    clear hb hR hB hs
    clear v
    obtain ⟨v, hb, hR, hB⟩ := hI2
    have y0 : W2.cell? ⟨w.heap.size, 0, none⟩ = some v := Blk.cell hb 0
    have f0 := Blk.frozen hb 0
    have l0 := Blk.lt hb
    have HBk := Aside0.mk hb
    have HRR := Aside0.mk hR
    have HBB := Aside0.mk hB
    clear hb hR hB
    gi_wp2_with (gi_at_builtin; go_loud (refine R_appendIn (Kd.int .i64) (w0 := w) w.heap.size rfl (.tmp 8) (.tmp 10) 33 3 (.int .i64 0) 8 rfl Try.underlying33 info3 rfl (by decide) (by omega) v pre y [.int .i64 y] (fun k => k ≠ w.heap.size) (fun _ => False) rfl ?hx ?aP (fun _ hk => hk.elim) ?aF HRR.out HBB.out ?aS ?aL ?_); (case hx => go_simp); (case aP => rfl); (case aF => exact (fun k hk => by omega)); (case aS => exact HBB.out.size); (case aL => omega); intro v1 w1 ho hb hg hat; obtain ⟨A1', m1, c1', rfl⟩ : ∃ A m c, v1 = .slice A m c := (by obtain ⟨A, c, h⟩ := Kd.R_slice ho; exact ⟨A, _, c, h⟩); have hO' := (hg.block w.heap.size l0 (fun e => HRR.out.1 _ e.symm rfl)).trans HBk.out; have y6 : w1.cell? ⟨w.heap.size, 0, none⟩ = some v := Blk.cell hO' 0; have f6 := Blk.frozen hO' 0; have l6 := Blk.lt hO'; have HO1 := Aside0.mk ho; have HB1 := Aside0.mk hb; have HG1 := Aside0.mk hg; have HOo := Aside0.mk hO'; clear ho hb hg hat hO')
    have hbook : KeepBook W2 (w1.setCell ⟨w.heap.size, 0, none⟩ (.slice A1' m1 c1')) := ((KeepBook.refl W2).grown HG1.out (fun j o e ho => by
      obtain ⟨cells, hc⟩ := own_typed HRR.out.2.choose_spec.1 j e
      rw [hc] at ho; cases ho; rfl)).setCell _ _
    exact ⟨hbook, _, Blk.set HOo.out 0 _, Kd.R_set HO1.out HOo.out (by decide) 0 _, HB1.out.setCell (p := ⟨w.heap.size, 0, none⟩) (Nat.le_refl _) _⟩
theorem collect_any (gf : Nat) (lb : Array Value) (xs : List Int) (hxs : xs.length ≤ 1000000000) (Rd : World → Prop) (hit : IterC Try.prog gf lb kidV xs Rd) (eg : ∀ args w, (callFunc gf args).run Try.prog w = .ok (.enter gf args) w)
    (w : World) (hS : ∀ V, Below w.heap.size w V → Rd V) :
    Calls Try.prog 32 #[.func (.func gf) #[] lb] w fun e w' => ∃ v, e = .returned v ∧ Kd.R (Kd.int .i64) 3 w' w.heap.size (fun _ => True) v xs ∧ Below w.heap.size w w' := by
  have HC := Lib.hid (appendSeq_any gf lb xs hxs Rd hit eg w hS)
  clear hxs hit eg hS
  go_enter Try.func32, Try.ntmps32
  go_wp2_with (go_at_call 45; refine HC.out.mono ?_; rintro e w1 ⟨v, rfl, hR, hB⟩; have HR := Lib.hid hR; have HB := Lib.hid hB; clear hR hB)
  go_ret
  exact ⟨v, rfl, HR.out, HB.out⟩
end Go.Proofs.Ytdmnaehgngpikaa.K
namespace Go.Proofs.Ytdmnaehgngpikaa.K
open Go.RowKit Go.Proofs.YtdmnaehgngpikaaW.PrintWords Go.Proofs.YtdmnaehgngpikaaW.PrintLast Go.Proofs.YtdmnaehgngpikaaW.PrintMore
set_option linter.unusedVariables false
set_option linter.unusedSimpArgs false
attribute [local go_sem] Oper.semAt_some
/-- what is wrong with a page and a place -/
def checkL (l : List Nd) (a : Int) : Int := if (checkP l).2 = 0 then (if a < 0 then 2 else if a ≥ (l.length : Int) then 2 else if kindOf l a = 2 then 0 else 2) else (checkP l).2
theorem lcheck_any (l : List Nd) (A : Option Addr) (c : Nat) (w : World) (hNC : Kd.C k48 w A l.length l) (hc : l.length ≤ c) (hl : (linksOf l).length ≤ 1000000000) (a : Int) :
    Calls Try.prog 23 #[.slice A l.length c, .int .i64 a] w fun e w' => e = .returned (.int .i64 (checkL l a)) ∧ Below w.heap.size w w' := by
  refine lanes_check.calls A c l a _ w hNC hc ?_
  unfold lanes_check.f tree_Check.f checkL kindOf
  rw [if_pos hl, Option.bind_some]
  by_cases q : (checkP l).2 = 0
  · rw [if_pos q, if_pos q]
    by_cases q1 : a < 0
    · rw [if_pos q1, if_pos q1]
    · rw [if_neg q1, if_neg q1]
      by_cases q2 : a ≥ (l.length : Int)
      · rw [if_pos q2, if_pos q2]
      · rw [if_neg q2, if_neg q2, if_pos (by omega), if_pos (by omega)]
        split <;> rfl
  · rw [if_neg q, if_neg q]
theorem checkL_ok {l : List Nd} {a : Int} (h : checkL l a = 0) : PageOK l ∧ ∃ n : Nat, a = n ∧ n < l.length ∧ kindOf l a = 2 := by
  unfold checkL at h
  by_cases q : (checkP l).2 = 0
  · rw [if_pos q] at h
    by_cases q1 : a < 0
    · rw [if_pos q1] at h; cases h
    · rw [if_neg q1] at h
      by_cases q2 : a ≥ (l.length : Int)
      · rw [if_pos q2] at h; cases h
      · rw [if_neg q2] at h
        by_cases q3 : kindOf l a = 2
        · obtain ⟨n, rfl⟩ := Int.eq_ofNat_of_zero_le (by omega : 0 ≤ a)
          exact ⟨(ok_iff l).1 q, n, rfl, by omega, q3⟩
        · rw [if_neg q3] at h; cases h
  · rw [if_neg q] at h; exact absurd h q
theorem kids_ready (l : List Nd) (A : Option Addr) (CS : Nat → List Value) (c n : Nat) (W : World) (hN : NodesAt W A CS l) (cells : Array Value) (ks : List Int) (he : cells.toList = ks.map (fun x => Value.int .i64 x)) (hl : ks.length ≤ 1000000) (m : Nat) (hm : m = ks.length) :
    Below W.heap.size W (kidsW (W.alloc (.cells cells 3)) A l.length c (n : Int) (some ⟨W.heap.size, 0, none⟩) m m) ∧ ∀ V, Below (kidsW (W.alloc (.cells cells 3)) A l.length c (n : Int) (some ⟨W.heap.size, 0, none⟩) m m).heap.size (kidsW (W.alloc (.cells cells 3)) A l.length c (n : Int) (some ⟨W.heap.size, 0, none⟩) m m) V →
      (V.cell? ⟨W.heap.size + 1, 0, none⟩ = some (.slice A l.length c) ∧ V.cell? ⟨W.heap.size + 1 + 1, 0, none⟩ = some (.int .i64 (n : Int)) ∧ V.cell? ⟨W.heap.size + 1 + 1 + 1, 0, none⟩ = some (.slice (some ⟨W.heap.size, 0, none⟩) m m)) ∧ NodesAt V A CS l ∧ Kd.C (Kd.int .i64) V (some ⟨W.heap.size, 0, none⟩) m ks := by
  subst hm
  have g1 : Blk (W.alloc (.cells cells 3)) W.heap.size 3 cells := Blk.new W _ _
  have hs1 : (W.alloc (.cells cells 3)).heap.size = W.heap.size + 1 := by simp
  have hB1 : Below W.heap.size W (W.alloc (.cells cells 3)) := (Below.refl _ W).alloc (Nat.le_refl _) _
  generalize W.alloc (.cells cells 3) = W1 at g1 hs1 hB1 ⊢
  have hk := kidsW_blk W1 A l.length c (n : Int) (some ⟨W.heap.size, 0, none⟩) ks.length ks.length
  have hb := kidsW_below W1 A l.length c (n : Int) (some ⟨W.heap.size, 0, none⟩) ks.length ks.length
  rw [hs1] at hk
  have g2 := (hb.block _ (Blk.lt g1)).trans g1
  have hB2 : Below W.heap.size W (kidsW W1 A l.length c (n : Int) (some ⟨W.heap.size, 0, none⟩) ks.length ks.length) := hB1.trans (hb.mono (by omega))
  refine ⟨hB2, fun V hV => ⟨(hk.below hV).cells, hN.below (hB2.trans (hV.mono hB2.size)), c_ints ((hV.block _ (Blk.lt g2)).trans g2) he hl⟩⟩
def lanes_Captions.f (l : List Nd) (a : Int) : Option (List Int × Int) := if (linksOf l).length ≤ 1000000000 ∧ (∀ n ∈ l, n.f1.length ≤ 1000000000) then some (if checkL l a = 0 then (kidsK l a.toNat [3], 0) else ([], checkL l a)) else none
set_option maxRecDepth 100000 in
set_option maxHeartbeats 2000000 in
theorem lanes_Captions.calls (A : Option Addr) (c : Nat) (l : List Nd) (a : Int) (r1 : List Int) (r2 : Int) (w : World) (hr0 : Kd.C k48 w A l.length l) (hc0 : l.length ≤ c) (h : lanes_Captions.f l a = some (r1, r2)) :
    Calls Try.prog 17 #[.slice A l.length c, .int .i64 a] w fun e w' => ∃ v0_ : Value, e = .returned (.tuple #[v0_, .int .i64 r2]) ∧ Kd.R (Kd.int .i64) 3 w' w.heap.size (fun _ => True) v0_ r1 ∧ Below w.heap.size w w' := by
  unfold lanes_Captions.f at h
  by_cases hl : (linksOf l).length ≤ 1000000000 ∧ (∀ n ∈ l, n.f1.length ≤ 1000000000)
  · rw [if_pos hl] at h
    have hh := Option.some.inj h
    clear h
    have HCH := Lib.hid (lcheck_any l A c w hr0 hc0 hl.1 a)
    by_cases q : checkL l a = 0
    · rw [if_pos q] at hh
      injection hh with h1 h2
      subst h1 h2
      obtain ⟨hok, n, rfl, hn, hkind⟩ := checkL_ok q
      rw [q] at HCH
      obtain ⟨CS, hCS⟩ := nodesAt_of hr0
      have HN := Lib.hid hCS
      have HLEN := Lib.hid (kidsK_len l n [3] hl.2)
      have HIT := Lib.hid (fun b Ak => kids1_iter l b (b + 1) (b + 1 + 1) A CS c hc0 hr0.2.1 n hn hok.kidsIn Ak 1 [3] (Nat.le_refl _) (by decide))
      rw [Int.toNat_natCast]
      have hq2 : ((0 : Int) != 0) = false := by simp
      clear hr0 hc0 hl q hkind hok hn hCS
      go_enter Try.func17, Try.ntmps17
      go_upto_region 2 with (go_at_call 23; refine HCH.out.mono ?_; rintro e w1 ⟨rfl, hb⟩; have HB := Lib.hid hb; clear hb HCH)
      have hw1 := HB.out.size
      have hn1 := HN.out.below HB.out
      obtain ⟨hR1, hR2⟩ := kids_ready l A CS c n w1 hn1 #[.int .i64 3] [3] rfl (by decide) 1 rfl
      have HC := Lib.hid (collect_any _ _ _ HLEN.out _ (HIT.out (w1.heap.size + 1) (some ⟨w1.heap.size, 0, none⟩)) (enters_of Try.func43 (by kernel_rfl) rfl) _ hR2)
      have HB2 := Lib.hid (HB.out.trans (hR1.mono hw1))
      clear hR1 hR2 hn1 HIT HN HB
      go_wp2_with (first | (go_at_call 30; refine (kids_any A l.length c (n : Int) (some ⟨w1.heap.size, 0, none⟩) 1 1 _).mono ?_; rintro e w2 ⟨rfl, rfl⟩) | (go_at_call 32; refine HC.out.mono ?_; rintro e w3 ⟨v, rfl, hR, hB⟩; have HR := Lib.hid hR; have HB3 := Lib.hid hB; clear hR hB))
      refine bodyPost_ret (results_tmp2 rfl _ _ _) rfl ?_
      exact ⟨v, rfl, Kd.R_lower HR.out HB2.out.size, HB2.out.trans (HB3.out.mono HB2.out.size)⟩
    · rw [if_neg q] at hh
      injection hh with h1 h2
      subst h1 h2
      have hq2 : (checkL l a != 0) = true := by simp [q]
      clear hr0 hc0 hl
      generalize checkL l a = er at HCH q hq2 ⊢
      go_enter Try.func17, Try.ntmps17
      go_wp2_with (go_at_call 23; refine HCH.out.mono ?_; rintro e w1 ⟨rfl, hb⟩; have HB := Lib.hid hb; clear hb HCH)
      refine bodyPost_ret (results_tmp2 rfl _ _ _) rfl ?_
      exact ⟨_, rfl, Kd.R_nil _ _ _ _ _, HB.out⟩
  · rw [if_neg hl] at h; cases h
end Go.Proofs.Ytdmnaehgngpikaa.K
