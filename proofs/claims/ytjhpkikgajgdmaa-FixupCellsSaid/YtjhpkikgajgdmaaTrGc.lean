/- Layer 4: Computed. -/
import Derived.Test.YtjhpkikgajgdmaaTrA
import Derived.Test.YtjhpkikgajgdmaaTrB
import Derived.Test.YtjhpkikgajgdmaaTrPa
import Derived.Test.YtjhpkikgajgdmaaTrK
import Derived.Test.YtjhpkikgajgdmaaSt5
namespace Go.Proofs.Ytjhpkikgajgdmaa.K
open Go.RowKit Go.Proofs.YtjhpkikgajgdmaaW.PrintWords Go.Proofs.YtjhpkikgajgdmaaW.PrintLast Go.Proofs.YtjhpkikgajgdmaaW.PrintMore
set_option linter.unusedVariables false
set_option linter.unusedSimpArgs false
attribute [local go_sem] Oper.semAt_some

def styS (s : Sty) : S40 := ⟨⟨s.wd.k, s.wd.n⟩, ⟨s.ht.k, s.ht.n⟩, ⟨s.p0, s.p1, s.p2, s.p3⟩, ⟨⟨s.b0.s, s.b0.w, s.b0.c⟩, ⟨s.b1.s, s.b1.w, s.b1.c⟩, ⟨s.b2.s, s.b2.w, s.b2.c⟩, ⟨s.b3.s, s.b3.w, s.b3.c⟩⟩, s.cs, s.rs, s.al, s.fx, s.co, ⟨s.g0, s.g1⟩, s.hi, s.be⟩
theorem styN_styS (s : Sty) : styN (styS s) = s := rfl
/-- a node with its computed style -/
def compN (n : Nd) : Nd := { n with f2 := styS (styC (styN n.f2)) }
def compP (l : List Nd) : List Nd := l.map compN
theorem raw_read {w : World} {A : Option Addr} {l : List Nd} {CS : Nat → List Value} (hC : Kd.C k43 w A l.length l) (h : NodesAt w A CS l) : Kd.C (Kd.raw 34) w A l.length ((List.range l.length).map CS) := by
  refine ⟨by simp, hC.2.1, fun hp => ?_⟩
  obtain ⟨ad, hA, -, -, -, -⟩ := h 0 l[0] (List.getElem?_eq_getElem hp)
  refine ⟨ad, hA, fun j c hj => ?_⟩
  rw [List.getElem?_map] at hj
  obtain ⟨i, hi, rfl⟩ := Option.map_eq_some_iff.1 hj
  obtain ⟨hlt, hij⟩ := List.getElem?_eq_some_iff.1 hi
  rw [List.getElem_range] at hij
  subst hij
  have hlt' : j < l.length := by simpa using hlt
  obtain ⟨ad', hA', h1, h2, h3, h4⟩ := h j l[j] (List.getElem?_eq_getElem hlt')
  rw [hA] at hA'; cases hA'
  exact ⟨CS j, h1, ⟨rfl, h1, h2⟩, fun q u hu => h3 q u hu⟩
theorem r_of_raw {W : World} {base : Nat} {ok : Nat → Prop} {v : Value} {rows : List (List Value)} {xs : List Nd} (h : Kd.R (Kd.raw 34) 43 W base ok v rows) (hl : rows.length = xs.length)
    (hM : ∀ (j : Nat) (x : Nd) (c : List Value), xs[j]? = some x → rows[j]? = some c → k43.M W base (fun k => ok k ∧ some k ≠ v.ownBlock) x c) : Kd.R k43 43 W base ok v xs := by
  obtain ⟨h0, inner, ho, hr⟩ := h
  refine ⟨h0, inner, by rw [← hl]; exact ho, by rw [← hl]; exact hr.1, fun j p hj => ?_⟩
  have hlt := (List.getElem?_eq_some_iff.1 hj).1
  obtain ⟨c, hc⟩ : ∃ c, rows[j]? = some c := ⟨_, List.getElem?_eq_getElem (by omega)⟩
  have := hr.2 j c hc
  have e : (inner.drop (j * 34)).take 34 = c := this.1
  show k43.M W base _ p ((inner.drop (j * 34)).take 34)
  rw [e]
  exact hM j p c hj hc

/-- what Computed has made so far: j nodes are computed -/
structure CompI (w W : World) (O n cap : Nat) (l : List Nd) (CS : Nat → List Value) (j : Nat) (rows : List (List Value)) : Prop where
  out : Kd.R (Kd.raw 34) 43 W w.heap.size (fun _ => True) (.slice (some ⟨O, 0, none⟩) n cap) rows
  b : Below w.heap.size w W
  len : rows.length = l.length
  done : ∀ (i : Nat) (x : Nd) (c : List Value), i < j → l[i]? = some x → rows[i]? = some c → k43.M W w.heap.size (fun k => k ≠ O) (compN x) c
  rest : ∀ i : Nat, j ≤ i → i < l.length → rows[i]? = some (CS i)

/-- within a round: node j's cells are c -/
structure CompJ (w W : World) (O n cap : Nat) (l : List Nd) (CS : Nat → List Value) (j : Nat) (c : List Value) (rows : List (List Value)) : Prop where
  out : Kd.R (Kd.raw 34) 43 W w.heap.size (fun _ => True) (.slice (some ⟨O, 0, none⟩) n cap) rows
  b : Below w.heap.size w W
  len : rows.length = l.length
  hn : n = l.length
  done : ∀ (i : Nat) (x : Nd) (c : List Value), i < j → l[i]? = some x → rows[i]? = some c → k43.M W w.heap.size (fun k => k ≠ O) (compN x) c
  rest : ∀ i : Nat, j < i → i < l.length → rows[i]? = some (CS i)
  cur : rows[j]? = some c
  clen : c.length = 34
  hj : j < l.length
section
variable {w W V : World} {O n cap : Nat} {l : List Nd} {CS : Nat → List Value} {j : Nat} {c : List Value} {rows : List (List Value)}
theorem m_below {ok : Nat → Prop} {base : Nat} {x : Nd} {cs : List Value} (h : k43.M W base ok x cs) (hb : Below W.heap.size W V) : k43.M V base ok x cs :=
  k43.M_mono (fun _ hk => hk.1) (k43.M_move (fun k hk => hb.block k hk.2.2.1) (k43.M_bound h))
theorem m_far {ok : Nat → Prop} {base : Nat} {x : Nd} {cs : List Value} {O : Nat} (h : k43.M W base ok x cs) (hok : ∀ k, ok k → k ≠ O) (hg : W.grownBy V (some O)) : k43.M V base ok x cs :=
  k43.M_mono (fun _ hk => hk.1) (k43.M_move (fun k hk => hg.block k hk.2.2.1 (fun e => hok k hk.1 (by injection e))) (k43.M_bound h))
theorem CompI.toJ (h : CompI w W O l.length cap l CS j rows) (hj : j < l.length) (hc : (CS j).length = 34) : CompJ w W O l.length cap l CS j (CS j) rows :=
  ⟨h.out, h.b, h.len, rfl, h.done, fun i hi hl => h.rest i (by omega) hl, h.rest j (Nat.le_refl _) hj, hc, hj⟩
theorem CompJ.below (h : CompJ w W O n cap l CS j c rows) (hb : Below W.heap.size W V) : CompJ w V O n cap l CS j c rows :=
  ⟨Kd.R_below h.out hb, below_then h.b h.b.size hb, h.len, h.hn, fun i x c hi hx hc => m_below (h.done i x c hi hx hc) hb, h.rest, h.cur, h.clen, h.hj⟩
theorem CompJ.cells (h : CompJ w W O n cap l CS j c rows) : (∀ q u, c[q]? = some u → W.cell? ⟨O, j * 34 + q, none⟩ = some u) ∧ (∀ q, W.frozen? ⟨O, j * 34 + q, none⟩ = false) ∧ O < W.heap.size ∧ w.heap.size ≤ O ∧ ∀ u ∈ c, u.oneCell' = true := by
  obtain ⟨c', h1, h2, h3, h4⟩ := Kd.R_elem h.out ([] : List Value) ((j : Nat) : Int) (by omega) (by have := h.hn; have := h.hj; omega)
  rw [Int.toNat_natCast] at h2 h3 h4
  rw [List.getD_eq_getElem?_getD, h.cur] at h2
  obtain rfl : c' = c := h2.1
  obtain ⟨g, cp, he, hb, hlt, -⟩ := Kd.R_form h.out (by have := h.len; have := h.hj; omega)
  injection he with he _ _
  injection he with he
  injection he with he _ _
  subst he
  exact ⟨h3, h4, hlt, hb, h2.2.2⟩
theorem CompJ.seg (h : CompJ w W O n cap l CS j c rows) (q : Nat) (seg : List Value) (hq : q + seg.length ≤ 34) (h1 : ∀ u ∈ seg, u.oneCell' = true) :
    CompJ w (W.setCells O (j * 34 + q) seg) O n cap l CS j (c.take q ++ seg ++ c.drop (q + seg.length)) (rows.set j (c.take q ++ seg ++ c.drop (q + seg.length))) := by
  obtain ⟨g1, g2, g3, g4, g5⟩ := h.cells
  have hjn : ((j : Nat) : Int) < (n : Int) := by have := h.hn; have := h.hj; omega
  have hl : (c.take q ++ seg ++ c.drop (q + seg.length)).length = 34 := by rw [List.length_append, List.length_append, List.length_take, List.length_drop, h.clen]; omega
  obtain ⟨s1, s2⟩ := Kd.R_seg h.out ((j : Nat) : Int) (by omega) hjn (c := c) (seg := seg) (j := q) h.clen (by rw [Int.toNat_natCast]; exact g1) hq (x' := c.take q ++ seg ++ c.drop (q + seg.length)) (okp := fun _ => False)
    ⟨rfl, hl, fun u hu => by
      rcases List.mem_append.1 hu with hu | hu
      · rcases List.mem_append.1 hu with hu | hu
        · exact g5 u (List.mem_of_mem_take hu)
        · exact h1 u hu
      · exact g5 u (List.mem_of_mem_drop hu)⟩ (fun _ hk => hk.elim)
  rw [Int.toNat_natCast] at s1 s2
  refine ⟨s1, h.b.grown s2 h.b.size (fun k hk => by injection hk with hk; omega), by rw [List.length_set]; exact h.len, h.hn, fun i x d hi hx hd => ?_, fun i hi hlt => ?_, ?_, hl, h.hj⟩
  · rw [List.getElem?_set_ne (by omega)] at hd
    exact m_far (h.done i x d hi hx hd) (fun k hk => hk) s2
  · rw [List.getElem?_set_ne (by omega)]; exact h.rest i hi hlt
  · rw [List.getElem?_set_self (by have := h.len; have := h.hj; omega)]
theorem CompJ.put (h : CompJ w W O n cap l CS j c rows) (q : Nat) (u : Value) (hq : q < 34) (h1 : u.oneCell' = true) :
    ∃ rows', CompJ w (W.setCell ⟨O, j * 34 + q, none⟩ u) O n cap l CS j (c.take q ++ [u] ++ c.drop (q + 1)) rows' := ⟨_, h.seg q [u] (by simp; omega) (by simpa using h1)⟩
theorem CompJ.next (h : CompJ w W O n cap l CS j c rows) {x : Nd} (hx : l[j]? = some x) (hM : k43.M W w.heap.size (fun k => k ≠ O) (compN x) c) : CompI w W O n cap l CS (j + 1) rows :=
  ⟨h.out, h.b, h.len, fun i y d hi hy hd => by
    by_cases e : i = j
    · subst e; rw [hx] at hy; cases hy; rw [h.cur] at hd; cases hd; exact hM
    · exact h.done i y d (by omega) hy hd, fun i hi hl => h.rest i (by omega) hl⟩
end

theorem right_words {x : Nd} (h : rightN x = true) : x.f3.length ≤ 10000 := by
  rw [show rightN x = (headB x && x.f3.all lengthB && lengthB x.f4 && lengthB x.f5 && (if x.f0 = 1 then decide (x.f1.length = 0) else if x.f0 = 5 then decide (x.f1.length = 0) && bareB x else bareB x)) from rfl] at h
  cases q : headB x
  · rw [q] at h; simp at h
  · unfold headB at q
    simp only [Bool.and_eq_true, decide_eq_true_eq] at q
    exact q.2
theorem row_else {W : World} {e : Nat} {v : Value} {xs : List Int} {base : Nat} {O : Nat} (h : Kd.R (Kd.int .i64) e W base (fun _ => True) v xs) (hO : O < base) {b : Nat} (hb : b ≤ base) : Kd.R (Kd.int .i64) e W b (fun k => k ≠ O) v xs :=
  Kd.R_lower (Kd.R_mono (Kd.R_bound h) (fun k hk => by have := hk.2.1; omega)) hb
theorem row_far {W : World} {e : Nat} {v : Value} {xs : List Int} {base : Nat} {O : Nat} (h : Kd.R (Kd.int .i64) e W base (fun k => k ≠ O) v xs) (o : Nat) (u : Value) : Kd.R (Kd.int .i64) e (W.setCell ⟨O, o, none⟩ u) base (fun k => k ≠ O) v xs :=
  Kd.R_far (p := ⟨O, o, none⟩) h (fun k hk => hk) u
def tree_Computed.f (l0 : List (Nd)) : Option ((List (Nd)) × Int) := if (linksOf l0).length ≤ 1000000000 then some (if (checkP l0).2 = 0 then (compP l0, 0) else ([], (checkP l0).2)) else none
set_option maxRecDepth 100000 in
set_option maxHeartbeats 8000000 in
theorem tree_Computed.calls (A0 : Option Addr) (c0 : Nat) (l0 : List (Nd)) (r1 : List (Nd)) (r2 : Int) (w : World) (hr0 : Kd.C k43 w A0 l0.length l0) (hc0 : l0.length ≤ c0) (hK : ∀ n ∈ l0, n.f1.length ≤ 1000000000) (h : tree_Computed.f l0 = some (r1, r2)) :
    Calls Try.prog 27 #[.slice A0 l0.length c0] w fun e w' => ∃ v0_ : Value, e = .returned (.tuple #[v0_, .int .i64 r2]) ∧ Kd.R k43 43 w' w.heap.size (fun _ => True) v0_ r1 ∧ Below w.heap.size w w' := by
  unfold tree_Computed.f at h
  split at h
  · rename_i hl
    have h' := Option.some.inj h
    obtain ⟨ea, hea⟩ : ∃ ea, ea = (checkP l0).1 := ⟨_, rfl⟩
    obtain ⟨er, her⟩ : ∃ er, er = (checkP l0).2 := ⟨_, rfl⟩
    have HC := Lib.hid (tree_Check.calls A0 c0 l0 ea er w hr0 hc0 (by unfold tree_Check.f; rw [if_pos hl, hea, her]))
    rw [← her] at h'
    by_cases q : er = 0
    focus
      rw [if_pos q] at h'
      injection h' with e1 e2
      have hOK := (ok_iff l0).1 (her.symm.trans q)
      subst q e2
      have H1 := Lib.hid e1
      have HOK := Lib.hid hOK
      have hn := hOK.some
      have hn2 : l0.length ≤ 65536 := hOK.many
      obtain ⟨CS, hCS⟩ := nodesAt_of hr0
      have HCS := Lib.hid hCS
      have HRAW := Lib.hid (raw_read hr0 hCS)
      have HKK := Lib.hid hK
      clear h e1 her hea hl hr0 hOK hCS hK
      go_enter Try.func27, Try.ntmps27
      go_upto_region 4 with (go_at_call 30; refine HC.out.mono ?_; rintro e w1 ⟨rfl, hb⟩; have HB := Lib.hid hb; clear hb HC)
      have HCL := Lib.hid (clone_node A0 l0.length c0 _ w1 (ReadsRow.imp_ HRAW.out HB.out (fun _ _ h => h)) (by omega))
      go_upto_region 5 with (go_at_call 38; refine HCL.out.mono ?_; rintro e w2 ⟨v1, rfl, ho1, hb1⟩; obtain ⟨O, cap, hv, hO1, hO2, -⟩ := Kd.R_form ho1 (by simp; omega); rw [List.length_map, List.length_range] at hv; subst hv; have HO1 := Lib.hid (Kd.R_lower ho1 HB.out.size); have HB2 := Lib.hid (below_then HB.out HB.out.size hb1); clear ho1 hb1)
      have HI : Aside0 (∃ rows, CompI w w2 O l0.length cap l0 CS 0 rows) := ⟨_, HO1.out, HB2.out, by simp, fun i x c hi => absurd hi (Nat.not_lt_zero _), fun i _ hi => by rw [List.getElem?_map, List.getElem?_range hi]; rfl⟩
      have hwO : w.heap.size ≤ O := by have := HB.out.size; omega
      clear HO1 HB2 HB HCL hO1 hO2
      go_wp2
      go_loopw [20] (fun i wr => ∃ j : Nat, j ≤ l0.length ∧ i = .int .i64 j ∧ Aside0 (∃ rows, CompI w wr O l0.length cap l0 CS j rows)) (fun i _ => l0.length - (intOf i).toNat)
      case atStart => exact ⟨0, Nat.zero_le _, rfl, HI⟩
      case round =>
        obtain ⟨j, hj, rfl, HR⟩ := hrel
        clear HI
        obtain ⟨rows, hI⟩ := HR.out
        have HI := Lib.hid hI
        clear HR hI
        by_cases hlt : j < l0.length
        · have hltz : (j : Int) < (l0.length : Int) := by omega
          obtain ⟨x, hx⟩ : ∃ x, l0[j]? = some x := ⟨_, List.getElem?_eq_getElem hlt⟩
          obtain ⟨ad, hA, hlen, hone, hcells, hKk⟩ := HCS.out j x hx
          obtain ⟨A1, c1, A3, c3, hnc0⟩ := nodeC_of hKk
          have HN0 := Lib.hid (And.intro hnc0.w1 hnc0.w3)
          have hnc := hnc0.below HI.out.b
          obtain ⟨B1, d1, B3, d3, hcs, -, -, -, -⟩ := k43_open hKk
          have HCSJ := Lib.hid hcs
          have HX := Lib.hid hx
          have HNC := Lib.hid hnc
          clear hnc0
          have HJ := Lib.hid (HI.out.toJ hlt hlen)
          have hv : validB (styN x.f2) = true := by
            have hr := HOK.out.right x (List.mem_of_getElem? hx)
            rw [show rightN x = (headB x && x.f3.all lengthB && lengthB x.f4 && lengthB x.f5 && (if x.f0 = 1 then decide (x.f1.length = 0) else if x.f0 = 5 then decide (x.f1.length = 0) && bareB x else bareB x)) from rfl] at hr
            have hh : headB x = true := by
              cases q : headB x
              · rw [q] at hr; simp at hr
              · rfl
            unfold headB at hh
            simp only [Bool.and_eq_true] at hh
            exact hh.1.2
          have HST := Lib.hid (fun W => computed_yes (styN x.f2) W hv)
          have hlenS : (Try.prog.info? 40).map (·.size) = some (styN x.f2).cells.toList.length := by kernel_rfl
          have hlenT : (Try.prog.info? 40).map (·.size) = some (styC (styN x.f2)).cells.size := by kernel_rfl
          have hrng : wr.rangeAt O (j * 34 + 2) (styN x.f2).cells.toList := fun q v hq => by
            have := HJ.out.cells.1 (2 + q) v (HNC.out.sty q v hq)
            rw [show j * 34 + 2 + q = j * 34 + (2 + q) by omega]; exact this
          have HT : Hid (∀ (V : World) (rows : List (List Value)), CompJ w V O l0.length cap l0 CS j (CS j) rows → V.there O (j * 34 + 2) (styC (styN x.f2)).cells.size) := Lib.hid (fun V rows hV q hq => by
            have hq29 : q < 29 := hq
            obtain ⟨g1, g2, -, -, -⟩ := hV.cells
            have hlt34 : 2 + q < (CS j).length := by rw [hV.clen]; omega
            have := g1 (2 + q) _ (List.getElem?_eq_getElem hlt34)
            rw [show j * 34 + 2 + q = j * 34 + (2 + q) by omega]
            exact ⟨by rw [this]; rfl, g2 (2 + q)⟩)
          have hone2 := sty_one (styC (styN x.f2))
          clear hx hKk hcs hnc hcells hone hlen hv hA
          go_upto_region 8 with fail
          clear HI
          go_upto_region 9 with (first | (refine wpList_load_mid rfl 40 (.tmp 29) rfl O (j * 34 + 2) rfl (styN x.f2).cells.toList _ hrng Try.underlying40 rfl hlenS ?_) | (go_at_call 39; refine (HST.out _).mono ?_; rintro e w3 ⟨rfl, hb⟩; have HJ3 := Lib.hid (HJ.out.below hb); clear hb HJ hrng) | (refine wpList_store_mid rfl 40 _ _ rfl O (j * 34 + 2) ((styC (styN x.f2)).cells) rfl rfl (HT.out _ _ HJ3.out) hlenT hone2 ?_))
          have HJ4 := Lib.hid (HJ3.out.seg 2 (styC (styN x.f2)).cells.toList (show 2 + 29 ≤ 34 by decide) (fun u hu => by have := Array.all_eq_true_iff_forall_mem.1 hone2 u (by simpa using hu); exact this))
          have HLE := Lib.hid (below_setCells' (b := O) (B := w.heap.size) hwO (styC (styN x.f2)).cells.toList (j * 34 + 2) (Below.refl w.heap.size w))
          obtain ⟨c2, hc2⟩ : ∃ c2, c2 = (CS j).take 2 ++ (styC (styN x.f2)).cells.toList ++ (CS j).drop (2 + (styC (styN x.f2)).cells.toList.length) := ⟨_, rfl⟩
          rw [← hc2] at HJ4
          have HC2 := Lib.hid hc2
          generalize rows.set j c2 = rows2 at HJ4
          generalize w3.setCells O (j * 34 + 2) (styC (styN x.f2)).cells.toList = w4 at HJ4 ⊢
          clear hc2 HLE HJ3 HT hlenS hlenT HST
          have h29 : (styC (styN x.f2)).cells.toList.length = 29 := rfl
          have k1 : c2[1]? = some (.slice A1 x.f1.length c1) := by
            rw [HC2.out, List.append_assoc, List.getElem?_append_left (by rw [List.length_take, HNC.out.len]; decide), List.getElem?_take, if_pos (by decide)]; exact HNC.out.k1
          have k31 : c2[31]? = some (.slice A3 x.f3.length c3) := by
            rw [HC2.out, List.getElem?_append_right (by rw [List.length_append, List.length_take, HNC.out.len, h29]; decide), List.length_append, List.length_take, HNC.out.len, List.getElem?_drop, h29]; exact HNC.out.k31
          have y1 : w4.cell? ⟨O, j * 34 + 1, none⟩ = some (.slice A1 x.f1.length c1) := HJ4.out.cells.1 1 _ k1
          have y31 : w4.cell? ⟨O, j * 34 + 31, none⟩ = some (.slice A3 x.f3.length c3) := HJ4.out.cells.1 31 _ k31
          have HKB := Lib.hid (And.intro (HKK.out x (List.mem_of_getElem? HX.out)) (show x.f3.length ≤ 10000 from (right_words (HOK.out.right x (List.mem_of_getElem? HX.out)))))
          clear h29
          dsimp only [Act.put]
          refine (wpIn_wide (n := 0)).1 ?_
          refine beginU (fun V : World => V.cell? ⟨O, j * 34 + 1, none⟩ = some (.slice A1 x.f1.length c1) ∧ V.cell? ⟨O, j * 34 + 31, none⟩ = some (.slice A3 x.f3.length c3)) 18 (by kernel_rfl) ?_
          have HS : (fun V : World => V.cell? ⟨O, j * 34 + 1, none⟩ = some (.slice A1 x.f1.length c1) ∧ V.cell? ⟨O, j * 34 + 31, none⟩ = some (.slice A3 x.f3.length c3)) w4.drew := ⟨y1, y31⟩
          have HJ5 := Lib.hid (HJ4.out.below ((Below.refl _ w4).drew))
          clear y1 y31 k1 k31 HJ4
          generalize w4.drew = w5 at HS HJ5 ⊢
          (refine takeP (i := 0) (d := 36) (v := ?_) rfl rfl (by kernel_rfl) (by kernel_rfl) (by kernel_rfl) (by kernel_rfl) (by kernel_rfl) (fun _ _ _ h => h) ⟨Or.inl ⟨by kernel_rfl, ?_⟩, fun _ => rfl⟩ (fun _ => HS) ?_; rotate_left; (focus (rintro wS -; go_simp; try (with_reducible rfl))); (simp only [List.setIfInBounds_toArray, List.set_cons_zero, List.set_cons_succ]))
          (refine takeP (i := 1) (d := 37) (v := ?_) rfl rfl (by kernel_rfl) (by kernel_rfl) (by kernel_rfl) (by kernel_rfl) (by kernel_rfl) (fun _ _ _ h => h) ⟨Or.inl ⟨by kernel_rfl, ?_⟩, fun _ => rfl⟩ (fun _ => HS) ?_; rotate_left; (focus (rintro wS -; go_simp; try (with_reducible rfl))); (simp only [List.setIfInBounds_toArray, List.set_cons_zero, List.set_cons_succ]))
          (refine takeP (i := 2) (d := 38) (v := ?_) rfl rfl (by kernel_rfl) (by kernel_rfl) (by kernel_rfl) (by kernel_rfl) (by kernel_rfl) (fun _ _ _ h => h) ⟨Or.inl ⟨by kernel_rfl, ?_⟩, fun _ => rfl⟩ (fun _ => HS) ?_; rotate_left; (focus (rintro wS -; go_simp; try (with_reducible rfl))); (simp only [List.setIfInBounds_toArray, List.set_cons_zero, List.set_cons_succ]))
          (refine takeP (i := 3) (d := 39) (v := ?_) rfl rfl (by kernel_rfl) (by kernel_rfl) (by kernel_rfl) (by kernel_rfl) (by kernel_rfl) (fun _ _ _ h => h) ⟨Or.inl ⟨by kernel_rfl, ?_⟩, fun _ => rfl⟩ (fun _ => HS) ?_; rotate_left; (focus (rintro wS -; go_simp; try (with_reducible rfl))); (simp only [List.setIfInBounds_toArray, List.set_cons_zero, List.set_cons_succ]))
          (refine takeP (i := 4) (d := 40) (v := ?_) rfl rfl (by kernel_rfl) (by kernel_rfl) (by kernel_rfl) (by kernel_rfl) (by kernel_rfl) (fun _ _ _ h => h) ⟨Or.inl ⟨by kernel_rfl, ?_⟩, fun _ => rfl⟩ (fun _ => HS) ?_; rotate_left; (focus (rintro wS -; go_simp; try (with_reducible rfl))); (simp only [List.setIfInBounds_toArray, List.set_cons_zero, List.set_cons_succ]))
          (refine takeP (i := 5) (d := 41) (v := ?_) rfl rfl (by kernel_rfl) (by kernel_rfl) (by kernel_rfl) (by kernel_rfl) (by kernel_rfl) (fun _ _ _ h => h) ⟨Or.inl ⟨by kernel_rfl, ?_⟩, fun _ => rfl⟩ (fun _ => HS) ?_; rotate_left; (focus (rintro wS -; go_simp; try (with_reducible rfl))); (simp only [List.setIfInBounds_toArray, List.set_cons_zero, List.set_cons_succ]))
          (refine takeP (i := 6) (d := 42) (v := ?_) rfl rfl (by kernel_rfl) (by kernel_rfl) (by kernel_rfl) (by kernel_rfl) (by kernel_rfl) (fun _ _ _ h => h) ⟨Or.inl ⟨by kernel_rfl, ?_⟩, fun _ => rfl⟩ (fun _ => HS) ?_; rotate_left; (focus (rintro wS -; go_simp; try (with_reducible rfl))); (simp only [List.setIfInBounds_toArray, List.set_cons_zero, List.set_cons_succ]))
          (refine takeP (i := 7) (d := 43) (v := ?_) rfl rfl (by kernel_rfl) (by kernel_rfl) (by kernel_rfl) (by kernel_rfl) (by kernel_rfl) (fun _ _ _ h => h) ⟨Or.inl ⟨by kernel_rfl, ?_⟩, fun _ => rfl⟩ (fun _ => HS) ?_; rotate_left; (focus (rintro wS -; go_simp; try (with_reducible rfl))); (simp only [List.setIfInBounds_toArray, List.set_cons_zero, List.set_cons_succ]))
          (refine takeU (i := 8) (d := 44) (v := ?_) rfl rfl (by kernel_rfl) (by kernel_rfl) (by kernel_rfl) (by kernel_rfl) (by kernel_rfl) (by kernel_rfl) (fun _ _ _ h => h) ⟨Or.inl ⟨by kernel_rfl, ?_⟩, fun _ => rfl⟩ HS ?_; rotate_left; (focus (rintro wS ⟨s1, s2⟩; go_simp; try (with_reducible rfl))); (simp only [List.setIfInBounds_toArray, List.set_cons_zero, List.set_cons_succ]))
          (refine takeP (i := 10) (d := 46) (v := ?_) rfl rfl (by kernel_rfl) (by kernel_rfl) (by kernel_rfl) (by kernel_rfl) (by kernel_rfl) (fun _ _ _ h => h) ⟨Or.inl ⟨by kernel_rfl, ?_⟩, fun _ => rfl⟩ (fun _ => HS) ?_; rotate_left; (focus (rintro wS -; go_simp; try (with_reducible rfl))); (simp only [List.setIfInBounds_toArray, List.set_cons_zero, List.set_cons_succ]))
          (refine takeP (i := 11) (d := 47) (v := ?_) rfl rfl (by kernel_rfl) (by kernel_rfl) (by kernel_rfl) (by kernel_rfl) (by kernel_rfl) (fun _ _ _ h => h) ⟨Or.inl ⟨by kernel_rfl, ?_⟩, fun _ => rfl⟩ (fun _ => HS) ?_; rotate_left; (focus (rintro wS -; go_simp; try (with_reducible rfl))); (simp only [List.setIfInBounds_toArray, List.set_cons_zero, List.set_cons_succ]))
          (refine takeP (i := 12) (d := 48) (v := ?_) rfl rfl (by kernel_rfl) (by kernel_rfl) (by kernel_rfl) (by kernel_rfl) (by kernel_rfl) (fun _ _ _ h => h) ⟨Or.inl ⟨by kernel_rfl, ?_⟩, fun _ => rfl⟩ (fun _ => HS) ?_; rotate_left; (focus (rintro wS -; go_simp; try (with_reducible rfl))); (simp only [List.setIfInBounds_toArray, List.set_cons_zero, List.set_cons_succ]))
          (refine takeP (i := 13) (d := 49) (v := ?_) rfl rfl (by kernel_rfl) (by kernel_rfl) (by kernel_rfl) (by kernel_rfl) (by kernel_rfl) (fun _ _ _ h => h) ⟨Or.inl ⟨by kernel_rfl, ?_⟩, fun _ => rfl⟩ (fun _ => HS) ?_; rotate_left; (focus (rintro wS -; go_simp; try (with_reducible rfl))); (simp only [List.setIfInBounds_toArray, List.set_cons_zero, List.set_cons_succ]))
          (refine takeU (i := 14) (d := 50) (v := ?_) rfl rfl (by kernel_rfl) (by kernel_rfl) (by kernel_rfl) (by kernel_rfl) (by kernel_rfl) (by kernel_rfl) (fun _ _ _ h => h) ⟨Or.inl ⟨by kernel_rfl, ?_⟩, fun _ => rfl⟩ HS ?_; rotate_left; (focus (rintro wS ⟨s1, s2⟩; go_simp; try (with_reducible rfl))); (simp only [List.setIfInBounds_toArray, List.set_cons_zero, List.set_cons_succ]))
          (refine oneU (i := 9) rfl (by kernel_rfl) (fun K hK => ?_); go_simp)
          refine (callsIn_wide.2 (clone_int A1 x.f1.length c1 x.f1 w5 (Kd.C_below HN0.out.1 HJ5.out.b) HKB.out.1)).mono ?_
          rintro e w6 ⟨v1, rfl, hr1, hb1⟩
          dsimp only
          have HR1 := Lib.hid (row_else hr1 HJ5.out.cells.2.2.1 HJ5.out.b.size)
          have HS2 : (fun V : World => V.cell? ⟨O, j * 34 + 1, none⟩ = some (.slice A1 x.f1.length c1) ∧ V.cell? ⟨O, j * 34 + 31, none⟩ = some (.slice A3 x.f3.length c3)) w6 := ⟨(hb1.cell (World.block_lt_of_cell? _ _ HS.1)).trans HS.1, (hb1.cell (World.block_lt_of_cell? _ _ HS.2)).trans HS.2⟩
          have HJ6 := Lib.hid (HJ5.out.below hb1)
          clear HS HJ5 hr1 hb1
          (refine hK _ _ ⟨(fun _ => HS2), ?_⟩; clear hK K; (try (simp only [List.setIfInBounds_toArray, List.set_cons_zero, List.set_cons_succ])))
          (refine oneU (i := 15) rfl (by kernel_rfl) (fun K hK => ?_); go_simp)
          refine (callsIn_wide.2 (clone_i64 A3 x.f3.length c3 x.f3 w6 (Kd.C_below HN0.out.2 HJ6.out.b) (by have := HKB.out.2; omega))).mono ?_
          rintro e w7 ⟨v3, rfl, hr3, hb3⟩
          dsimp only
          have HR1' := Lib.hid (Kd.R_below HR1.out hb3)
          have HR3 := Lib.hid (row_else hr3 HJ6.out.cells.2.2.1 HJ6.out.b.size)
          have HS3 : (fun V : World => V.cell? ⟨O, j * 34 + 1, none⟩ = some (.slice A1 x.f1.length c1) ∧ V.cell? ⟨O, j * 34 + 31, none⟩ = some (.slice A3 x.f3.length c3)) w7 := ⟨(hb3.cell (World.block_lt_of_cell? _ _ HS2.1)).trans HS2.1, (hb3.cell (World.block_lt_of_cell? _ _ HS2.2)).trans HS2.2⟩
          have HJ7 := Lib.hid (HJ6.out.below hb3)
          clear HS2 HJ6 hr3 hb3 HR1
          (refine hK _ _ ⟨(fun _ => HS3), ?_⟩; clear hK K; (try (simp only [List.setIfInBounds_toArray, List.set_cons_zero, List.set_cons_succ])))
          (refine takeP (i := 16) (d := 52) (v := ?_) rfl rfl (by kernel_rfl) (by kernel_rfl) (by kernel_rfl) (by kernel_rfl) (by kernel_rfl) (fun _ _ _ h => h) ⟨Or.inl ⟨by kernel_rfl, ?_⟩, fun _ => rfl⟩ (fun _ => HS3) ?_; rotate_left; (focus (rintro wS -; go_simp; try (with_reducible rfl))); (simp only [List.setIfInBounds_toArray, List.set_cons_zero, List.set_cons_succ]))
          (refine takeP (i := 17) (d := 53) (v := ?_) rfl rfl (by kernel_rfl) (by kernel_rfl) (by kernel_rfl) (by kernel_rfl) (by kernel_rfl) (fun _ _ _ h => h) ⟨Or.inl ⟨by kernel_rfl, ?_⟩, fun _ => rfl⟩ (fun _ => HS3) ?_; rotate_left; (focus (rintro wS -; go_simp; try (with_reducible rfl))); (simp only [List.setIfInBounds_toArray, List.set_cons_zero, List.set_cons_succ]))
          obtain ⟨g1, g2, lO, -, -⟩ := HJ7.out.cells
          have f1 := g2 1
          have f31 := g2 31
          obtain ⟨E1, e1, rfl⟩ := Kd.R_slice HR1'.out
          obtain ⟨E3, e3, rfl⟩ := Kd.R_slice HR3.out
          obtain ⟨rows8, hJ8⟩ := HJ7.out.put 1 (.slice E1 x.f1.length e1) (by decide) rfl
          have HJ8 := Lib.hid hJ8
          have HR1s := Lib.hid (row_far HR1'.out (j * 34 + 1) (.slice E1 x.f1.length e1))
          have HR3s := Lib.hid (row_far HR3.out (j * 34 + 1) (.slice E1 x.f1.length e1))
          have y1 := HS3.1
          clear g1 g2 hJ8 HR1' HR3
          (refine oneU (i := 18) rfl (by kernel_rfl) (fun K hK => ?_); go_simp)
          generalize w7.setCell ⟨O, j * 34 + 1, none⟩ (.slice E1 x.f1.length e1) = w8 at HJ8 HR1s HR3s ⊢
          (refine hK _ _ ⟨(no_more (by kernel_rfl)), ?_⟩; clear hK K; (try (simp only [List.setIfInBounds_toArray, List.set_cons_zero, List.set_cons_succ])))
          clear HS3 HJ7 y1 f1 f31 lO
          obtain ⟨g1, g2, lO, -, -⟩ := HJ8.out.cells
          have f31 := g2 31
          clear g1 g2
          obtain ⟨c3', hc3⟩ : ∃ c3', c3' = List.take 1 c2 ++ [.slice E1 x.f1.length e1] ++ List.drop (1 + 1) c2 := ⟨_, rfl⟩
          rw [← hc3] at HJ8
          have HC3 := Lib.hid hc3
          obtain ⟨u31, hu31⟩ : ∃ u, c3'[31]? = some u := ⟨_, List.getElem?_eq_getElem (by rw [HJ8.out.clen]; decide)⟩
          have y31 := HJ8.out.cells.1 31 u31 hu31
          obtain ⟨rows9, hJ9⟩ := HJ8.out.put 31 (.slice E3 x.f3.length e3) (by decide) rfl
          have HJ9 := Lib.hid hJ9
          have HR1t := Lib.hid (row_far HR1s.out (j * 34 + 31) (.slice E3 x.f3.length e3))
          have HR3t := Lib.hid (row_far HR3s.out (j * 34 + 31) (.slice E3 x.f3.length e3))
          clear hJ9 hc3 hu31 HR1s HR3s
          (refine takeP (i := 19) (d := 54) (v := ?_) rfl rfl (by kernel_rfl) (by kernel_rfl) (by kernel_rfl) (by kernel_rfl) (by kernel_rfl) (fun _ _ _ h => h) ⟨Or.inl ⟨by kernel_rfl, ?_⟩, fun _ => rfl⟩ (no_more (by kernel_rfl)) ?_; rotate_left; (focus (rintro wS -; go_simp; try (with_reducible rfl))); (simp only [List.setIfInBounds_toArray, List.set_cons_zero, List.set_cons_succ]))
          (refine takeP (i := 20) (d := 55) (v := ?_) rfl rfl (by kernel_rfl) (by kernel_rfl) (by kernel_rfl) (by kernel_rfl) (by kernel_rfl) (fun _ _ _ h => h) ⟨Or.inl ⟨by kernel_rfl, ?_⟩, fun _ => rfl⟩ (no_more (by kernel_rfl)) ?_; rotate_left; (focus (rintro wS -; go_simp; try (with_reducible rfl))); (simp only [List.setIfInBounds_toArray, List.set_cons_zero, List.set_cons_succ]))
          (refine oneU (i := 21) rfl (by kernel_rfl) (fun K hK => ?_); go_simp)
          generalize w8.setCell ⟨O, j * 34 + 31, none⟩ (.slice E3 x.f3.length e3) = w9 at HJ9 HR1t HR3t ⊢
          (refine hK _ _ ⟨(no_more (by kernel_rfl)), ?_⟩; clear hK K; (try (simp only [List.setIfInBounds_toArray, List.set_cons_zero, List.set_cons_succ])))
          (refine doneU (by kernel_rfl) ?_ _)
          have HM : Hid (k43.M w9 w.heap.size (fun k => k ≠ O) (compN x) (List.take 31 c3' ++ [.slice E3 x.f3.length e3] ++ List.drop (31 + 1) c3')) := Lib.hid (by
            have hm := k43_mkM w9 w.heap.size (fun k => k ≠ O) (compN x) HR1t.out HR3t.out
            rw [HC3.out, HC2.out, HCSJ.out]
            exact hm)
          have HN : Aside0 (∃ rows, CompI w w9 O l0.length cap l0 CS (j + 1) rows) := ⟨_, HJ9.out.next HX.out HM.out⟩
          clear HJ9 HM HR1t HR3t HJ8 y31 f31 lO HC3 HC2
          go_wp2
          go_roundw
          case rel => exact ⟨j + 1, by omega, by go_num, HN⟩
          case measure => simp [intOf]; omega
        · have hjl : j = l0.length := by omega
          subst hjl
          have HFIN := Lib.hid (r_of_raw HI.out.out (by rw [HI.out.len]; unfold compP; rw [List.length_map]) (xs := compP l0) (fun i x c hx hc => by
            unfold compP at hx
            rw [List.getElem?_map] at hx
            obtain ⟨y, hy, rfl⟩ := Option.map_eq_some_iff.1 hx
            exact k43.M_mono (fun k hk => ⟨trivial, fun e => hk (by simpa [Value.ownBlock] using e)⟩) (HI.out.done i y c (List.getElem?_eq_some_iff.1 hy).1 hy hc)))
          have HB := Lib.hid HI.out.b
          clear HI
          go_wp2
          refine bodyPost_ret (results_tmp2 rfl _ _ _) rfl ?_
          refine ⟨.slice (some ⟨O, 0, none⟩) l0.length cap, rfl, ?_, HB.out⟩
          rw [← H1.out]; exact HFIN.out
    rw [if_neg q] at h'
    injection h' with e1 e2
    have H1 := Lib.hid e1
    have H2 := Lib.hid e2
    clear e1 e2 her hea h hl hr0 hK
    have hqb : (er != 0) = true := by simpa using q
    go_enter Try.func27, Try.ntmps27
    go_wp2_with (go_at_call 30; refine HC.out.mono ?_; rintro e w1 ⟨rfl, hb⟩; have HB := Lib.hid hb; clear hb HC)
    refine bodyPost_ret (results_tmp2 rfl _ _ _) rfl ?_
    refine ⟨.slice none 0 0, ?_, ?_, HB.out⟩
    · rw [← H2.out]; rfl
    · rw [← H1.out]; exact Kd.R_nil _ _ _ _ _
  · cases h
end Go.Proofs.Ytjhpkikgajgdmaa.K
