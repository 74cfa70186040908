/- Layer 4: pages that a law builds; TreeChains, TreeMany. -/
import Derived.Test.YtmmgdokaapphgaaTrWd
import Derived.Test.YtmmgdokaapphgaaTrY
import Derived.Test.YtmmgdokaapphgaaTrJ
namespace Go.Proofs.Ytmmgdokaapphgaa.K
open Go.RowKit Go.Proofs.YtmmgdokaapphgaaW.PrintWords Go.Proofs.YtmmgdokaapphgaaW.PrintLast Go.Proofs.YtmmgdokaapphgaaW.PrintMore
set_option linter.unusedVariables false
set_option linter.unusedSimpArgs false
attribute [local go_sem] Oper.semAt_some

/-- a made row of nodes: raw cells -/
theorem raw_at {W : World} {base O n cap : Nat} {rows : List (List Value)} (h : Kd.R (Kd.raw 34) 42 W base (fun _ => True) (.slice (some ⟨O, 0, none⟩) n cap) rows) {i : Nat} (hi : i < n) {c : List Value} (hc : rows[i]? = some c) :
    (∀ q u, c[q]? = some u → W.cell? ⟨O, i * 34 + q, none⟩ = some u) ∧ (∀ q, W.frozen? ⟨O, i * 34 + q, none⟩ = false) ∧ O < W.heap.size ∧ base ≤ O ∧ c.length = 34 ∧ (∀ u ∈ c, u.oneCell' = true) ∧ rows.length = n := by
  obtain ⟨hn, -, -⟩ := Kd.R_reads' h
  obtain ⟨c', h1, h2, h3, h4⟩ := Kd.R_elem h ([] : List Value) ((i : Nat) : Int) (by omega) (by omega)
  rw [Int.toNat_natCast] at h2 h3 h4
  rw [List.getD_eq_getElem?_getD, hc] at h2
  obtain rfl : c' = c := h2.1
  obtain ⟨g, cp, he, hb, hlt, -⟩ := Kd.R_form h (by omega)
  injection he with he _ _
  injection he with he
  injection he with he _ _
  subst he
  exact ⟨h3, h4, hlt, hb, h1, h2.2.2, hn.symm⟩
theorem raw_put {W : World} {base O n cap : Nat} {rows : List (List Value)} (h : Kd.R (Kd.raw 34) 42 W base (fun _ => True) (.slice (some ⟨O, 0, none⟩) n cap) rows) {i : Nat} (hi : i < n) {c : List Value} (hc : rows[i]? = some c) (q : Nat) (u : Value) (hq : q < 34) (hu : u.oneCell' = true) :
    Kd.R (Kd.raw 34) 42 (W.setCell ⟨O, i * 34 + q, none⟩ u) base (fun _ => True) (.slice (some ⟨O, 0, none⟩) n cap) (rows.set i (c.take q ++ [u] ++ c.drop (q + 1))) := by
  obtain ⟨g1, g2, g3, g4, g5, g6, g7⟩ := raw_at h hi hc
  have hl : (c.take q ++ [u] ++ c.drop (q + 1)).length = 34 := by simp [g5]; omega
  have := (Kd.R_seg h ((i : Nat) : Int) (by omega) (by omega) (c := c) (seg := [u]) (j := q) g5 (by rw [Int.toNat_natCast]; exact g1) (by show q + 1 ≤ 34; omega) (x' := c.take q ++ [u] ++ c.drop (q + 1)) (okp := fun _ => False)
    ⟨rfl, hl, fun z hz => by
      rcases List.mem_append.1 hz with hz | hz
      · rcases List.mem_append.1 hz with hz | hz
        · exact g6 z (List.mem_of_mem_take hz)
        · rw [List.mem_singleton.1 hz]; exact hu
      · exact g6 z (List.mem_of_mem_drop hz)⟩ (fun _ hk => hk.elim)).1
  rw [Int.toNat_natCast] at this
  exact this
def rowsV (n : Nat) (val : Nat → Value) : List (List Value) := (List.range n).map (fun i => nv0 0 (val i))
theorem rowsV_get {n i : Nat} (h : i < n) (val : Nat → Value) : (rowsV n val)[i]? = some (nv0 0 (val i)) := by unfold rowsV; rw [List.getElem?_map, List.getElem?_range h]; rfl
theorem rowsV_set {n i : Nat} (val : Nat → Value) (v : Value) : (rowsV n val).set i (nv0 0 v) = rowsV n (fun q => if q = i then v else val q) := by
  apply List.ext_getElem?
  intro q
  by_cases hq : q < n
  · by_cases e : i = q
    · subst e
      rw [List.getElem?_set_self (by unfold rowsV; rw [List.length_map, List.length_range]; exact hq), rowsV_get hq, if_pos rfl]
    · rw [List.getElem?_set_ne e, rowsV_get hq, rowsV_get hq, if_neg (fun h => e h.symm)]
  · rw [List.getElem?_eq_none (by rw [List.length_set]; unfold rowsV; rw [List.length_map, List.length_range]; omega), List.getElem?_eq_none (by unfold rowsV; rw [List.length_map, List.length_range]; omega)]
/-- the kids of a node that is built: their cell, outside block O -/
def KidsAt (W : World) (O : Nat) (v : Value) (ks : List Int) : Prop := ∃ A c, v = .slice A ks.length c ∧ ks.length ≤ c ∧ Kd.F (Kd.int .i64) W (fun k => k ≠ O) A ks.length ks
theorem kidsAt_nil (W : World) (O : Nat) : KidsAt W O (.slice none 0 0) [] := ⟨none, 0, rfl, Nat.le_refl _, Kd.F_nil _ _ _⟩
/-- a page that is built -/
structure PgI (w W : World) (O n cap : Nat) (val : Nat → Value) (g : Nat → List Int) : Prop where
  out : Kd.R (Kd.raw 34) 42 W w.heap.size (fun _ => True) (.slice (some ⟨O, 0, none⟩) n cap) (rowsV n val)
  b : Below w.heap.size w W
  kids : ∀ i, i < n → KidsAt W O (val i) (g i)
section
variable {w W V : World} {O n cap : Nat} {val : Nat → Value} {g : Nat → List Int}
theorem PgI.below (h : PgI w W O n cap val g) (hb : Below W.heap.size W V) : PgI w V O n cap val g :=
  ⟨Kd.R_below h.out hb, below_then h.b h.b.size hb, fun i hi => by obtain ⟨A, c, h1, h2, h3⟩ := h.kids i hi; exact ⟨A, c, h1, h2, Kd.F_below h3 hb⟩⟩
theorem PgI.at_ (h : PgI w W O n cap val g) {i : Nat} (hi : i < n) : W.cell? ⟨O, i * 34 + 1, none⟩ = some (val i) ∧ W.frozen? ⟨O, i * 34 + 1, none⟩ = false ∧ O < W.heap.size ∧ w.heap.size ≤ O := by
  obtain ⟨g1, g2, g3, g4, -⟩ := raw_at h.out hi (rowsV_get hi val)
  exact ⟨g1 1 _ rfl, g2 1, g3, g4⟩
theorem PgI.put (h : PgI w W O n cap val g) {i : Nat} (hi : i < n) {v : Value} {ks : List Int} (hv : KidsAt W O v ks) : PgI w (W.setCell ⟨O, i * 34 + 1, none⟩ v) O n cap (fun q => if q = i then v else val q) (fun q => if q = i then ks else g q) := by
  have hu : v.oneCell' = true := by obtain ⟨A, c, rfl, -⟩ := hv; rfl
  have h1 := raw_put h.out hi (rowsV_get hi val) 1 v (by decide) hu
  rw [show (nv0 0 (val i)).take 1 ++ [v] ++ (nv0 0 (val i)).drop (1 + 1) = nv0 0 v from rfl, rowsV_set] at h1
  refine ⟨h1, h.b.setCell (p := ⟨O, i * 34 + 1, none⟩) (h.at_ hi).2.2.2 v, fun q hq => ?_⟩
  have key : ∀ (u : Value) (ks : List Int), KidsAt W O u ks → KidsAt (W.setCell ⟨O, i * 34 + 1, none⟩ v) O u ks := fun u ks ⟨A, c, a1, a2, a3⟩ => ⟨A, c, a1, a2, Kd.F_far (p := ⟨O, i * 34 + 1, none⟩) a3 (fun k hk => hk) v⟩
  by_cases e : q = i
  · subst e; rw [if_pos rfl, if_pos rfl]; exact key v ks hv
  · rw [if_neg e, if_neg e]; exact key _ _ (h.kids q hq)
theorem PgI.page (h : PgI w W O n cap val g) (hn : n ≤ 1000000) : Kd.C k42 W (some ⟨O, 0, none⟩) n (plainL g n) ∧ n ≤ cap := by
  obtain ⟨hl, hc, hC⟩ := Kd.R_reads' h.out
  have e : (rowsV n val).length = (plainL g n).length := by unfold rowsV plainL; simp
  have := c_of_raw e hC (fun q x c hx hc => by
    have hq : q < n := by have := (List.getElem?_eq_some_iff.1 hx).1; rwa [plain_len] at this
    rw [plain_get g hq] at hx
    rw [rowsV_get hq] at hc
    obtain rfl := Option.some.inj hx
    obtain rfl := Option.some.inj hc
    obtain ⟨A, c, hv, h2, h3⟩ := h.kids q hq
    rw [hv]
    exact nv0_K h2 (Kd.F_now h3))
  rw [plain_len] at this
  exact ⟨this, hc⟩
end
theorem pg_made {w W : World} {O n cap : Nat} (h : Kd.R (Kd.raw 34) 42 W w.heap.size (fun _ => True) (.slice (some ⟨O, 0, none⟩) n cap) (List.replicate n (nv0 0 (.slice none 0 0)))) (hb : Below w.heap.size w W) : PgI w W O n cap (fun _ => .slice none 0 0) (fun _ => []) := by
  refine ⟨?_, hb, fun _ _ => kidsAt_nil _ _⟩
  have e : rowsV n (fun _ => .slice none 0 0) = List.replicate n (nv0 0 (.slice none 0 0)) := by
    apply List.ext_getElem?
    intro q
    rw [List.getElem?_replicate]
    by_cases hq : q < n
    · rw [rowsV_get hq, if_pos hq]
    · rw [if_neg hq, List.getElem?_eq_none (by unfold rowsV; rw [List.length_map, List.length_range]; omega)]
  rw [e]; exact h
/-- a literal of one number -/
theorem kids_one {W : World} {O B t : Nat} {x : Int} (hb : BlkIs W B t #[.int .i64 x]) (hO : B ≠ O) : KidsAt W O (.slice (some ⟨B, 0, none⟩) 1 1) [x] := by
  refine ⟨some ⟨B, 0, none⟩, 1, rfl, Nat.le_refl _, fun W' hW => ?_⟩
  have hb' : BlkIs W' B t #[.int .i64 x] := (hW B hO (BlkIs.lt hb)).trans hb
  exact c_ints hb' (xs := [x]) rfl (by simp)

/-- what a chain has after j links -/
def partK (n j : Nat) (i : Nat) : List Int := if i + 1 < j then [((i + 1 : Nat) : Int)] else []
theorem partK_next {n j : Nat} (hj : 0 < j) : (fun q => if q = j - 1 then [((j : Nat) : Int)] else partK n j q) = partK n (j + 1) := by
  funext q
  unfold partK
  by_cases e : q = j - 1
  · rw [if_pos e, if_pos (by omega)]
    congr 2; omega
  · rw [if_neg e]
    by_cases h : q + 1 < j
    · rw [if_pos h, if_pos (by omega)]
    · rw [if_neg h, if_neg (by omega)]
def purflinglaw04_TreeChains.f (a0 : Int) : Option Bool := some true
theorem pure_TreeChains {P : Prop} : ∀ a0 : Int, P → purflinglaw04_TreeChains.f a0 = some true := fun _ _ => rfl
set_option maxRecDepth 100000 in
set_option maxHeartbeats 4000000 in
theorem purflinglaw04_TreeChains.calls (a0 : Int) (r : Bool) (w : World) (h : purflinglaw04_TreeChains.f a0 = some r) :
    Calls Try.prog 4 #[.int .i64 a0] w fun e w' => e = .returned (.bool r) ∧ Below w.heap.size w w' := by
  obtain rfl : true = r := Option.some.inj h
  clear h
  have HSH := Lib.hid (fun W => purflinglaw04_shown.calls true W rfl)
  by_cases q0 : a0 < 1
  focus
    have hd0 : decide (a0 < 1) = true := decide_eq_true q0
    clear q0
    go_enter Try.func4, Try.ntmps4
    go_wp2_with (go_at_call 10; refine (HSH.out _).mono ?_; rintro e w1 ⟨rfl, hb⟩; have HB := Lib.hid hb; clear hb HSH)
    go_ret
    exact ⟨rfl, HB.out⟩
  have hd0 : decide (a0 < 1) = false := decide_eq_false q0
  by_cases q1 : 70 < a0
  focus
    have hd1 : decide (70 < a0) = true := decide_eq_true q1
    clear q0 q1
    go_enter Try.func4, Try.ntmps4
    go_wp2_with (go_at_call 10; refine (HSH.out _).mono ?_; rintro e w1 ⟨rfl, hb⟩; have HB := Lib.hid hb; clear hb HSH)
    go_ret
    exact ⟨rfl, HB.out⟩
  have hd1 : decide (70 < a0) = false := decide_eq_false q1
  obtain ⟨n, rfl⟩ := Int.eq_ofNat_of_zero_le (show 0 ≤ a0 by omega)
  have hn1 : 1 ≤ n := by omega
  have hn70 : n ≤ 70 := by omega
  clear q0 q1
  go_enter Try.func4, Try.ntmps4
  go_upto_region 4 with (go_at_call 10; refine (HSH.out _).mono ?_; rintro e w1 ⟨rfl, hb⟩; have HB := Lib.hid hb; clear hb HSH)
  clear hd0 hd1
  go_upto_region 5 with (((with_reducible refine gate_dst (N := 17) rfl ?_); refine Kd.R_make (Kd.raw 34) (w0 := w1) w1.heap.size 42 rfl (N := 17) rfl 22 _ _ rfl (n : Int) rfl rfl Try.underlying22 (.agg zN) 288 info42 rfl (by decide) (by omega) (nv0 0 (.slice none 0 0)) (ok := fun _ => True) (okp := fun _ => True) ⟨rfl, rfl, by simp [zN, nv0, Value.oneCell', Value.cells]⟩ (fun _ hk => hk) trivial (by omega) (by rw [Int.toNat_natCast]; omega) (Below.refl _ _) (Nat.le_refl _) ?_; intro v1 w2 ho1 hb1 hg1 hat1; rw [Int.toNat_natCast] at ho1; obtain ⟨O, cap, hv, hO1, hO2, -⟩ := Kd.R_form ho1 (by rw [List.length_replicate]; omega); rw [List.length_replicate] at hv; subst hv; have HP := Aside0.mk (pg_made (Kd.R_lower ho1 HB.out.size) (below_then HB.out HB.out.size hb1)); clear ho1 hb1 hat1 hg1 hO1 hO2 HB))
  have HP0 : Aside0 (∃ val, PgI w w2 O n cap val (partK n 1)) := ⟨_, by
    have e : partK n 1 = fun _ => [] := by funext q; unfold partK; rw [if_neg (by omega)]
    rw [e]; exact HP.out⟩
  clear HP
  go_wp2
  go_loopw [5] (fun i wr => ∃ q : Nat, q + 1 ≤ n ∧ i = .int .i64 ((q : Int) + 1) ∧ Aside0 (∃ val, PgI w wr O n cap val (partK n (q + 1)))) (fun i _ => n - (intOf i).toNat)
  case atStart => exact ⟨0, hn1, rfl, HP0⟩
  case round =>
    obtain ⟨q, hq, rfl, HR⟩ := hrel
    clear HP0
    obtain ⟨val, hP⟩ := HR.out
    have HP := Lib.hid hP
    clear HR hP
    by_cases hlt : q + 1 < n
    · have hltz : (q : Int) + 1 < (n : Int) := by omega
      have hda : decide ((q : Int) + 1 < (n : Int)) = true := decide_eq_true hltz
      have hqn : (q : Int) < (n : Int) := by omega
      obtain ⟨y1, f1, lO, -⟩ := HP.out.at_ (show q < n by omega)
      have hb : BlkIs (wr.alloc (.cells #[.int .i64 ((q : Int) + 1)] 3)) wr.heap.size 3 #[.int .i64 ((q : Int) + 1)] := World.alloc_heap_new wr _
      have HN : Aside0 (∃ val, PgI w ((wr.setCell ⟨O, q * 34 + 1, none⟩ (.slice (some ⟨wr.heap.size, 0, none⟩) 1 1)).alloc (.cells #[.int .i64 ((q : Int) + 1)] 3)) O n cap val (partK n (q + 1 + 1))) := ⟨_, by
        rw [← World.setCell_alloc_past _ _ _ _ lO]
        have h := (HP.out.below ((Below.refl wr.heap.size wr).alloc (Nat.le_refl _) (.cells #[.int .i64 ((q : Int) + 1)] 3))).put (i := q) (by omega) (kids_one hb (by omega))
        have e := partK_next (n := n) (j := q + 1) (by omega)
        rw [Nat.add_sub_cancel] at e
        rw [← e]
        exact h⟩
      clear hb
      go_wp2
      go_roundw
      case rel => exact ⟨q + 1, by omega, by go_num, HN⟩
      case measure => simp [intOf]; omega
    · have hqe : q + 1 = n := by omega
      have hltz : ¬ (q : Int) + 1 < (n : Int) := by omega
      have hda : decide ((q : Int) + 1 < (n : Int)) = false := decide_eq_false hltz
      have hpg := HP.out.page (by omega)
      have hpe : plainL (partK n (q + 1)) n = chainL n := by
        unfold chainL
        rw [hqe]; rfl
      rw [hpe] at hpg
      have hck := chain_check (n := n) (by omega) hn70
      have HB := Lib.hid HP.out.b
      by_cases h64 : 64 < n
      · rw [if_pos h64] at hck
        have HC := Lib.hid (check_page (l := chainL n) (n := n) (plain_len _ _) (by have := links_len (l := chainL n) (b := 1) (fun x hx => by obtain ⟨i, -, rfl⟩ := List.mem_map.1 hx; show (chainK n i).length ≤ 1; unfold chainK; split <;> simp); rw [show (chainL n).length = n from plain_len _ _] at this; omega) 64 42 (by rw [hck]) (by rw [hck]) (some ⟨O, 0, none⟩) cap wr hpg.1 hpg.2)
        have hd64 : decide ((64 : Int) < (n : Int)) = true := decide_eq_true (by omega)
        clear hck hpg hpe HP hltz
        go_wp2_with (go_at_call 11; refine HC.out.mono ?_; rintro e w5 ⟨rfl, hb⟩; have HB5 := Lib.hid (below_then HB.out HB.out.size hb); clear hb HB HC)
        go_ret
        exact ⟨rfl, HB5.out⟩
      · rw [if_neg h64] at hck
        have HC := Lib.hid (check_page (l := chainL n) (n := n) (plain_len _ _) (by have := links_len (l := chainL n) (b := 1) (fun x hx => by obtain ⟨i, -, rfl⟩ := List.mem_map.1 hx; show (chainK n i).length ≤ 1; unfold chainK; split <;> simp); rw [show (chainL n).length = n from plain_len _ _] at this; omega) 0 0 (by rw [hck]) (by rw [hck]) (some ⟨O, 0, none⟩) cap wr hpg.1 hpg.2)
        have hd64 : decide ((64 : Int) < (n : Int)) = false := decide_eq_false (by omega)
        clear hck hpg hpe HP hltz
        go_wp2_with (go_at_call 11; refine HC.out.mono ?_; rintro e w5 ⟨rfl, hb⟩; have HB5 := Lib.hid (below_then HB.out HB.out.size hb); clear hb HB HC)
        go_ret
        exact ⟨rfl, HB5.out⟩

def upK (q : Nat) : List Int := (List.range q).map (fun j => ((j + 1 : Nat) : Int))
theorem upK_next (q : Nat) : upK (q + 1) = upK q ++ [(q : Int) + 1] := by unfold upK; rw [List.range_succ, List.map_append]; rfl
theorem upK_len (q : Nat) : (upK q).length = q := by unfold upK; rw [List.length_map, List.length_range]
/-- a star that is built -/
structure StI (w W : World) (O n cap : Nat) (v : Value) (xs : List Int) : Prop where
  out : Kd.R (Kd.raw 34) 42 W w.heap.size (fun _ => True) (.slice (some ⟨O, 0, none⟩) n cap) (rowsV n (fun i => if i = 0 then v else .slice none 0 0))
  kids : Kd.R (Kd.int .i64) 3 W w.heap.size (fun k => k ≠ O) v xs
  b : Below w.heap.size w W
  n0 : 0 < n
theorem StI.at_ {w W : World} {O n cap : Nat} {v : Value} {xs : List Int} (h : StI w W O n cap v xs) : W.cell? ⟨O, 1, none⟩ = some v ∧ W.frozen? ⟨O, 1, none⟩ = false ∧ O < W.heap.size ∧ w.heap.size ≤ O := by
  obtain ⟨g1, g2, g3, g4, -⟩ := raw_at h.out h.n0 (rowsV_get h.n0 _)
  have g1' := g1 1 v rfl
  have g2' := g2 1
  rw [Nat.zero_mul, Nat.zero_add] at g1' g2'
  exact ⟨g1', g2', g3, g4⟩
theorem StI.put {w W w1 : World} {O n cap : Nat} {v v1 : Value} {xs ys : List Int} (h : StI w W O n cap v xs) (hg : W.grownBy w1 v.ownBlock) (hk : Kd.R (Kd.int .i64) 3 w1 w.heap.size (fun k => k ≠ O) v1 ys) (hb : Below w.heap.size w w1) :
    StI w (w1.setCell ⟨O, 1, none⟩ v1) O n cap v1 ys ∧ w1.cell? ⟨O, 1, none⟩ = some v ∧ w1.frozen? ⟨O, 1, none⟩ = false ∧ O < w1.heap.size := by
  have hne : some O ≠ v.ownBlock := fun e => h.kids.1 O e.symm rfl
  have ho := h.at_
  have hR : Kd.R (Kd.raw 34) 42 w1 w.heap.size (fun _ => True) (.slice (some ⟨O, 0, none⟩) n cap) (rowsV n (fun i => if i = 0 then v else .slice none 0 0)) :=
    Kd.R_grown2 h.out rfl hg (fun k hk e => by
      have : O = k := by
        have e' : some k = some O := e
        injection e' with e'; exact e'.symm
      subst this
      exact hne hk.symm)
  obtain ⟨g1, g2, g3, g4, -⟩ := raw_at hR h.n0 (rowsV_get h.n0 _)
  obtain ⟨A1, c1, rfl⟩ := Kd.R_slice hk
  have hp := raw_put hR h.n0 (rowsV_get h.n0 _) 1 (.slice A1 ys.length c1) (by decide) rfl
  rw [show (nv0 0 (if (0 : Nat) = 0 then v else .slice none 0 0)).take 1 ++ [.slice A1 ys.length c1] ++ (nv0 0 (if (0 : Nat) = 0 then v else .slice none 0 0)).drop (1 + 1) = nv0 0 (.slice A1 ys.length c1) from rfl, rowsV_set, Nat.zero_mul, Nat.zero_add] at hp
  have he : (fun q => if q = 0 then Value.slice A1 ys.length c1 else if q = 0 then v else .slice none 0 0) = fun q => if q = 0 then Value.slice A1 ys.length c1 else .slice none 0 0 := by
    funext q
    by_cases e : q = 0
    · rw [if_pos e, if_pos e]
    · rw [if_neg e, if_neg e, if_neg e]
  rw [he] at hp
  have g1' := g1 1 v rfl
  have g2' := g2 1
  rw [Nat.zero_mul, Nat.zero_add] at g1' g2'
  exact ⟨⟨hp, Kd.R_far (p := ⟨O, 1, none⟩) hk (fun k hk => hk) _, hb.setCell (p := ⟨O, 1, none⟩) ho.2.2.2 _, h.n0⟩, g1', g2', g3⟩
theorem StI.page {w W : World} {O n cap : Nat} {v : Value} (h : StI w W O n cap v (upK (n - 1))) (hn : n ≤ 1000000) : Kd.C k42 W (some ⟨O, 0, none⟩) n (starL n) ∧ n ≤ cap := by
  have hp : PgI w W O n cap (fun i => if i = 0 then v else .slice none 0 0) (starK n) := ⟨h.out, h.b, fun i hi => by
    by_cases e : i = 0
    · subst e
      obtain ⟨A, c, hv, hl, -⟩ := Kd.R_reads h.kids
      show KidsAt W O v (upK (n - 1))
      subst hv
      exact ⟨A, c, rfl, hl, Kd.R_F h.kids⟩
    · show KidsAt W O (if i = 0 then v else .slice none 0 0) (starK n i)
      unfold starK
      rw [if_neg e, if_neg e]; exact kidsAt_nil _ _⟩
  exact hp.page hn
theorem star_linklen (n : Nat) (hn : 0 < n) : (linksOf (starL n)).length = n - 1 := by
  have key : ∀ (rows : List (List Int)) (q : Nat), (cellsFrom q rows).length = (rows.map List.length).sum := by
    intro rows
    induction rows with
    | nil => intro q; rfl
    | cons r rows ih => intro q; rw [cellsFrom, List.length_append, List.length_map, ih, List.map_cons, List.sum_cons]
  show (cellsFrom 0 ((plainL (starK n) n).map (fun n => n.f1))).length = n - 1
  rw [key]
  unfold plainL
  rw [List.map_map, List.map_map]
  show ((List.range n).map (fun i => (starK n i).length)).sum = n - 1
  rw [sum_range_one n (fun i => (starK n i).length) 0 hn (fun j hj hne => by show (starK n j).length = 0; unfold starK; rw [if_neg hne]; rfl)]
  show (starK n 0).length = n - 1
  unfold starK
  rw [if_pos rfl, List.length_map, List.length_range]
def purflinglaw04_TreeMany.f (a0 : Int) : Option Bool := some true
theorem pure_TreeMany {P : Prop} : ∀ a0 : Int, P → purflinglaw04_TreeMany.f a0 = some true := fun _ _ => rfl
set_option maxRecDepth 100000 in
set_option maxHeartbeats 4000000 in
theorem purflinglaw04_TreeMany.calls (a0 : Int) (r : Bool) (w : World) (h : purflinglaw04_TreeMany.f a0 = some r) :
    Calls Try.prog 6 #[.int .i64 a0] w fun e w' => e = .returned (.bool r) ∧ Below w.heap.size w w' := by
  obtain rfl : true = r := Option.some.inj h
  clear h
  have HSH := Lib.hid (fun W => purflinglaw04_shown.calls true W rfl)
  by_cases q0 : a0 < 65530
  focus
    have hd0 : decide (a0 < 65530) = true := decide_eq_true q0
    clear q0
    go_enter Try.func6, Try.ntmps6
    go_wp2_with (go_at_call 10; refine (HSH.out _).mono ?_; rintro e w1 ⟨rfl, hb⟩; have HB := Lib.hid hb; clear hb HSH)
    go_ret
    exact ⟨rfl, HB.out⟩
  have hd0 : decide (a0 < 65530) = false := decide_eq_false q0
  by_cases q1 : 65550 < a0
  focus
    have hd1 : decide (65550 < a0) = true := decide_eq_true q1
    clear q0 q1
    go_enter Try.func6, Try.ntmps6
    go_wp2_with (go_at_call 10; refine (HSH.out _).mono ?_; rintro e w1 ⟨rfl, hb⟩; have HB := Lib.hid hb; clear hb HSH)
    go_ret
    exact ⟨rfl, HB.out⟩
  have hd1 : decide (65550 < a0) = false := decide_eq_false q1
  obtain ⟨n, rfl⟩ := Int.eq_ofNat_of_zero_le (show 0 ≤ a0 by omega)
  have hn1 : 1 ≤ n := by omega
  have hn70 : n ≤ 65550 := by omega
  clear q0 q1
  go_enter Try.func6, Try.ntmps6
  go_upto_region 4 with (go_at_call 10; refine (HSH.out _).mono ?_; rintro e w1 ⟨rfl, hb⟩; have HB := Lib.hid hb; clear hb HSH)
  clear hd0 hd1
  go_upto_region 5 with (((with_reducible refine gate_dst (N := 17) rfl ?_); refine Kd.R_make (Kd.raw 34) (w0 := w1) w1.heap.size 42 rfl (N := 17) rfl 22 _ _ rfl (n : Int) rfl rfl Try.underlying22 (.agg zN) 288 info42 rfl (by decide) (by omega) (nv0 0 (.slice none 0 0)) (ok := fun _ => True) (okp := fun _ => True) ⟨rfl, rfl, by simp [zN, nv0, Value.oneCell', Value.cells]⟩ (fun _ hk => hk) trivial (by omega) (by rw [Int.toNat_natCast]; omega) (Below.refl _ _) (Nat.le_refl _) ?_; intro v1 w2 ho1 hb1 hg1 hat1; rw [Int.toNat_natCast] at ho1; obtain ⟨O, cap, hv, hO1, hO2, -⟩ := Kd.R_form ho1 (by rw [List.length_replicate]; omega); rw [List.length_replicate] at hv; subst hv; have HP := Aside0.mk (pg_made (Kd.R_lower ho1 HB.out.size) (below_then HB.out HB.out.size hb1)); clear ho1 hb1 hat1 hg1 hO1 hO2 HB))
  have HP0 : Aside0 (∃ v, StI w w2 O n cap v (upK 0)) := ⟨.slice none 0 0, by
    have e : (fun i : Nat => if i = 0 then Value.slice none 0 0 else .slice none 0 0) = fun _ => .slice none 0 0 := by funext i; split <;> rfl
    exact ⟨by rw [e]; exact HP.out.out, Kd.R_nil _ _ _ _ _, HP.out.b, by omega⟩⟩
  clear HP
  go_wp2
  go_loopw [5] (fun i wr => ∃ q : Nat, q + 1 ≤ n ∧ i = .int .i64 ((q : Int) + 1) ∧ Aside0 (∃ v, StI w wr O n cap v (upK q))) (fun i _ => n - (intOf i).toNat)
  case atStart => exact ⟨0, hn1, rfl, HP0⟩
  case round =>
    obtain ⟨q, hq, rfl, HR⟩ := hrel
    clear HP0
    obtain ⟨v, hP⟩ := HR.out
    have HP := Lib.hid hP
    clear HR hP
    by_cases hlt : q + 1 < n
    · have hltz : (q : Int) + 1 < (n : Int) := by omega
      have hda : decide ((q : Int) + 1 < (n : Int)) = true := decide_eq_true hltz
      have hn0 : (0 : Int) < (n : Int) := by omega
      obtain ⟨y1, f1, lO, -⟩ := HP.out.at_
      have HU := Lib.hid (upK_next q)
      have hxl : (upK q).length = q := upK_len q
      generalize upK q = xs at HP HU hxl ⊢
      have hxl2 : xs.length ≤ 100000 := by omega
      clear hxl
      go_wp2_with (((with_reducible refine gate_builtin (b := .append) (xs := #[.tmp 27, .tmp 29]) rfl ?_); at_builtin; refine Kd.R_append (Kd.int .i64) (w0 := w) w.heap.size rfl (.tmp 27) (.tmp 29) 29 3 (.int .i64 0) 8 rfl Try.underlying29 info3 rfl (by decide) (by omega) v xs ((q : Int) + 1) [.int .i64 ((q : Int) + 1)] (fun k => k ≠ O) (fun _ => False) rfl rfl rfl (fun _ hk => hk.elim) (fun k hk => by omega) HP.out.kids HP.out.b HP.out.b.size (by omega) ?_; intro v1 w3 ho1 hb1 hg1 hat1; obtain ⟨hS, y1, f1, lO⟩ := HP.out.put hg1 ho1 hb1; rw [← HU.out] at hS; obtain ⟨E1, e1, rfl⟩ := Kd.R_slice ho1; have HN := Aside0.mk hS; clear ho1 hb1 hg1 hat1 hS HP))
      go_roundw
      case rel => exact ⟨q + 1, by omega, by go_num, ⟨.slice E1 (xs.length + 1) e1, by have h := HN.out; rw [List.length_append] at h; exact h⟩⟩
      case measure => simp [intOf]; omega
    · have hqe : q = n - 1 := by omega
      have hltz : ¬ (q : Int) + 1 < (n : Int) := by omega
      have hda : decide ((q : Int) + 1 < (n : Int)) = false := decide_eq_false hltz
      have hst := HP.out
      rw [hqe] at hst
      have hpg := hst.page (by omega)
      have HB := Lib.hid HP.out.b
      have hll : (linksOf (starL n)).length ≤ 1000000000 := by rw [star_linklen n (by omega)]; omega
      by_cases h64 : n ≤ 65536
      · have hck : checkP (starL n) = (0, 0) := check_zero (star_ok (by omega) h64)
        have HC := Lib.hid (check_page (l := starL n) (n := n) (plain_len _ _) hll 0 0 (by rw [hck]) (by rw [hck]) (some ⟨O, 0, none⟩) cap wr hpg.1 hpg.2)
        have hd64 : decide ((n : Int) ≤ 65536) = true := decide_eq_true (by omega)
        clear hck hpg hst hll HP hltz
        go_wp2_with (go_at_call 11; refine HC.out.mono ?_; rintro e w5 ⟨rfl, hb⟩; have HB5 := Lib.hid (below_then HB.out HB.out.size hb); clear hb HB HC)
        go_ret
        exact ⟨rfl, HB5.out⟩
      · have hck : checkP (starL n) = (0, 43) := by unfold checkP; rw [if_pos (.inr (by rw [show (starL n).length = n from plain_len _ _]; omega))]
        have HC := Lib.hid (check_page (l := starL n) (n := n) (plain_len _ _) hll 0 43 (by rw [hck]) (by rw [hck]) (some ⟨O, 0, none⟩) cap wr hpg.1 hpg.2)
        have hd64 : decide ((n : Int) ≤ 65536) = false := decide_eq_false (by omega)
        clear hck hpg hst hll HP hltz
        go_wp2_with (go_at_call 11; refine HC.out.mono ?_; rintro e w5 ⟨rfl, hb⟩; have HB5 := Lib.hid (below_then HB.out HB.out.size hb); clear hb HB HC)
        go_ret
        exact ⟨rfl, HB5.out⟩
end Go.Proofs.Ytmmgdokaapphgaa.K
