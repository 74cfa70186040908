/- Layer 4: TreeOrders. -/
import Derived.Test.YtmmgdokaapphgaaTrQ
namespace Go.Proofs.Ytmmgdokaapphgaa.K
open Go.RowKit Go.Proofs.YtmmgdokaapphgaaW.PrintWords Go.Proofs.YtmmgdokaapphgaaW.PrintLast Go.Proofs.YtmmgdokaapphgaaW.PrintMore
set_option linter.unusedVariables false
set_option linter.unusedSimpArgs false
attribute [local go_sem] Oper.semAt_some

/-- where a place stands in the order -/
def posO (l : List Nd) (x : Int) : Nat := (walkP l).ord.idxOf x
def atF (l : List Nd) (j : Nat) : List Int := (List.range l.length).map (fun q => if posO l ((q : Nat) : Int) < j then ((posO l ((q : Nat) : Int) : Nat) : Int) + 1 else 0)
theorem atF_len (l : List Nd) (j : Nat) : (atF l j).length = l.length := by unfold atF; rw [List.length_map, List.length_range]
theorem atF_get {l : List Nd} {q : Nat} (hq : q < l.length) (j : Nat) : (atF l j)[q]? = some (if posO l ((q : Nat) : Int) < j then ((posO l ((q : Nat) : Int) : Nat) : Int) + 1 else 0) := by
  unfold atF; rw [List.getElem?_map, List.getElem?_range hq]; rfl
theorem atF_zero (l : List Nd) : atF l 0 = List.replicate l.length 0 := by
  apply List.ext_getElem?
  intro q
  rw [List.getElem?_replicate]
  by_cases h : q < l.length
  · rw [atF_get h, if_neg (by omega), if_pos h]
  · rw [List.getElem?_eq_none (by rw [atF_len]; omega), if_neg h]
section
variable {l : List Nd} (h : PageOK l)
include h
theorem ord_range {x : Int} (hx : x ∈ (walkP l).ord) : 0 ≤ x ∧ x < (l.length : Int) := by
  obtain ⟨i, hi⟩ := List.getElem?_of_mem hx
  rcases h.ord.back i x hi with ⟨rfl, -⟩ | ⟨j, p, -, -, hkp, -⟩
  · have := h.some; omega
  · exact kid_range h.kidsIn hkp
theorem pos_get {q : Nat} (hq : q < l.length) : (walkP l).ord[posO l ((q : Nat) : Int)]? = some ((q : Nat) : Int) := by
  have hm : ((q : Nat) : Int) ∈ (walkP l).ord := (h.ord.mem _).2 (h.met q hq)
  unfold posO
  rw [List.getElem?_eq_getElem (List.idxOf_lt_length_of_mem hm), List.getElem_idxOf]
theorem pos_of {j : Nat} {x : Int} (hx : (walkP l).ord[j]? = some x) : posO l x = j := by
  have hr := ord_range h (List.mem_of_getElem? hx)
  obtain ⟨q, rfl⟩ := Int.eq_ofNat_of_zero_le hr.1
  have h1 := pos_get h (show q < l.length by omega)
  have hl := (List.getElem?_eq_some_iff.1 hx).1
  exact (List.getElem?_inj (List.getElem?_eq_some_iff.1 h1).1 h.ord.nodup).1 (h1.trans hx.symm)
theorem ord_len : (walkP l).ord.length = l.length := by
  have hg := (walk_good l h.kidsIn h.some).2
  have : unv l.length (walkP l) = 0 := by
    unfold unv
    rw [List.countP_eq_zero]
    intro i hi
    have := h.met i (List.mem_range.1 hi)
    simp; omega
  omega
theorem atF_step {j : Nat} {x : Nat} (hx : (walkP l).ord[j]? = some ((x : Nat) : Int)) : (atF l j)[x]? = some 0 ∧ atF l (j + 1) = (atF l j).set x ((j : Int) + 1) := by
  have hr := ord_range h (List.mem_of_getElem? hx)
  have hxl : x < l.length := by omega
  have hp := pos_of h hx
  refine ⟨by rw [atF_get hxl, hp, if_neg (by omega)], ?_⟩
  apply List.ext_getElem?
  intro q
  by_cases hq : q < l.length
  · by_cases e : x = q
    · subst e
      rw [List.getElem?_set_self (by rw [atF_len]; exact hxl), atF_get hxl, hp, if_pos (by omega)]
    · rw [List.getElem?_set_ne e, atF_get hq, atF_get hq]
      have : posO l ((q : Nat) : Int) ≠ j := fun he => by
        have h1 := pos_get h hq
        rw [he, hx] at h1
        have := Option.some.inj h1
        omega
      congr 1
      by_cases q1 : posO l ((q : Nat) : Int) < j
      · rw [if_pos q1, if_pos (by omega)]
      · rw [if_neg q1, if_neg (by omega)]
  · rw [List.getElem?_eq_none (by rw [atF_len]; omega), List.getElem?_eq_none (by rw [List.length_set, atF_len]; omega)]
/-- behind its parent, one deeper -/
theorem parent_of {i : Nat} (hi0 : 0 < i) (hi : i < l.length) : ∃ p : Nat, p < l.length ∧ (parentsP l)[i]? = some ((p : Nat) : Int) ∧ posO l ((p : Nat) : Int) < posO l ((i : Nat) : Int) ∧ (walkP l).dep ((i : Nat) : Int) = (walkP l).dep ((p : Nat) : Int) + 1 := by
  have hg := pos_get h hi
  rcases h.ord.back _ _ hg with ⟨h0, -⟩ | ⟨j, p, hj, hp, hkp, hd⟩
  · omega
  · have hr := ord_range h (List.mem_of_getElem? hp)
    obtain ⟨pn, rfl⟩ := Int.eq_ofNat_of_zero_le hr.1
    exact ⟨pn, by omega, parents_get l h.kidsIn h.tidy hkp, by rw [pos_of h hp]; exact hj, hd⟩
theorem root_first : (walkP l).ord[0]? = some 0 ∧ (walkP l).dep 0 = 1 ∧ posO l 0 = 0 := by
  have hl := ord_len h
  obtain ⟨x, hx⟩ : ∃ x, (walkP l).ord[0]? = some x := ⟨_, List.getElem?_eq_getElem (by rw [hl]; exact h.some)⟩
  rcases h.ord.back 0 x hx with ⟨rfl, hd⟩ | ⟨j, p, hj, -⟩
  · exact ⟨hx, hd, pos_of h hx⟩
  · omega
end

/-- a cell of a row that is read -/
theorem c_cell {W : World} {A : Option Addr} {m : Nat} {xs : List Int} (h : Kd.C (Kd.int .i64) W A m xs) {i : Nat} {x : Int} (hx : xs[i]? = some x) : ∃ ad, A = some ad ∧ W.cell? (ad.add i) = some (.int .i64 x) := by
  have hl := (List.getElem?_eq_some_iff.1 hx).1
  obtain ⟨ad, hA, hc⟩ := h.2.2 (by have := h.1; omega)
  obtain ⟨cs, h1, hK, h2⟩ := hc i x hx
  obtain rfl : cs = [.int .i64 x] := hK
  have := h2 0 _ rfl
  exact ⟨ad, hA, by rwa [show ((Kd.int .i64).sz) = 1 from rfl, Nat.mul_one] at this⟩
def purflinglaw04_TreeOrders.f (l0 : List Nd) : Option Bool := some true
theorem pure_TreeOrders {P : Prop} : ∀ l0 : List Nd, P → purflinglaw04_TreeOrders.f l0 = some true := fun _ _ => rfl
set_option maxRecDepth 100000 in
set_option maxHeartbeats 8000000 in
theorem purflinglaw04_TreeOrders.calls (A0 : Option Addr) (c0 : Nat) (l0 : List Nd) (r : Bool) (w : World) (hr0 : Kd.C k42 w A0 l0.length l0) (hc0 : l0.length ≤ c0) (h : purflinglaw04_TreeOrders.f l0 = some r) :
    Calls Try.prog 7 #[.slice A0 l0.length c0] w fun e w' => e = .returned (.bool r) ∧ Below w.heap.size w w' := by
  obtain rfl : true = r := Option.some.inj h
  clear h
  obtain ⟨er, her⟩ : ∃ er, er = (checkP (cutL l0)).2 := ⟨_, rfl⟩
  obtain ⟨n, hn⟩ : ∃ n, (cutL l0).length = n := ⟨_, rfl⟩
  have hn150 : n ≤ 150 := by rw [← hn]; exact cut_len150 l0
  have hlk := cut_links l0
  have HSH := Lib.hid (fun W => purflinglaw04_shown.calls true W rfl)
  have HCUT := Lib.hid (fun W (hW : Below w.heap.size w W) => by have := cut_any A0 c0 l0 W (Kd.C_below hr0 hW) hc0; rw [hn] at this; exact this)
  have hq2 : (er == er) = true := by simp
  clear hr0 hc0
  by_cases q : er = 0
  focus
    subst q
    have hOK := (ok_iff (cutL l0)).1 her.symm
    have HTO := Lib.hid (torder_page hn (show tree_Order.f (cutL l0) = some ((walkP (cutL l0)).ord, 0) by unfold tree_Order.f; rw [if_pos hlk, if_pos her.symm]) (show _ = n by rw [ord_len hOK]; exact hn))
    have HTD := Lib.hid (tdepths_page hn (show tree_Depths.f (cutL l0) = some (depthsP (cutL l0), 0) by unfold tree_Depths.f; rw [if_pos hlk, if_pos her.symm]) (show (depthsP (cutL l0)).length = n by unfold depthsP; rw [List.length_map, List.length_range]; exact hn))
    have HTP := Lib.hid (tparents_page hn (show tree_Parents.f (cutL l0) = some (parentsP (cutL l0), 0) by unfold tree_Parents.f; rw [if_pos hlk, if_pos her.symm]) (show (parentsP (cutL l0)).length = n by rw [show (parentsP (cutL l0)).length = _ from parF_len _ _]; exact hn))
    have HOK := Lib.hid hOK
    have hn0 : 0 < n := by rw [← hn]; exact hOK.some
    have HN := Lib.hid hn
    generalize cutL l0 = l at HTO HTD HTP HOK HN HCUT
    have hnn : ((n : Int) != (n : Int)) = false := by simp
    clear her hn hlk hOK
    go_enter Try.func7, Try.ntmps7
    go_upto_region 2 with (go_at_call 10; refine (HSH.out _).mono ?_; rintro e w1 ⟨rfl, hb⟩; have HB := Lib.hid hb; clear hb HSH)
    go_upto_region 3 with (go_at_call 12; refine (HCUT.out _ HB.out).mono ?_; rintro e w2 ⟨A1, c1, rfl, hc1, hC1, hb⟩; have nB := Lib.hid (below_then HB.out HB.out.size hb); have HL := Lib.hid hC1; have HLL := Lib.hid hc1; clear hb hc1 hC1 HB HCUT; have HB := nB; clear nB)
    go_upto_region 4 with (go_at_call 14; refine (HTO.out A1 c1 _ HL.out HLL.out).mono ?_; rintro e w3 ⟨A2, c2, rfl, hl2, hC2, hb⟩; have nB := Lib.hid (below_then HB.out HB.out.size hb); have nL := Lib.hid (Kd.C_below HL.out hb); have HR2 := Lib.hid hC2; clear HB HL hb hC2 HTO; have HB := nB; clear nB; have HL := nL; clear nL)
    go_upto_region 5 with (go_at_call 15; refine (HTD.out A1 c1 _ HL.out HLL.out).mono ?_; rintro e w4 ⟨A3, c3, rfl, hl3, hC3, hb⟩; have nB := Lib.hid (below_then HB.out HB.out.size hb); have nL := Lib.hid (Kd.C_below HL.out hb); have nR2 := Lib.hid (Kd.C_below HR2.out hb); have HR3 := Lib.hid hC3; clear HB HL HR2 hb hC3 HTD; have HB := nB; clear nB; have HL := nL; clear nL; have HR2 := nR2; clear nR2)
    go_upto_region 6 with (go_at_call 16; refine (HTP.out A1 c1 _ HL.out HLL.out).mono ?_; rintro e w5 ⟨A4, c4, rfl, hl4, hC4, hb⟩; have nB := Lib.hid (below_then HB.out HB.out.size hb); have nR2 := Lib.hid (Kd.C_below HR2.out hb); have nR3 := Lib.hid (Kd.C_below HR3.out hb); have HR4 := Lib.hid hC4; clear HB HL HR2 HR3 hb hC4 HTP; have HB := nB; clear nB; have HR2 := nR2; clear nR2; have HR3 := nR3; clear nR3)
    go_upto_region 11 with (((with_reducible refine gate_dst (N := 73) rfl ?_); refine Kd.R_make (Kd.int .i64) (w0 := w5) w5.heap.size 3 rfl (N := 73) rfl 29 _ _ rfl (n : Int) rfl rfl Try.underlying29 (.int .i64 0) 8 info3 rfl (by decide) (by omega) 0 (ok := fun _ => True) (okp := fun _ => True) rfl (fun _ hk => hk) trivial (by omega) (by rw [Int.toNat_natCast]; omega) (Below.refl _ _) (Nat.le_refl _) ?_; intro v1 w6 ho1 hb1 hg1 hat1; rw [Int.toNat_natCast] at ho1; obtain ⟨G, cap, hv, hO1, hO2, -⟩ := Kd.R_form ho1 (by rw [List.length_replicate]; exact hn0); rw [List.length_replicate] at hv; subst hv; have HA := Aside0.mk (show Kd.R (Kd.int .i64) 3 w6 w5.heap.size (fun _ => True) (.slice (some ⟨G, 0, none⟩) n cap) (atF l 0) by rw [atF_zero, HN.out]; exact ho1); have HBW := Aside0.mk hb1; clear ho1 hb1 hat1 hg1 hO2))
    go_wp2
    go_loopw [11] (fun i wr => ∃ j : Nat, j ≤ n ∧ i = .int .i64 j ∧ Aside0 (Kd.R (Kd.int .i64) 3 wr w5.heap.size (fun _ => True) (.slice (some ⟨G, 0, none⟩) n cap) (atF l j)) ∧ Aside0 (Below w5.heap.size w5 wr)) (fun i _ => n - (intOf i).toNat)
    case atStart => exact ⟨0, Nat.zero_le _, rfl, HA, HBW⟩
    case round =>
      obtain ⟨j, hj, rfl, HAj, HBj⟩ := hrel
      clear HA HBW
      by_cases hlt : j < n
      · have hltz : (j : Int) < (n : Int) := by omega
        have hol := ord_len HOK.out
        obtain ⟨x, hx⟩ : ∃ x, (walkP l).ord[j]? = some x := ⟨_, List.getElem?_eq_getElem (by rw [hol, HN.out]; exact hlt)⟩
        have hxr := ord_range HOK.out (List.mem_of_getElem? hx)
        obtain ⟨xn, rfl⟩ := Int.eq_ofNat_of_zero_le hxr.1
        have hxn : xn < n := by have := HN.out; omega
        obtain ⟨ha0, hstep⟩ := atF_step HOK.out hx
        obtain ⟨ad, hA2, y2⟩ := c_cell (Kd.C_below HR2.out HBj.out) hx
        obtain ⟨z0', f0'⟩ := Kd.R_celln 0 HAj.out ((xn : Nat) : Int) (by omega) (by omega)
        have hz : rdOf 0 (atF l j) ((xn : Nat) : Int) = 0 := by unfold rdOf; rw [Int.toNat_natCast, List.getD_eq_getElem?_getD, ha0]; rfl
        rw [hz] at z0'
        have z0 : wr.cell? ⟨G, xn, none⟩ = some (.int .i64 0) := z0'
        have f0 : wr.frozen? ⟨G, xn, none⟩ = false := f0'
        have lG : G < wr.heap.size := World.block_lt_of_cell? _ _ z0
        have HNX := Aside0.mk (show Kd.R (Kd.int .i64) 3 (wr.setCell ⟨G, xn, none⟩ (.int .i64 ((j : Int) + 1))) w5.heap.size (fun _ => True) (.slice (some ⟨G, 0, none⟩) n cap) (atF l (j + 1)) by
          have h := Kd.R_putn HAj.out ((xn : Nat) : Int) ((j : Int) + 1)
          rw [Int.toNat_natCast, ← hstep] at h
          exact h)
        have HBN := Aside0.mk (HBj.out.setCell (p := ⟨G, xn, none⟩) hO1 (.int .i64 ((j : Int) + 1)))
        have hx0 : decide (((xn : Nat) : Int) < 0) = false := decide_eq_false (by omega)
        have hxz : ((xn : Nat) : Int) < (n : Int) := by omega
        have hx1 : decide ((n : Int) ≤ ((xn : Nat) : Int)) = false := decide_eq_false (by omega)
        subst hA2
        clear hol hx hxr ha0 hstep z0' f0' hz HAj
        go_wp2
        go_roundw
        case rel => exact ⟨j + 1, by omega, by go_num, HNX, HBN⟩
        case measure => simp [intOf]; omega
      · have hjn : j = n := by omega
        subst hjn
        have HAn : Aside0 (Kd.R (Kd.int .i64) 3 wr w5.heap.size (fun _ => True) (.slice (some ⟨G, 0, none⟩) j cap) (atF l j)) := HAj
        have HBn : Aside0 (Below w5.heap.size w5 wr) := HBj
        clear HAj HBj
        go_wp2
        go_loopw [12] (fun i wr => ∃ q : Nat, 1 ≤ q ∧ q ≤ j ∧ i = .int .i64 q ∧ Aside0 (Kd.R (Kd.int .i64) 3 wr w5.heap.size (fun _ => True) (.slice (some ⟨G, 0, none⟩) j cap) (atF l j)) ∧ Aside0 (Below w5.heap.size w5 wr)) (fun i _ => j - (intOf i).toNat)
        case atStart => exact ⟨1, Nat.le_refl _, hn0, rfl, HAn, HBn⟩
        case round =>
          obtain ⟨q, hq1, hqj, rfl, HA, HBq⟩ := hrel
          clear HAn HBn
          have cellG : ∀ y : Nat, y < j → wr.cell? ⟨G, y, none⟩ = some (.int .i64 (((posO l ((y : Nat) : Int) : Nat) : Int) + 1)) := fun y hy => by
            obtain ⟨z', -⟩ := Kd.R_celln 0 HA.out ((y : Nat) : Int) (by omega) (by omega)
            have hpl : posO l ((y : Nat) : Int) < j := by
              have h1 := pos_get HOK.out (q := y) (by rw [HN.out]; exact hy)
              have := (List.getElem?_eq_some_iff.1 h1).1
              rw [ord_len HOK.out, HN.out] at this; exact this
            have hz : rdOf 0 (atF l j) ((y : Nat) : Int) = ((posO l ((y : Nat) : Int) : Nat) : Int) + 1 := by unfold rdOf; rw [Int.toNat_natCast, List.getD_eq_getElem?_getD, atF_get (by rw [HN.out]; exact hy), if_pos hpl]; rfl
            rw [hz] at z'
            exact z'
          have cellD : ∀ y : Nat, y < j → ∃ ad, A3 = some ad ∧ wr.cell? (ad.add y) = some (.int .i64 ((walkP l).dep ((y : Nat) : Int))) := fun y hy => c_cell (Kd.C_below HR3.out HBq.out) (depthsP_at l (by rw [HN.out]; exact hy))
          by_cases hlt : q < j
          · have hltz : (q : Int) < (j : Int) := by omega
            obtain ⟨pn, hp1, hp2, hp3, hp4⟩ := parent_of HOK.out (i := q) (by omega) (by rw [HN.out]; exact hlt)
            have hpj : pn < j := by have := HN.out; omega
            obtain ⟨ad4, hA4, y4⟩ := c_cell (Kd.C_below HR4.out HBq.out) hp2
            have z1 := cellG pn hpj
            have z2 := cellG q hlt
            obtain ⟨ad3, hA3, y3⟩ := cellD q hlt
            obtain ⟨ad3', hA3', y5⟩ := cellD pn hpj
            rw [hA3] at hA3'
            injection hA3' with hA3'
            subst hA3'
            have hdeep := HOK.out.deep q (by rw [HN.out]; exact hlt)
            have hpos := HOK.out.ord.pos ((pn : Nat) : Int)
            have lG : G < wr.heap.size := World.block_lt_of_cell? _ _ z1
            clear cellG cellD hp1 hp2
            generalize (walkP l).dep ((q : Nat) : Int) = dq at hp4 y3 hdeep
            generalize (walkP l).dep ((pn : Nat) : Int) = dp at hp4 y5 hpos
            generalize posO l ((q : Nat) : Int) = aq at hp3 z2
            generalize posO l ((pn : Nat) : Int) = ap at hp3 z1
            subst hA4 hA3
            have hd0 : decide (((pn : Nat) : Int) < 0) = false := decide_eq_false (by omega)
            have hd1 : decide ((j : Int) ≤ ((pn : Nat) : Int)) = false := decide_eq_false (by omega)
            have hpz : ((pn : Nat) : Int) < (j : Int) := by omega
            have hd2 : decide ((aq : Int) + 1 ≤ (ap : Int) + 1) = false := decide_eq_false (by omega)
            have hd2' : decide (aq + 1 ≤ ap + 1) = false := decide_eq_false (by omega)
            have hd3 : (dq != dp + 1) = false := by rw [hp4]; simp
            have hd4 : decide (64 < dq) = false := decide_eq_false (by omega)
            have hw1 : IntKind.i64.wrap (dp + 1) = dp + 1 := IntWalk.i64_in _ (by omega)
            have hd5 : ap < aq := by omega
            clear hp3 hp4
            go_wp2
            go_quiet (fail)
            go_wp2
            go_roundw
            case rel => exact ⟨q + 1, by omega, by omega, by go_num, ⟨Kd.R_below HA.out (pw_below_drewN (Below.refl _ _) _)⟩, ⟨pw_below_drewN HBq.out _⟩⟩
            case measure => simp [intOf]; omega
          · have hqe : q = j := by omega
            subst hqe
            have z1 := cellG 0 hn0
            obtain ⟨ad3, hA3, y3⟩ := cellD 0 hn0
            obtain ⟨ad4, hA4, y4⟩ := c_cell (Kd.C_below HR4.out HBq.out) (parents_root l HOK.out.links HOK.out.some)
            obtain ⟨-, hr2, hr3⟩ := root_first HOK.out
            have y3' : wr.cell? (ad3.add 0) = some (.int .i64 1) := by rw [y3]; show some (Value.int .i64 ((walkP l).dep 0)) = _; rw [hr2]
            have z1' : wr.cell? ⟨G, 0, none⟩ = some (.int .i64 1) := by rw [z1]; show some (Value.int .i64 (((posO l 0 : Nat) : Int) + 1)) = _; rw [hr3]; rfl
            have lG : G < wr.heap.size := World.block_lt_of_cell? _ _ z1
            have y4' : wr.cell? ad4 = some (.int .i64 (-1)) := y4
            have y3'' : wr.cell? ad3 = some (.int .i64 1) := y3'
            have hj0 : (0 : Int) < (q : Int) := by omega
            have HBf := Lib.hid (below_then HB.out HB.out.size HBq.out)
            subst hA3 hA4
            clear cellG cellD z1 y3 hr2 hr3
            go_wp2
            go_ret
            exact ⟨rfl, HBf.out⟩
  have HTO := Lib.hid (torder_page hn (show tree_Order.f (cutL l0) = some ([], er) by unfold tree_Order.f; rw [if_pos hlk, if_neg (by rw [← her]; exact q), her]) (m := 0) rfl)
  have HTD := Lib.hid (tdepths_page hn (show tree_Depths.f (cutL l0) = some ([], er) by unfold tree_Depths.f; rw [if_pos hlk, if_neg (by rw [← her]; exact q), her]) (m := 0) rfl)
  have HTP := Lib.hid (tparents_page hn (show tree_Parents.f (cutL l0) = some ([], er) by unfold tree_Parents.f; rw [if_pos hlk, if_neg (by rw [← her]; exact q), her]) (m := 0) rfl)
  have hqb : (er != 0) = true := by simpa using q
  clear her hn hn150 hlk
  go_enter Try.func7, Try.ntmps7
  go_upto_region 2 with (go_at_call 10; refine (HSH.out _).mono ?_; rintro e w1 ⟨rfl, hb⟩; have HB := Lib.hid hb; clear hb HSH)
  go_upto_region 3 with (go_at_call 12; refine (HCUT.out _ HB.out).mono ?_; rintro e w2 ⟨A1, c1, rfl, hc1, hC1, hb⟩; have nB := Lib.hid (below_then HB.out HB.out.size hb); have HL := Lib.hid hC1; have HLL := Lib.hid hc1; clear hb hc1 hC1 HB HCUT; have HB := nB; clear nB)
  go_upto_region 4 with (go_at_call 14; refine (HTO.out A1 c1 _ HL.out HLL.out).mono ?_; rintro e w3 ⟨A2, c2, rfl, hl2, hC2, hb⟩; have nB := Lib.hid (below_then HB.out HB.out.size hb); have nL := Lib.hid (Kd.C_below HL.out hb); clear HB HL hb hC2 HTO; have HB := nB; clear nB; have HL := nL; clear nL)
  go_upto_region 5 with (go_at_call 15; refine (HTD.out A1 c1 _ HL.out HLL.out).mono ?_; rintro e w4 ⟨A3, c3, rfl, hl3, hC3, hb⟩; have nB := Lib.hid (below_then HB.out HB.out.size hb); have nL := Lib.hid (Kd.C_below HL.out hb); clear HB HL hb hC3 HTD; have HB := nB; clear nB; have HL := nL; clear nL)
  go_upto_region 6 with (go_at_call 16; refine (HTP.out A1 c1 _ HL.out HLL.out).mono ?_; rintro e w5 ⟨A4, c4, rfl, hl4, hC4, hb⟩; have nB := Lib.hid (below_then HB.out HB.out.size hb); clear HB HL hb hC4 HTP; have HB := nB; clear nB)
  go_wp2
  go_ret
  exact ⟨rfl, HB.out⟩
end Go.Proofs.Ytmmgdokaapphgaa.K
