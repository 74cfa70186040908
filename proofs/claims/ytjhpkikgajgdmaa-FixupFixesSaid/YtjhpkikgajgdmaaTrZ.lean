/- Layer 4, plain: the reference's functions are the program's. -/
import Derived.Test.YtjhpkikgajgdmaaTrZo
import Derived.Test.YtjhpkikgajgdmaaTrB
import Derived.Test.YtjhpkikgajgdmaaTrPa
import Derived.Test.YtjhpkikgajgdmaaTrI
import Derived.Test.YtjhpkikgajgdmaaK5
import Derived.Test.YtjhpkikgajgdmaaK7
import Derived.Test.YtjhpkikgajgdmaaK8
import Derived.Test.YtjhpkikgajgdmaaK9
import Derived.Test.YtjhpkikgajgdmaaK10
namespace Go.Proofs.Ytjhpkikgajgdmaa.K
open Go.RowKit Go.Proofs.YtjhpkikgajgdmaaW.PrintWords Go.Proofs.YtjhpkikgajgdmaaW.PrintLast Go.Proofs.YtjhpkikgajgdmaaW.PrintMore
set_option linter.unusedVariables false
set_option linter.unusedSimpArgs false
/-- the reference's reached: what is met, and in which order -/
structure RchI (l : List Nd) (m : List Bool) (li : List Int) : Prop where
  len : m.length = l.length
  rng : ∀ x ∈ li, 0 ≤ x ∧ x < (l.length : Int) ∧ Reach l x
  all : ∀ i : Nat, m[i]? = some true → ((i : Nat) : Int) ∈ li
  cnt : li.length + m.count false = l.length
  zero : (0 : Int) ∈ li
theorem count_set_true : ∀ (m : List Bool) (i : Nat), m[i]? = some false → (m.set i true).count false + 1 = m.count false
  | [], i, h => by simp at h
  | b :: m, 0, h => by
    have : b = false := by simpa using h
    subst this
    simp
  | b :: m, i + 1, h => by
    have h' : m[i]? = some false := by simpa using h
    have := count_set_true m i h'
    rw [List.set_cons_succ, List.count_cons, List.count_cons]
    omega
theorem RchI.add {l : List Nd} {m : List Bool} {li : List Int} (h : RchI l m li) {y : Nat} (hy : m[y]? = some false) (hr : Reach l (y : Int)) : RchI l (m.set y true) (li ++ [(y : Int)]) := by
  have hyl : y < m.length := (List.getElem?_eq_some_iff.1 hy).1
  refine ⟨by rw [List.length_set]; exact h.len, fun x hx => ?_, fun i hi => ?_, ?_, List.mem_append_left _ h.zero⟩
  · rcases List.mem_append.1 hx with hx | hx
    · exact h.rng x hx
    · rw [List.mem_singleton.1 hx]
      exact ⟨by omega, by have := h.len; omega, hr⟩
  · by_cases e : i = y
    · subst e; simp
    · rw [List.getElem?_set_ne (by omega)] at hi
      exact List.mem_append_left _ (h.all i hi)
  · rw [List.length_append, List.length_singleton]
    have := count_set_true m y hy
    have := h.cnt
    omega
theorem set_true_mono {m : List Bool} {y i : Nat} (h : m[i]? = some true) : (m.set y true)[i]? = some true := by
  by_cases e : y = i
  · subst e; rw [List.getElem?_set_self (List.getElem?_eq_some_iff.1 h).1]
  · rw [List.getElem?_set_ne e]; exact h
def ClosedTo (l : List Nd) (m : List Bool) (li : List Int) (i : Nat) : Prop := ∀ (j : Nat) (x : Int), j < i → li[j]? = some x → ∀ y ∈ kidsOf l x, m[y.toNat]? = some true
theorem reached_fin (l : List Nd) (hk : KidsIn l) (hn : 0 < l.length) (a : Nat) (ha : a < l.length) (i : Nat) (m : List Bool) (li : List Int) (hil : i = li.length) (hR : RchI l m li) (hm : ∀ (j : Nat) (x : Int), li[j]? = some x → m[x.toNat]? = some true) (hc : ClosedTo l m li i) :
    Ev (fun K => purflingref04_reached.l0 K l (a : Int) m li (i : Int)) (decide (0 < (walkP l).dep (a : Int))) := by
  have hw := walk_ok l hk hn
  have hal : a < m.length := by rw [hR.len]; exact ha
  obtain ⟨b, hb⟩ : ∃ b, m[a]? = some b := ⟨_, List.getElem?_eq_getElem hal⟩
  have hrd : rdOf false m (a : Int) = b := by unfold rdOf; rw [Int.toNat_natCast, List.getD_eq_getElem?_getD, hb]; rfl
  have hbr : b = decide (0 < (walkP l).dep (a : Int)) := by
    rw [Bool.eq_iff_iff, decide_eq_true_eq, hw.reach]
    constructor
    · intro h; subst h
      exact (hR.rng _ (hR.all a hb)).2.2
    · intro h
      have := h (fun x => 0 ≤ x ∧ m[x.toNat]? = some true) ⟨by omega, by
        obtain ⟨j, hj⟩ := List.getElem?_of_mem hR.zero
        exact hm j 0 hj⟩ (fun p k ⟨hp0, hp⟩ hkp => by
        obtain ⟨q, rfl⟩ := Int.eq_ofNat_of_zero_le hp0
        rw [Int.toNat_natCast] at hp
        obtain ⟨j, hj⟩ := List.getElem?_of_mem (hR.all q hp)
        have hjl := (List.getElem?_eq_some_iff.1 hj).1
        exact ⟨(kid_range hk hkp).1, hc j _ (by omega) hj k hkp⟩)
      have h2 := this.2
      rw [Int.toNat_natCast, hb] at h2
      exact Option.some.inj h2
  refine Ev.up (Ev.const _) (fun K => ?_)
  unfold purflingref04_reached.l0
  rw [if_neg (by omega), if_pos (by omega), if_pos (by omega), hrd, hbr]
theorem reached_ev (l : List Nd) (hk : KidsIn l) (hn : 0 < l.length) (hl : l.length ≤ 100000) (hK : ∀ n ∈ l, n.f1.length ≤ 1000000000) (a : Nat) (ha : a < l.length) :
    Ev (fun K => purflingref04_reached.f K l (a : Int)) (decide (0 < (walkP l).dep (a : Int))) := by
  have key : ∀ (e i : Nat) (m : List Bool) (li : List Int), e + i = l.length → RchI l m li → i ≤ li.length → (∀ (j : Nat) (x : Int), li[j]? = some x → m[x.toNat]? = some true) → ClosedTo l m li i →
      Ev (fun K => purflingref04_reached.l0 K l (a : Int) m li (i : Int)) (decide (0 < (walkP l).dep (a : Int))) := by
    intro e
    induction e with
    | zero =>
      intro i m li he hR hi hm hc
      have hil : i = li.length := by have := hR.cnt; omega
      exact reached_fin l hk hn a ha i m li hil hR hm hc
    | succ e ih =>
      intro i m li he hR hi hm hc
      by_cases hil : i = li.length
      · exact reached_fin l hk hn a ha i m li hil hR hm hc
      · have hil' : i < li.length := by omega
        obtain ⟨x, hx⟩ : ∃ x, li[i]? = some x := ⟨_, List.getElem?_eq_getElem hil'⟩
        have hxr := hR.rng x (List.mem_of_getElem? hx)
        obtain ⟨q, rfl⟩ := Int.eq_ofNat_of_zero_le hxr.1
        have hq : q < l.length := by omega
        obtain ⟨nd, hnd⟩ : ∃ nd, l[q]? = some nd := ⟨_, List.getElem?_eq_getElem hq⟩
        have hkq : kidsOf l (q : Int) = nd.f1 := kidsOf_nat hnd
        have hkl := hK nd (List.mem_of_getElem? hnd)
        have inner : ∀ (d j : Nat) (m : List Bool) (li : List Int), j + d = nd.f1.length → RchI l m li → li[i]? = some (q : Int) → (∀ (j : Nat) (x : Int), li[j]? = some x → m[x.toNat]? = some true) → ClosedTo l m li i → (∀ (p : Nat) (y : Int), p < j → nd.f1[p]? = some y → m[y.toNat]? = some true) →
            Ev (fun K => purflingref04_reached.l1 K l (a : Int) m li (i : Int) (j : Int)) (decide (0 < (walkP l).dep (a : Int))) := by
          intro d
          induction d with
          | zero =>
            intro j m li hj hR hx hm hc hdone
            have hil : i < li.length := (List.getElem?_eq_some_iff.1 hx).1
            have h := ih (i + 1) m li (by omega) hR (by omega) hm (fun p x hp hpx y hy => by
              by_cases e : p = i
              · subst e
                rw [hx] at hpx
                obtain rfl := Option.some.inj hpx
                rw [hkq] at hy
                obtain ⟨p, hp⟩ := List.getElem?_of_mem hy
                exact hdone p y (by have := (List.getElem?_eq_some_iff.1 hp).1; omega) hp
              · exact hc p x (by omega) hpx y hy)
            refine Ev.up h (fun K => ?_)
            conv => lhs; unfold purflingref04_reached.l1
            rw [if_pos (by omega), if_pos (by omega), rd_at hx, if_pos (by omega), if_pos (by omega), rdNode hnd, if_neg (by omega), wrap_up (by have := hR.cnt; omega)]
          | succ d ihd =>
            intro j m li hj hR hx hm hc hdone
            have hil : i < li.length := (List.getElem?_eq_some_iff.1 hx).1
            have hjl : j < nd.f1.length := by omega
            obtain ⟨y, hy⟩ : ∃ y, nd.f1[j]? = some y := ⟨_, List.getElem?_eq_getElem hjl⟩
            have hyk : y ∈ kidsOf l (q : Int) := by rw [hkq]; exact List.mem_of_getElem? hy
            have hyr := kid_range hk hyk
            obtain ⟨z, rfl⟩ := Int.eq_ofNat_of_zero_le hyr.1
            have hz : z < m.length := by rw [hR.len]; omega
            obtain ⟨b, hb⟩ : ∃ b, m[z]? = some b := ⟨_, List.getElem?_eq_getElem hz⟩
            have hrd : rdOf false m (z : Int) = b := by unfold rdOf; rw [Int.toNat_natCast, List.getD_eq_getElem?_getD, hb]; rfl
            have hRx : Reach l (q : Int) := (hR.rng _ (List.mem_of_getElem? hx)).2.2
            cases b with
            | true =>
              have h := ihd (j + 1) m li (by omega) hR hx hm hc (fun p y hp hpy => by
                by_cases e : p = j
                · subst e; rw [hy] at hpy; obtain rfl := Option.some.inj hpy; exact hb
                · exact hdone p y (by omega) hpy)
              refine Ev.up h (fun K => ?_)
              conv => lhs; unfold purflingref04_reached.l1
              rw [if_pos (by omega), if_pos (by omega), rd_at hx, if_pos (by omega), if_pos (by omega), rdNode hnd, if_pos (by omega), if_pos (by omega), rd_at hy, if_pos (by omega), if_pos (by omega), hrd, if_pos rfl, wrap_up (by omega)]
            | false =>
              have h := ihd (j + 1) (m.set z true) (li ++ [((z : Nat) : Int)]) (by omega) (hR.add hb (hRx.kid hyk)) (by rw [List.getElem?_append_left hil]; exact hx) (fun p x hp => by
                by_cases e : p < li.length
                · rw [List.getElem?_append_left e] at hp; exact set_true_mono (hm p x hp)
                · rw [List.getElem?_append_right (by omega)] at hp
                  have hp0 : p - li.length = 0 := by
                    have := (List.getElem?_eq_some_iff.1 hp).1
                    simpa using this
                  rw [hp0] at hp
                  have : ((z : Nat) : Int) = x := by simpa using hp
                  rw [← this, Int.toNat_natCast, List.getElem?_set_self hz]) (fun p x hp hpx y hy => by
                rw [List.getElem?_append_left (by omega)] at hpx
                exact set_true_mono (hc p x hp hpx y hy)) (fun p y hp hpy => by
                by_cases e : p = j
                · subst e; rw [hy] at hpy; obtain rfl := Option.some.inj hpy; rw [Int.toNat_natCast, List.getElem?_set_self hz]
                · exact set_true_mono (hdone p y (by omega) hpy))
              refine Ev.up h (fun K => ?_)
              conv => lhs; unfold purflingref04_reached.l1
              rw [if_pos (by omega), if_pos (by omega), rd_at hx, if_pos (by omega), if_pos (by omega), rdNode hnd, if_pos (by omega), if_pos (by omega), rd_at hy, if_pos (by omega), if_pos (by omega), hrd, if_neg (by decide), if_pos (by have := hR.cnt; omega), wrap_up (by omega), Int.toNat_natCast]
        have h := inner nd.f1.length 0 m li (by omega) hR hx hm hc (fun p y hp => absurd hp (Nat.not_lt_zero _))
        refine Ev.up h (fun K => ?_)
        conv => lhs; unfold purflingref04_reached.l0
        rw [if_pos (by omega)]
        rfl
  have h0 := key l.length 0 ((List.replicate l.length false).set 0 true) [0] (by omega)
    ⟨by rw [List.length_set, List.length_replicate], fun x hx => by rw [List.mem_singleton.1 hx]; exact ⟨by omega, by omega, Reach.root l⟩, fun i hi => by
      by_cases e : i = 0
      · subst e; simp
      · rw [List.getElem?_set_ne (by omega), List.getElem?_replicate] at hi
        split at hi <;> simp at hi, by
      have := count_set_true (List.replicate l.length false) 0 (by rw [List.getElem?_replicate, if_pos hn])
      rw [List.count_replicate_self] at this
      simp only [List.length_singleton]; omega, by simp⟩ (by simp) (fun j x hx => by
      have : j = 0 := by have := (List.getElem?_eq_some_iff.1 hx).1; simpa using this
      subst this
      have hx0 : (0 : Int) = x := by simpa using hx
      subst hx0
      exact List.getElem?_set_self (by rw [List.length_replicate]; exact hn)) (fun j x hj => absurd hj (Nat.not_lt_zero _))
  refine Ev.congr h0 (fun K => ?_)
  unfold purflingref04_reached.f
  rw [if_pos (by omega), if_pos (by omega), Option.bind_some, if_pos (by rw [List.length_replicate]; omega)]
  rfl
theorem parF_step (n i : Nat) (pre : List (Nat × Int)) (row : List Int) (j : Nat) (y : Int) (hy : row[j]? = some y) :
    parF n (pre ++ (row.take (j + 1)).map (fun c => (i, c))) = (parF n (pre ++ (row.take j).map (fun c => (i, c)))).set y.toNat ((i : Nat) : Int) := by
  rw [List.take_add_one, hy, List.map_append, ← List.append_assoc]
  exact parF_snoc n _ (i, y)
theorem parents_ev (l : List Nd) (hk : KidsIn l) (hn : 0 < l.length) (hl : l.length ≤ 100000) (hK : ∀ n ∈ l, n.f1.length ≤ 1000000000) : Ev (fun K => purflingref04_parents.f K l) (parentsP l) := by
  have key : ∀ (e i : Nat), i + e = l.length → Ev (fun K => purflingref04_parents.l0 K l (parF l.length (cellsFrom 0 ((l.map (fun n => n.f1)).take i))) (i : Int)) (parentsP l) := by
    intro e
    induction e with
    | zero =>
      intro i hi
      refine Ev.up (Ev.const _) (fun K => ?_)
      unfold purflingref04_parents.l0
      rw [if_neg (by omega), List.take_of_length_le (by rw [List.length_map]; omega)]
      rfl
    | succ e ih =>
      intro i hi
      have hil : i < l.length := by omega
      obtain ⟨nd, hnd⟩ : ∃ nd, l[i]? = some nd := ⟨_, List.getElem?_eq_getElem hil⟩
      have hkl := hK nd (List.mem_of_getElem? hnd)
      have hrow : (l.map (fun n => n.f1))[i]? = some nd.f1 := by rw [List.getElem?_map, hnd]; rfl
      have inner : ∀ (d j : Nat), j + d = nd.f1.length → Ev (fun K => purflingref04_parents.l1 K l (parF l.length (cellsFrom 0 ((l.map (fun n => n.f1)).take i) ++ (nd.f1.take j).map (fun c => (i, c)))) (i : Int) (j : Int)) (parentsP l) := by
        intro d
        induction d with
        | zero =>
          intro j hj
          have h := ih (i + 1) (by omega)
          rw [cells_take _ 0 i _ hrow, Nat.zero_add] at h
          rw [show nd.f1.take j = nd.f1 from List.take_of_length_le (by omega)]
          refine Ev.up h (fun K => ?_)
          conv => lhs; unfold purflingref04_parents.l1
          rw [if_pos (by omega), if_pos (by omega), rdNode hnd, if_neg (by omega), wrap_up (by omega)]
        | succ d ihd =>
          intro j hj
          obtain ⟨y, hy⟩ : ∃ y, nd.f1[j]? = some y := ⟨_, List.getElem?_eq_getElem (by omega)⟩
          have hyr := kid_range hk (by rw [kidsOf_nat hnd]; exact List.mem_of_getElem? hy : y ∈ kidsOf l (i : Int))
          have h := ihd (j + 1) (by omega)
          rw [parF_step _ _ _ _ _ _ hy] at h
          refine Ev.up h (fun K => ?_)
          conv => lhs; unfold purflingref04_parents.l1
          rw [if_pos (by omega), if_pos (by omega), rdNode hnd, if_pos (by omega), if_pos (by omega), rd_at hy, if_pos (by omega), if_pos (by rw [parF_len]; omega), wrap_up (by omega)]
      have h := inner nd.f1.length 0 (by omega)
      rw [List.take_zero, List.map_nil, List.append_nil] at h
      refine Ev.up h (fun K => ?_)
      conv => lhs; unfold purflingref04_parents.l0
      rw [if_pos (by omega)]
      rfl
  have h := key l.length 0 (by omega)
  refine Ev.congr h (fun K => ?_)
  unfold purflingref04_parents.f
  rw [if_pos (by omega), if_pos (by omega), Option.bind_some, if_pos (by rw [List.length_replicate]; omega)]
  rfl
theorem fold_set_get (x : Nat) (r : Int) : ∀ (L : List (Nat × Int)) (out : List Int), x < out.length → (∀ y ∈ L, y.2.toNat = x → ((y.1 : Nat) : Int) = r) → ((∃ y ∈ L, y.2.toNat = x) ∨ out[x]? = some r) →
    (L.foldl (fun out x => out.set x.2.toNat ((x.1 : Nat) : Int)) out)[x]? = some r
  | [], out, hx, hu, h => by
    rcases h with ⟨y, hy, -⟩ | h
    · simp at hy
    · exact h
  | y :: L, out, hx, hu, h => by
    rw [List.foldl_cons]
    refine fold_set_get x r L _ (by rw [List.length_set]; exact hx) (fun z hz => hu z (List.mem_cons_of_mem _ hz)) ?_
    by_cases e : y.2.toNat = x
    · right
      rw [e, List.getElem?_set_self hx, hu y (List.mem_cons_self ..) e]
    · rw [List.getElem?_set_ne e]
      rcases h with ⟨z, hz, hzx⟩ | h
      · rcases List.mem_cons.1 hz with rfl | hz
        · exact absurd hzx e
        · exact .inl ⟨z, hz, hzx⟩
      · exact .inr h
/-- whose kid a place is -/
theorem parents_get (l : List Nd) (hk : KidsIn l) (ht : Tidy l) {p x : Nat} (hx : ((x : Nat) : Int) ∈ kidsOf l ((p : Nat) : Int)) : (parentsP l)[x]? = some ((p : Nat) : Int) := by
  have hr := kid_range hk hx
  have hpl : p < l.length := by
    rcases Nat.lt_or_ge p l.length with h | h
    · exact h
    · rw [kidsOf_far (by omega)] at hx; simp at hx
  unfold parentsP parF
  refine fold_set_get x _ _ _ (by rw [List.length_set, List.length_replicate]; omega) (fun y hy hyx => ?_) (.inl ?_)
  · obtain ⟨r, k⟩ := y
    obtain ⟨z, hz, hkz⟩ := mem_links.1 hy
    have hkr : k ∈ kidsOf l ((r : Nat) : Int) := by rw [kidsOf_nat hz]; exact hkz
    have := kid_range hk hkr
    have hkx : k = ((x : Nat) : Int) := by have : k.toNat = x := hyx; omega
    subst hkx
    exact ht.one _ _ _ (by omega) (by omega) hkr hx
  · have hz : l[p]? = some l[p] := List.getElem?_eq_getElem hpl
    rw [kidsOf_nat hz] at hx
    exact ⟨(p, ((x : Nat) : Int)), mem_links.2 ⟨_, hz, hx⟩, by simp⟩
theorem depths_ev (l : List Nd) (hk : KidsIn l) (ht : Tidy l) (hn : 0 < l.length) (hl : l.length ≤ 100000) (hK : ∀ n ∈ l, n.f1.length ≤ 1000000000) (hmet : ∀ i : Nat, i < l.length → 0 < (walkP l).dep i) :
    Ev (fun K => purflingref04_depths.f K l) (depthsP l) := by
  have hw := walk_ok l hk hn
  have hrange : ∀ x ∈ (walkP l).ord, 0 ≤ x ∧ x < (l.length : Int) := fun x hx => by
    obtain ⟨i, hi⟩ := List.getElem?_of_mem hx
    rcases hw.back i x hi with ⟨rfl, -⟩ | ⟨j, p, -, -, hkp, -⟩
    · omega
    · exact kid_range hk hkp
  have hole : (walkP l).ord.length ≤ l.length := by have := (walk_good l hk hn).2; omega
  have key : ∀ (e i : Nat) (x3 : List Int), i + e = (walkP l).ord.length → x3.length = l.length → (∀ (j : Nat) (x : Int), j < i → (walkP l).ord[j]? = some x → x3[x.toNat]? = some ((walkP l).dep x) ∧ (walkP l).dep x ≤ j + 1) →
      Ev (fun K => purflingref04_depths.l0 K x3 (parentsP l) (walkP l).ord (i : Int)) (depthsP l) := by
    intro e
    induction e with
    | zero =>
      intro i x3 hi hx3 hd
      have hfin : x3 = depthsP l := by
        apply List.ext_getElem?
        intro q
        unfold depthsP
        by_cases hq : q < l.length
        · obtain ⟨j, hj⟩ := List.getElem?_of_mem ((hw.mem _).2 (hmet q hq))
          have := (hd j _ (by have := (List.getElem?_eq_some_iff.1 hj).1; omega) hj).1
          rw [Int.toNat_natCast] at this
          rw [this, List.getElem?_map, List.getElem?_range hq]; rfl
        · rw [List.getElem?_eq_none (by omega), List.getElem?_eq_none (by rw [List.length_map, List.length_range]; omega)]
      refine Ev.up (Ev.const _) (fun K => ?_)
      unfold purflingref04_depths.l0
      rw [if_neg (by omega), hfin]
    | succ e ih =>
      intro i x3 hi hx3 hd
      have hil : i < (walkP l).ord.length := by omega
      obtain ⟨x, hx⟩ : ∃ x, (walkP l).ord[i]? = some x := ⟨_, List.getElem?_eq_getElem hil⟩
      have hxr := hrange x (List.mem_of_getElem? hx)
      obtain ⟨q, rfl⟩ := Int.eq_ofNat_of_zero_le hxr.1
      have step : ∀ v : Int, v = (walkP l).dep (q : Int) → v ≤ i + 1 → Ev (fun K => purflingref04_depths.l0 K (x3.set q v) (parentsP l) (walkP l).ord ((i + 1 : Nat) : Int)) (depthsP l) := fun v hv hvi =>
        ih (i + 1) (x3.set q v) (by omega) (by rw [List.length_set]; exact hx3) (fun j y hj hy => by
          by_cases e : j = i
          · subst e
            rw [hx] at hy; obtain rfl := Option.some.inj hy
            rw [Int.toNat_natCast, List.getElem?_set_self (by omega), hv]
            exact ⟨rfl, by omega⟩
          · have hne : q ≠ y.toNat := fun h => by
              have hyr := hrange y (List.mem_of_getElem? hy)
              have hyq : y = ((q : Nat) : Int) := by omega
              subst hyq
              have := (List.getElem?_inj (i := i) (j := j) hil hw.nodup).1 (hx.trans hy.symm)
              omega
            rw [List.getElem?_set_ne hne]
            exact hd j y (by omega) hy)
      by_cases h0 : q = 0
      · subst h0
        rcases hw.back i _ hx with ⟨-, hd1⟩ | ⟨j, p, -, hp, hkp, -⟩
        · refine Ev.up (step 1 hd1.symm (by omega)) (fun K => ?_)
          conv => lhs; unfold purflingref04_depths.l0
          rw [if_pos (by omega), if_pos (by omega), rd_at hx, if_pos (by omega), if_pos (by omega), wrap_up (by omega)]
          rfl
        · exact absurd hkp (ht.root p (hrange p (List.mem_of_getElem? hp)).1)
      · rcases hw.back i _ hx with ⟨h, -⟩ | ⟨j, p, hj, hp, hkp, hdp⟩
        · exact absurd h (by omega)
        · have hpr := hrange p (List.mem_of_getElem? hp)
          obtain ⟨pn, rfl⟩ := Int.eq_ofNat_of_zero_le hpr.1
          have hpar := parents_get l hk ht hkp
          have hplen : (parentsP l).length = l.length := parF_len _ _
          obtain ⟨hx3p, hdb⟩ := hd j _ hj hp
          rw [Int.toNat_natCast] at hx3p
          have hpos := hw.pos ((pn : Nat) : Int)
          refine Ev.up (step ((walkP l).dep ((pn : Nat) : Int) + 1) hdp.symm (by omega)) (fun K => ?_)
          conv => lhs; unfold purflingref04_depths.l0
          rw [if_pos (by omega), if_pos (by omega), rd_at hx, if_neg (by omega), if_pos (by omega), if_pos (by omega), rd_at hpar, if_pos (by omega), if_pos (by omega), if_pos (by omega), rd_at hx3p, wrap_up (by omega), Int.toNat_natCast]
          congr 2
          unfold wrap64; omega
  have h := key (walkP l).ord.length 0 (List.replicate l.length 0) (by omega) List.length_replicate (fun j x hj => absurd hj (Nat.not_lt_zero _))
  have h2 := Ev.bind (g := fun K p => (purflingref04_order.f K l 0 ([] : List Int)).bind fun t161 => (purflingref04_depths.l0 K (List.replicate ((l.length : Int) : Int).toNat 0) p t161 0)) (parents_ev l hk hn hl hK) (Ev.bind (g := fun K t161 => purflingref04_depths.l0 K (List.replicate ((l.length : Int) : Int).toNat 0) (parentsP l) t161 0) (order_walk l hk ht hn hl hK) h)
  refine Ev.congr h2 (fun K => ?_)
  unfold purflingref04_depths.f
  rw [if_pos (by omega), if_pos (by omega)]
end Go.Proofs.Ytjhpkikgajgdmaa.K
namespace Go.Proofs.Ytjhpkikgajgdmaa.K
open Go.RowKit Go.Proofs.YtjhpkikgajgdmaaW.PrintWords Go.Proofs.YtjhpkikgajgdmaaW.PrintLast Go.Proofs.YtjhpkikgajgdmaaW.PrintMore
set_option linter.unusedVariables false
set_option linter.unusedSimpArgs false
/-- the sizes of a page that is looked at -/
structure SizeOK (l : List Nd) : Prop where
  some : 0 < l.length
  many : l.length ≤ 100000
  kids : ∀ n ∈ l, n.f1.length ≤ 1000000000
  links : (linksOf l).length ≤ 1000000000
theorem depthsP_at (l : List Nd) {i : Nat} (hi : i < l.length) : (depthsP l)[i]? = some ((walkP l).dep (i : Int)) := by
  unfold depthsP
  rw [List.getElem?_map, List.getElem?_range hi]; rfl
theorem rcheck_l6 (l : List Nd) (hs : SizeOK l) : ∀ (e i : Nat), i + e = l.length → (∀ q, q < i → deepB l q = false) → Ev (fun K => purflingref04_Check.l6 K l (depthsP l) (i : Int)) (checkD l)
  | 0, i, hi, h => by
    refine Ev.up (Ev.const _) (fun K => ?_)
    unfold purflingref04_Check.l6 checkD
    rw [if_neg (by omega), find_range_miss (fun j hj => h j (by omega))]
  | e + 1, i, hi, h => by
    have hil : i < l.length := by omega
    have hlen : (depthsP l).length = l.length := by unfold depthsP; rw [List.length_map, List.length_range]
    have hrd := rd_at (depthsP_at l hil)
    cases q : deepB l i with
    | true =>
      have hd : (walkP l).dep (i : Int) > 64 := by unfold deepB at q; simpa using q
      refine Ev.up (Ev.const _) (fun K => ?_)
      unfold purflingref04_Check.l6 checkD
      rw [if_pos (by omega), if_pos (by omega), if_pos (by omega), hrd, if_pos hd, find_range_hit hil q h]
    | false =>
      have hd : ¬ (walkP l).dep (i : Int) > 64 := by unfold deepB at q; simpa using q
      have := rcheck_l6 l hs e (i + 1) (by omega) (fun p hp => by
        by_cases e : p = i
        · subst e; exact q
        · exact h p (by omega))
      refine Ev.up this (fun K => ?_)
      conv => lhs; unfold purflingref04_Check.l6
      rw [if_pos (by omega), if_pos (by omega), if_pos (by omega), hrd, if_neg hd, wrap_up (by have := hs.many; omega)]
/-- the reference's tables -/
structure TabOK (l : List Nd) (tm : List Int) (mt : List Bool) (bad : Bool) : Prop where
  tl : tm.length = l.length
  tg : ∀ i : Nat, i < l.length → tm[i]? = some (cntL (linksOf l) i)
  ml : mt.length = l.length
  mg : bad = false → ∀ i : Nat, i < l.length → mt[i]? = some (decide (0 < (walkP l).dep i))
theorem rcheck_l5 (l : List Nd) (hs : SizeOK l) (hl : ∀ x ∈ linksOf l, badLink l.length x = false) (tm : List Int) (mt : List Bool) (bad : Bool) (hT : TabOK l tm mt bad) :
    ∀ (e i : Nat), i + e = l.length → 1 ≤ i → (∀ q, q < i → cycB l q = false) → Ev (fun K => purflingref04_Check.l5 K l tm mt bad (i : Int)) (checkC l)
  | 0, i, hi, h1, h => by
    have hk := kidsIn_links hl
    have hw := walk_ok l hk hs.some
    have hc : ∀ j : Nat, 0 < j → j < l.length → cntL (linksOf l) j = 1 ∧ 0 < (walkP l).dep j := fun j hj hj2 => by
      have := h j (by omega)
      unfold cycB at this
      simp only [Bool.and_eq_false_iff, Bool.or_eq_false_iff, decide_eq_false_iff_not, Decidable.not_not] at this
      have hp := hw.pos j
      rcases this with h | h
      · exact absurd hj h
      · exact ⟨h.1, by have := h.2; omega⟩
    have ht := tidy_of hl (fun j hj hj2 => (hc j hj hj2).1)
    have hm : ∀ j : Nat, j < l.length → 0 < (walkP l).dep j := fun j hj => by
      by_cases e : j = 0
      · subst e; exact (hw.reach 0).2 (Reach.root l)
      · exact (hc j (by omega) hj).2
    have h2 := Ev.bind (g := fun K d => purflingref04_Check.l6 K l d 0) (depths_ev l hk ht hs.some hs.many hs.kids hm) (rcheck_l6 l hs l.length 0 (by omega) (fun q hq => absurd hq (Nat.not_lt_zero _)))
    have hC : checkC l = checkD l := by unfold checkC; rw [find_range_miss (fun j hj => h j (by omega))]
    rw [hC]
    refine Ev.up h2 (fun K => ?_)
    conv => lhs; unfold purflingref04_Check.l5
    rw [if_neg (by omega)]
  | e + 1, i, hi, h1, h => by
    have hil : i < l.length := by omega
    have hk := kidsIn_links hl
    have hrd := rd_at (hT.tg i hil)
    have hpos := (walk_ok l hk hs.some).pos i
    have next : cycB l i = false → Ev (fun K => purflingref04_Check.l5 K l tm mt bad ((i + 1 : Nat) : Int)) (checkC l) := fun q => rcheck_l5 l hs hl tm mt bad hT e (i + 1) (by omega) (by omega) (fun p hp => by
      by_cases e : p = i
      · subst e; exact q
      · exact h p (by omega))
    have hit : cycB l i = true → checkC l = ((i : Int), 41) := fun q => by unfold checkC; rw [find_range_hit hil q h]
    have hcy : cycB l i = (decide (cntL (linksOf l) i ≠ 1) || decide ((walkP l).dep i = 0)) := by unfold cycB; rw [decide_eq_true (show 0 < i by omega), Bool.true_and]
    by_cases h1c : cntL (linksOf l) i = 1
    · have hcy2 : cycB l i = decide ((walkP l).dep i = 0) := by rw [hcy, h1c]; simp
      cases bad with
      | true =>
        have hr := reached_ev l hk hs.some hs.many hs.kids i hil
        by_cases hd : 0 < (walkP l).dep (i : Int)
        · rw [decide_eq_true hd] at hr
          have h2 := Ev.bind (g := fun K t => if t = true then (purflingref04_Check.l5 K l tm mt true ((i + 1 : Nat) : Int)) else (some ((i : Int), 41))) hr (Ev.congr (next (by rw [hcy2]; exact decide_eq_false (by omega))) (fun K => by rw [if_pos rfl]))
          refine Ev.up h2 (fun K => ?_)
          conv => lhs; unfold purflingref04_Check.l5
          rw [if_pos (by omega), if_pos (by omega), if_pos (by have := hT.tl; omega), hrd, if_pos h1c, if_pos rfl, wrap_up (by have := hs.many; omega)]
        · rw [decide_eq_false hd] at hr
          rw [hit (by rw [hcy2]; exact decide_eq_true (by omega))]
          have h2 := Ev.bind (g := fun K t => if t = true then (purflingref04_Check.l5 K l tm mt true ((i + 1 : Nat) : Int)) else (some ((i : Int), (41 : Int)))) hr (Ev.congr (Ev.const ((i : Int), (41 : Int))) (fun K => by rw [if_neg (by decide)]))
          refine Ev.up h2 (fun K => ?_)
          conv => lhs; unfold purflingref04_Check.l5
          rw [if_pos (by omega), if_pos (by omega), if_pos (by have := hT.tl; omega), hrd, if_pos h1c, if_pos rfl, wrap_up (by have := hs.many; omega)]
      | false =>
        have hm : rdOf false mt (i : Int) = decide (0 < (walkP l).dep (i : Int)) := by unfold rdOf; rw [Int.toNat_natCast, List.getD_eq_getElem?_getD, hT.mg rfl i hil]; rfl
        by_cases hd : 0 < (walkP l).dep (i : Int)
        · refine Ev.up (next (by rw [hcy2]; exact decide_eq_false (by omega))) (fun K => ?_)
          conv => lhs; unfold purflingref04_Check.l5
          rw [if_pos (by omega), if_pos (by omega), if_pos (by have := hT.tl; omega), hrd, if_pos h1c, if_neg (by decide), if_pos (by have := hT.ml; omega), hm, if_pos (decide_eq_true hd), wrap_up (by have := hs.many; omega)]
        · rw [hit (by rw [hcy2]; exact decide_eq_true (by omega))]
          refine Ev.up (Ev.const _) (fun K => ?_)
          unfold purflingref04_Check.l5
          rw [if_pos (by omega), if_pos (by omega), if_pos (by have := hT.tl; omega), hrd, if_pos h1c, if_neg (by decide), if_pos (by have := hT.ml; omega), hm, if_neg (by rw [decide_eq_false hd]; decide)]
    · rw [hit (by rw [hcy, decide_eq_true h1c]; rfl)]
      refine Ev.up (Ev.const _) (fun K => ?_)
      unfold purflingref04_Check.l5
      rw [if_pos (by omega), if_pos (by omega), if_pos (by have := hT.tl; omega), hrd, if_neg h1c]
theorem rcheck_j6 (l : List Nd) (hs : SizeOK l) (hl : ∀ x ∈ linksOf l, badLink l.length x = false) (tm : List Int) (mt : List Bool) (bad : Bool) (hT : TabOK l tm mt bad) : Ev (fun K => purflingref04_Check.j6 K l tm mt bad) (checkC l) :=
  Ev.up (rcheck_l5 l hs hl tm mt bad hT (l.length - 1) 1 (by have := hs.some; omega) (Nat.le_refl _) (fun q hq => by
    have : q = 0 := by omega
    subst this; rfl)) (fun K => rfl)
theorem rcheck_l4 (l : List Nd) (hs : SizeOK l) (hl : ∀ x ∈ linksOf l, badLink l.length x = false) (tm : List Int) (htl : tm.length = l.length) (htg : ∀ i : Nat, i < l.length → tm[i]? = some (cntL (linksOf l) i)) :
    ∀ (e i : Nat) (mt : List Bool), i + e = (walkP l).ord.length → mt.length = l.length → (∀ q : Nat, q < l.length → mt[q]? = some (decide (((q : Nat) : Int) ∈ (walkP l).ord.take i))) →
      Ev (fun K => purflingref04_Check.l4 K l tm mt false (walkP l).ord (i : Int)) (checkC l)
  | 0, i, mt, hi, hm, h => by
    have hw := walk_ok l (kidsIn_links hl) hs.some
    have hT : TabOK l tm mt false := ⟨htl, htg, hm, fun _ q hq => by
      rw [h q hq, List.take_of_length_le (by omega)]
      congr 1
      rw [decide_eq_decide]
      exact hw.mem _⟩
    refine Ev.up (rcheck_j6 l hs hl tm mt false hT) (fun K => ?_)
    conv => lhs; unfold purflingref04_Check.l4
    rw [if_neg (by omega)]
  | e + 1, i, mt, hi, hm, h => by
    have hk := kidsIn_links hl
    have hw := walk_ok l hk hs.some
    have hole : (walkP l).ord.length ≤ l.length := by have := (walk_good l hk hs.some).2; omega
    have hil : i < (walkP l).ord.length := by omega
    obtain ⟨x, hx⟩ : ∃ x, (walkP l).ord[i]? = some x := ⟨_, List.getElem?_eq_getElem hil⟩
    have hxr : 0 ≤ x ∧ x < (l.length : Int) := by
      rcases hw.back i x hx with ⟨rfl, -⟩ | ⟨j, p, -, -, hkp, -⟩
      · have := hs.some; omega
      · exact kid_range hk hkp
    obtain ⟨y, rfl⟩ := Int.eq_ofNat_of_zero_le hxr.1
    have := rcheck_l4 l hs hl tm htl htg e (i + 1) (mt.set y true) (by omega) (by rw [List.length_set]; exact hm) (fun q hq => by
      have htk : (walkP l).ord.take (i + 1) = (walkP l).ord.take i ++ [((y : Nat) : Int)] := by rw [List.take_add_one, hx]; rfl
      by_cases e : y = q
      · subst e
        rw [List.getElem?_set_self (by omega), htk]
        simp
      · rw [List.getElem?_set_ne e, h q hq, htk]
        congr 1
        rw [decide_eq_decide, List.mem_append, List.mem_singleton]
        constructor
        · exact .inl
        · rintro (h | h)
          · exact h
          · exact absurd h (by omega))
    refine Ev.up this (fun K => ?_)
    conv => lhs; unfold purflingref04_Check.l4
    rw [if_pos (by omega), if_pos (by omega), rd_at hx, if_pos (by omega), if_pos (by omega), wrap_up (by have := hs.many; omega), Int.toNat_natCast]
theorem rcheck_l3 (l : List Nd) (hs : SizeOK l) (hl : ∀ x ∈ linksOf l, badLink l.length x = false) (tm : List Int) (htl : tm.length = l.length) (htg : ∀ i : Nat, i < l.length → tm[i]? = some (cntL (linksOf l) i)) :
    ∀ (e i : Nat) (bad : Bool), i + e = l.length → 1 ≤ i → (bad = false → ∀ q : Nat, 0 < q → q < i → cntL (linksOf l) q = 1) →
      Ev (fun K => purflingref04_Check.l3 K l tm (List.replicate l.length false) bad (i : Int)) (checkC l)
  | 0, i, bad, hi, h1, h => by
    cases bad with
    | true =>
      have hT : TabOK l tm (List.replicate l.length false) true := ⟨htl, htg, List.length_replicate, fun h => by cases h⟩
      refine Ev.up (rcheck_j6 l hs hl tm _ true hT) (fun K => ?_)
      conv => lhs; unfold purflingref04_Check.l3
      rw [if_neg (by omega), if_pos rfl]
    | false =>
      have hk := kidsIn_links hl
      have ht := tidy_of hl (fun j hj hj2 => h rfl j hj (by omega))
      have h2 := Ev.bind (g := fun K o => purflingref04_Check.l4 K l tm (List.replicate l.length false) false o 0) (order_walk l hk ht hs.some hs.many hs.kids) (rcheck_l4 l hs hl tm htl htg (walkP l).ord.length 0 (List.replicate l.length false) (by omega) List.length_replicate (fun q hq => by
        rw [List.getElem?_replicate, if_pos hq, List.take_zero]; simp))
      refine Ev.up h2 (fun K => ?_)
      conv => lhs; unfold purflingref04_Check.l3
      rw [if_neg (by omega), if_neg (by decide)]
  | e + 1, i, bad, hi, h1, h => by
    have hil : i < l.length := by omega
    cases bad with
    | true =>
      refine Ev.up (rcheck_l3 l hs hl tm htl htg e (i + 1) true (by omega) (by omega) (fun h => by cases h)) (fun K => ?_)
      conv => lhs; unfold purflingref04_Check.l3
      rw [if_pos (by omega), if_pos rfl, wrap_up (by have := hs.many; omega)]
    | false =>
      have hrd := rd_at (htg i hil)
      refine Ev.up (rcheck_l3 l hs hl tm htl htg e (i + 1) (cntL (linksOf l) i != 1) (by omega) (by omega) (fun hb q hq hq2 => by
        by_cases e : q = i
        · subst e; simpa using hb
        · exact h rfl q hq (by omega))) (fun K => ?_)
      conv => lhs; unfold purflingref04_Check.l3
      rw [if_pos (by omega), if_neg (by decide), if_pos (by omega), if_pos (by omega), hrd, wrap_up (by have := hs.many; omega)]
/-- how often places were met as kids so far -/
def TmOK (l : List Nd) (pre : List (Nat × Int)) (tm : List Int) : Prop := tm.length = l.length ∧ ∀ i : Nat, i < l.length → tm[i]? = some (cntL pre i)
theorem TmOK.next {l : List Nd} {pre : List (Nat × Int)} {tm : List Int} (h : TmOK l pre tm) (i : Nat) {y : Nat} (hy : y < l.length) : TmOK l (pre ++ [(i, ((y : Nat) : Int))]) (tm.set y (cntL pre y + 1)) := by
  refine ⟨by rw [List.length_set]; exact h.1, fun q hq => ?_⟩
  rw [cntL_snoc]
  by_cases e : y = q
  · subst e
    rw [List.getElem?_set_self (by rw [h.1]; exact hq), updD_same]
  · rw [List.getElem?_set_ne e, h.2 q hq, updD_ne _ _ _ (by show ((q : Nat) : Int) ≠ ((y : Nat) : Int); omega)]
theorem rcheck_l1 (l : List Nd) (hs : SizeOK l) : ∀ (e i : Nat) (tm : List Int), i + e = l.length → (∀ x ∈ cellsFrom 0 ((l.map (fun n => n.f1)).take i), badLink l.length x = false) → TmOK l (cellsFrom 0 ((l.map (fun n => n.f1)).take i)) tm →
      Ev (fun K => purflingref04_Check.l1 K l tm (i : Int)) (checkK l)
  | 0, i, tm, hi, hb, ht => by
    have hall : cellsFrom 0 ((l.map (fun n => n.f1)).take i) = linksOf l := by rw [List.take_of_length_le (by rw [List.length_map]; omega)]; rfl
    rw [hall] at hb ht
    rw [checkK_ok hb]
    have := rcheck_l3 l hs hb tm ht.1 ht.2 (l.length - 1) 1 false (by have := hs.some; omega) (Nat.le_refl _) (fun _ q h1 h2 => by omega)
    refine Ev.up this (fun K => ?_)
    conv => lhs; unfold purflingref04_Check.l1
    rw [if_neg (by omega), if_pos (by omega), if_pos (by have := hs.many; omega), Int.toNat_natCast]
    rfl
  | e + 1, i, tm, hi, hb, ht => by
    have hil : i < l.length := by omega
    obtain ⟨nd, hnd⟩ : ∃ nd, l[i]? = some nd := ⟨_, List.getElem?_eq_getElem hil⟩
    have hkl := hs.kids nd (List.mem_of_getElem? hnd)
    have hrow : (l.map (fun n => n.f1))[i]? = some nd.f1 := by rw [List.getElem?_map, hnd]; rfl
    have inner : ∀ (d j : Nat) (tm : List Int), j + d = nd.f1.length → (∀ x ∈ cellsFrom 0 ((l.map (fun n => n.f1)).take i) ++ (nd.f1.take j).map (fun c => (i, c)), badLink l.length x = false) → TmOK l (cellsFrom 0 ((l.map (fun n => n.f1)).take i) ++ (nd.f1.take j).map (fun c => (i, c))) tm →
        Ev (fun K => purflingref04_Check.l2 K l tm (i : Int) (j : Int)) (checkK l) := by
      intro d
      induction d with
      | zero =>
        intro j tm hj hb ht
        have hjt : nd.f1.take j = nd.f1 := List.take_of_length_le (by omega)
        rw [hjt] at hb ht
        have hstep : cellsFrom 0 ((l.map (fun n => n.f1)).take (i + 1)) = cellsFrom 0 ((l.map (fun n => n.f1)).take i) ++ nd.f1.map (fun c => (i, c)) := by rw [cells_take _ 0 i _ hrow, Nat.zero_add]
        rw [← hstep] at hb ht
        refine Ev.up (rcheck_l1 l hs e (i + 1) tm (by omega) hb ht) (fun K => ?_)
        conv => lhs; unfold purflingref04_Check.l2
        rw [if_pos (by omega), if_pos (by omega), rdNode hnd, if_neg (by omega), wrap_up (by have := hs.many; omega)]
      | succ d ihd =>
        intro j tm hj hb ht
        obtain ⟨y, hy⟩ : ∃ y, nd.f1[j]? = some y := ⟨_, List.getElem?_eq_getElem (by omega)⟩
        obtain ⟨rest, hsplit⟩ := cells_split hrow hy
        cases q : badLink l.length (i, y) with
        | true =>
          have hck := checkK_bad (l := l) hsplit hb q
          rw [hck]
          refine Ev.up (Ev.const _) (fun K => ?_)
          unfold purflingref04_Check.l2
          unfold badLink at q
          simp only [Bool.or_eq_true, decide_eq_true_eq] at q
          rw [if_pos (by omega), if_pos (by omega), rdNode hnd, if_pos (by omega), if_pos (by omega), rd_at hy]
          by_cases q1 : y < 1
          · rw [if_pos q1]
          · rw [if_neg q1, if_pos (by omega)]
        | false =>
          have hq := q
          unfold badLink at hq
          simp only [Bool.or_eq_false_iff, decide_eq_false_iff_not] at hq
          obtain ⟨z, rfl⟩ := Int.eq_ofNat_of_zero_le (show 0 ≤ y by omega)
          have hz : z < l.length := by omega
          have hstep : cellsFrom 0 ((l.map (fun n => n.f1)).take i) ++ (nd.f1.take (j + 1)).map (fun c => (i, c)) = (cellsFrom 0 ((l.map (fun n => n.f1)).take i) ++ (nd.f1.take j).map (fun c => (i, c))) ++ [(i, ((z : Nat) : Int))] := by
            rw [List.take_add_one, hy, List.map_append, ← List.append_assoc]; rfl
          have hcb := cntL_le (cellsFrom 0 ((l.map (fun n => n.f1)).take i) ++ (nd.f1.take j).map (fun c => (i, c))) (z : Int)
          have hpl : (cellsFrom 0 ((l.map (fun n => n.f1)).take i) ++ (nd.f1.take j).map (fun c => (i, c))).length ≤ 1000000000 := by
            have := hs.links
            unfold linksOf at this
            rw [hsplit, List.length_append] at this
            omega
          have hrd := rd_at (ht.2 z hz)
          have h := ihd (j + 1) (tm.set z (cntL (cellsFrom 0 ((l.map (fun n => n.f1)).take i) ++ (nd.f1.take j).map (fun c => (i, c))) z + 1)) (by omega) (fun x hx => by
            rw [hstep] at hx
            rcases List.mem_append.1 hx with hx | hx
            · exact hb x hx
            · rw [List.mem_singleton.1 hx]; exact q) (by rw [hstep]; exact ht.next i hz)
          have htl := ht.1
          refine Ev.up h (fun K => ?_)
          conv => lhs; unfold purflingref04_Check.l2
          rw [if_pos (by omega), if_pos (by omega), rdNode hnd, if_pos (by omega), if_pos (by omega), rd_at hy, if_neg (by omega), if_neg (by omega), if_pos (by omega), if_pos (by omega), wrap_up (by omega), hrd, Int.toNat_natCast]
          congr 2
          unfold wrap64; omega
    have h := inner nd.f1.length 0 tm (by omega) (by rw [List.take_zero, List.map_nil, List.append_nil]; exact hb) (by rw [List.take_zero, List.map_nil, List.append_nil]; exact ht)
    refine Ev.up h (fun K => ?_)
    conv => lhs; unfold purflingref04_Check.l1
    rw [if_pos (by omega)]
    rfl
theorem rcheck_l0 (l : List Nd) (hs : SizeOK l) (h65 : l.length ≤ 65536) : ∀ (e i : Nat), i + e = l.length → (∀ (q : Nat) (n : Nd), q < i → l[q]? = some n → rightN n = true) → Ev (fun K => purflingref04_Check.l0 K l (i : Int)) (checkP l)
  | 0, i, hi, h => by
    have hP : checkP l = checkK l := by
      unfold checkP
      rw [if_neg (by have := hs.some; omega), firstOf_miss _ l (fun j z hz => by rw [h j z (by have := (List.getElem?_eq_some_iff.1 hz).1; omega) hz]; rfl), if_neg (by omega)]
    rw [hP]
    refine Ev.up (rcheck_l1 l hs l.length 0 (List.replicate l.length 0) (by omega) (fun x hx => by simp [cellsFrom] at hx) ⟨List.length_replicate, fun q hq => by rw [List.getElem?_replicate, if_pos hq]; rfl⟩) (fun K => ?_)
    conv => lhs; unfold purflingref04_Check.l0
    rw [if_neg (by omega), if_pos (by omega), if_pos (by omega), Int.toNat_natCast]
    rfl
  | e + 1, i, hi, h => by
    have hil : i < l.length := by omega
    obtain ⟨nd, hnd⟩ : ∃ nd, l[i]? = some nd := ⟨_, List.getElem?_eq_getElem hil⟩
    cases q : rightN nd with
    | true =>
      refine Ev.up (rcheck_l0 l hs h65 e (i + 1) (by omega) (fun p n hp hn => by
        by_cases e : p = i
        · subst e; rw [hnd] at hn; obtain rfl := Option.some.inj hn; exact q
        · exact h p n (by omega) hn)) (fun K => ?_)
      conv => lhs; unfold purflingref04_Check.l0
      rw [if_pos (by omega), if_pos (by omega), rdNode hnd, wrap_up (by have := hs.many; omega)]
      show Option.bind (some (rightN nd)) _ = _
      rw [q, Option.bind_some, if_pos rfl]
    | false =>
      have hP : checkP l = ((i : Int), 50) := by
        unfold checkP
        rw [if_neg (by have := hs.some; omega), firstOf_hit _ l i nd hnd (by rw [q]; rfl) (fun j z hj hz => by rw [h j z hj hz]; rfl), if_pos (by omega)]
      rw [hP]
      refine Ev.up (Ev.const _) (fun K => ?_)
      unfold purflingref04_Check.l0
      rw [if_pos (by omega), if_pos (by omega), rdNode hnd]
      show Option.bind (some (rightN nd)) _ = _
      rw [q, Option.bind_some, if_neg (by decide)]
theorem rcheck_ev (l : List Nd) (hm : l.length ≤ 100000) (hk : ∀ n ∈ l, n.f1.length ≤ 1000000000) (hl : (linksOf l).length ≤ 1000000000) : Ev (fun K => purflingref04_Check.f K l) (checkP l) := by
  by_cases h0 : l.length = 0
  · have hP : checkP l = (0, 43) := by unfold checkP; rw [if_pos (.inl h0)]
    rw [hP]
    refine Ev.congr (Ev.up (f := fun K => purflingref04_Check.j0 K l true) (Ev.const _) (fun K => ?_)) (fun K => ?_)
    · unfold purflingref04_Check.j0; dsimp only; rw [if_pos rfl]
    · unfold purflingref04_Check.f; rw [if_pos (by omega)]
  by_cases h65 : 65536 < l.length
  · have hP : checkP l = (0, 43) := by unfold checkP; rw [if_pos (.inr h65)]
    rw [hP]
    refine Ev.congr (Ev.up (f := fun K => purflingref04_Check.j0 K l true) (Ev.const _) (fun K => ?_)) (fun K => ?_)
    · unfold purflingref04_Check.j0; dsimp only; rw [if_pos rfl]
    · unfold purflingref04_Check.f; rw [if_neg (by omega), decide_eq_true (by omega)]
  · have hs : SizeOK l := ⟨by omega, hm, hk, hl⟩
    refine Ev.congr (Ev.up (f := fun K => purflingref04_Check.j0 K l false) (rcheck_l0 l hs (by omega) l.length 0 (by omega) (fun q n hq => absurd hq (Nat.not_lt_zero _))) (fun K => ?_)) (fun K => ?_)
    · conv => lhs; unfold purflingref04_Check.j0
      dsimp only
      rw [if_neg (by decide)]; rfl
    · unfold purflingref04_Check.f; rw [if_neg (by omega), decide_eq_false (by omega)]
end Go.Proofs.Ytjhpkikgajgdmaa.K
