/- Layer 4, plain: the reference's order is the walk's. -/
import Derived.Test.YtjhpkikgajgdmaaEvA
import Derived.Test.YtjhpkikgajgdmaaTrB
import Derived.Test.YtjhpkikgajgdmaaTrPa
import Derived.Test.YtjhpkikgajgdmaaTrI
import Derived.Test.YtjhpkikgajgdmaaK5
namespace Go.Proofs.Ytjhpkikgajgdmaa.K
open Go.RowKit Go.Proofs.YtjhpkikgajgdmaaW.PrintWords Go.Proofs.YtjhpkikgajgdmaaW.PrintLast Go.Proofs.YtjhpkikgajgdmaaW.PrintMore
set_option linter.unusedVariables false
set_option linter.unusedSimpArgs false
theorem kid_range {l : List Nd} (hk : KidsIn l) {a k : Int} (h : k ∈ kidsOf l a) : 0 ≤ k ∧ k < (l.length : Int) := by
  unfold kidsOf rd_T43 at h
  rw [List.getD_eq_getElem?_getD] at h
  cases q : l[a.toNat]? with
  | none =>
    rw [q] at h
    have : k ∈ (z43).f1 := h
    exact absurd this (by simp [z43])
  | some x =>
    rw [q] at h
    exact hk x (List.mem_of_getElem? q) k h
def InvA (l : List Nd) (s : WSt) : Prop := ∀ x, 0 < s.dep x → x = 0 ∨ ∃ p, 0 ≤ p ∧ 0 < s.dep p ∧ x ∈ kidsOf l p
theorem order_ev (l : List Nd) (hk : KidsIn l) (ht : Tidy l) (hl : l.length ≤ 100000) (hK : ∀ n ∈ l, n.f1.length ≤ 1000000000) : ∀ (k : Nat) (a deep : Int) (s : WSt), 0 ≤ a → a < l.length → 1 ≤ deep → GoodW l.length s → unv l.length s < k → s.dep a = 0 → InvA l s →
    (a = 0 ∨ ∃ p, 0 ≤ p ∧ 0 < s.dep p ∧ a ∈ kidsOf l p) → Ev (fun K => purflingref04_order.f K l a s.ord) (goP l k a deep s).ord
  | 0, a, deep, s, _, _, _, _, h, _, _, _ => by omega
  | k + 1, a, deep, s, h0, h1, hd, hg, hu, hz, hA, hp => by
    have e : goP l (k + 1) a deep s = (kidsOf l a).foldl (fun t x => goP l k x (deep + 1) t) (markW s a deep) := by
      conv => lhs; unfold goP
      rw [if_neg (by omega)]
    rw [e]
    obtain ⟨g1, g2⟩ := good_mark hg h0 h1 hd (by omega)
    have hma : (markW s a deep).dep a = deep := updD_same _ _ _
    have hmo : ∀ x, x ≠ a → (markW s a deep).dep x = s.dep x := fun x hx => updD_ne _ _ _ hx
    have hself : a ∉ kidsOf l a := fun h => by
      rcases hp with rfl | ⟨p, hp0, hp1, hp2⟩
      · exact ht.root 0 (by omega) h
      · have := ht.one a p a h0 hp0 h hp2
        subst this; omega
    have hkun : ∀ y ∈ kidsOf l a, (markW s a deep).dep y = 0 := fun y hy => by
      have hya : y ≠ a := fun e => hself (e ▸ hy)
      rw [hmo y hya]
      have := hg.1 y
      by_cases q : s.dep y = 0
      · exact q
      · rcases hA y (by omega) with rfl | ⟨p, hp0, hp1, hp2⟩
        · exact absurd hy (ht.root a h0)
        · have := ht.one a p y h0 hp0 hy hp2
          subst this; omega
    have hA1 : InvA l (markW s a deep) := fun x hx => by
      by_cases q : x = a
      · subst q
        rcases hp with rfl | ⟨p, hp0, hp1, hp2⟩
        · exact .inl rfl
        · exact .inr ⟨p, hp0, by rw [hmo p (by rintro rfl; omega)]; exact hp1, hp2⟩
      · rw [hmo x q] at hx
        rcases hA x hx with rfl | ⟨p, hp0, hp1, hp2⟩
        · exact .inl rfl
        · exact .inr ⟨p, hp0, by rw [hmo p (by rintro rfl; omega)]; exact hp1, hp2⟩
    obtain ⟨n, rfl⟩ := Int.eq_ofNat_of_zero_le h0
    have hn : n < l.length := by omega
    obtain ⟨x, hx⟩ : ∃ x, l[n]? = some x := ⟨_, List.getElem?_eq_getElem hn⟩
    have hkx : kidsOf l (n : Int) = x.f1 := kidsOf_nat hx
    have hlen := hg.2
    have hkl := hK x (List.mem_of_getElem? hx)
    have key : ∀ (d j : Nat) (t : WSt), j + d = x.f1.length → GoodW l.length t → unv l.length t < k → InvA l t → 0 < t.dep (n : Int) → (∀ (i : Nat) (y : Int), j ≤ i → x.f1[i]? = some y → t.dep y = 0) →
        Ev (fun K => purflingref04_order.l0 K l (n : Int) t.ord (j : Int)) ((x.f1.drop j).foldl (fun t x => goP l k x (deep + 1) t) t).ord := by
      intro d
      induction d with
      | zero =>
        intro j t hj hgt hut hAt hat hun
        rw [List.drop_eq_nil_of_le (by omega), List.foldl_nil]
        refine Ev.up (Ev.const t.ord) (fun K => ?_)
        unfold purflingref04_order.l0
        rw [if_pos (by omega), if_pos (by omega), rdNode hx, if_neg (by omega)]
      | succ d ih =>
        intro j t hj hgt hut hAt hat hun
        have hjl : j < x.f1.length := by omega
        obtain ⟨y, hy⟩ : ∃ y, x.f1[j]? = some y := ⟨_, List.getElem?_eq_getElem hjl⟩
        have hye : x.f1[j] = y := by have := (List.getElem?_eq_some_iff.1 hy).2; exact this
        have hyk : y ∈ kidsOf l (n : Int) := by rw [hkx]; exact List.mem_of_getElem? hy
        have hyr := kid_range hk hyk
        have hyu := hun j y (Nat.le_refl _) hy
        rw [List.drop_eq_getElem_cons hjl, List.foldl_cons, hye]
        have h1 := order_ev l hk ht hl hK k y (deep + 1) t hyr.1 hyr.2 (by omega) hgt hut hyu hAt (.inr ⟨(n : Int), by omega, hat, hyk⟩)
        obtain ⟨gg1, gg2⟩ := good_go l hk k y (deep + 1) t hyr.1 hyr.2 (by omega) hgt
        obtain ⟨ww, wy⟩ := go_went l hk k y (deep + 1) t hyr.1 hyr.2 (by omega) hgt hut
        obtain ⟨new, b1, b2, b3, b4⟩ := ww.ord
        generalize goP l k y (deep + 1) t = t' at h1 gg1 gg2 ww wy b1 b2 b4 ⊢
        have hpar : ∀ z, t.dep z = 0 → 0 < t'.dep z → z = y ∨ ∃ p, 0 ≤ p ∧ t.dep p = 0 ∧ 0 < t'.dep p ∧ z ∈ kidsOf l p := fun z hz0 hz1 => by
          obtain ⟨i, hi⟩ := List.getElem?_of_mem ((b2 z).2 ⟨hz0, hz1⟩)
          rcases b4 i z hi with ⟨rfl, -⟩ | ⟨q, p, -, hp, hkp, -⟩
          · exact .inl rfl
          · have hpm := (b2 p).1 (List.mem_of_getElem? hp)
            refine .inr ⟨p, ?_, hpm.1, hpm.2, hkp⟩
            rcases b4 q p hp with ⟨rfl, -⟩ | ⟨q', p', -, -, hkp', -⟩
            · exact hyr.1
            · exact (kid_range hk hkp').1
        have h2 := ih (j + 1) t' (by omega) gg1 (by omega) (fun z hz => ?_) (by rw [ww.mono _ hat]; exact hat) (fun i z hi hz => ?_)
        · refine Ev.up (Ev.bind (g := fun K t => purflingref04_order.l0 K l (n : Int) t ((j + 1 : Nat) : Int)) h1 h2) (fun K => ?_)
          conv => lhs; unfold purflingref04_order.l0
          rw [if_pos (by omega), if_pos (by omega), rdNode hx, if_pos (by omega), if_pos (by omega), rd_at hy, wrap_up (by omega)]
        · have hz0 := hgt.1 z
          by_cases q : t.dep z = 0
          · rcases hpar z q hz with rfl | ⟨p, hp0, -, hp1, hp2⟩
            · exact .inr ⟨(n : Int), by omega, by rw [ww.mono _ hat]; exact hat, hyk⟩
            · exact .inr ⟨p, hp0, hp1, hp2⟩
          · rcases hAt z (by omega) with rfl | ⟨p, hp0, hp1, hp2⟩
            · exact .inl rfl
            · exact .inr ⟨p, hp0, by rw [ww.mono _ hp1]; exact hp1, hp2⟩
        · have hzu := hun i z (by omega) hz
          have hz0 := gg1.1 z
          by_cases q : t'.dep z = 0
          · exact q
          · exfalso
            have hzk : z ∈ kidsOf l (n : Int) := by rw [hkx]; exact List.mem_of_getElem? hz
            rcases hpar z hzu (by omega) with rfl | ⟨p, hp0, hpz, -, hp2⟩
            · have hnd := ht.nodup (n : Int) h0
              rw [hkx] at hnd
              have := (List.getElem?_inj (i := j) (j := i) hjl hnd).1 (hy.trans hz.symm)
              omega
            · have := ht.one (n : Int) p z h0 hp0 hzk hp2
              subst this; omega
    have h := key x.f1.length 0 (markW s (n : Int) deep) (by omega) g1 (by omega) hA1 (by omega) (fun i y _ hy => hkun y (by rw [hkx]; exact List.mem_of_getElem? hy))
    rw [List.drop_zero] at h
    rw [hkx]
    refine Ev.up h (fun K => ?_)
    conv => lhs; unfold purflingref04_order.f
    rw [if_neg (by omega), if_pos (by omega)]
    rfl
theorem order_walk (l : List Nd) (hk : KidsIn l) (ht : Tidy l) (hn : 0 < l.length) (hl : l.length ≤ 100000) (hK : ∀ n ∈ l, n.f1.length ≤ 1000000000) : Ev (fun K => purflingref04_order.f K l 0 []) (walkP l).ord :=
  order_ev l hk ht hl hK (l.length + 1) 0 1 ⟨[], fun _ => 0⟩ (by omega) (by omega) (by omega) (good_init _).1 (by rw [(good_init _).2]; omega) rfl (fun x hx => absurd hx (by show ¬ (0 : Int) < 0; omega)) (.inl rfl)
end Go.Proofs.Ytjhpkikgajgdmaa.K
