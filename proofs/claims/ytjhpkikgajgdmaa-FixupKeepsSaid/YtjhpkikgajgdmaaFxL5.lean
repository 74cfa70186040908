/- Layer 5, plain: FixupKeeps. -/
import Derived.Test.YtjhpkikgajgdmaaFxO
import Derived.Test.YtjhpkikgajgdmaaK13
import Derived.Test.YtjhpkikgajgdmaaK5
import Derived.Test.YtjhpkikgajgdmaaK2
import Derived.Test.YtjhpkikgajgdmaaCut6
namespace Go.Proofs.Ytjhpkikgajgdmaa.K
open Go.RowKit Go.Proofs.YtjhpkikgajgdmaaW.PrintWords Go.Proofs.YtjhpkikgajgdmaaW.PrintLast Go.Proofs.YtjhpkikgajgdmaaW.PrintMore
set_option linter.unusedVariables false
set_option linter.unusedSimpArgs false

/-- what there was is there; what is new has no style -/
structure KeptP (l xs : List Nd) : Prop where
  len : l.length ≤ xs.length
  old : ∀ (j : Nat) (m n : Nd), l[j]? = some m → xs[j]? = some n → n.f0 = m.f0 ∧ n.f3 = m.f3 ∧ n.f5 = m.f5
  new : ∀ (j : Nat) (n : Nd), l.length ≤ j → xs[j]? = some n → n.f2 = sty1 ∧ n.f1 ≠ [] ∧ (n.f0 = 9 ∨ n.f0 = 10 ∨ n.f0 = 2)
theorem newK_ne {p : Int → Bool} : ∀ {l : List Int} {gs : List (List Int × Bool)}, Grp p l gs → l ≠ [] → ∀ b, newK b gs ≠ []
  | _, _, .nil, h, _ => absurd rfl h
  | _, _, .cons (g := g) (b := true) (gs := gs) h0 _ _ _, _, b => fun e => h0 (List.append_eq_nil_iff.1 (show g ++ newK b gs = [] from e)).1
  | _, _, .cons (g := g) (b := false) (gs := gs) _ _ _ _, _, b => fun e => by cases (show ((b : Int) :: newK (b + 1) gs) = [] from e)
theorem KeptP.step {N : Nat} {l xs : List Nd} {i : Nat} (hp : KeptP l xs) (h : StOK N xs i) (hi : i < xs.length) : KeptP l (nodeStep xs i) := by
  obtain ⟨n, hn⟩ : ∃ n, xs[i]? = some n := ⟨_, List.getElem?_eq_getElem hi⟩
  have hnm : n ∈ xs := List.mem_of_getElem? hn
  have hG := grpsN_grp xs n
  refine ⟨by rw [nodeStep_len hn]; have := hp.len; omega, fun j m y hm hy => ?_, fun j y hj hy => ?_⟩
  · have hj : j < xs.length := by have := (List.getElem?_eq_some_iff.1 hm).1; have := hp.len; omega
    rw [nodeStep_eq hn, List.getElem?_append_left (by rw [List.length_set]; exact hj)] at hy
    by_cases e : i = j
    · subst e
      rw [List.getElem?_set_self hi] at hy
      cases hy
      exact hp.old i m n hm hn
    · rw [List.getElem?_set_ne e] at hy
      exact hp.old j m y hm hy
  · by_cases q : j < xs.length
    · rw [nodeStep_eq hn, List.getElem?_append_left (by rw [List.length_set]; exact q)] at hy
      by_cases e : i = j
      · subst e
        rw [List.getElem?_set_self hi] at hy
        cases hy
        have := hp.new i n hj hn
        exact ⟨this.1, newK_ne hG this.2.1 _, this.2.2⟩
      · rw [List.getElem?_set_ne e] at hy
        exact hp.new j y hj hy
    · rw [nodeStep_eq hn, List.getElem?_append_right (by rw [List.length_set]; omega)] at hy
      obtain ⟨g, rfl, hg, hx⟩ := grp_newN n.f0 hG y (List.mem_of_getElem? hy)
      obtain ⟨x, hxg⟩ := List.exists_mem_of_ne_nil _ hg
      obtain ⟨hxl, hxm⟩ := hx x hxg
      have hk := h.kid n hnm x hxl
      have hkk := kind_at h.kind (show 0 ≤ x by omega) hk.2
      have := (need_step (h.good n hnm (List.ne_nil_of_mem hxl)) hkk.1 hkk.2 hxm).2.2.2
      exact ⟨rfl, hg, by show aroundP n.f0 = 9 ∨ aroundP n.f0 = 10 ∨ aroundP n.f0 = 2; omega⟩
theorem go_kept {N : Nat} {l : List Nd} : ∀ (k i : Nat) (xs : List Nd), KeptP l xs → StOK N xs i → KeptP l (fixGo k i xs)
  | 0, i, xs, h, _ => h
  | k + 1, i, xs, h, hs => by
    unfold fixGo
    by_cases q : i < xs.length
    · rw [if_pos q]; exact go_kept k (i + 1) _ (h.step hs q) (hs.step q)
    · rw [if_neg q]; exact h
theorem fix_kept {l : List Nd} (h : PageOK l) : KeptP l (fixP l) := by
  refine go_kept _ _ _ ⟨by rw [compP_len]; exact Nat.le_refl _, fun j m n hm hn => ?_, fun j n hj hn => ?_⟩ (st_init h)
  · unfold compP at hn
    rw [List.getElem?_map, hm] at hn
    cases hn
    exact ⟨rfl, rfl, rfl⟩
  · have := (List.getElem?_eq_some_iff.1 hn).1
    rw [compP_len] at this
    omega

theorem met_l0 {a : List Nd} {f : Nat} (hlen : a.length ≤ 1000000) (hf : f ≤ 1000000) (hk : ∀ n ∈ a, (∀ k ∈ n.f1, 0 ≤ k ∧ k < (a.length : Int)) ∧ n.f1.length ≤ 1000000)
    {ks B : List Int} (hp : PreL a ks B) : ∀ (n : Nat) (x : Nd) (j : Nat) (out : List Int), a[n]? = some x → x.f1.drop j = ks → j ≤ x.f1.length → out.length + (oldF f B).length ≤ f → Ev (fun K => purflinglaw05_met.l0 K a (n : Int) (f : Int) out (j : Int)) (out ++ oldF f B) := by
  induction hp with
  | nil =>
    intro n x j out hx hd hj hl
    have hn := (List.getElem?_eq_some_iff.1 hx).1
    have hjl : j = x.f1.length := by
      have := congrArg List.length hd
      rw [List.length_drop, List.length_nil] at this
      omega
    refine Ev.up (Ev.const (out ++ oldF f [])) (fun K => ?_)
    rw [purflinglaw05_met.l0, if_pos (by omega), if_pos (by omega), rdNode hx, if_neg (by omega)]
    simp [oldF]
  | @cons y ks A B h1 h2 ih1 ih2 =>
    intro n x j out hx hd hj hl
    have hn := (List.getElem?_eq_some_iff.1 hx).1
    have hjl : j < x.f1.length := by
      have := congrArg List.length hd
      rw [List.length_drop, List.length_cons] at this
      omega
    rw [List.drop_eq_getElem_cons hjl] at hd
    injection hd with hy hd2
    have hyj : x.f1[j]? = some y := by rw [← hy]; exact List.getElem?_eq_getElem hjl
    have hxm := hk x (List.mem_of_getElem? hx)
    have hyr := hxm.1 y (List.mem_of_getElem? hyj)
    obtain ⟨q, rfl⟩ := Int.eq_ofNat_of_zero_le hyr.1
    have hq : q < a.length := by omega
    have hqn : a[q]? = some a[q] := List.getElem?_eq_getElem hq
    have e1 : oldF f (((q : Nat) : Int) :: A ++ B) = oldF f [((q : Nat) : Int)] ++ oldF f A ++ oldF f B := by
      rw [← oldF_append, ← oldF_append]; rfl
    rw [e1] at hl ⊢
    rw [List.length_append, List.length_append] at hl
    -- the kid
    have hA : Ev (fun K => purflinglaw05_met.f K a ((q : Nat) : Int) (f : Int) out) (out ++ oldF f [((q : Nat) : Int)] ++ oldF f A) := by
      have ih := ih1 q a[q] 0 (out ++ oldF f [((q : Nat) : Int)]) hqn (by rw [List.drop_zero]; exact (kidsOf_nat hqn).symm) (Nat.zero_le _) (by rw [List.length_append]; omega)
      have ihj : Ev (fun K => purflinglaw05_met.j0 K a ((q : Nat) : Int) (f : Int) (out ++ oldF f [((q : Nat) : Int)])) (out ++ oldF f [((q : Nat) : Int)] ++ oldF f A) := ih.up (fun K => by rw [purflinglaw05_met.j0]; rfl)
      refine ihj.up (fun K => ?_)
      rw [purflinglaw05_met.f, if_neg (by omega)]
      by_cases hqf : (q : Int) < (f : Int)
      · rw [if_pos hqf, if_pos (by omega)]
        rw [show oldF f [((q : Nat) : Int)] = [((q : Nat) : Int)] from List.filter_cons_of_pos (by simpa using hqf)]
      · rw [if_neg hqf]
        rw [show oldF f [((q : Nat) : Int)] = [] from List.filter_cons_of_neg (by simpa using hqf), List.append_nil]
    have hB := ih2 n x (j + 1) (out ++ oldF f [((q : Nat) : Int)] ++ oldF f A) hx hd2 (by omega) (by rw [List.length_append, List.length_append]; omega)
    rw [← List.append_assoc, ← List.append_assoc]
    refine Ev.up (Ev.bind (g := fun K t => purflinglaw05_met.l0 K a (n : Int) (f : Int) t ((j + 1 : Nat) : Int)) hA hB) (fun K => ?_)
    rw [purflinglaw05_met.l0, if_pos (by omega), if_pos (by omega), rdNode hx, if_pos (by omega), if_pos (by omega), rd_at hyj, if_pos (by omega), if_pos (by omega), wrap64_in _ (by omega)]
    rfl
theorem met_root {a : List Nd} {f : Nat} (hlen : a.length ≤ 1000000) (hf : f ≤ 1000000) (h0 : 0 < a.length) (hk : ∀ n ∈ a, (∀ k ∈ n.f1, 0 ≤ k ∧ k < (a.length : Int)) ∧ n.f1.length ≤ 1000000) {B : List Int} (hB : PreL a [0] B) (hl : (oldF f B).length ≤ f) (hf0 : 0 < f) :
    Ev (fun K => purflinglaw05_met.f K a 0 (f : Int) []) (oldF f B) := by
  cases hB with
  | cons h1 h2 =>
    rename_i A C
    cases h2
    have h00 : a[0]? = some a[0] := List.getElem?_eq_getElem h0
    have e1 : oldF f ((0 : Int) :: A ++ []) = [0] ++ oldF f A := by
      rw [List.append_nil]
      exact List.filter_cons_of_pos (by simp; omega)
    rw [e1] at hl ⊢
    rw [List.length_append, List.length_singleton] at hl
    have ih := met_l0 hlen hf hk h1 0 a[0] 0 [0] h00 (by rw [List.drop_zero]; exact (kidsOf_nat h00).symm) (Nat.zero_le _) (by rw [List.length_singleton]; omega)
    have ihj : Ev (fun K => purflinglaw05_met.j0 K a 0 (f : Int) [0]) ([0] ++ oldF f A) := ih.up (fun K => by rw [purflinglaw05_met.j0]; rfl)
    refine ihj.up (fun K => ?_)
    rw [purflinglaw05_met.f, if_neg (by simp), if_pos (by omega), if_pos (by simp)]
    rfl
theorem ints_ev (xs : List Int) (h : xs.length < 1000000000) : Ev (fun K => purflingref04_Ints.f K xs xs) true := by
  refine ⟨xs.length + 1, fun k hk => ?_⟩
  obtain ⟨d, rfl⟩ : ∃ d, k = xs.length + 1 + d := ⟨k - (xs.length + 1), by omega⟩
  induction d with
  | zero => exact ints_f xs h
  | succ d ih => exact purflingref04_Ints.mono xs xs (xs.length + 1 + d) true (ih (by omega))
theorem order_ev2 {l : List Nd} (h : PageOK l) (hs : l.length ≤ 150) (hk : ∀ n ∈ l, n.f1.length ≤ 1000000000) : Ev (fun K => purflingref04_Order.f K l) (walkP l).ord := by
  have h1 := order_walk l h.kidsIn h.tidy h.some (by omega) hk
  obtain ⟨k0, h1⟩ := h1
  refine ⟨k0, fun k hk' => ?_⟩
  show purflingref04_Order.f k l = _
  unfold purflingref04_Order.f
  have h2 := h1 k hk'
  dsimp only at h2
  rw [h2, Option.bind_some]


/-- what the walk needs to know of a page that is fixed -/
theorem keeps_facts {l : List Nd} (q : (checkP (cutL l)).2 = 0) : ∃ (a : List Nd) (o : List Int), fixup_Fix.f (cutL l) = some (a, 0) ∧ a.length ≤ 600 ∧ KeptP (cutL l) a ∧ (∃ k, purflinglaw05_met.f k a 0 ((cutL l).length : Int) [] = some o) ∧ (∃ k, purflingref04_Order.f k (cutL l) = some o) ∧ ∃ k, purflingref04_Ints.f k o o = some true := by
  have hs := cut_small l
  have hok := (ok_iff _).1 q
  have hb := fixed_small hok hs.1
  have hkp := fix_kept hok
  have hsome := hok.some
  have hwl := walk_len hok
  obtain ⟨B, hB, hE⟩ := fix_pre hok
  have hm := met_root (a := fixP (cutL l)) (f := (cutL l).length) (by omega) (by omega) (by have := hkp.len; omega) (fun n hn => ⟨fun k hk => (fix_stands hok n hn k hk).1, by have := hb.2 n hn; omega⟩) hB (by rw [hE]; exact hwl) hsome
  rw [hE] at hm
  have ho := order_ev2 hok hs.1 (fun n hn => by have := hs.2.1 n hn; omega)
  have hi := ints_ev (walkP (cutL l)).ord (by omega)
  obtain ⟨k1, h1⟩ := hm
  obtain ⟨k2, h2⟩ := ho
  obtain ⟨k3, h3⟩ := hi
  exact ⟨_, _, by rw [cut_fix]; unfold fixR; rw [if_pos q], hb.1, hkp, ⟨k1, h1 k1 (Nat.le_refl _)⟩, ⟨k2, h2 k2 (Nat.le_refl _)⟩, ⟨k3, h3 k3 (Nat.le_refl _)⟩⟩
end Go.Proofs.Ytjhpkikgajgdmaa.K
