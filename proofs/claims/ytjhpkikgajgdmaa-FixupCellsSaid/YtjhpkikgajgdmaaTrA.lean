/- Layer 4: the tree's check, walked: goes, links, isRight, check; contracts of Check, Order, Depths. -/
import Derived.Test.YtjhpkikgajgdmaaBlk
import Derived.Test.YtjhpkikgajgdmaaMap
import Derived.Deep.QuietTactic
import Derived.BigQuiet
import Derived.Deep.RegionLaw
import Derived.Test.YtjhpkikgajgdmaaRange
import Derived.Sort.CutIn
import Derived.Test.YtjhpkikgajgdmaaIxI
import Derived.Test.YtjhpkikgajgdmaaSt3
namespace Go.Proofs.Ytjhpkikgajgdmaa.K
open Go.RowKit Go.Proofs.YtjhpkikgajgdmaaW.PrintWords Go.Proofs.YtjhpkikgajgdmaaW.PrintLast Go.Proofs.YtjhpkikgajgdmaaW.PrintMore
set_option linter.unusedVariables false
set_option linter.unusedSimpArgs false

abbrev Nd := S43
/-- what was met: places, in order; how deep (0: not met) -/
structure WSt where
  ord : List Int
  dep : Int → Int
def kidsOf (l : List Nd) (a : Int) : List Int := (rd_T43 l a).f1
def updD (f : Int → Int) (a d : Int) : Int → Int := fun x => if x = a then d else f x
theorem updD_same (f : Int → Int) (a d : Int) : updD f a d a = d := if_pos rfl
theorem updD_ne (f : Int → Int) (a d : Int) {x : Int} (h : x ≠ a) : updD f a d x = f x := if_neg h
def markW (s : WSt) (a deep : Int) : WSt := ⟨s.ord ++ [a], updD s.dep a deep⟩
def goP (l : List Nd) : Nat → Int → Int → WSt → WSt
  | 0, _, _, s => s
  | k + 1, a, deep, s => if s.dep a > 0 then s else (kidsOf l a).foldl (fun t x => goP l k x (deep + 1) t) (markW s a deep)
def unv (n : Nat) (s : WSt) : Nat := (List.range n).countP (fun i => s.dep ((i : Nat) : Int) == 0)
/-- all that is met is told once -/
def GoodW (n : Nat) (s : WSt) : Prop := (∀ a, 0 ≤ s.dep a) ∧ s.ord.length + unv n s = n
def KidsIn (l : List Nd) : Prop := ∀ n ∈ l, ∀ k ∈ n.f1, 0 ≤ k ∧ k < (l.length : Int)
theorem kidsIn_of {l : List Nd} (h : KidsIn l) {a : Int} (h0 : 0 ≤ a) (h1 : a < l.length) : ∀ k ∈ kidsOf l a, 0 ≤ k ∧ k < (l.length : Int) := by
  intro k hk
  unfold kidsOf rd_T43 at hk
  have hlt : a.toNat < l.length := by omega
  rw [List.getD_eq_getElem?_getD, List.getElem?_eq_getElem hlt, Option.getD_some] at hk
  exact h _ (List.getElem_mem hlt) k hk
theorem countP_mark (n : Nat) (f : Int → Int) (a deep : Int) (hd : deep ≠ 0) (h0 : 0 ≤ a) (h1 : a < n) (hf : f a = 0) :
    (List.range n).countP (fun i => updD f a deep ((i : Nat) : Int) == 0) + 1 = (List.range n).countP (fun i => f ((i : Nat) : Int) == 0) := by
  obtain ⟨b, rfl⟩ := Int.eq_ofNat_of_zero_le h0
  have hb : b < n := by omega
  clear h0 h1
  induction n with
  | zero => omega
  | succ n ih =>
    rw [List.range_succ, List.countP_append, List.countP_append, List.countP_singleton, List.countP_singleton]
    by_cases e : b = n
    · subst e
      have hsame : (List.range b).countP (fun i => updD f ((b : Nat) : Int) deep ((i : Nat) : Int) == 0) = (List.range b).countP (fun i => f ((i : Nat) : Int) == 0) := by
        apply List.countP_congr
        intro i hi
        have := List.mem_range.1 hi
        rw [updD_ne _ _ _ (by omega)]
      rw [hsame]
      rw [updD_same, hf]
      simp [hd]
    · have := ih (by omega)
      rw [updD_ne f b deep (x := ((n : Nat) : Int)) (by omega)]
      omega
theorem good_mark {n : Nat} {s : WSt} (h : GoodW n s) {a deep : Int} (h0 : 0 ≤ a) (h1 : a < n) (hd : 1 ≤ deep) (hs : ¬ s.dep a > 0) : GoodW n (markW s a deep) ∧ unv n (markW s a deep) + 1 = unv n s := by
  have hz : s.dep a = 0 := by have := h.1 a; omega
  have hc := countP_mark n s.dep a deep (by omega) h0 h1 hz
  have hu : unv n (markW s a deep) + 1 = unv n s := hc
  refine ⟨⟨fun x => ?_, ?_⟩, hu⟩
  · show 0 ≤ updD s.dep a deep x
    by_cases e : x = a
    · rw [e, updD_same]; omega
    · rw [updD_ne _ _ _ e]; exact h.1 x
  · show (s.ord ++ [a]).length + unv n (markW s a deep) = n
    rw [List.length_append, List.length_singleton]
    have := h.2
    omega
theorem good_go (l : List Nd) (hk : KidsIn l) : ∀ (k : Nat) (a deep : Int) (s : WSt), 0 ≤ a → a < l.length → 1 ≤ deep → GoodW l.length s → GoodW l.length (goP l k a deep s) ∧ unv l.length (goP l k a deep s) ≤ unv l.length s
  | 0, a, deep, s, _, _, _, h => ⟨h, Nat.le_refl _⟩
  | k + 1, a, deep, s, h0, h1, hd, h => by
    unfold goP
    by_cases q : s.dep a > 0
    · rw [if_pos q]; exact ⟨h, Nat.le_refl _⟩
    · rw [if_neg q]
      obtain ⟨g1, g2⟩ := good_mark h h0 h1 hd q
      have hkids := kidsIn_of hk h0 h1
      have key : ∀ (xs : List Int) (t : WSt), (∀ x ∈ xs, 0 ≤ x ∧ x < (l.length : Int)) → GoodW l.length t → GoodW l.length (xs.foldl (fun t x => goP l k x (deep + 1) t) t) ∧ unv l.length (xs.foldl (fun t x => goP l k x (deep + 1) t) t) ≤ unv l.length t := by
        intro xs
        induction xs with
        | nil => intro t _ ht; exact ⟨ht, Nat.le_refl _⟩
        | cons x xs ih =>
          intro t hx ht
          rw [List.foldl_cons]
          have hx0 := hx x (List.mem_cons_self ..)
          obtain ⟨e1, e2⟩ := good_go l hk k x (deep + 1) t hx0.1 hx0.2 (by omega) ht
          obtain ⟨e3, e4⟩ := ih _ (fun y hy => hx y (List.mem_cons_of_mem _ hy)) e1
          exact ⟨e3, Nat.le_trans e4 e2⟩
      obtain ⟨f1, f2⟩ := key (kidsOf l a) _ hkids g1
      exact ⟨f1, by omega⟩
def mapD (f : Int → Int) : Int → Option Value := fun a => if f a = 0 then none else some (.int .i64 (f a))
theorem mapD_upd (f : Int → Int) (a d : Int) (hd : d ≠ 0) : upd (mapD f) a (.int .i64 d) = mapD (updD f a d) := by
  funext x
  unfold upd mapD
  by_cases e : x = a
  · rw [if_pos e, e, updD_same, if_neg hd]
  · rw [if_neg e, updD_ne _ _ _ e]
theorem mapD_get (f : Int → Int) (a : Int) : (mapD f a).getD (.int .i64 0) = .int .i64 (f a) := by
  unfold mapD
  by_cases e : f a = 0
  · rw [if_pos e, e]; rfl
  · rw [if_neg e]; rfl

/-- all but what S names is as it was -/
structure KeptBut (S : Nat → Prop) (w W : World) : Prop where
  size : w.heap.size ≤ W.heap.size
  block : ∀ k, k < w.heap.size → ¬ S k → W.heap[k]? = w.heap[k]?
theorem KeptBut.refl (S : Nat → Prop) (w : World) : KeptBut S w w := ⟨Nat.le_refl _, fun _ _ _ => rfl⟩
theorem KeptBut.trans {S S' : Nat → Prop} {w W V : World} (h : KeptBut S w W) (k : KeptBut S' W V) (hs : ∀ q, q < w.heap.size → S' q → S q) : KeptBut S w V :=
  ⟨Nat.le_trans h.size k.size, fun q hq hn => (k.block q (by have := h.size; omega) (fun e => hn (hs q hq e))).trans (h.block q hq hn)⟩
/-- what was met, in memory: the walk at L, its map at M -/
structure GoS (w0 W : World) (L M : Nat) (v : Value) (s : WSt) : Prop where
  bl : BlkIs W L 83 #[v, .map (some M)]
  mp : MapIs (Value.int .i64) W M (mapD s.dep)
  out : Kd.R (Kd.int .i64) 3 W w0.heap.size (fun k => k ≠ L ∧ k ≠ M) v s.ord
  b : Below w0.heap.size w0 W
theorem GoS.drew {w0 W : World} {L M : Nat} {v : Value} {s : WSt} (h : GoS w0 W L M v s) : GoS w0 W.drew L M v s := ⟨h.bl, h.mp, Kd.R_drew h.out, h.b.drew⟩
theorem GoS.ne {w0 W : World} {L M : Nat} {v : Value} {s : WSt} (h : GoS w0 W L M v s) : L ≠ M := by
  rintro rfl
  obtain ⟨es, cl, ks, hbm, -, -⟩ := h.mp
  rw [show W.heap[L]? = _ from h.bl] at hbm; cases hbm
/-- the order's slice has grown, the walk holds it -/
theorem GoS.next {w0 W w1 : World} {L M : Nat} {v v1 : Value} {s : WSt} {a : Int} (h : GoS w0 W L M v s) (hL : w0.heap.size ≤ L) (ho : Kd.R (Kd.int .i64) 3 w1 w0.heap.size (fun k => k ≠ L ∧ k ≠ M) v1 (s.ord ++ [a])) (hb : Below w0.heap.size w0 w1) (hg : W.grownBy w1 v.ownBlock) :
    GoS w0 (w1.setCell ⟨L, 0, none⟩ v1) L M v1 ⟨s.ord ++ [a], s.dep⟩ ∧ BlkIs w1 L 83 #[v, .map (some M)] ∧ w1.cell? ⟨L, 0, none⟩ = some v ∧ w1.frozen? ⟨L, 0, none⟩ = false ∧ L < w1.heap.size := by
  have hv : ∀ q, v.ownBlock = some q → q ≠ L ∧ q ≠ M := h.out.1
  have hbl : BlkIs w1 L 83 #[v, .map (some M)] := (hg.block L (BlkIs.lt h.bl) (fun e => (hv L e.symm).1 rfl)).trans h.bl
  refine ⟨⟨BlkIs.set hbl 0 v1, (h.mp.grown hg (fun e => (hv M e.symm).2 rfl)).setCell (p := ⟨L, 0, none⟩) (fun e => h.ne e.symm) v1, Kd.R_far (p := ⟨L, 0, none⟩) ho (fun q hq => hq.1) v1, hb.setCell (p := ⟨L, 0, none⟩) hL v1⟩, hbl, BlkIs.cell hbl 0, BlkIs.frozen hbl 0, BlkIs.lt hbl⟩
theorem GoS.turned {w0 W V : World} {L M : Nat} {v : Value} {s : WSt} {f : Int → Int} (h : GoS w0 W L M v s) (hM : w0.heap.size ≤ M) (ht : MapTurned W V M) (hm : MapIs (Value.int .i64) V M (mapD f)) : GoS w0 V L M v ⟨s.ord, f⟩ :=
  ⟨(ht.other L h.ne).trans h.bl, hm, Kd.R_step h.out (fun q hq _ => ht.other q hq.2), ht.below h.b hM⟩

set_option maxRecDepth 100000 in
set_option maxHeartbeats 4000000 in
theorem goes_any (w0 : World) (A : Option Addr) (l : List Nd) (c : Nat) (hN : Kd.C k43 w0 A l.length l) (hl : l.length ≤ 100000) (hk : KidsIn l) (L M : Nat) (hL : w0.heap.size ≤ L) (hM : w0.heap.size ≤ M) :
    ∀ (k : Nat) (a deep : Int) (s : WSt) (v : Value) (w : World), 0 ≤ a → a < l.length → 1 ≤ deep → deep + k ≤ 1000000 → GoodW l.length s → unv l.length s < k → GoS w0 w L M v s →
      Calls Try.prog 53 #[.pointer (some ⟨L, 0, none⟩), .slice A l.length c, .int .i64 a, .int .i64 deep] w fun e w' => (∃ u, e = .returned u) ∧ ∃ v', GoS w0 w' L M v' (goP l k a deep s) ∧ (v'.ownBlock = v.ownBlock ∨ ∃ b, v'.ownBlock = some b ∧ w.heap.size ≤ b) ∧ KeptBut (fun q => q = L ∨ q = M ∨ some q = v.ownBlock) w w'
  | 0, a, deep, s, v, w, _, _, _, _, _, hu, _ => by omega
  | k + 1, a, deep, s, v, w, h0, h1, hd, hdk, hg, hu, hS => by
    have IH := Lib.hid (goes_any w0 A l c hN hl hk L M hL hM k)
    have HN := Lib.hid hN
    have HK := Lib.hid (kidsIn_of hk h0 h1)
    have HG := Lib.hid hg
    have HU := Lib.hid hu
    have HKI := Lib.hid hk
    have y0 : w.cell? ⟨L, 0, none⟩ = some v := BlkIs.cell hS.bl 0
    have y1 : w.cell? ⟨L, 1, none⟩ = some (.map (some M)) := BlkIs.cell hS.bl 1
    have lL := BlkIs.lt hS.bl
    have hlk := hS.mp.lookup (P := Try.prog) (keyOK_int Try.underlying3) Try.underlying81 (z := .int .i64 0) (by kernel_rfl) a
    rw [mapD_get] at hlk
    have HS := Lib.hid hS
    clear hN hk hg hu hS
    by_cases q : s.dep a > 0
    · have hdq : decide (0 < s.dep a) = true := decide_eq_true q
      have HP := Lib.hid (show goP l (k + 1) a deep s = s by unfold goP; rw [if_pos q])
      clear q
      go_enter Try.func53, Try.ntmps53
      go_wp2
      refine bodyPost_ret (results_none rfl _ _ _) rfl ?_
      exact ⟨⟨_, rfl⟩, v, by rw [HP.out]; exact HS.out, .inl rfl, KeptBut.refl _ _⟩
    · have hdq : decide (0 < s.dep a) = false := decide_eq_false q
      have HP := Lib.hid (show goP l (k + 1) a deep s = (kidsOf l a).foldl (fun t x => goP l k x (deep + 1) t) (markW s a deep) by conv => lhs; unfold goP; rw [if_neg q])
      obtain ⟨g1, g2⟩ := good_mark HG.out h0 h1 hd q
      have HG1 := Lib.hid g1
      have HU1 := Lib.hid (show unv l.length (markW s a deep) < k by have := HU.out; omega)
      have hsl : s.ord.length ≤ 100000 := by have := HG.out.2; omega
      have hM1 := HS.out.mp.lt
      clear q g1 g2 HG HU
      obtain ⟨n, rfl⟩ := Int.eq_ofNat_of_zero_le h0
      obtain ⟨o1, hO1⟩ : ∃ o1, o1 = s.ord ++ [(n : Int)] := ⟨_, rfl⟩
      have HO1 := Lib.hid hO1
      clear hO1
      go_enter Try.func53, Try.ntmps53
      go_upto_region 2 with (((with_reducible refine gate_builtin (b := .append) (xs := #[.tmp 21, .tmp 23]) rfl ?_); at_builtin; refine Kd.R_append (Kd.int .i64) (w0 := w0) w0.heap.size rfl (.tmp 21) (.tmp 23) 30 3 (.int .i64 0) 8 rfl Try.underlying30 info3 rfl (by decide) (by omega) v s.ord (n : Int) [.int .i64 (n : Int)] (fun q => q ≠ L ∧ q ≠ M) (fun _ => False) rfl rfl rfl (fun _ hk => hk.elim) (fun q hq => ⟨by omega, by omega⟩) HS.out.out HS.out.b HS.out.b.size (by omega) ?_; intro v1 w1 ho1 hb1 hg1 hat1; obtain ⟨hS1, hbl1, z1, z2, z3⟩ := HS.out.next hL ho1 hb1 hg1; have HAT := Lib.hid hat1; have HG1w := Lib.hid hg1; rw [← HO1.out] at ho1 hS1; obtain ⟨A1, c1, rfl⟩ := Kd.R_slice ho1; have HS1 := Lib.hid hS1; clear ho1 hb1 hg1 hat1 hS1 hbl1 hlk y0 y1))
      clear z1 z2 z3
      have HKB : Hid (KeptBut (fun q => q = L ∨ q = M ∨ some q = v.ownBlock) w (w1.setCell ⟨L, 0, none⟩ (.slice A1 o1.length c1))) := Lib.hid ⟨by simpa using HG1w.out.size, fun q hq hn => (Below.heap_setCell w1 ⟨L, 0, none⟩ (.slice A1 o1.length c1) q (fun e => hn (.inl e))).trans (HG1w.out.block q hq (fun e => hn (.inr (.inr e))))⟩
      generalize w1.setCell ⟨L, 0, none⟩ (.slice A1 o1.length c1) = W2 at HS1 HKB ⊢
      obtain ⟨V, hr1, hm2, ht⟩ := HS1.out.mp.update (P := Try.prog) (keyOK_int Try.underlying3) Try.underlying81 (n : Int) (.int .i64 deep)
      rw [mapD_upd _ _ _ (by omega)] at hm2
      have HV : Hid (GoS w0 V L M (.slice A1 o1.length c1) (markW s n deep)) := Lib.hid (by have h := HS1.out.turned hM ht hm2; rw [HO1.out] at h ⊢; exact h)
      have HKV : Hid (KeptBut (fun q => q = L ∨ q = M ∨ some q = v.ownBlock) w V) := Lib.hid ⟨by rw [ht.size]; exact HKB.out.size, fun q hq hn => (ht.other q (fun e => hn (.inr (.inl e)))).trans (HKB.out.block q hq hn)⟩
      have y1 : W2.cell? ⟨L, 1, none⟩ = some (.map (some M)) := BlkIs.cell HS1.out.bl 1
      clear hm2 ht HG1w HO1
      go_upto_region 3 with fail
      clear hr1 y1 HS1 HKB
      obtain ⟨x, hx⟩ : ∃ x, l[n]? = some x := ⟨_, List.getElem?_eq_getElem (by omega)⟩
      have hkx : kidsOf l n = x.f1 := by unfold kidsOf rd_T43; rw [Int.toNat_natCast, List.getD_eq_getElem?_getD, hx]; rfl
      rw [hkx] at HP HK
      obtain ⟨ad, hA, hcells⟩ := HN.out.2.2 (by omega)
      obtain ⟨cs, hcl, hKK, hcell⟩ := hcells n x hx
      obtain ⟨Ak, ck, Aw, cw, rfl, hkl, hkC, -, -⟩ := k43_open hKK
      have tr : ∀ {W : World} {p : Addr} {u : Value}, Below w0.heap.size w0 W → w0.cell? p = some u → W.cell? p = some u := fun {W p u} hb h => (hb.cell (World.block_lt_of_cell? w0 _ h)).trans h
      have yk : V.cell? ⟨(ad.add (n * 34)).block, (ad.add (n * 34)).off + 1, none⟩ = some (.slice Ak x.f1.length ck) := by rw [← add_field _ _ 1 (by omega)]; exact tr HV.out.b (hcell 1 _ rfl)
      subst hA
      have HKC := Lib.hid hkC
      have hkb : x.f1.length ≤ 9223372036854775807 := hkC.2.1
      clear hcells hcell hKK hcl hkC hkx hx hkl
      have hltn : (n : Int) < (l.length : Int) := h1
      go_wp2
      clear yk
      obtain ⟨s1, hs1⟩ : ∃ s1, s1 = markW s n deep := ⟨_, rfl⟩
      rw [← hs1] at HV HG1 HU1 HP
      clear hs1
      have HV0 : Aside0 (∃ v', GoS w0 V L M v' s1 ∧ (v'.ownBlock = v.ownBlock ∨ ∃ b, v'.ownBlock = some b ∧ w.heap.size ≤ b) ∧ KeptBut (fun q => q = L ∨ q = M ∨ some q = v.ownBlock) w V) := ⟨⟨_, HV.out, HAT.out, HKV.out⟩⟩
      clear HV HAT HKV tr
      generalize (Value.slice A1 o1.length c1) = vv
      clear A1 o1 c1
      go_loopw [39] (fun i wr => ∃ j : Nat, j ≤ x.f1.length ∧ i = .int .i64 j ∧ Aside0 (GoodW l.length ((x.f1.take j).foldl (fun t y => goP l k y (deep + 1) t) s1) ∧ unv l.length ((x.f1.take j).foldl (fun t y => goP l k y (deep + 1) t) s1) < k) ∧ Aside0 (∃ v', GoS w0 wr L M v' ((x.f1.take j).foldl (fun t y => goP l k y (deep + 1) t) s1) ∧ (v'.ownBlock = v.ownBlock ∨ ∃ b, v'.ownBlock = some b ∧ w.heap.size ≤ b) ∧ KeptBut (fun q => q = L ∨ q = M ∨ some q = v.ownBlock) w wr)) (fun i _ => x.f1.length - (intOf i).toNat)
      case atStart => exact ⟨0, Nat.zero_le _, rfl, ⟨by rw [List.take_zero]; exact ⟨HG1.out, HU1.out⟩⟩, by rw [List.take_zero]; exact HV0⟩
      case round =>
        obtain ⟨j, hj, rfl, HJ, HR⟩ := hrel
        clear HV0
        by_cases hlt : j < x.f1.length
        · have hltz : (j : Int) < (x.f1.length : Int) := by omega
          obtain ⟨y, hy⟩ : ∃ y, x.f1[j]? = some y := ⟨_, List.getElem?_eq_getElem hlt⟩
          have hyr := HK.out y (List.mem_of_getElem? hy)
          have HF := Lib.hid (show (x.f1.take (j + 1)).foldl (fun t y => goP l k y (deep + 1) t) s1 = goP l k y (deep + 1) ((x.f1.take j).foldl (fun t y => goP l k y (deep + 1) t) s1) by rw [List.take_add_one, hy, List.foldl_append]; rfl)
          obtain ⟨s2, hs2⟩ : ∃ s2, s2 = (x.f1.take j).foldl (fun t y => goP l k y (deep + 1) t) s1 := ⟨_, rfl⟩
          rw [← hs2] at HJ HR HF
          clear hs2
          have HGG := Lib.hid (good_go l HKI.out k y (deep + 1) s2 hyr.1 hyr.2 (by omega) HJ.out.1)
          obtain ⟨v2, hS2, hO2, hK2⟩ := HR.out
          obtain ⟨ak, hAk, hcells⟩ := HKC.out.2.2 (by omega)
          obtain ⟨cs, hcl, hKK, hcell⟩ := hcells j y hy
          obtain rfl : cs = [.int .i64 y] := hKK
          have hy0 : wr.cell? (ak.add j) = some (.int .i64 y) := by
            have h := hcell 0 _ rfl
            rw [show ((Kd.int .i64).sz) = 1 from rfl, Nat.mul_one] at h
            exact (hS2.b.cell (World.block_lt_of_cell? w0 _ h)).trans h
          subst hAk
          have hw1 : IntKind.i64.wrap (deep + 1) = deep + 1 := IntWalk.i64_in _ (by omega)
          have HC := Lib.hid (IH.out y (deep + 1) s2 v2 wr hyr.1 hyr.2 (by omega) (by omega) HJ.out.1 (by have := HJ.out.2; omega) hS2)
          have HO2 := Lib.hid (And.intro hO2 hK2)
          clear hcells hcl hcell hy hS2 hO2 hK2 HR
          go_wp2_with (go_at_call 53; refine HC.out.mono ?_; rintro e w3 ⟨⟨u, rfl⟩, v3, hS3, hO3, hK3⟩; have HR3 : Aside0 (∃ v', GoS w0 w3 L M v' (goP l k y (deep + 1) s2) ∧ (v'.ownBlock = v.ownBlock ∨ ∃ b, v'.ownBlock = some b ∧ w.heap.size ≤ b) ∧ KeptBut (fun q => q = L ∨ q = M ∨ some q = v.ownBlock) w w3) := ⟨⟨v3, hS3, (by
            rcases hO3 with h | ⟨b, h1, h2⟩
            · rw [h]; exact HO2.out.1
            · exact .inr ⟨b, h1, Nat.le_trans HO2.out.2.size h2⟩), HO2.out.2.trans hK3 (fun q hq hh => by
            rcases hh with h | h | h
            · exact .inl h
            · exact .inr (.inl h)
            · rcases HO2.out.1 with h3 | ⟨b, h3, h4⟩
              · exact .inr (.inr (by rw [← h3]; exact h))
              · rw [h3] at h; cases h; omega)⟩⟩; clear hS3 hO3 hK3)
          go_roundw
          case rel => exact ⟨j + 1, by omega, by go_num, ⟨by rw [HF.out]; exact ⟨HGG.out.1, by have := HGG.out.2; have := HJ.out.2; omega⟩⟩, by rw [HF.out]; exact HR3⟩
          case measure => simp [intOf]; omega
        · have hjl : j = x.f1.length := by omega
          subst hjl
          rw [List.take_length] at HR
          go_wp2
          refine bodyPost_end (results_none rfl _ _ _) rfl ?_
          refine ⟨⟨_, rfl⟩, ?_⟩
          rw [HP.out]
          exact HR.out
end Go.Proofs.Ytjhpkikgajgdmaa.K
namespace Go.Proofs.Ytjhpkikgajgdmaa.K
open Go.RowKit Go.Proofs.YtjhpkikgajgdmaaW.PrintWords Go.Proofs.YtjhpkikgajgdmaaW.PrintLast Go.Proofs.YtjhpkikgajgdmaaW.PrintMore
set_option linter.unusedVariables false
set_option linter.unusedSimpArgs false
attribute [local go_sem] Oper.semAt_some

def cellsFrom {α : Type} (r : Nat) : List (List α) → List (Nat × α)
  | [] => []
  | row :: rows => row.map (fun c => (r, c)) ++ cellsFrom (r + 1) rows
theorem cells_take {α : Type} : ∀ (rows : List (List α)) (r k : Nat) (row : List α), rows[k]? = some row → cellsFrom r (rows.take (k + 1)) = cellsFrom r (rows.take k) ++ row.map (fun c => (r + k, c))
  | [], r, k, row, h => by simp at h
  | y :: ys, r, 0, row, h => by simp at h; subst h; simp [cellsFrom]
  | y :: ys, r, k + 1, row, h => by
    simp at h
    rw [List.take_succ_cons, List.take_succ_cons, cellsFrom, cellsFrom, cells_take ys (r + 1) k row h, List.append_assoc]
    congr 3; funext c; congr 1; omega
theorem cells_drop {α : Type} : ∀ (rows : List (List α)) (r k : Nat), cellsFrom r rows = cellsFrom r (rows.take k) ++ cellsFrom (r + k) (rows.drop k)
  | rows, r, 0 => by simp [cellsFrom]
  | [], r, k + 1 => by simp [cellsFrom]
  | y :: ys, r, k + 1 => by
    rw [List.take_succ_cons, List.drop_succ_cons, cellsFrom, cellsFrom, cells_drop ys (r + 1) k, List.append_assoc, Nat.add_right_comm, Nat.add_assoc]
theorem cells_split {α : Type} {rows : List (List α)} {k m : Nat} {row : List α} {c : α} (hk : rows[k]? = some row) (hm : row[m]? = some c) :
    ∃ rest, cellsFrom 0 rows = (cellsFrom 0 (rows.take k) ++ (row.take m).map (fun c => (k, c))) ++ (k, c) :: rest := by
  obtain ⟨hl, rfl⟩ := List.getElem?_eq_some_iff.1 hk
  obtain ⟨hn, rfl⟩ := List.getElem?_eq_some_iff.1 hm
  refine ⟨(rows[k].drop (m + 1)).map (fun c => (k, c)) ++ cellsFrom (k + 1) (rows.drop (k + 1)), ?_⟩
  rw [cells_drop rows 0 k, List.drop_eq_getElem_cons hl, cellsFrom, Nat.zero_add, List.append_assoc]
  congr 1
  have e : rows[k] = rows[k].take m ++ rows[k][m] :: rows[k].drop (m + 1) := by rw [← List.drop_eq_getElem_cons hn, List.take_append_drop]
  generalize hq : cellsFrom (k + 1) (rows.drop (k + 1)) = q
  generalize rows[k][m] = y at e ⊢
  generalize rows[k].take m = u at e ⊢
  generalize rows[k].drop (m + 1) = v at e ⊢
  rw [e]; simp


theorem add_add (ad : Addr) (m j : Nat) : (ad.add m).add j = ad.add (m + j) := by
  by_cases hj : j = 0
  · subst hj; rfl
  · rw [add_field ad m j (by omega)]
    unfold Addr.add
    simp [hj]
/-- a whole row is read, wherever it lies -/
theorem run_loadVar_any {P : Program} (w : World) (ad : Addr) (ty : TypeId) (cs : List Value) (d : TypeDesc) (hc : ∀ j v, cs[j]? = some v → w.cell? (ad.add j) = some v)
    (hu : P.underlying ty = some d) (hd : d.isRow = true) (hi : (P.info? ty).map (·.size) = some cs.length) :
    (loadVar ty ad).run P w = .ok (.agg cs.toArray) w := by
  have hl : (loadCells ad cs.length).run P w = .ok cs.toArray w := run_loadCells_list (P := P) w ad cs hc
  cases hq : P.info? ty with
  | none => simp [hq] at hi
  | some i =>
    have hs : i.size = cs.length := by simpa [hq] using hi
    have hagg : (isAgg ty).run P w = .ok true w := by
      unfold isAgg
      rw [Sem.run_bind, run_underlying hu w]
      cases d <;> simp_all
    simp [loadVar, Sem.run_bind, hagg, sizeOf, typeInfo, hq, hs, hl]
theorem wpList_load_any {P : Program} {ops : Array Oper} {rest : List Oper} {op : Oper} {a : Act} {w : World} {Q : Exit → Act → World → Prop} (hgd : op.guard = none) (ty : TypeId) (x : Operand) (ho : op.op = .load ty x)
    (ad : Addr) (hx : a.eval x = .pointer (some ad)) (cs : List Value) (d : TypeDesc) (hc : ∀ j v, cs[j]? = some v → w.cell? (ad.add j) = some v)
    (hu : P.underlying ty = some d) (hd : d.isRow = true) (hi : (P.info? ty).map (·.size) = some cs.length)
    (h : wpList P ops Q rest (a.put op.dst (.agg cs.toArray)) w) : wpList P ops Q (op :: rest) a w :=
  wpList_plain hgd fun _ hK => by
    unfold Oper.wp execOp
    simp only [ho, hx, Instr.loadAt, Instr.sureAddr, Sem.run_bind, Sem.run_pure, Result.andThen_ok, run_loadVar_any w ad ty cs d hc hu hd hi]
    exact hK _ _ h
/-- a new block that was filled whole -/
theorem filled_new (w : World) (t : TypeId) (z : Array Value) (cs : List Value) (hz : z.size = cs.length) : BlkIs ((w.alloc (.cells z t)).setCells w.heap.size 0 cs) w.heap.size t cs.toArray ∧ Below w.heap.size w ((w.alloc (.cells z t)).setCells w.heap.size 0 cs) :=
  ⟨Blk.setCells (Blk.new w t z) cs (by omega), below_setCells' (b := w.heap.size) (Nat.le_refl _) cs 0 ((Below.refl w.heap.size w).alloc (Nat.le_refl _) (.cells z t))⟩

def zN : Array Value := #[.int .i64 0, .slice none 0 0, .int .i64 0, .int .i64 0, .int .i64 0, .int .i64 0, .int .i64 0, .int .i64 0, .int .i64 0, .int .i64 0, .int .i64 0, .int .i64 0, .int .u32 0, .int .i64 0, .int .i64 0, .int .u32 0, .int .i64 0, .int .i64 0, .int .u32 0, .int .i64 0, .int .i64 0, .int .u32 0, .int .i64 0, .int .i64 0, .int .i64 0, .bool false, .bool false, .int .i64 0, .int .i64 0, .bool false, .bool false, .slice none 0 0, .int .i64 0, .int .i64 0]

/-- the nodes lie at A, node i's cells are CS i -/
def NodesAt (W : World) (A : Option Addr) (CS : Nat → List Value) (l : List Nd) : Prop :=
  ∀ (i : Nat) (x : Nd), l[i]? = some x → ∃ ad, A = some ad ∧ (CS i).length = 34 ∧ (∀ v ∈ CS i, v.oneCell' = true) ∧ (∀ j u, (CS i)[j]? = some u → W.cell? (ad.add (i * 34 + j)) = some u) ∧ k43.K W x (CS i)
theorem nodesAt_of {W : World} {A : Option Addr} {l : List Nd} (h : Kd.C k43 W A l.length l) : ∃ CS, NodesAt W A CS l := by
  have : ∀ i, ∃ cs : List Value, ∀ x, l[i]? = some x → ∃ ad, A = some ad ∧ cs.length = 34 ∧ (∀ v ∈ cs, v.oneCell' = true) ∧ (∀ j u, cs[j]? = some u → W.cell? (ad.add (i * 34 + j)) = some u) ∧ k43.K W x cs := by
    intro i
    cases hk : l[i]? with
    | none => exact ⟨[], fun x h => by cases h⟩
    | some x =>
      have hlt := (List.getElem?_eq_some_iff.1 hk).1
      obtain ⟨ad, hA, hcells⟩ := h.2.2 (by omega)
      obtain ⟨cs, hcl, hK, hcell⟩ := hcells i x hk
      refine ⟨cs, fun y hy => ?_⟩
      cases hy
      exact ⟨ad, hA, k43.K_len hK, k43.K_one hK, fun j u hu => hcell j u hu, hK⟩
  exact ⟨fun i => Classical.choose (this i), fun i => Classical.choose_spec (this i)⟩
theorem NodesAt.below {W W' : World} {A : Option Addr} {CS : Nat → List Value} {l : List Nd} (h : NodesAt W A CS l) (hb : Below W.heap.size W W') : NodesAt W' A CS l := by
  intro i x hx
  obtain ⟨ad, hA, h1, h2, h3, h4⟩ := h i x hx
  exact ⟨ad, hA, h1, h2, fun j u hu => (hb.cell (World.block_lt_of_cell? W _ (h3 j u hu))).trans (h3 j u hu), k43.K_below hb h4⟩
def linkV (x : Nat × Int) : Array Value := #[.int .i64 (x.1 : Int), .int .i64 x.2]
def linksOf (l : List Nd) : List (Nat × Int) := cellsFrom 0 (l.map (fun n => n.f1))

set_option maxRecDepth 100000 in
set_option maxHeartbeats 4000000 in
theorem links1_iter (l : List Nd) (b : Nat) (A : Option Addr) (CS : Nat → List Value) (c : Nat) (hc : l.length ≤ c) (hbig : l.length ≤ 9223372036854775807) :
    IterC Try.prog 62 #[.pointer (some ⟨b, 0, none⟩)] linkV (linksOf l) (fun W => W.cell? ⟨b, 0, none⟩ = some (.slice A l.length c) ∧ NodesAt W A CS l) := by
  intro lp J Jx W hJ hJx hRd hY h0
  refine callsIn_wide.1 (callsIn_of_wp (n := 0) Try.func62 rfl trivial ?_ rfl)
  simp only [Try.ntmps62, List.size_toArray, List.length_cons, List.length_nil, Nat.reduceAdd, Nat.reduceSub, Array.replicate_succ, Array.replicate_zero, List.push_toArray, List.append_toArray, List.nil_append, List.cons_append]
  obtain ⟨hcell, -⟩ := hRd [] W h0
  have HY := Lib.hid hY
  have HR := Lib.hid hRd
  have HJ := Lib.hid hJ
  have HLL := Lib.hid (show (l.map (fun n => n.f1)).length = l.length from List.length_map _)
  clear hY hRd hJ hJx
  gi_wp2
  gi_loopw [3, 4, 6, 9] (fun _ _ _ i wr => ∃ k : Nat, k ≤ l.length ∧ i = .int .i64 k ∧ Aside0 (J (cellsFrom 0 ((l.map (fun n => n.f1)).take k)) wr)) (fun _ _ _ i _ => l.length - (intOf i).toNat)
  case atStart => exact ⟨0, by omega, rfl, ⟨h0⟩⟩
  case round =>
    obtain ⟨k, hk, rfl, HJk⟩ := hrel
    clear h0 hcell
    by_cases hlt : k < l.length
    · have hltz : (k : Int) < (l.length : Int) := by omega
      obtain ⟨x, hx⟩ : ∃ x, l[k]? = some x := ⟨_, List.getElem?_eq_getElem hlt⟩
      obtain ⟨ad, hA, hlen, hone, hcells, hKk⟩ := (HR.out _ _ HJk.out).2 k x hx
      have HXM := Lib.hid (show (l.map (fun n => n.f1))[k]? = some x.f1 by rw [List.getElem?_map, hx]; rfl)
      have HX := Lib.hid hx
      obtain ⟨Ak, ck, Aw, cw, hcs, hkl, hkC, -, -⟩ := k43_open hKk
      have hc1 : (CS k)[1]? = some (.slice Ak x.f1.length ck) := by rw [hcs]; rfl
      have hld : ∀ j v, (CS k)[j]? = some v → wr.cell? ((ad.add (k * 34)).add j) = some v := fun j v hv => by rw [add_add]; exact hcells j v hv
      have hinfo : (Try.prog.info? 43).map (·.size) = some (CS k).length := by rw [hlen]; kernel_rfl
      have hinfo2 : (Try.prog.info? 43).map (·.size) = some (CS k).toArray.size := by rw [List.size_toArray]; exact hinfo
      have hall : (CS k).toArray.all (·.oneCell') = true := all_oneCell_toArray hone
      have HLN := Lib.hid hlen
      have HC1 := Lib.hid hc1
      have HCS := Lib.hid hcs
      have hbr := hkC.2.1
      subst hA
      clear hx hKk hcs hkl hkC hone hcells hc1
      have hT : ∀ Z : Array Value, Z.size = 34 → World.there (wr.alloc (.cells Z 43)) wr.heap.size 0 (CS k).toArray.size := fun Z hZ => Blk.there (Blk.new wr 43 Z) _ (by rw [List.size_toArray, HLN.out, hZ]; exact Nat.le_refl _)
      gi_upto_region 2 with fail
      refine wpIn_wide.2 ?_
      go_wp2_with (first | (refine wpList_load_any rfl 43 _ rfl _ rfl (CS k) _ hld Try.underlying43 rfl hinfo ?_) | (refine wpList_store_mid rfl 43 _ _ rfl wr.heap.size 0 ((CS k).toArray) rfl rfl (hT _ rfl) hinfo2 hall ?_))
      have hzv : (#[.int .i64 0, .slice none 0 0, .int .i64 0, .int .i64 0, .int .i64 0, .int .i64 0, .int .i64 0, .int .i64 0, .int .i64 0, .int .i64 0, .int .i64 0, .int .i64 0, .int .u32 0, .int .i64 0, .int .i64 0, .int .u32 0, .int .i64 0, .int .i64 0, .int .u32 0, .int .i64 0, .int .i64 0, .int .u32 0, .int .i64 0, .int .i64 0, .int .i64 0, .bool false, .bool false, .int .i64 0, .int .i64 0, .bool false, .bool false, .slice none 0 0, .int .i64 0, .int .i64 0] : Array Value) = zN := rfl
      rw [hzv]
      obtain ⟨hBk, hBw⟩ := filled_new wr 43 zN (CS k) (by rw [HLN.out]; rfl)
      generalize (wr.alloc (.cells zN 43)).setCells wr.heap.size 0 (CS k) = W3 at hBk hBw ⊢
      have y1 : W3.cell? ⟨wr.heap.size, 1, none⟩ = some (.slice Ak x.f1.length ck) := by rw [BlkIs.cell hBk 1, List.getElem?_toArray]; exact HC1.out
      have l1 := BlkIs.lt hBk
      have HJ3 : Aside0 (J (cellsFrom 0 ((l.map (fun n => n.f1)).take k) ++ (x.f1.take 0).map (fun c => (k, c))) W3) := ⟨by
        have h := HJ.out _ _ _ HJk.out (⟨hBw.os, hBw.tape, hBw.output, hBw.size, fun q hq _ => hBw.block q hq⟩ : wr.grownBy W3 none)
        simpa using h⟩
      generalize wr.heap.size = N at y1 l1 ⊢
      clear hBk hBw hzv hT hld hinfo hinfo2 hall hlen HJk
      gi_wp2
      clear y1 l1
      gi_loopw [6, 17] (fun _ i wr => ∃ m : Nat, m ≤ x.f1.length ∧ i = .int .i64 m ∧ Aside0 (J (cellsFrom 0 ((l.map (fun n => n.f1)).take k) ++ (x.f1.take m).map (fun c => (k, c))) wr)) (fun _ i _ => x.f1.length - (intOf i).toNat)
      case atStart => exact ⟨0, by omega, rfl, HJ3⟩
      case round =>
        obtain ⟨m, hm, rfl, HJm⟩ := hrel
        clear HJ3
        by_cases hlt2 : m < x.f1.length
        · have hltz2 : (m : Int) < (x.f1.length : Int) := by omega
          obtain ⟨y, hy⟩ : ∃ y, x.f1[m]? = some y := ⟨_, List.getElem?_eq_getElem hlt2⟩
          obtain ⟨ad2, hA2, -, -, -, hK2⟩ := (HR.out _ _ HJm.out).2 k x HX.out
          obtain ⟨Ak2, ck2, Aw2, cw2, hcs2, -, hkC2, -, -⟩ := k43_open hK2
          have hsame : (some (Value.slice Ak x.f1.length ck)) = some (.slice Ak2 x.f1.length ck2) := HC1.out.symm.trans (by rw [hcs2]; rfl)
          injection hsame with hsame
          injection hsame with hs1 _ hs3
          subst hs1 hs3
          obtain ⟨ar, hAr, hcells⟩ := hkC2.2.2 (by omega)
          obtain ⟨cs, hcl, hK, hcell⟩ := hcells m y hy
          obtain rfl : cs = [.int .i64 y] := hK
          have hx0 : wr.cell? (ar.add m) = some (.int .i64 y) := by have h := hcell 0 _ rfl; rwa [show ((Kd.int .i64).sz) = 1 from rfl, Nat.mul_one] at h
          obtain ⟨rest, hrest⟩ := cells_split HXM.out hy
          have HE := Lib.hid (show cellsFrom 0 ((l.map (fun n => n.f1)).take k) ++ (x.f1.take m).map (fun c => (k, c)) ++ [(k, y)] = cellsFrom 0 ((l.map (fun n => n.f1)).take k) ++ (x.f1.take (m + 1)).map (fun c => (k, c)) by rw [List.take_add_one, hy]; simp)
          subst hAr
          clear hcells hcell hcl hy hkC2 hK2 hcs2 hA2
          obtain ⟨fn, tmps, assign, body, hyy, hRR⟩ := HY.out _ (k, y) _ _ hrest HJm.out
          have HRest := Lib.hid hrest
          clear hrest HJm
          dsimp only [linkV] at hyy
          gi_wp2
          refine hRR.mono ?_
          rintro e W3 (⟨rfl, hJ3⟩ | ⟨rfl, hJ3⟩)
          · gi_wp2
            go_roundw
            case rel => exact ⟨m + 1, by omega, by go_num, ⟨by rw [← HE.out]; exact hJ3⟩⟩
            case measure => simp [intOf]; omega
          · gi_wp2
            refine bodyPost_ret (results_none rfl _ _ _) rfl ?_
            exact ⟨⟨_, rfl⟩, .inr ⟨_, (k, y), _, HRest.out, hJ3⟩⟩
        · have hml : m = x.f1.length := by omega
          subst hml
          have HJn : Aside0 (J (cellsFrom 0 ((l.map (fun n => n.f1)).take (k + 1))) wr) := ⟨by
            have h := HJm.out
            rw [List.take_length] at h
            rw [cells_take _ 0 k _ HXM.out, Nat.zero_add]; exact h⟩
          clear HJm
          gi_wp2
          go_roundw
          case rel => exact ⟨k + 1, by omega, by go_num, HJn⟩
          case measure => simp [intOf]; omega
    · have hkl : k = l.length := by omega
      subst hkl
      have HJK : Aside0 (J (linksOf l) wr) := ⟨by have h := HJk.out; rwa [List.take_of_length_le (by rw [HLL.out]; exact Nat.le_refl _)] at h⟩
      clear HJk
      gi_wp2
      refine bodyPost_end (results_none rfl _ _ _) rfl ?_
      exact ⟨⟨_, rfl⟩, .inl HJK.out⟩

theorem links_any (l : List Nd) (A : Option Addr) (c : Nat) (w : World) :
    Calls Try.prog 52 #[.slice A l.length c] w fun e w' => e = .returned (.func (.func 62) #[] #[.pointer (some ⟨w.heap.size, 0, none⟩)]) ∧ w.alloc (.cells #[.slice A l.length c] 25) = w' := by
  go_enter Try.func52, Try.ntmps52
  go_wp2
  go_ret
  exact ⟨rfl, rfl⟩
end Go.Proofs.Ytjhpkikgajgdmaa.K
namespace Go.Proofs.Ytjhpkikgajgdmaa.K
open Go.RowKit Go.Proofs.YtjhpkikgajgdmaaW.PrintWords Go.Proofs.YtjhpkikgajgdmaaW.PrintLast Go.Proofs.YtjhpkikgajgdmaaW.PrintMore
set_option linter.unusedVariables false
set_option linter.unusedSimpArgs false
attribute [local go_sem] Oper.semAt_some

def lengthB (n : Int) : Bool := decide (0 ≤ n ∧ n ≤ 1073741824)
theorem isLength_any (n : Int) (w : World) : Calls Try.prog 65 #[.int .i64 n] w fun e w' => e = .returned (.bool (!lengthB n)) ∧ w = w' := by
  unfold lengthB
  by_cases h0 : n < 0
  · rw [decide_eq_false (by omega)]
    go_enter Try.func65, Try.ntmps65
    go_wp2
    go_ret
    first | exact ⟨rfl, rfl⟩ | (constructor <;> simp)
  · have hd0 : decide (n < 0) = false := decide_eq_false h0
    by_cases h1 : 1073741824 < n
    · rw [decide_eq_false (by omega)]
      go_enter Try.func65, Try.ntmps65
      go_wp2
      go_ret
      first | exact ⟨rfl, rfl⟩ | (constructor <;> simp)
    · have hd1 : decide (1073741824 < n) = false := decide_eq_false h1
      rw [decide_eq_true (by omega)]
      go_enter Try.func65, Try.ntmps65
      go_wp2
      go_ret
      first | exact ⟨rfl, rfl⟩ | (constructor <;> simp)
theorem areLengths_any (A : Option Addr) (c : Nat) (l : List Int) (w : World) (hr : Kd.C (Kd.int .i64) w A l.length l) (hc : l.length ≤ c) :
    Calls Try.prog 61 #[.slice A l.length c] w fun e w' => e = .returned (.bool (l.all lengthB)) ∧ Below w.heap.size w w' := by
  have HW := Lib.hid (contains_i64 65 #[] (fun n => !lengthB n) (enters_of Try.func65 (by kernel_rfl) rfl) A c l w
      (fun W2 x cs hb _ hK _ => by
        have hK' : cs = [.int .i64 x] := hK
        subst hK'
        exact (isLength_any x W2).mono fun _ _ ⟨he, hw⟩ => ⟨he, hw ▸ Below.refl _ _⟩) hr hc)
  have hq : (!l.any fun n => !lengthB n) = l.all lengthB := by
    rw [List.not_any_eq_all_not]
    congr 1
    funext n; simp
  have HQ := Lib.hid hq
  clear hr hq
  go_enter Try.func61, Try.ntmps61
  go_wp2_with (go_at_call 64; refine HW.out.mono ?_; rintro e w' ⟨rfl, hb⟩)
  go_ret
  exact ⟨(show Ending.returned (.bool (!l.any fun n => !lengthB n)) = _ by rw [HQ.out]), hb⟩

def styN (s : S40) : Sty := ⟨⟨s.f0.f0, s.f0.f1⟩, ⟨s.f1.f0, s.f1.f1⟩, s.f2.f0, s.f2.f1, s.f2.f2, s.f2.f3, ⟨s.f3.f0.f0, s.f3.f0.f1, s.f3.f0.f2⟩, ⟨s.f3.f1.f0, s.f3.f1.f1, s.f3.f1.f2⟩, ⟨s.f3.f2.f0, s.f3.f2.f1, s.f3.f2.f2⟩, ⟨s.f3.f3.f0, s.f3.f3.f1, s.f3.f3.f2⟩, s.f4, s.f5, s.f6, s.f7, s.f8, s.f9.f0, s.f9.f1, s.f10, s.f11⟩
def bareB (n : Nd) : Bool := decide (n.f3.length = 0) && decide (n.f4 = 0) && decide (n.f5 = 0)
def headB (n : Nd) : Bool := decide (0 ≤ n.f0) && decide (n.f0 ≤ 10) && validB (styN n.f2) && decide (n.f3.length ≤ 10000)
def rightN (n : Nd) : Bool := headB n && n.f3.all lengthB && lengthB n.f4 && lengthB n.f5 &&
  (if n.f0 = 1 then decide (n.f1.length = 0) else if n.f0 = 5 then decide (n.f1.length = 0) && bareB n else bareB n)
/-- a node's cells, as far as they are read -/
structure NodeC (W : World) (n : Nd) (cs : List Value) (A1 : Option Addr) (c1 : Nat) (A3 : Option Addr) (c3 : Nat) : Prop where
  len : cs.length = 34
  one : ∀ v ∈ cs, v.oneCell' = true
  k0 : cs[0]? = some (.int .i64 n.f0)
  k1 : cs[1]? = some (.slice A1 n.f1.length c1)
  sty : ∀ j v, (styN n.f2).cells.toList[j]? = some v → cs[2 + j]? = some v
  k31 : cs[31]? = some (.slice A3 n.f3.length c3)
  k32 : cs[32]? = some (.int .i64 n.f4)
  k33 : cs[33]? = some (.int .i64 n.f5)
  w3 : Kd.C (Kd.int .i64) W A3 n.f3.length n.f3
  l3 : n.f3.length ≤ c3
  w1 : Kd.C (Kd.int .i64) W A1 n.f1.length n.f1
  l1 : n.f1.length ≤ c1
theorem nodeC_of {W : World} {n : Nd} {cs : List Value} (h : k43.K W n cs) : ∃ A1 c1 A3 c3, NodeC W n cs A1 c1 A3 c3 := by
  have hl := k43.K_len h
  have ho := k43.K_one h
  obtain ⟨A1, c1, A3, c3, hcs, h1, h2, h3, h4⟩ := k43_open h
  have hs : (cs.drop 2).take 29 = (styN n.f2).cells.toList := by rw [hcs]; rfl
  refine ⟨A1, c1, A3, c3, hl, ho, by rw [hcs]; rfl, by rw [hcs]; rfl, fun j v hv => ?_, by rw [hcs]; rfl, by rw [hcs]; rfl, by rw [hcs]; rfl, h4, h3, h2, h1⟩
  rw [← hs, List.getElem?_take] at hv
  split at hv
  · rwa [List.getElem?_drop] at hv
  · cases hv
theorem NodeC.below {w W : World} {n : Nd} {cs : List Value} {A1 : Option Addr} {c1 : Nat} {A3 : Option Addr} {c3 : Nat} (h : NodeC w n cs A1 c1 A3 c3) (hb : Below w.heap.size w W) : NodeC W n cs A1 c1 A3 c3 :=
  ⟨h.len, h.one, h.k0, h.k1, h.sty, h.k31, h.k32, h.k33, Kd.C_below h.w3 hb, h.l3, Kd.C_below h.w1 hb, h.l1⟩
end Go.Proofs.Ytjhpkikgajgdmaa.K
namespace Go.Proofs.Ytjhpkikgajgdmaa.K
open Go.RowKit Go.Proofs.YtjhpkikgajgdmaaW.PrintWords Go.Proofs.YtjhpkikgajgdmaaW.PrintLast Go.Proofs.YtjhpkikgajgdmaaW.PrintMore
set_option linter.unusedVariables false
set_option linter.unusedSimpArgs false
attribute [local go_sem] Oper.semAt_some

theorem c_two (W : World) (B : Nat) (hB : B = W.heap.size) (t : Nat) (x y : Int) : Kd.C (Kd.int .i64) (W.alloc (.cells #[.int .i64 x, .int .i64 y] t)) (some ⟨B, 0, none⟩) 2 [x, y] := by
  subst hB
  have hb : BlkIs (W.alloc (.cells #[.int .i64 x, .int .i64 y] t)) W.heap.size t #[.int .i64 x, .int .i64 y] := World.alloc_heap_new W _
  refine ⟨rfl, by omega, fun _ => ⟨_, rfl, fun j p hj => ⟨[.int .i64 p], rfl, rfl, fun i u hu => ?_⟩⟩⟩
  have hi : i = 0 := by rcases i with _ | i; rfl; simp at hu
  subst hi
  rw [add_at, show 0 + (j * (Kd.int .i64).sz + 0) = j by rw [show (Kd.int .i64).sz = 1 from rfl]; omega]
  cases hu
  have := BlkIs.cell hb j
  rw [this]
  match j, hj with
  | 0, hj => cases hj; rfl
  | 1, hj => cases hj; rfl
/-- the box of a node, by value -/
structure BoxC (w W : World) (n : Nd) (N : Nat) (A1 : Option Addr) (c1 : Nat) (A3 : Option Addr) (c3 : Nat) : Prop where
  k0 : W.cell? ⟨N, 0, none⟩ = some (.int .i64 n.f0)
  k1 : W.cell? ⟨N, 1, none⟩ = some (.slice A1 n.f1.length c1)
  sty : W.rangeAt N 2 (styN n.f2).cells.toList
  k31 : W.cell? ⟨N, 31, none⟩ = some (.slice A3 n.f3.length c3)
  k32 : W.cell? ⟨N, 32, none⟩ = some (.int .i64 n.f4)
  k33 : W.cell? ⟨N, 33, none⟩ = some (.int .i64 n.f5)
  lt : N < W.heap.size
  w3 : Kd.C (Kd.int .i64) W A3 n.f3.length n.f3
  b : Below w.heap.size w W
theorem BoxC.of {w : World} {n : Nd} {cs : List Value} {A1 : Option Addr} {c1 : Nat} {A3 : Option Addr} {c3 : Nat} (h : NodeC w n cs A1 c1 A3 c3) (t : Nat) : BoxC w (w.alloc (.cells cs.toArray t)) n w.heap.size A1 c1 A3 c3 := by
  have hb : BlkIs (w.alloc (.cells cs.toArray t)) w.heap.size t cs.toArray := World.alloc_heap_new w _
  have hc : ∀ j, (w.alloc (.cells cs.toArray t)).cell? ⟨w.heap.size, j, none⟩ = cs[j]? := fun j => by rw [BlkIs.cell hb j, List.getElem?_toArray]
  exact ⟨(hc 0).trans h.k0, (hc 1).trans h.k1, fun j v hv => (hc (2 + j)).trans (h.sty j v hv), (hc 31).trans h.k31, (hc 32).trans h.k32, (hc 33).trans h.k33, BlkIs.lt hb, Kd.C_alloc h.w3 _, (Below.refl _ w).alloc (Nat.le_refl _) _⟩
theorem BoxC.below {w W V : World} {n : Nd} {N : Nat} {A1 : Option Addr} {c1 : Nat} {A3 : Option Addr} {c3 : Nat} (h : BoxC w W n N A1 c1 A3 c3) (hb : Below W.heap.size W V) : BoxC w V n N A1 c1 A3 c3 := by
  have hc : ∀ j, V.cell? ⟨N, j, none⟩ = W.cell? ⟨N, j, none⟩ := fun j => hb.cell (p := ⟨N, j, none⟩) h.lt
  exact ⟨(hc 0).trans h.k0, (hc 1).trans h.k1, fun j v hv => (hc (2 + j)).trans (h.sty j v hv), (hc 31).trans h.k31, (hc 32).trans h.k32, (hc 33).trans h.k33, Nat.lt_of_lt_of_le h.lt hb.size, Kd.C_below h.w3 hb, below_then h.b h.b.size hb⟩
theorem BoxC.call {w W V : World} {n : Nd} {N : Nat} {A1 : Option Addr} {c1 : Nat} {A3 : Option Addr} {c3 : Nat} {o : Obj} (h : BoxC w W n N A1 c1 A3 c3) (hb : Below (W.alloc o).heap.size (W.alloc o) V) : BoxC w V n N A1 c1 A3 c3 :=
  h.below (((Below.refl W.heap.size W).alloc (Nat.le_refl _) o).trans (hb.mono (by simp)))

set_option maxRecDepth 100000 in
set_option maxHeartbeats 8000000 in
theorem isRight_any (n : Nd) (cs : List Value) (A1 : Option Addr) (c1 : Nat) (A3 : Option Addr) (c3 : Nat) (w : World) (hC : NodeC w n cs A1 c1 A3 c3) (r : Bool) (hr : rightN n = r) :
    Calls Try.prog 51 #[.agg cs.toArray] w fun e w' => e = .returned (.bool r) ∧ Below w.heap.size w w' := by
  unfold rightN headB at hr
  have HB := Lib.hid (BoxC.of hC 43)
  have HL3 := Lib.hid hC.l3
  have hlen : (Try.prog.info? 40).map (·.size) = some (styN n.f2).cells.toList.length := by kernel_rfl
  have HV := Lib.hid (fun W => valid_any (styN n.f2) W)
  have HLen := Lib.hid hlen
  clear hC hlen
  go_enter Try.func51, Try.ntmps51
  go_upto_region 1 with fail
  generalize w.alloc (.cells cs.toArray 43) = W0 at HB ⊢
  generalize w.heap.size = N at HB ⊢
  by_cases q1 : 0 ≤ n.f0
  rotate_left
  focus
    rw [decide_eq_false q1] at hr
    simp only [Bool.false_and] at hr
    subst hr
    have hd : decide (n.f0 < 0) = true := decide_eq_true (by omega)
    clear q1
    have k0 := HB.out.k0
    have k1 := HB.out.k1
    have k31 := HB.out.k31
    have k32 := HB.out.k32
    have k33 := HB.out.k33
    have lt := HB.out.lt
    go_wp2
    go_ret
    exact ⟨rfl, HB.out.b⟩
  have hd1 : decide (n.f0 < 0) = false := decide_eq_false (by omega)
  rw [decide_eq_true q1, Bool.true_and] at hr
  by_cases q2 : n.f0 ≤ 10
  rotate_left
  focus
    rw [decide_eq_false q2] at hr
    simp only [Bool.false_and] at hr
    subst hr
    have hd : decide (10 < n.f0) = true := decide_eq_true (by omega)
    clear q1 q2
    have k0 := HB.out.k0
    have k1 := HB.out.k1
    have k31 := HB.out.k31
    have k32 := HB.out.k32
    have k33 := HB.out.k33
    have lt := HB.out.lt
    go_wp2
    go_ret
    exact ⟨rfl, HB.out.b⟩
  have hd2 : decide (10 < n.f0) = false := decide_eq_false (by omega)
  rw [decide_eq_true q2, Bool.true_and] at hr
  clear q1 q2
  cases q3 : validB (styN n.f2)
  focus
    rw [q3] at hr HV
    simp only [Bool.false_and] at hr
    subst hr
    clear q3
    have k0 := HB.out.k0
    have k1 := HB.out.k1
    have k31 := HB.out.k31
    have k32 := HB.out.k32
    have k33 := HB.out.k33
    have lt := HB.out.lt
    go_wp2_with (first | ((with_reducible refine gate_dst (N := 15) rfl ?_); (try (refine gate_guard (by rfl) ?_; dsimp only)); refine wpList_load_mid rfl 40 (.tmp 14) rfl N 2 rfl (styN n.f2).cells.toList _ HB.out.sty Try.underlying40 rfl HLen.out ?_) | ((try (refine gate_guard (by rfl) ?_; dsimp only)); go_at_call 47; refine (HV.out _).mono ?_; rintro e w1 ⟨rfl, hb⟩; have n_ := Lib.hid (HB.out.below hb); clear hb HB k0 k1 k31 k32 k33 lt; have HB := n_; clear n_; have k0 := HB.out.k0; have k1 := HB.out.k1; have k31 := HB.out.k31; have k32 := HB.out.k32; have k33 := HB.out.k33; have lt := HB.out.lt))
    go_ret
    exact ⟨rfl, HB.out.b⟩
  rw [q3] at hr HV
  rw [Bool.true_and] at hr
  clear q3
  by_cases q4 : n.f3.length ≤ 10000
  rotate_left
  focus
    rw [decide_eq_false q4] at hr
    simp only [Bool.false_and] at hr
    subst hr
    have hd : decide (10000 < (n.f3.length : Int)) = true := decide_eq_true (by omega)
    clear q4
    have k0 := HB.out.k0
    have k1 := HB.out.k1
    have k31 := HB.out.k31
    have k32 := HB.out.k32
    have k33 := HB.out.k33
    have lt := HB.out.lt
    go_wp2_with (first | ((with_reducible refine gate_dst (N := 15) rfl ?_); (try (refine gate_guard (by rfl) ?_; dsimp only)); refine wpList_load_mid rfl 40 (.tmp 14) rfl N 2 rfl (styN n.f2).cells.toList _ HB.out.sty Try.underlying40 rfl HLen.out ?_) | ((try (refine gate_guard (by rfl) ?_; dsimp only)); go_at_call 47; refine (HV.out _).mono ?_; rintro e w1 ⟨rfl, hb⟩; have n_ := Lib.hid (HB.out.below hb); clear hb HB k0 k1 k31 k32 k33 lt; have HB := n_; clear n_; have k0 := HB.out.k0; have k1 := HB.out.k1; have k31 := HB.out.k31; have k32 := HB.out.k32; have k33 := HB.out.k33; have lt := HB.out.lt))
    go_ret
    exact ⟨rfl, HB.out.b⟩
  rw [decide_eq_true q4, Bool.true_and] at hr
  have hd4 : decide (10000 < (n.f3.length : Int)) = false := decide_eq_false (by omega)
  clear q4
  have k0 := HB.out.k0
  have k1 := HB.out.k1
  have k31 := HB.out.k31
  have k32 := HB.out.k32
  have k33 := HB.out.k33
  have lt := HB.out.lt
  go_upto_region 3 with (first | ((with_reducible refine gate_dst (N := 15) rfl ?_); (try (refine gate_guard (by rfl) ?_; dsimp only)); refine wpList_load_mid rfl 40 (.tmp 14) rfl N 2 rfl (styN n.f2).cells.toList _ HB.out.sty Try.underlying40 rfl HLen.out ?_) | ((try (refine gate_guard (by rfl) ?_; dsimp only)); go_at_call 47; refine (HV.out _).mono ?_; rintro e w1 ⟨rfl, hb⟩; have n_ := Lib.hid (HB.out.below hb); clear hb HB k0 k1 k31 k32 k33 lt; have HB := n_; clear n_; have k0 := HB.out.k0; have k1 := HB.out.k1; have k31 := HB.out.k31; have k32 := HB.out.k32; have k33 := HB.out.k33; have lt := HB.out.lt))
  clear hd1 hd2 hd4 HV HLen
  cases q5 : n.f3.all lengthB
  focus
    rw [q5] at hr
    simp only [Bool.false_and] at hr
    subst hr
    have HA1 := Lib.hid (fun W (h : Kd.C (Kd.int .i64) W A3 n.f3.length n.f3) => areLengths_any A3 c3 n.f3 W h HL3.out)
    rw [q5] at HA1
    clear q5
    go_wp2_with (first | ((try (refine gate_guard (by rfl) ?_; dsimp only)); go_at_call 61; (with_reducible refine (HA1.out _ HB.out.w3).mono ?_); rintro e w2 ⟨rfl, hb⟩; have n_ := Lib.hid (HB.out.below hb); clear hb HB k0 k1 k31 k32 k33 lt; have HB := n_; clear n_; have k0 := HB.out.k0; have k1 := HB.out.k1; have k31 := HB.out.k31; have k32 := HB.out.k32; have k33 := HB.out.k33; have lt := HB.out.lt) | ((try (refine gate_guard (by rfl) ?_; dsimp only)); go_at_call 61; (with_reducible refine (HA2.out _ _ (by simp)).mono ?_); rintro e w3 ⟨rfl, hb⟩; have n_ := Lib.hid (HB.out.call hb); clear hb HB k0 k1 k31 k32 k33 lt; have HB := n_; clear n_; have k0 := HB.out.k0; have k1 := HB.out.k1; have k31 := HB.out.k31; have k32 := HB.out.k32; have k33 := HB.out.k33; have lt := HB.out.lt))
    go_ret
    exact ⟨rfl, HB.out.b⟩
  have HA1 := Lib.hid (fun W (h : Kd.C (Kd.int .i64) W A3 n.f3.length n.f3) => areLengths_any A3 c3 n.f3 W h HL3.out)
  rw [q5] at HA1 hr
  rw [Bool.true_and] at hr
  clear q5
  have HA2 : Hid (∀ (W : World) (B : Nat), B = W.heap.size → Calls Try.prog 61 #[.slice (some ⟨B, 0, none⟩) 2 2] (W.alloc (.cells #[.int .i64 n.f4, .int .i64 n.f5] 2)) fun e w' => e = .returned (.bool (lengthB n.f4 && lengthB n.f5)) ∧ Below (W.alloc (.cells #[.int .i64 n.f4, .int .i64 n.f5] 2)).heap.size (W.alloc (.cells #[.int .i64 n.f4, .int .i64 n.f5] 2)) w') := Lib.hid (fun W B hB => by
    have h := areLengths_any (some ⟨B, 0, none⟩) 2 [n.f4, n.f5] (W.alloc (.cells #[.int .i64 n.f4, .int .i64 n.f5] 2)) (c_two W B hB 2 n.f4 n.f5) (Nat.le_refl _)
    rw [show ([n.f4, n.f5].all lengthB) = (lengthB n.f4 && lengthB n.f5) by simp] at h
    exact h)
  cases q6 : (lengthB n.f4 && lengthB n.f5)
  focus
    rw [q6] at HA2 hr
    simp only [Bool.false_and] at hr
    subst hr
    clear q6
    go_wp2_with (first | ((try (refine gate_guard (by rfl) ?_; dsimp only)); go_at_call 61; (with_reducible refine (HA1.out _ HB.out.w3).mono ?_); rintro e w2 ⟨rfl, hb⟩; have n_ := Lib.hid (HB.out.below hb); clear hb HB k0 k1 k31 k32 k33 lt; have HB := n_; clear n_; have k0 := HB.out.k0; have k1 := HB.out.k1; have k31 := HB.out.k31; have k32 := HB.out.k32; have k33 := HB.out.k33; have lt := HB.out.lt) | ((try (refine gate_guard (by rfl) ?_; dsimp only)); go_at_call 61; (with_reducible refine (HA2.out _ _ (by simp)).mono ?_); rintro e w3 ⟨rfl, hb⟩; have n_ := Lib.hid (HB.out.call hb); clear hb HB k0 k1 k31 k32 k33 lt; have HB := n_; clear n_; have k0 := HB.out.k0; have k1 := HB.out.k1; have k31 := HB.out.k31; have k32 := HB.out.k32; have k33 := HB.out.k33; have lt := HB.out.lt))
    go_ret
    exact ⟨rfl, HB.out.b⟩
  rw [q6] at HA2 hr
  rw [Bool.true_and] at hr
  clear q6
  go_upto_region 5 with (first | ((try (refine gate_guard (by rfl) ?_; dsimp only)); go_at_call 61; (with_reducible refine (HA1.out _ HB.out.w3).mono ?_); rintro e w2 ⟨rfl, hb⟩; have n_ := Lib.hid (HB.out.below hb); clear hb HB k0 k1 k31 k32 k33 lt; have HB := n_; clear n_; have k0 := HB.out.k0; have k1 := HB.out.k1; have k31 := HB.out.k31; have k32 := HB.out.k32; have k33 := HB.out.k33; have lt := HB.out.lt) | ((try (refine gate_guard (by rfl) ?_; dsimp only)); go_at_call 61; (with_reducible refine (HA2.out _ _ (by simp)).mono ?_); rintro e w3 ⟨rfl, hb⟩; have n_ := Lib.hid (HB.out.call hb); clear hb HB k0 k1 k31 k32 k33 lt; have HB := n_; clear n_; have k0 := HB.out.k0; have k1 := HB.out.k1; have k31 := HB.out.k31; have k32 := HB.out.k32; have k33 := HB.out.k33; have lt := HB.out.lt))
  clear HA1 HA2
  have HBb := Lib.hid HB.out.b
  clear HB HL3
  unfold bareB at hr
  generalize n.f3.length = m3 at hr k31 ⊢
  generalize n.f1.length = m1 at hr k1 ⊢
  generalize n.f4 = x4 at hr k32 ⊢
  generalize n.f5 = x5 at hr k33 ⊢
  generalize n.f0 = x0 at hr k0 ⊢
  subst hr
  have hb : (m3 = 0 ∧ x4 = 0 ∧ x5 = 0) ∨ (m3 = 0 ∧ x4 = 0 ∧ x5 ≠ 0) ∨ (m3 = 0 ∧ x4 ≠ 0) ∨ m3 ≠ 0 := by omega
  have hk : x0 = 1 ∨ x0 = 5 ∨ (x0 ≠ 1 ∧ x0 ≠ 5) := by omega
  rcases hb with ⟨rfl, rfl, rfl⟩ | ⟨rfl, rfl, e5⟩ | ⟨rfl, e4⟩ | e3
  rotate_left
  have h5 : (x5 == 0) = false := by simpa using e5
  rotate_left
  have h4 : (x4 == 0) = false := by simpa using e4
  rotate_left
  have h3 : ((m3 : Int) == 0) = false := by simp; omega
  have h3' : (m3 == 0) = false := by simpa using e3
  rotate_left
  all_goals by_cases e1 : m1 = 0
  all_goals first | subst e1 | skip
  all_goals rcases hk with rfl | rfl | ⟨e01, e05⟩
  all_goals (try have h01 : (x0 == 1) = false := by simpa using e01)
  all_goals (try have h05 : (x0 == 5) = false := by simpa using e05)
  all_goals (try have h1 : ((m1 : Int) == 0) = false := by simp; omega)
  all_goals (try have h1' : (m1 == 0) = false := by simpa using e1)
  all_goals go_wp2
  all_goals go_ret
  all_goals exact ⟨by simp [*], HBb.out⟩
end Go.Proofs.Ytjhpkikgajgdmaa.K
namespace Go.Proofs.Ytjhpkikgajgdmaa.K
open Go.RowKit Go.Proofs.YtjhpkikgajgdmaaW.PrintWords Go.Proofs.YtjhpkikgajgdmaaW.PrintLast Go.Proofs.YtjhpkikgajgdmaaW.PrintMore
set_option linter.unusedVariables false
set_option linter.unusedSimpArgs false
attribute [local go_sem] Oper.semAt_some

set_option maxHeartbeats 4000000 in
theorem wrong1_any (n : Nd) (cs : List Value) (A1 : Option Addr) (c1 : Nat) (A3 : Option Addr) (c3 : Nat) (w : World) (hC : NodeC w n cs A1 c1 A3 c3) :
    Calls Try.prog 50 #[.agg cs.toArray] w fun e w' => e = .returned (.bool (!rightN n)) ∧ Below w.heap.size w w' := by
  have hlen := hC.len
  have HC := Lib.hid (fun W (hb : Below w.heap.size w W) => isRight_any n cs A1 c1 A3 c3 W ⟨hC.len, hC.one, hC.k0, hC.k1, hC.sty, hC.k31, hC.k32, hC.k33, Kd.C_below hC.w3 hb, hC.l3, Kd.C_below hC.w1 hb, hC.l1⟩ _ rfl)
  have hinfo : (Try.prog.info? 43).map (·.size) = some cs.length := by rw [hlen]; kernel_rfl
  have hb0 : BlkIs (w.alloc (.cells cs.toArray 43)) w.heap.size 43 cs.toArray := World.alloc_heap_new w _
  have hld : ∀ j v, cs[j]? = some v → (w.alloc (.cells cs.toArray 43)).cell? ((⟨w.heap.size, 0, none⟩ : Addr).add j) = some v := fun j v hv => by
    rw [add_at, Nat.zero_add, BlkIs.cell hb0 j, List.getElem?_toArray]; exact hv
  have hbw : Below w.heap.size w (w.alloc (.cells cs.toArray 43)) := (Below.refl _ w).alloc (Nat.le_refl _) _
  have HBW := Lib.hid hbw
  clear hC hlen hb0 hbw
  go_enter Try.func50, Try.ntmps50
  go_wp2_with (first | (refine wpList_load_any rfl 43 _ rfl ⟨w.heap.size, 0, none⟩ rfl cs _ hld Try.underlying43 rfl hinfo ?_) | (go_at_call 51; refine (HC.out _ HBW.out).mono ?_; rintro e w1 ⟨rfl, hb⟩; have HB1 := Lib.hid hb; clear hb))
  go_ret
  exact ⟨rfl, HBW.out.trans (HB1.out.mono HBW.out.size)⟩

set_option maxHeartbeats 4000000 in
theorem wrong_any (A : Option Addr) (c : Nat) (l : List Nd) (CS : Nat → List Value) (w : World) (hN : NodesAt w A CS l) (hc : l.length ≤ c) (hbig : l.length ≤ 9223372036854775807) :
    Calls Try.prog 49 #[.slice A l.length c, .func (.func 50) #[] #[]] w fun e w' => e = .returned (.int .i64 (firstOf (fun n => !rightN n) l)) ∧ Below w.heap.size w w' := by
  have HN := Lib.hid hN
  have HC := Lib.hid hc
  clear hN hc
  go_enter Try.func49, Try.ntmps49
  go_wp2
  go_loopg [5, 8] l.length (fun gg _ s8 wr => ∃ kk : Nat, kk ≤ l.length ∧ l.length - kk ≤ gg ∧ s8 = .int .i64 kk ∧ Aside0 (Below w.heap.size w wr) ∧ Aside0 (∀ j z, j < kk → l[j]? = some z → (fun n => !rightN n) z = false)) 
  case atStart => exact ⟨0, Nat.zero_le _, by omega, rfl, ⟨Below.refl _ w⟩, ⟨fun j z hj => absurd hj (Nat.not_lt_zero _)⟩⟩
  case round =>
    obtain ⟨kk, hkk, hg, rfl, BW, AA⟩ := hrel
    by_cases hlt : kk < l.length
    · have hltz : (kk : Int) < (l.length : Int) := by omega
      obtain ⟨x, hx⟩ : ∃ x, l[kk]? = some x := ⟨_, List.getElem?_eq_getElem hlt⟩
      obtain ⟨ad, hA, hlen, hone, hcells, hKk⟩ := HN.out.below BW.out kk x hx
      have HX := Lib.hid hx
      obtain ⟨A1, c1, A3, c3, hnc⟩ := nodeC_of hKk
      have hld : ∀ j v, (CS kk)[j]? = some v → wr.cell? ((ad.add (kk * 34)).add j) = some v := fun j v hv => by rw [add_add]; exact hcells j v hv
      have hinfo : (Try.prog.info? 43).map (·.size) = some (CS kk).length := by rw [hlen]; kernel_rfl
      have hcall := wrong1_any x (CS kk) A1 c1 A3 c3 wr hnc
      subst hA
      clear hx hKk hone hcells hnc hlen
      cases hq : rightN x with
      | false =>
        rw [hq] at hcall
        have HCALL := Lib.hid hcall
        have HQ := Lib.hid hq
        clear hq hcall
        go_wp2_with (first | (refine wpList_load_any rfl 43 _ rfl _ rfl (CS kk) _ hld Try.underlying43 rfl hinfo ?_))
        refine HCALL.out.mono ?_
        rintro e w' ⟨rfl, hb'⟩
        clear hld
        go_wp2_with (fail)
        go_ret
        refine ⟨?_, BW.out.trans (hb'.mono BW.out.size)⟩
        rw [firstOf_hit _ l kk x HX.out (by rw [HQ.out]; rfl) AA.out]
        rfl
      | true =>
        rw [hq] at hcall
        have HCALL := Lib.hid hcall
        have HQ := Lib.hid hq
        clear hq hcall
        go_wp2_with (first | (refine wpList_load_any rfl 43 _ rfl _ rfl (CS kk) _ hld Try.underlying43 rfl hinfo ?_))
        refine HCALL.out.mono ?_
        rintro e w' ⟨rfl, hb'⟩
        clear hld
        go_wp2_with (fail)
        go_roundg (l.length - (kk + 1))
        case measure => omega
        case rel =>
          refine ⟨kk + 1, by omega, by omega, by go_num, ⟨BW.out.trans (hb'.mono BW.out.size)⟩, ⟨fun j z hj hz => ?_⟩⟩
          by_cases e : j = kk
          · subst e
            rw [HX.out] at hz; cases hz
            show (!rightN _) = false
            rw [HQ.out]; rfl
          · exact AA.out j z (by omega) hz
    · have hltz : ¬ (kk : Int) < (l.length : Int) := by omega
      have : kk = l.length := by omega
      subst this
      go_wp2
      go_ret
      refine ⟨?_, BW.out⟩
      rw [firstOf_miss _ l (fun j z hz => AA.out j z (List.getElem?_eq_some_iff.1 hz).1 hz)]
      rfl
end Go.Proofs.Ytjhpkikgajgdmaa.K
namespace Go.Proofs.Ytjhpkikgajgdmaa.K
open Go.RowKit Go.Proofs.YtjhpkikgajgdmaaW.PrintWords Go.Proofs.YtjhpkikgajgdmaaW.PrintLast Go.Proofs.YtjhpkikgajgdmaaW.PrintMore
set_option linter.unusedVariables false
set_option linter.unusedSimpArgs false
attribute [local go_sem] Oper.semAt_some

def badLink (n : Nat) (x : Nat × Int) : Bool := decide (x.2 < 1) || decide ((n : Int) ≤ x.2)
def cntL (pre : List (Nat × Int)) : Int → Int := fun k => ((pre.countP (fun x => x.2 == k) : Nat) : Int)
theorem cntL_nil : cntL [] = fun _ => 0 := rfl
theorem cntL_snoc (pre : List (Nat × Int)) (x : Nat × Int) : cntL (pre ++ [x]) = updD (cntL pre) x.2 (cntL pre x.2 + 1) := by
  funext k
  unfold cntL updD
  rw [List.countP_append, List.countP_singleton]
  by_cases e : k = x.2
  · rw [if_pos e, e, if_pos (by simp)]; omega
  · rw [if_neg e, if_neg (by simpa using fun h => e h.symm)]; dsimp only; omega
theorem cntL_le (pre : List (Nat × Int)) (k : Int) : 0 ≤ cntL pre k ∧ cntL pre k ≤ pre.length := by
  unfold cntL
  have := List.countP_le_length (p := fun x : Nat × Int => x.2 == k) (l := pre)
  omega
def walkP (l : List Nd) : WSt := goP l (l.length + 1) 0 1 ⟨[], fun _ => 0⟩
def cycB (l : List Nd) (i : Nat) : Bool := decide (0 < i) && (decide (cntL (linksOf l) i ≠ 1) || decide ((walkP l).dep i = 0))
def deepB (l : List Nd) (i : Nat) : Bool := decide (64 < (walkP l).dep i)
def checkD (l : List Nd) : Int × Int :=
  match (List.range l.length).find? (deepB l) with
  | some i => ((i : Nat), 42)
  | none => (0, 0)
def checkC (l : List Nd) : Int × Int :=
  match (List.range l.length).find? (cycB l) with
  | some i => ((i : Nat), 41)
  | none => checkD l
def checkK (l : List Nd) : Int × Int :=
  match (linksOf l).find? (badLink l.length) with
  | some x => ((x.1 : Nat), 40)
  | none => checkC l
/-- what is wrong with a page, and where -/
def checkP (l : List Nd) : Int × Int :=
  if l.length = 0 ∨ 65536 < l.length then (0, 43) else
  if 0 ≤ firstOf (fun n => !rightN n) l then (firstOf (fun n => !rightN n) l, 50) else checkK l
theorem find_range_hit {n k : Nat} {p : Nat → Bool} (hk : k < n) (h : p k = true) (h0 : ∀ j, j < k → p j = false) : (List.range n).find? p = some k := by
  rw [List.find?_range_eq_some]
  exact ⟨h, by simpa using hk, fun j hj => by rw [h0 j hj]; rfl⟩
theorem find_range_miss {n : Nat} {p : Nat → Bool} (h0 : ∀ j, j < n → p j = false) : (List.range n).find? p = none := by
  rw [List.find?_eq_none]
  intro x hx
  rw [h0 x (List.mem_range.1 hx)]; decide
theorem find_pre {α : Type} {p : α → Bool} {pre rest : List α} {x : α} (h0 : ∀ y ∈ pre, p y = false) (h : p x = true) : (pre ++ x :: rest).find? p = some x := by
  rw [List.find?_append, List.find?_eq_none.2 (fun y hy => by rw [h0 y hy]; decide), List.find?_cons_of_pos h]
  rfl

theorem R_book {α : Type} {d : Kd α} {e : Nat} {W W' : World} {base : Nat} {ok : Nat → Prop} {v : Value} {xs : List α} {row : Option Nat} (h : Kd.R d e W base ok v xs) (hg : W.grownBy W' row) (hr : ∀ r, row = some r → ∃ o : Obj, W.heap[r]? = some o ∧ isBook o = true) : Kd.R d e W' base ok v xs :=
  Kd.R_mono (Kd.R_move (Kd.R_bound h) (fun k hk => hg.block k hk.2.2.1 (fun e => by
    obtain ⟨o, ho, hb⟩ := hr k e.symm
    obtain ⟨_, _, _, q, _, cells, hc⟩ := hk
    rw [hc] at ho; cases ho; cases hb))) (fun _ hk => hk.1)
theorem mapIs_book {α : Type} [DecidableEq α] {key : α → Value} {W W' : World} {b : Nat} {f : α → Option Value} {row : Option Nat} (h : MapIs key W b f) (hg : W.grownBy W' row) (hr : ∀ r, row = some r → ∃ o : Obj, W.heap[r]? = some o ∧ isBook o = true) : MapIs key W' b f :=
  h.grown hg (fun e => by
    obtain ⟨o, ho, hb⟩ := hr b e.symm
    obtain ⟨es, c, ks, hm, -, -⟩ := h
    rw [hm] at ho; cases ho; cases hb)

theorem KeepBook.turned {α : Type} [DecidableEq α] {key : α → Value} {W V : World} {b : Nat} {f : α → Option Value} (h : MapIs key W b f) (ht : MapTurned W V b) : KeepBook W V :=
  ⟨by rw [ht.size]; exact Nat.le_refl _, fun k o hk ho => (ht.other k (fun e => by
    subst e
    obtain ⟨es, c, ks, hm, -, -⟩ := h
    rw [hm] at hk; cases hk; cases ho)).trans hk⟩
theorem mem_cellsFrom {α : Type} : ∀ (rows : List (List α)) (r : Nat) (row : List α) (x : α), row ∈ rows → x ∈ row → ∃ k, (k, x) ∈ cellsFrom r rows
  | y :: ys, r, row, x, h, hx => by
    rw [cellsFrom]
    rcases List.mem_cons.1 h with rfl | h
    · exact ⟨r, List.mem_append_left _ (List.mem_map.2 ⟨x, hx, rfl⟩)⟩
    · obtain ⟨k, hk⟩ := mem_cellsFrom ys (r + 1) row x h hx
      exact ⟨k, List.mem_append_right _ hk⟩
theorem kids_ok {l : List Nd} (h : ∀ y ∈ linksOf l, badLink l.length y = false) : ∀ n ∈ l, ∀ k ∈ n.f1, 1 ≤ k ∧ k < (l.length : Int) := by
  intro n hn k hk
  obtain ⟨r, hr⟩ := mem_cellsFrom (l.map (fun n => n.f1)) 0 n.f1 k (List.mem_map.2 ⟨n, hn, rfl⟩) hk
  have := h _ hr
  unfold badLink at this
  simp at this
  omega
theorem good_init (n : Nat) : GoodW n ⟨[], fun _ => 0⟩ ∧ unv n ⟨[], fun _ => 0⟩ = n := by
  have : unv n ⟨[], fun _ => 0⟩ = n := by
    unfold unv
    rw [List.countP_eq_length.2 (fun a _ => by rfl), List.length_range]
  exact ⟨⟨fun _ => Int.le_refl _, by rw [this]; simp⟩, this⟩
theorem checkK_bad {l : List Nd} {pre rest : List (Nat × Int)} {x : Nat × Int} (hx : linksOf l = pre ++ x :: rest) (h0 : ∀ y ∈ pre, badLink l.length y = false) (h : badLink l.length x = true) : checkK l = (((x.1 : Nat) : Int), 40) := by
  unfold checkK
  rw [hx, find_pre h0 h]
theorem checkK_ok {l : List Nd} (h0 : ∀ y ∈ linksOf l, badLink l.length y = false) : checkK l = checkC l := by
  unfold checkK
  rw [List.find?_eq_none.2 (fun y hy => by rw [h0 y hy]; decide)]

/-- the blocks of check -/
structure ChI (w W : World) (N : Nat) (A : Option Addr) (n c : Nat) (v : Value) (s : WSt) (tm : Int → Int) (at_ : Int) : Prop where
  b0 : BlkIs W N 25 #[.slice A n c]
  m1 : MapIs (Value.int .i64) W (N + 1) (mapD tm)
  b2 : BlkIs W (N + 1 + 1) 81 #[.map (some (N + 1))]
  g : GoS w W (N + 1 + 1 + 1 + 1) (N + 1 + 1 + 1) v s
  b5 : BlkIs W (N + 1 + 1 + 1 + 1 + 1) 3 #[.int .i64 at_]
  le : w.heap.size ≤ N
  own : ∀ q, v.ownBlock = some q → N + 1 + 1 + 1 + 1 + 1 < q
section
variable {w W V : World} {N : Nat} {A : Option Addr} {n c : Nat} {v : Value} {s : WSt} {tm : Int → Int} {at_ : Int}
theorem GoS.grownB {L M : Nat} {row : Option Nat} {B : Nat} (h : GoS w W L M v s) (hB : w.heap.size ≤ B) (hg : W.grownBy V row) (hr : ∀ r, row = some r → B ≤ r ∧ ∃ o : Obj, W.heap[r]? = some o ∧ isBook o = true) : GoS w V L M v s :=
  ⟨Stab.blk (B := B) L _ (fun _ : Unit => _) () W V row h.bl hg hr, mapIs_book h.mp hg (fun r e => (hr r e).2), R_book h.out hg (fun r e => (hr r e).2), (Stab.below (β := Unit) (Nat.le_refl _) hB) () W V row h.b hg hr⟩
theorem ChI.grownB {row : Option Nat} {B : Nat} (h : ChI w W N A n c v s tm at_) (hB : w.heap.size ≤ B) (hg : W.grownBy V row) (hr : ∀ r, row = some r → B ≤ r ∧ ∃ o : Obj, W.heap[r]? = some o ∧ isBook o = true) : ChI w V N A n c v s tm at_ :=
  have K : ∀ (b t : Nat) (cs : Array Value), BlkIs W b t cs → BlkIs V b t cs := fun b t cs hb => Stab.blk (B := B) b t (fun _ : Unit => cs) () W V row hb hg hr
  ⟨K _ _ _ h.b0, mapIs_book h.m1 hg (fun r e => (hr r e).2), K _ _ _ h.b2, h.g.grownB hB hg hr, K _ _ _ h.b5, h.le, h.own⟩
theorem ChI.alloc (h : ChI w W N A n c v s tm at_) (o : Obj) : ChI w (W.alloc o) N A n c v s tm at_ := h.grownB (B := w.heap.size) (Nat.le_refl _) (World.grownBy_alloc _ _ none) (fun r e => by cases e)
theorem ChI.below (h : ChI w W N A n c v s tm at_) (hb : Below W.heap.size W V) : ChI w V N A n c v s tm at_ :=
  ⟨(hb.block _ (BlkIs.lt h.b0)).trans h.b0, h.m1.below hb h.m1.lt, (hb.block _ (BlkIs.lt h.b2)).trans h.b2, ⟨(hb.block _ (BlkIs.lt h.g.bl)).trans h.g.bl, h.g.mp.below hb h.g.mp.lt, Kd.R_step h.g.out (fun k _ hk => hb.block k hk), below_then h.g.b h.g.b.size hb⟩, (hb.block _ (BlkIs.lt h.b5)).trans h.b5, h.le, h.own⟩
theorem ChI.drew (h : ChI w W N A n c v s tm at_) : ChI w W.drew N A n c v s tm at_ := ⟨h.b0, h.m1, h.b2, h.g.drew, h.b5, h.le, h.own⟩
theorem ChI.put (h : ChI w W N A n c v s tm at_) (x : Int) : ChI w (W.setCell ⟨N + 1 + 1 + 1 + 1 + 1, 0, none⟩ (.int .i64 x)) N A n c v s tm x :=
  have o : ∀ (b t : Nat) (cs : Array Value), b ≠ N + 1 + 1 + 1 + 1 + 1 → BlkIs W b t cs → BlkIs (W.setCell ⟨N + 1 + 1 + 1 + 1 + 1, 0, none⟩ (.int .i64 x)) b t cs := fun b t cs hb h => BlkIs.other h (p := ⟨N + 1 + 1 + 1 + 1 + 1, 0, none⟩) hb _
  ⟨o _ _ _ (by omega) h.b0, h.m1.setCell (p := ⟨N + 1 + 1 + 1 + 1 + 1, 0, none⟩) (by show N + 1 ≠ N + 1 + 1 + 1 + 1 + 1; omega) _, o _ _ _ (by omega) h.b2,
    ⟨o _ _ _ (by omega) h.g.bl, h.g.mp.setCell (p := ⟨N + 1 + 1 + 1 + 1 + 1, 0, none⟩) (by show N + 1 + 1 + 1 ≠ N + 1 + 1 + 1 + 1 + 1; omega) _, Kd.R_grown2 h.g.out rfl (grownBy_setCell' W (N + 1 + 1 + 1 + 1 + 1) (.int .i64 x)) (fun k hk e => by cases hk; have := h.own _ e.symm; omega), h.g.b.setCell (p := ⟨N + 1 + 1 + 1 + 1 + 1, 0, none⟩) (by have := h.le; show w.heap.size ≤ N + 1 + 1 + 1 + 1 + 1; omega) _⟩,
    BlkIs.set h.b5 0 _, h.le, h.own⟩
theorem ChI.turned {f : Int → Int} (h : ChI w W N A n c v s tm at_) (ht : MapTurned W V (N + 1)) (hm : MapIs (Value.int .i64) V (N + 1) (mapD f)) : ChI w V N A n c v s f at_ :=
  have o : ∀ (b t : Nat) (cs : Array Value), b ≠ N + 1 → BlkIs W b t cs → BlkIs V b t cs := fun b t cs hb h => (ht.other b hb).trans h
  ⟨o _ _ _ (by omega) h.b0, hm, o _ _ _ (by omega) h.b2,
    ⟨o _ _ _ (by omega) h.g.bl, h.g.mp.move (ht.other _ (by omega)), Kd.R_step (Kd.R_far1 h.g.out rfl (g := N + 1) (fun e => by have := h.own _ e.symm; omega)) (fun q hq _ => ht.other q hq.2) |> (Kd.R_mono · (fun _ hk => hk.1)), ht.below h.g.b (by have := h.le; omega)⟩,
    o _ _ _ (by omega) h.b5, h.le, h.own⟩
theorem ChI.went {v2 : Value} {s2 : WSt} (h : ChI w W N A n c v s tm at_) (hv : v.ownBlock = none) (hg : GoS w V (N + 1 + 1 + 1 + 1) (N + 1 + 1 + 1) v2 s2) (ho : v2.ownBlock = v.ownBlock ∨ ∃ b, v2.ownBlock = some b ∧ W.heap.size ≤ b)
    (hk : KeptBut (fun q => q = N + 1 + 1 + 1 + 1 ∨ q = N + 1 + 1 + 1 ∨ some q = v.ownBlock) W V) : ChI w V N A n c v2 s2 tm at_ :=
  have o : ∀ (b t : Nat) (cs : Array Value), b ≠ N + 1 + 1 + 1 + 1 → b ≠ N + 1 + 1 + 1 → BlkIs W b t cs → BlkIs V b t cs := fun b t cs h1 h2 h => (hk.block b (BlkIs.lt h) (by rw [hv]; rintro (e | e | e); exact h1 e; exact h2 e; cases e)).trans h
  ⟨o _ _ _ (by omega) (by omega) h.b0, h.m1.move (hk.block _ h.m1.lt (by rw [hv]; rintro (e | e | e); omega; omega; cases e)), o _ _ _ (by omega) (by omega) h.b2, hg, o _ _ _ (by omega) (by omega) h.b5, h.le, fun q hq => by
    rcases ho with e | ⟨b, e, hb⟩
    · rw [e, hv] at hq; cases hq
    · rw [e] at hq; cases hq; have := BlkIs.lt h.b5; omega⟩
end
theorem ChI.stab {β : Type} {B : Nat} (w : World) (N : Nat) (A : Option Addr) (n c : Nat) (v : Value) (s : WSt) (hB : w.heap.size ≤ B) (p : β → (Int → Int) → Int → Prop) : Stab B (fun (pre : β) W => ∃ tm at_, p pre tm at_ ∧ ChI w W N A n c v s tm at_) := by
  rintro pre W W' row ⟨tm, at_, hp, h⟩ hg hr
  exact ⟨tm, at_, hp, h.grownB hB hg hr⟩

def ChJ (w : World) (l : List Nd) (N : Nat) (A : Option Addr) (n c : Nat) (a' : Act) (W : World) : Prop :=
  ∃ (er at_ : Int) (v : Value) (s : WSt) (tm : Int → Int) (ds : List Deferred) (u : Nat → Value), checkP l = (at_, er) ∧ er ≠ 0 ∧ ChI w W N A n c v s tm at_ ∧ Marks w.heap.size ds W ∧
    a' = { tmps := (List.toArray (.slice A n c :: .pointer (some ⟨N, 0, none⟩) :: u 2 :: u 3 :: u 4 :: .pointer (some ⟨N + 1 + 1, 0, none⟩) :: .pointer (some ⟨N + 1 + 1 + 1 + 1, 0, none⟩) :: .pointer (some ⟨N + 1 + 1 + 1 + 1 + 1, 0, none⟩) :: .int .i64 er :: u 9 :: u 10 :: u 11 :: u 12 :: u 13 :: u 14 :: u 15 :: u 16 :: u 17 :: u 18 :: u 19 :: u 20 :: u 21 :: u 22 :: u 23 :: u 24 :: u 25 :: u 26 :: u 27 :: u 28 :: u 29 :: u 30 :: u 31 :: u 32 :: u 33 :: u 34 :: u 35 :: u 36 :: u 37 :: u 38 :: u 39 :: u 40 :: u 41 :: u 42 :: u 43 :: u 44 :: u 45 :: u 46 :: u 47 :: u 48 :: u 49 :: u 50 :: u 51 :: u 52 :: u 53 :: u 54 :: u 55 :: u 56 :: u 57 :: u 58 :: u 59 :: u 60 :: u 61 :: u 62 :: u 63 :: u 64 :: u 65 :: u 66 :: u 67 :: u 68 :: u 69 :: u 70 :: u 71 :: u 72 :: u 73 :: u 74 :: u 75 :: u 76 :: u 77 :: u 78 :: u 79 :: u 80 :: u 81 :: u 82 :: u 83 :: u 84 :: u 85 :: u 86 :: u 87 :: u 88 :: u 89 :: [])), defers := ds }
set_option maxRecDepth 100000 in
theorem ChJ.mk {w : World} {l : List Nd} {N : Nat} {A : Option Addr} {n c : Nat} {W : World} {er at_ : Int} {v : Value} {s : WSt} {tm : Int → Int} {ds : List Deferred} (u2 u3 u4 u9 u10 u11 u12 u13 u14 u15 u16 u17 u18 u19 u20 u21 u22 u23 u24 u25 u26 u27 u28 u29 u30 u31 u32 u33 u34 u35 u36 u37 u38 u39 u40 u41 u42 u43 u44 u45 u46 u47 u48 u49 u50 u51 u52 u53 u54 u55 u56 u57 u58 u59 u60 u61 u62 u63 u64 u65 u66 u67 u68 u69 u70 u71 u72 u73 u74 u75 u76 u77 u78 u79 u80 u81 u82 u83 u84 u85 u86 u87 u88 u89 : Value) (h1 : checkP l = (at_, er)) (h2 : er ≠ 0) (h3 : ChI w W N A n c v s tm at_) (h4 : Marks w.heap.size ds W) :
    ChJ w l N A n c { tmps := (List.toArray (.slice A n c :: .pointer (some ⟨N, 0, none⟩) :: u2 :: u3 :: u4 :: .pointer (some ⟨N + 1 + 1, 0, none⟩) :: .pointer (some ⟨N + 1 + 1 + 1 + 1, 0, none⟩) :: .pointer (some ⟨N + 1 + 1 + 1 + 1 + 1, 0, none⟩) :: .int .i64 er :: u9 :: u10 :: u11 :: u12 :: u13 :: u14 :: u15 :: u16 :: u17 :: u18 :: u19 :: u20 :: u21 :: u22 :: u23 :: u24 :: u25 :: u26 :: u27 :: u28 :: u29 :: u30 :: u31 :: u32 :: u33 :: u34 :: u35 :: u36 :: u37 :: u38 :: u39 :: u40 :: u41 :: u42 :: u43 :: u44 :: u45 :: u46 :: u47 :: u48 :: u49 :: u50 :: u51 :: u52 :: u53 :: u54 :: u55 :: u56 :: u57 :: u58 :: u59 :: u60 :: u61 :: u62 :: u63 :: u64 :: u65 :: u66 :: u67 :: u68 :: u69 :: u70 :: u71 :: u72 :: u73 :: u74 :: u75 :: u76 :: u77 :: u78 :: u79 :: u80 :: u81 :: u82 :: u83 :: u84 :: u85 :: u86 :: u87 :: u88 :: u89 :: [])), defers := ds } W := ⟨er, at_, v, s, tm, ds, fun j => (List.toArray (undef :: undef :: u2 :: u3 :: u4 :: undef :: undef :: undef :: undef :: u9 :: u10 :: u11 :: u12 :: u13 :: u14 :: u15 :: u16 :: u17 :: u18 :: u19 :: u20 :: u21 :: u22 :: u23 :: u24 :: u25 :: u26 :: u27 :: u28 :: u29 :: u30 :: u31 :: u32 :: u33 :: u34 :: u35 :: u36 :: u37 :: u38 :: u39 :: u40 :: u41 :: u42 :: u43 :: u44 :: u45 :: u46 :: u47 :: u48 :: u49 :: u50 :: u51 :: u52 :: u53 :: u54 :: u55 :: u56 :: u57 :: u58 :: u59 :: u60 :: u61 :: u62 :: u63 :: u64 :: u65 :: u66 :: u67 :: u68 :: u69 :: u70 :: u71 :: u72 :: u73 :: u74 :: u75 :: u76 :: u77 :: u78 :: u79 :: u80 :: u81 :: u82 :: u83 :: u84 :: u85 :: u86 :: u87 :: u88 :: u89 :: [])).getD j undef, h1, h2, h3, h4, rfl⟩

theorem fl_seq0 {a b : Code} {l : Nat} (h1 : findLabel a l = none) (h2 : findLabel b l = none) : findLabel (a.seq b) l = none := by unfold findLabel; rw [h1]; exact h2
theorem fl_seq1 {a b r : Code} {l : Nat} (h1 : findLabel a l = none) (h2 : findLabel b l = some r) : findLabel (a.seq b) l = some r := by unfold findLabel; rw [h1]; exact h2
theorem fl_here (l : Nat) (b : Code) : findLabel ((Code.label l).seq b) l = some (Code.skip.seq b) := by unfold findLabel; unfold findLabel; simp
theorem fl_ne {l l' : Nat} (h : l' ≠ l) : findLabel (Code.label l') l = none := by unfold findLabel; simp [h]
theorem fl_region (i : Nat) (ops : Array Oper) (d : Bool) (l : Nat) : findLabel (Code.region i ops d) l = none := rfl
theorem fl_cond (c : Operand) (a b : Code) (l : Nat) : findLabel (Code.cond c a b) l = none := rfl
theorem fl_block (i : Nat) (a : Code) (l : Nat) : findLabel (Code.block i a) l = none := rfl
theorem fl_ret (l : Nat) : findLabel Code.ret l = none := rfl

theorem mapD_none : mapD (fun _ => 0) = fun _ => none := by funext a; rfl
theorem ChI.init (w : World) (A : Option Addr) (n c : Nat) :
    ChI w ((((((w.alloc (.cells #[.slice A n c] 25)).alloc (.map #[] 0)).alloc (.cells #[.map (some (w.heap.size + 1))] 81)).alloc (.map #[] 0)).alloc (.cells #[.slice none 0 0, .map (some (w.heap.size + 1 + 1 + 1))] 83)).alloc (.cells #[.int .i64 0] 3)) w.heap.size A n c (.slice none 0 0) ⟨[], fun _ => 0⟩ (fun _ => 0) 0 := by
  have S : ∀ (V : World) (o : Obj) (b : Nat), b = V.heap.size → (V.alloc o).heap[b]? = some o := fun V o b hb => by subst hb; exact World.alloc_heap_new V o
  have M : ∀ (V : World) (b : Nat), b = V.heap.size → MapIs (Value.int .i64) (V.alloc (.map #[] 0)) b (mapD (fun _ => 0)) := fun V b hb => by subst hb; rw [mapD_none]; exact MapIs.made V
  have b0 : BlkIs (w.alloc (.cells #[.slice A n c] 25)) w.heap.size 25 #[.slice A n c] := S _ _ _ rfl
  have hb : Below w.heap.size w (w.alloc (.cells #[.slice A n c] 25)) := (Below.refl _ w).alloc (Nat.le_refl _) _
  refine ⟨((((b0.alloc _).alloc _).alloc _).alloc _).alloc _, ?_, ?_, ⟨?_, ?_, Kd.R_nil _ _ _ _ _, ?_⟩, ?_, Nat.le_refl _, fun q h => by cases h⟩
  · refine ((((M _ _ ?_).alloc _).alloc _).alloc _).alloc _
    simp
  · exact (((show BlkIs _ _ _ _ from S _ _ _ (by simp)).alloc _).alloc _).alloc _
  · exact (show BlkIs _ _ _ _ from S _ _ _ (by simp)).alloc _
  · exact ((M _ _ (by simp)).alloc _).alloc _
  · exact (((((hb.alloc (by simp) _).alloc (by simp; omega) _).alloc (by simp; omega) _).alloc (by simp; omega) _).alloc (by simp; omega) _)
  · exact S _ _ _ (by simp)

/-- what check says -/
def ChR (w : World) (l : List Nd) (e : Ending) (w' : World) : Prop :=
  Below w.heap.size w w' ∧ ((checkP l).2 ≠ 0 → e = .returned (.tuple #[.pointer none, .int .i64 (checkP l).1, .int .i64 (checkP l).2])) ∧
    ((checkP l).2 = 0 → ∃ L M v, e = .returned (.tuple #[.pointer (some ⟨L, 0, none⟩), .int .i64 0, .int .i64 0]) ∧ GoS w w' L M v (walkP l) ∧ w.heap.size ≤ L ∧ w.heap.size ≤ M)

set_option maxRecDepth 100000 in
set_option maxHeartbeats 8000000 in
theorem check_any (l : List Nd) (A : Option Addr) (c : Nat) (w : World) (hN : Kd.C k43 w A l.length l) (hc : l.length ≤ c) (hlk : (linksOf l).length ≤ 1000000000) :
    Calls Try.prog 43 #[.slice A l.length c] w (ChR w l) := by
  have hbig := hN.2.1
  obtain ⟨CS, hCS⟩ := nodesAt_of hN
  have HN := Lib.hid hN
  have HCS := Lib.hid hCS
  have HC := Lib.hid hc
  have HLK := Lib.hid hlk
  clear hN hCS hc hlk
  refine calls_of_wp_marks Try.func43 rfl ?_
  simp only [Try.ntmps43, List.size_toArray, List.length_cons, List.length_nil, Nat.reduceAdd, Nat.reduceSub, Array.replicate_succ, Array.replicate_zero, List.push_toArray, List.append_toArray, List.nil_append, List.cons_append]
  have hmm := @run_makeMap Try.prog
  obtain ⟨N, hNN⟩ : ∃ N, N = w.heap.size := ⟨_, rfl⟩
  go_wp2
  refine wp_scope_jumps2 0 (ChJ w l N A l.length c) (fun _ _ => 0) (by repeat (first | exact fl_here _ _ | refine fl_seq1 (by repeat (first | exact fl_region _ _ _ _ | exact fl_cond _ _ _ _ | exact fl_block _ _ _ | exact fl_ret _ | exact fl_ne (by decide) | refine fl_seq0 ?_ ?_)) ?_)) ?_ ?_
  focus
    rintro a' W ⟨er, at_, v, s, tm, ds, u, h1, h2, h3, h4, rfl⟩
    clear hNN
    have y5 : W.cell? ⟨N + 1 + 1 + 1 + 1 + 1, 0, none⟩ = some (.int .i64 at_) := BlkIs.cell h3.b5 0
    have l5 : N + 1 + 1 + 1 + 1 + 1 < W.heap.size := BlkIs.lt h3.b5
    have H1 := Lib.hid h1
    have H2 := Lib.hid h2
    have H3 := Lib.hid h3
    have H4 := Lib.hid h4
    clear h1 h2 h3 h4
    go_wp2
    go_region
    simp only [Exit.then]
    go_wp2
    show LeavesInM _ _ _ _ _ _ _ _ _
    refine leaves_marks (v := .tuple #[.pointer none, .int .i64 at_, .int .i64 er]) (B := w.heap.size) H4.out (fun W' hs => ⟨?_, ?_, fun _ => ?_, fun h => ?_⟩)
    · simp [results, Try.results43]
    · exact hs.stab _ (Stab.below (Nat.le_refl _) (Nat.le_refl _)) H3.out.g.b.drew
    · rw [H1.out]
    · rw [H1.out] at h; exact absurd h H2.out
  intro hpass
  clear hpass
  go_upto_region 5 with fail
  have hI := ChI.init w A l.length c
  clear hmm
  generalize ((((((w.alloc (.cells #[.slice A l.length c] 25)).alloc (.map #[] 0)).alloc (.cells #[.map (some (w.heap.size + 1))] 81)).alloc (.map #[] 0)).alloc (.cells #[.slice none 0 0, .map (some (w.heap.size + 1 + 1 + 1))] 83)).alloc (.cells #[.int .i64 0] 3)) = W at hI ⊢
  rw [← hNN] at hI ⊢
  clear hNN
  have HI := Aside0.mk hI
  clear hI
  have y0 : W.cell? ⟨N, 0, none⟩ = some (.slice A l.length c) := BlkIs.cell HI.out.b0 0
  by_cases hl0 : l = []
  focus
    have HP := Lib.hid (show checkP l = (0, 43) by unfold checkP; rw [if_pos (.inl (by rw [hl0]; rfl))])
    have hlz : ((l.length : Nat) : Int) = 0 := by rw [hl0]; rfl
    have hlb : (((l.length : Nat) : Int) == 0) = true := by rw [hl0]; rfl
    clear hlz hl0
    go_wp2
    go_step3
    exact ⟨rfl, ChJ.mk _ _ _ _ _ _ _ _ _ _ _ _ _ _ _ _ _ _ _ _ _ _ _ _ _ _ _ _ _ _ _ _ _ _ _ _ _ _ _ _ _ _ _ _ _ _ _ _ _ _ _ _ _ _ _ _ _ _ _ _ _ _ _ _ _ _ _ _ _ _ _ _ _ _ _ _ _ _ _ _ _ _ _ _ HP.out (by decide) HI.out (Marks.nil _ _)⟩
  have hlb : (((l.length : Nat) : Int) == 0) = false := by have := List.length_pos_iff.2 hl0; simp; exact hl0
  by_cases hl1 : 65536 < (l.length : Int)
  focus
    have HP := Lib.hid (show checkP l = (0, 43) by unfold checkP; rw [if_pos (.inr (by omega))])
    have hd1 : decide (65536 < (l.length : Int)) = true := decide_eq_true hl1
    go_wp2
    go_step3
    exact ⟨rfl, ChJ.mk _ _ _ _ _ _ _ _ _ _ _ _ _ _ _ _ _ _ _ _ _ _ _ _ _ _ _ _ _ _ _ _ _ _ _ _ _ _ _ _ _ _ _ _ _ _ _ _ _ _ _ _ _ _ _ _ _ _ _ _ _ _ _ _ _ _ _ _ _ _ _ _ _ _ _ _ _ _ _ _ _ _ _ _ HP.out (by decide) HI.out (Marks.nil _ _)⟩
  have hd1 : decide (65536 < (l.length : Int)) = false := decide_eq_false hl1
  have HL0 := Lib.hid hl0
  have HL1 := Lib.hid hl1
  clear hl0 hl1
  obtain ⟨f, hf⟩ : ∃ f, f = firstOf (fun n => !rightN n) l := ⟨_, rfl⟩
  have y5 : W.cell? ⟨N + 1 + 1 + 1 + 1 + 1, 0, none⟩ = some (.int .i64 0) := BlkIs.cell HI.out.b5 0
  have f5 := BlkIs.frozen HI.out.b5 0
  have l5 := BlkIs.lt HI.out.b5
  have HW := Lib.hid (wrong_any A c l CS W (HCS.out.below HI.out.g.b) HC.out hbig)
  rw [← hf] at HW
  have HF := Lib.hid hf
  clear hf
  go_upto_region 8 with (go_at_call 49; refine HW.out.mono ?_; rintro e W1 ⟨rfl, hb1⟩; have HI1 := Aside0.mk (HI.out.below hb1); clear HW HI y0 y5 f5 l5 hb1; have y0 : W1.cell? ⟨N, 0, none⟩ = some (.slice A l.length c) := BlkIs.cell HI1.out.b0 0; have y5 : W1.cell? ⟨N + 1 + 1 + 1 + 1 + 1, 0, none⟩ = some (.int .i64 0) := BlkIs.cell HI1.out.b5 0; have f5 := BlkIs.frozen HI1.out.b5 0; have l5 := BlkIs.lt HI1.out.b5)
  have HI2 := Aside0.mk (HI1.out.put f)
  clear HI1 y0 y5 f5 l5
  generalize W1.setCell ⟨N + 1 + 1 + 1 + 1 + 1, 0, none⟩ (.int .i64 f) = W at HI2 ⊢
  have y0 : W.cell? ⟨N, 0, none⟩ = some (.slice A l.length c) := BlkIs.cell HI2.out.b0 0
  have y5 : W.cell? ⟨N + 1 + 1 + 1 + 1 + 1, 0, none⟩ = some (.int .i64 f) := BlkIs.cell HI2.out.b5 0
  have hck : checkP l = if 0 ≤ firstOf (fun n => !rightN n) l then (firstOf (fun n => !rightN n) l, 50) else checkK l := by
    conv => lhs; unfold checkP
    rw [if_neg]
    rintro (h | h)
    · exact HL0.out (List.length_eq_zero_iff.1 h)
    · have := HL1.out; omega
  rw [← HF.out] at hck
  by_cases hq : 0 ≤ f
  focus
    rw [if_pos hq] at hck
    have HP := Lib.hid hck
    have hd2 : decide (0 ≤ f) = true := decide_eq_true hq
    clear hck hq
    go_wp2
    go_step3
    exact ⟨rfl, ChJ.mk _ _ _ _ _ _ _ _ _ _ _ _ _ _ _ _ _ _ _ _ _ _ _ _ _ _ _ _ _ _ _ _ _ _ _ _ _ _ _ _ _ _ _ _ _ _ _ _ _ _ _ _ _ _ _ _ _ _ _ _ _ _ _ _ _ _ _ _ _ _ _ _ _ _ _ _ _ _ _ _ _ _ _ _ HP.out (by decide) HI2.out (Marks.nil _ _)⟩
  rw [if_neg hq] at hck
  have HCK := Lib.hid hck
  have hd2 : decide (0 ≤ f) = false := decide_eq_false hq
  clear hck hq
  obtain ⟨B, hB⟩ : ∃ B, B = W.heap.size := ⟨_, rfl⟩
  have hNB : N + 1 + 1 + 1 + 1 + 1 < B := by rw [hB]; exact BlkIs.lt HI2.out.b5
  have hBB := Lib.hid hB
  clear hB
  go_wp2_with (go_at_call 52; refine (links_any l A c _).mono ?_; rintro e w5 ⟨rfl, rfl⟩)
  rw [← hBB.out]
  have hB1 : BlkIs (W.alloc (.cells #[.slice A l.length c] 25)) B 25 #[.slice A l.length c] := by rw [hBB.out]; exact World.alloc_heap_new W _
  have HI3 := Aside0.mk (HI2.out.alloc (.cells #[.slice A l.length c] 25))
  have hsz : (W.alloc (.cells #[.slice A l.length c] 25)).heap.size = B + 1 := by rw [World.size_alloc, ← hBB.out]
  have HB1 := Aside0.mk hB1
  have HSZ := Lib.hid hsz
  clear HI2 y0 y5 hB1 hBB hsz
  generalize W.alloc (.cells #[.slice A l.length c] 25) = W3 at HI3 HB1 HSZ ⊢
  have hwN : w.heap.size ≤ N := HI3.out.le
  refine wp_range_plain (links1_iter l B A CS c HC.out hbig) (enters_of Try.func62 (by kernel_rfl) rfl) rfl (fun _ => rfl)
    (fun (pre : List (Nat × Int)) W => (∃ tm at_, ((∀ y ∈ pre, badLink l.length y = false) ∧ tm = cntL pre) ∧ ChI w W N A l.length c (.slice none 0 0) ⟨[], fun _ => 0⟩ tm at_) ∧ BlkIs W B 25 #[.slice A l.length c])
    (fun (cd : Code) W => ∃ tm at_, (cd = .goto 0 ∧ checkP l = (at_, 40)) ∧ ChI w W N A l.length c (.slice none 0 0) ⟨[], fun _ => 0⟩ tm at_)
    (Stab.and (ChI.stab w N A l.length c _ _ (by rw [HSZ.out]; omega) (fun (pre : List (Nat × Int)) tm _ => (∀ y ∈ pre, badLink l.length y = false) ∧ tm = cntL pre)) (Stab.blk B _ (fun _ => _)))
    (ChI.stab w N A l.length c _ _ (by rw [HSZ.out]; omega) (fun (cd : Code) _ at_ => cd = .goto 0 ∧ checkP l = (at_, 40)))
    (fun pre A ⟨⟨tm, at_, _, h⟩, hb⟩ => ⟨BlkIs.cell hb 0, HCS.out.below h.g.b⟩) ⟨⟨_, _, ⟨fun y hy => by (simp at hy), rfl⟩, HI3.out⟩, HB1.out⟩ ?round ?done ?stop
  case stop =>
    rintro D cd W hD ⟨tm, at_, ⟨rfl, hc⟩, hL⟩ hbook hd
    have HL := Lib.hid hL
    have HP := Lib.hid hc
    have HM := Lib.hid (show Marks w.heap.size [markOf D] W from ⟨[D], rfl, by simp, by rw [HSZ.out] at hD; simp; exact ⟨by omega, hd⟩⟩)
    clear hL hc hd hbook
    go_step3
    exact ⟨rfl, ChJ.mk _ _ _ _ _ _ _ _ _ _ _ _ _ _ _ _ _ _ _ _ _ _ _ _ _ _ _ _ _ _ _ _ _ _ _ _ _ _ _ _ _ _ _ _ _ _ _ _ _ _ _ _ _ _ _ _ _ _ _ _ _ _ _ _ _ _ _ _ _ _ _ _ _ _ _ _ _ _ _ _ _ _ _ _ HP.out (by decide) HL.out HM.out⟩
  case round =>
    rintro lp pre ⟨r, k⟩ rest W hx hl ⟨⟨tm, at_, ⟨hpre, rfl⟩, hL⟩, hb⟩
    have HPre := Lib.hid hpre
    have HX := Lib.hid hx
    have HL := Lib.hid hL
    have HB := Lib.hid hb
    clear hpre hx hL hb HI3 HB1
    dsimp only [linkV]
    gi_wp2
    refine ⟨by (repeat (first | (with_reducible exact KeepBook.refl _) | (with_reducible refine KeepBook.alloc ?_ _) | (with_reducible refine KeepBook.setCell ?_ _ _) | (with_reducible refine KeepBook.drew ?_) | (refine KeepBook.below ?_ (by assumption)))), ?_⟩
    rintro W2 hs _
    have hL2 : ChI w W2 N A l.length c (.slice none 0 0) ⟨[], fun _ => 0⟩ (cntL pre) at_ := hs.stab (fun V => ChI w V N A l.length c (.slice none 0 0) ⟨[], fun _ => 0⟩ (cntL pre) at_) (fun _ V V' row hV hg hr => hV.grownB (by rw [HSZ.out]; omega) hg hr) HL.out
    have HL2 := Aside0.mk hL2
    have HB2 := Aside0.mk (hs.blk HB.out)
    have y5 : W2.cell? ⟨N + 1 + 1 + 1 + 1 + 1, 0, none⟩ = some (.int .i64 at_) := BlkIs.cell HL2.out.b5 0
    have f5 := BlkIs.frozen HL2.out.b5 0
    have l5 := BlkIs.lt HL2.out.b5
    clear hs HL HB hL2
    gi_upto_region 14 with fail
    have HL3 := Aside0.mk (HL2.out.put r)
    have HB3 := Aside0.mk (BlkIs.other HB2.out (p := ⟨N + 1 + 1 + 1 + 1 + 1, 0, none⟩) (by show B ≠ N + 1 + 1 + 1 + 1 + 1; omega) (.int .i64 r))
    have HK3 := Aside0.mk ((KeepBook.refl W2).setCell ⟨N + 1 + 1 + 1 + 1 + 1, 0, none⟩ (.int .i64 r))
    clear HL2 HB2 f5 l5 y5
    generalize W2.setCell ⟨N + 1 + 1 + 1 + 1 + 1, 0, none⟩ (.int .i64 r) = W3 at HL3 HB3 HK3 ⊢
    have y0 : W3.cell? ⟨N, 0, none⟩ = some (.slice A l.length c) := BlkIs.cell HL3.out.b0 0
    have y2 : W3.cell? ⟨N + 1 + 1, 0, none⟩ = some (.map (some (N + 1))) := BlkIs.cell HL3.out.b2 0
    by_cases q1 : k < 1
    focus
      have hd3 : decide (k < 1) = true := decide_eq_true q1
      have HP := Lib.hid (HCK.out.trans (checkK_bad HX.out HPre.out (by unfold badLink; simp; omega)))
      clear q1
      gi_wp2
      refine wpIn_goto ?_
      exact ⟨HK3.out, _, _, ⟨rfl, HP.out⟩, HL3.out⟩
    have hd3 : decide (k < 1) = false := decide_eq_false q1
    by_cases q2 : (l.length : Int) ≤ k
    focus
      have hd4 : decide ((l.length : Int) ≤ k) = true := decide_eq_true q2
      have HP := Lib.hid (HCK.out.trans (checkK_bad HX.out HPre.out (by unfold badLink; simp; omega)))
      clear q1 q2
      gi_wp2
      refine wpIn_goto ?_
      exact ⟨HK3.out, _, _, ⟨rfl, HP.out⟩, HL3.out⟩
    have hd4 : decide ((l.length : Int) ≤ k) = false := decide_eq_false q2
    have HQ := Lib.hid (show badLink l.length (r, k) = false by unfold badLink; simp; omega)
    clear q1 q2
    have hlk := HL3.out.m1.lookup (P := Try.prog) (keyOK_int Try.underlying3) Try.underlying81 (z := .int .i64 0) (by kernel_rfl) k
    rw [mapD_get] at hlk
    have hcb := cntL_le pre k
    have hpl : (pre.length : Int) ≤ 1000000000 := by have := HLK.out; rw [HX.out] at this; simp at this; omega
    have hw1 : IntKind.i64.wrap (cntL pre k + 1) = cntL pre k + 1 := IntWalk.i64_in _ (by omega)
    obtain ⟨V, hr1, hm2, ht⟩ := HL3.out.m1.update (P := Try.prog) (keyOK_int Try.underlying3) Try.underlying81 k (.int .i64 (cntL pre k + 1))
    rw [mapD_upd _ _ _ (by omega), ← cntL_snoc pre (r, k)] at hm2
    have HL4 := Aside0.mk (HL3.out.turned ht hm2)
    have HB4 := Aside0.mk ((ht.other B (by omega)).trans HB3.out)
    have HK4 := Aside0.mk (HK3.out.trans (KeepBook.turned HL3.out.m1 ht))
    clear hcb hpl hm2 ht HL3 HB3 HK3
    gi_wp2
    refine ⟨HK4.out, ⟨_, _, ⟨fun y hy => ?_, rfl⟩, HL4.out⟩, HB4.out⟩
    rcases List.mem_append.1 hy with h | h
    · exact HPre.out y h
    · rw [List.mem_singleton.1 h]; exact HQ.out
  case done =>
    rintro D W hD ⟨⟨tm, at_, ⟨hpre, rfl⟩, hL⟩, hb⟩ hbook hd
    have HL := Lib.hid hL
    have HPre := Lib.hid hpre
    have HM := Lib.hid (show Marks w.heap.size [markOf D] W from ⟨[D], rfl, by simp, by rw [HSZ.out] at hD; simp; exact ⟨by omega, hd⟩⟩)
    clear hL hpre hd hbook hb HI3 HB1
    have HKI := Lib.hid (kids_ok HPre.out)
    have hpos : (0 : Int) < (l.length : Int) := by have := List.length_pos_iff.2 HL0.out; omega
    have hl100 : l.length ≤ 100000 := by have := HL1.out; omega
    have HG := Lib.hid (goes_any w A l c HN.out hl100 (fun n hn k hk => by have := HKI.out n hn k hk; omega) (N + 1 + 1 + 1 + 1) (N + 1 + 1 + 1) (by omega) (by omega) (l.length + 1) 0 1 ⟨[], fun _ => 0⟩ (.slice none 0 0) W (by omega) hpos (by omega) (by omega) (good_init _).1 (by rw [(good_init _).2]; omega) HL.out.g)
    have HCC := Lib.hid (HCK.out.trans (checkK_ok HPre.out))
    clear HCK HPre
    have y0 : W.cell? ⟨N, 0, none⟩ = some (.slice A l.length c) := BlkIs.cell HL.out.b0 0
    go_upto_region 18 with (go_at_call 53; refine HG.out.mono ?_; rintro e W4 ⟨⟨u, rfl⟩, v2, hS3, hO3, hK3⟩; have HL4 := Aside0.mk (HL.out.went rfl hS3 hO3 hK3); have HM4 := Lib.hid (HM.out.keep (KeepBook.mk hK3.size (fun q o hq ho => (hK3.block q (Array.getElem?_eq_some_iff.1 hq).1 (by
      rintro (h | h | h)
      · subst h; rw [show W.heap[N + 1 + 1 + 1 + 1]? = _ from HL.out.g.bl] at hq; cases hq; cases ho
      · subst h; obtain ⟨es, cc, ks, hm, -, -⟩ := HL.out.g.mp; rw [hm] at hq; cases hq; cases ho
      · cases h)).trans hq)).to); clear y0 hS3 hO3 hK3 HL HM HG)
    have HL5 : Aside0 (∃ at_, ChI w W4 N A l.length c v2 (walkP l) (cntL (linksOf l)) at_) := ⟨_, HL4.out⟩
    have y0 : W4.cell? ⟨N, 0, none⟩ = some (.slice A l.length c) := BlkIs.cell HL4.out.b0 0
    clear HL4 hd1 hd2 hlb HKI hpos
    go_wp2
    clear y0
    go_loopw [51] (fun i wr => ∃ j : Nat, j ≤ l.length ∧ i = .int .i64 j ∧ Aside0 (∀ q, q < j → cycB l q = false) ∧ Aside0 (Marks w.heap.size [markOf D] wr) ∧ Aside0 (∃ at_, ChI w wr N A l.length c v2 (walkP l) (cntL (linksOf l)) at_)) (fun i _ => l.length - (intOf i).toNat)
    case atStart => exact ⟨0, Nat.zero_le _, rfl, ⟨fun q hq => absurd hq (Nat.not_lt_zero _)⟩, ⟨HM4.out⟩, HL5⟩
    case round =>
      obtain ⟨j, hj, rfl, HA, HMj, HLj⟩ := hrel
      clear HL5 HM4
      by_cases hlt : j < l.length
      · have hltz : (j : Int) < (l.length : Int) := by omega
        obtain ⟨at0, hL⟩ := HLj.out
        have HL := Aside0.mk hL
        clear HLj hL
        have y5 : wr.cell? ⟨N + 1 + 1 + 1 + 1 + 1, 0, none⟩ = some (.int .i64 at0) := BlkIs.cell HL.out.b5 0
        have f5 := BlkIs.frozen HL.out.b5 0
        have l5 := BlkIs.lt HL.out.b5
        go_upto_region 22 with fail
        have HL1 := Aside0.mk (HL.out.put j)
        have HM1 := Aside0.mk (HMj.out.keep ((KeepBook.refl wr).setCell ⟨N + 1 + 1 + 1 + 1 + 1, 0, none⟩ (.int .i64 j)).to)
        clear HL HMj f5 l5 y5
        generalize wr.setCell ⟨N + 1 + 1 + 1 + 1 + 1, 0, none⟩ (.int .i64 j) = W5 at HL1 HM1 ⊢
        have y2 : W5.cell? ⟨N + 1 + 1, 0, none⟩ = some (.map (some (N + 1))) := BlkIs.cell HL1.out.b2 0
        have y4 : W5.cell? ⟨N + 1 + 1 + 1 + 1, 1, none⟩ = some (.map (some (N + 1 + 1 + 1))) := BlkIs.cell HL1.out.g.bl 1
        have l4 := BlkIs.lt HL1.out.g.bl
        have hlk1 := HL1.out.m1.lookup (P := Try.prog) (keyOK_int Try.underlying3) Try.underlying81 (z := .int .i64 0) (by kernel_rfl) (j : Int)
        have hlk2 := HL1.out.g.mp.lookup (P := Try.prog) (keyOK_int Try.underlying3) Try.underlying81 (z := .int .i64 0) (by kernel_rfl) (j : Int)
        rw [mapD_get] at hlk1 hlk2
        have HP1 := Lib.hid (fun (h : cycB l j = true) => HCC.out.trans (show checkC l = (((j : Nat) : Int), 41) by unfold checkC; rw [find_range_hit hlt h HA.out]))
        have HP2 := Lib.hid (fun (h : cycB l j = false) => (show ∀ q, q < j + 1 → cycB l q = false from fun q hq => by
          by_cases e : q = j
          · rw [e]; exact h
          · exact HA.out q (by omega)))
        have HCY := Lib.hid (show cycB l j = (decide (0 < j) && (decide (cntL (linksOf l) j ≠ 1) || decide ((walkP l).dep j = 0))) from rfl)
        generalize cntL (linksOf l) (j : Int) = tj at hlk1 HCY
        generalize hdj : (walkP l).dep (j : Int) = dj at hlk2 HCY
        clear hdj HA
        by_cases h0 : 0 < j
        rotate_left
        focus
          have hda : decide (0 < j) = false := decide_eq_false h0
          have hdb : decide ((0 : Int) < (j : Int)) = false := decide_eq_false (by omega)
          have HG := Lib.hid (HP2.out (by rw [HCY.out, hda]; rfl))
          clear h0 HP1 HP2 HCY
          go_wp2
          go_roundw
          case rel => exact ⟨j + 1, by omega, by go_num, ⟨HG.out⟩, HM1, ⟨_, HL1.out⟩⟩
          case measure => simp [intOf]; omega
        have hda : decide (0 < j) = true := decide_eq_true h0
        have hdb : decide ((0 : Int) < (j : Int)) = true := decide_eq_true (by omega)
        have h0z : (0 : Int) < (j : Int) := by omega
        by_cases h1 : tj = 1
        rotate_left
        focus
          have hdc : (tj != 1) = true := by simpa using h1
          have HP := Lib.hid (HP1.out (by rw [HCY.out, hda, decide_eq_true h1]; rfl))
          clear h1 HP1 HP2 HCY
          go_wp2
          go_step3
          exact ⟨rfl, ChJ.mk _ _ _ _ _ _ _ _ _ _ _ _ _ _ _ _ _ _ _ _ _ _ _ _ _ _ _ _ _ _ _ _ _ _ _ _ _ _ _ _ _ _ _ _ _ _ _ _ _ _ _ _ _ _ _ _ _ _ _ _ _ _ _ _ _ _ _ _ _ _ _ _ _ _ _ _ _ _ _ _ _ _ _ _ HP.out (by decide) HL1.out HM1.out⟩
        subst h1
        by_cases h2 : dj = 0
        focus
          have hdd : (dj == 0) = true := by simpa using h2
          have HP := Lib.hid (HP1.out (by rw [HCY.out, hda, decide_eq_true h2]; rfl))
          clear h2 HP1 HP2 HCY
          go_wp2
          go_step3
          exact ⟨rfl, ChJ.mk _ _ _ _ _ _ _ _ _ _ _ _ _ _ _ _ _ _ _ _ _ _ _ _ _ _ _ _ _ _ _ _ _ _ _ _ _ _ _ _ _ _ _ _ _ _ _ _ _ _ _ _ _ _ _ _ _ _ _ _ _ _ _ _ _ _ _ _ _ _ _ _ _ _ _ _ _ _ _ _ _ _ _ _ HP.out (by decide) HL1.out HM1.out⟩
        have hdd : (dj == 0) = false := by simpa using h2
        have HG := Lib.hid (HP2.out (by rw [HCY.out, hda, decide_eq_false h2]; rfl))
        clear h2 HP1 HP2 HCY
        go_wp2
        go_roundw
        case rel => exact ⟨j + 1, by omega, by go_num, ⟨HG.out⟩, HM1, ⟨_, HL1.out⟩⟩
        case measure => simp [intOf]; omega
      · have hjl : j = l.length := by omega
        subst hjl
        have HCD := Lib.hid (HCC.out.trans (show checkC l = checkD l by unfold checkC; rw [find_range_miss HA.out]))
        obtain ⟨at0, hL⟩ := HLj.out
        have HL := Aside0.mk hL
        have y0 : wr.cell? ⟨N, 0, none⟩ = some (.slice A l.length c) := BlkIs.cell HL.out.b0 0
        clear HLj hL HCC HA
        go_wp2
        go_step3
        go_wp2
        clear y0
        have HL6 : Aside0 (∃ at_, ChI w wr N A l.length c v2 (walkP l) (cntL (linksOf l)) at_) := ⟨_, HL.out⟩
        clear HL
        go_loopw [75] (fun i wr => ∃ j : Nat, j ≤ l.length ∧ i = .int .i64 j ∧ Aside0 (∀ q, q < j → deepB l q = false) ∧ Aside0 (Marks w.heap.size [markOf D] wr) ∧ Aside0 (∃ at_, ChI w wr N A l.length c v2 (walkP l) (cntL (linksOf l)) at_)) (fun i _ => l.length - (intOf i).toNat)
        case atStart => exact ⟨0, Nat.zero_le _, rfl, ⟨fun q hq => absurd hq (Nat.not_lt_zero _)⟩, HMj, HL6⟩
        case round =>
          obtain ⟨j, hj, rfl, HA, HMj, HLj⟩ := hrel
          clear HL6
          obtain ⟨at0, hL⟩ := HLj.out
          have HL := Aside0.mk hL
          clear HLj hL
          by_cases hlt : j < l.length
          · have hltz : (j : Int) < (l.length : Int) := by omega
            have y5 : wr.cell? ⟨N + 1 + 1 + 1 + 1 + 1, 0, none⟩ = some (.int .i64 at0) := BlkIs.cell HL.out.b5 0
            have f5 := BlkIs.frozen HL.out.b5 0
            have l5 := BlkIs.lt HL.out.b5
            have y4 : wr.cell? ⟨N + 1 + 1 + 1 + 1, 1, none⟩ = some (.map (some (N + 1 + 1 + 1))) := BlkIs.cell HL.out.g.bl 1
            have l4 := BlkIs.lt HL.out.g.bl
            have hlk2 := HL.out.g.mp.lookup (P := Try.prog) (keyOK_int Try.underlying3) Try.underlying81 (z := .int .i64 0) (by kernel_rfl) (j : Int)
            rw [mapD_get] at hlk2
            have HP1 := Lib.hid (fun (h : deepB l j = true) => HCD.out.trans (show checkD l = (((j : Nat) : Int), 42) by unfold checkD; rw [find_range_hit hlt h HA.out]))
            have HP2 := Lib.hid (fun (h : deepB l j = false) => (show ∀ q, q < j + 1 → deepB l q = false from fun q hq => by
              by_cases e : q = j
              · rw [e]; exact h
              · exact HA.out q (by omega)))
            have HCY := Lib.hid (show deepB l j = decide (64 < (walkP l).dep j) from rfl)
            generalize hdj : (walkP l).dep (j : Int) = dj at hlk2 HCY
            clear hdj HA
            by_cases h0 : dj ≤ 64
            focus
              have hda : decide (dj ≤ 64) = true := decide_eq_true h0
              have HG := Lib.hid (HP2.out (by rw [HCY.out]; exact decide_eq_false (by omega)))
              clear h0 HP1 HP2 HCY
              go_wp2
              go_roundw
              case rel => exact ⟨j + 1, by omega, by go_num, ⟨HG.out⟩, HMj, ⟨_, HL.out⟩⟩
              case measure => simp [intOf]; omega
            have hda : decide (dj ≤ 64) = false := decide_eq_false h0
            have HP := Lib.hid (HP1.out (by rw [HCY.out]; exact decide_eq_true (by omega)))
            have HL1 := Aside0.mk (HL.out.put j)
            have HM1 := Aside0.mk (HMj.out.keep ((KeepBook.refl wr).setCell ⟨N + 1 + 1 + 1 + 1 + 1, 0, none⟩ (.int .i64 j)).to)
            clear h0 HP1 HP2 HCY
            go_wp2
            go_step3
            exact ⟨rfl, ChJ.mk _ _ _ _ _ _ _ _ _ _ _ _ _ _ _ _ _ _ _ _ _ _ _ _ _ _ _ _ _ _ _ _ _ _ _ _ _ _ _ _ _ _ _ _ _ _ _ _ _ _ _ _ _ _ _ _ _ _ _ _ _ _ _ _ _ _ _ _ _ _ _ _ _ _ _ _ _ _ _ _ _ _ _ _ HP.out (by decide) HL1.out HM1.out⟩
          · have hjl : j = l.length := by omega
            subst hjl
            have HCE := Lib.hid (HCD.out.trans (show checkD l = (0, 0) by unfold checkD; rw [find_range_miss HA.out]))
            clear HCD HA
            go_wp2
            show LeavesInM _ _ _ _ _ _ _ _ _
            refine leaves_marks (v := .tuple #[.pointer (some ⟨N + 1 + 1 + 1 + 1, 0, none⟩), .int .i64 0, .int .i64 0]) (B := w.heap.size) HMj.out (fun W' hs => ⟨?_, ?_, fun h => ?_, fun _ => ?_⟩)
            · simp [results, Try.results43]
            · exact hs.stab _ (Stab.below (Nat.le_refl _) (Nat.le_refl _)) HL.out.g.b
            · rw [HCE.out] at h; exact absurd rfl h
            · exact ⟨_, _, v2, rfl, hs.stab (fun V => GoS w V (N + 1 + 1 + 1 + 1) (N + 1 + 1 + 1) v2 (walkP l)) (fun _ V V' row hV hg hr => hV.grownB (Nat.le_refl _) hg hr) HL.out.g, by omega, by omega⟩
end Go.Proofs.Ytjhpkikgajgdmaa.K
namespace Go.Proofs.Ytjhpkikgajgdmaa.K
open Go.RowKit Go.Proofs.YtjhpkikgajgdmaaW.PrintWords Go.Proofs.YtjhpkikgajgdmaaW.PrintLast Go.Proofs.YtjhpkikgajgdmaaW.PrintMore
set_option linter.unusedVariables false
set_option linter.unusedSimpArgs false
attribute [local go_sem] Oper.semAt_some

def tree_Check.f (l0 : List (Nd)) : Option (Int × Int) := if (linksOf l0).length ≤ 1000000000 then some (checkP l0) else none
theorem tree_Check.calls (A0 : Option Addr) (c0 : Nat) (l0 : List (Nd)) (r1 : Int) (r2 : Int) (w : World) (hr0 : Kd.C k43 w A0 l0.length l0) (hc0 : l0.length ≤ c0) (h : tree_Check.f l0 = some (r1, r2)) :
    Calls Try.prog 30 #[.slice A0 l0.length c0] w fun e w' => e = .returned (.tuple #[.int .i64 r1, .int .i64 r2]) ∧ Below w.heap.size w w' := by
  unfold tree_Check.f at h
  split at h
  · rename_i hl
    have h' := Option.some.inj h
    have HC := Lib.hid (check_any l0 A0 c0 w hr0 hc0 hl)
    have HH := Lib.hid h'
    clear h h' hr0 hc0
    go_enter Try.func30, Try.ntmps30
    by_cases q : (checkP l0).2 = 0
    focus
      go_wp2_with (go_at_call 43; refine HC.out.mono ?_; rintro e w1 ⟨hb, h1, h2⟩; obtain ⟨L, M, v, rfl, hS, -, -⟩ := h2 q; have HB := Lib.hid hb; clear hb h1 h2 hS)
      refine bodyPost_ret (results_tmp2 rfl _ _ _) rfl ?_
      refine ⟨?_, HB.out⟩
      have e1 : r2 = 0 := by have := HH.out; rw [this] at q; exact q
      have e2 : checkP l0 = (0, 0) := by
        have hh := q
        revert hh
        unfold checkP checkK checkC checkD
        repeat' split
        all_goals simp
      have := HH.out
      rw [e2] at this
      injection this with a b
      subst a b
      rfl
    go_wp2_with (go_at_call 43; refine HC.out.mono ?_; rintro e w1 ⟨hb, h1, h2⟩; obtain rfl := h1 q; have HB := Lib.hid hb; clear hb h1 h2)
    refine bodyPost_ret (results_tmp2 rfl _ _ _) rfl ?_
    refine ⟨?_, HB.out⟩
    rw [HH.out]
    rfl
  · cases h

def depthsP (l : List Nd) : List Int := (List.range l.length).map (fun i => (walkP l).dep ((i : Nat) : Int))
end Go.Proofs.Ytjhpkikgajgdmaa.K
