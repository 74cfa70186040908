/- Layer 5: FixupFixes, walked. -/
import Derived.Test.YtjhpkikgajgdmaaFxG
import Derived.Test.YtjhpkikgajgdmaaFxQ
import Derived.Test.YtjhpkikgajgdmaaFxS
import Derived.Test.YtjhpkikgajgdmaaTrZ
import Derived.Test.YtjhpkikgajgdmaaCut6
import Derived.Test.YtjhpkikgajgdmaaK12
namespace Go.Proofs.Ytjhpkikgajgdmaa.K
open Go.RowKit Go.Proofs.YtjhpkikgajgdmaaW.PrintWords Go.Proofs.YtjhpkikgajgdmaaW.PrintLast Go.Proofs.YtjhpkikgajgdmaaW.PrintMore
set_option linter.unusedVariables false
set_option linter.unusedSimpArgs false
attribute [local go_sem] Oper.semAt_some
theorem rmay_ev (a b : Int) : Ev (fun K => purflingref05_May.f K a b) (mayB a b) := ⟨2, fun k hk => by
  obtain ⟨d, rfl⟩ : ∃ d, k = d + 1 + 1 := ⟨k - 2, by omega⟩
  exact rmay_f a b d⟩
theorem rfixed_l1 {l : List Nd} (hlen : l.length ≤ 1000000) {i : Nat} {n : Nd} (hn : l[i]? = some n) (hk : ∀ k ∈ n.f1, 0 ≤ k ∧ k < (l.length : Int)) (hkl : n.f1.length ≤ 1000000) {b : Bool} (next : Ev (fun K => purflingref05_Fixed.l0 K l ((i + 1 : Nat) : Int)) b) :
    ∀ (d j : Nat), j + d = n.f1.length → Ev (fun K => purflingref05_Fixed.l1 K l (i : Int) (j : Int)) ((n.f1.drop j).all (fun k => mayB n.f0 (kindAt l k)) && b)
  | 0, j, hj => by
    have hi := (List.getElem?_eq_some_iff.1 hn).1
    rw [List.drop_eq_nil_of_le (by omega), List.all_nil, Bool.true_and]
    refine next.up (fun k => ?_)
    rw [purflingref05_Fixed.l1, if_pos (by omega), if_pos (by omega), rdNode hn, if_neg (by omega), wrap64_in _ (by omega)]
    rfl
  | d + 1, j, hj => by
    have hi := (List.getElem?_eq_some_iff.1 hn).1
    have hjl : j < n.f1.length := by omega
    obtain ⟨x, hx⟩ : ∃ x, n.f1[j]? = some x := ⟨_, List.getElem?_eq_getElem hjl⟩
    have hxr := hk x (List.mem_of_getElem? hx)
    have ih := rfixed_l1 hlen hn hk hkl next d (j + 1) (by omega)
    rw [List.drop_eq_getElem_cons hjl, List.all_cons, (List.getElem?_eq_some_iff.1 hx).2]
    have hM := rmay_ev n.f0 (kindAt l x)
    cases hm : mayB n.f0 (kindAt l x)
    · rw [hm] at hM
      rw [Bool.false_and, Bool.false_and]
      refine Ev.up (Ev.bind (g := fun K t => if t = true then purflingref05_Fixed.l1 K l (i : Int) (wrap64 ((j : Int) + 1)) else some false) hM (Ev.const false)) (fun k => ?_)
      rw [purflingref05_Fixed.l1, if_pos (by omega), if_pos (by omega), rdNode hn, if_pos (by omega), if_pos (by omega), rd_at hx, if_pos (by omega), if_pos (by omega)]
      rfl
    · rw [hm] at hM
      rw [Bool.true_and]
      refine Ev.up (Ev.bind (g := fun K t => if t = true then purflingref05_Fixed.l1 K l (i : Int) ((j + 1 : Nat) : Int) else some false) hM ih) (fun k => ?_)
      rw [purflingref05_Fixed.l1, if_pos (by omega), if_pos (by omega), rdNode hn, if_pos (by omega), if_pos (by omega), rd_at hx, if_pos (by omega), if_pos (by omega), wrap64_in _ (by omega)]
      rfl
theorem rfixed_l0 {l : List Nd} (hlen : l.length ≤ 1000000) (hk : ∀ n ∈ l, (∀ k ∈ n.f1, 0 ≤ k ∧ k < (l.length : Int)) ∧ n.f1.length ≤ 1000000) :
    ∀ (d i : Nat), i + d = l.length → Ev (fun K => purflingref05_Fixed.l0 K l (i : Int)) ((l.drop i).all (nodeOK l))
  | 0, i, hi => by
    rw [List.drop_eq_nil_of_le (by omega), List.all_nil]
    refine Ev.up (Ev.const true) (fun k => ?_)
    rw [purflingref05_Fixed.l0, if_neg (by omega)]
  | d + 1, i, hi => by
    have hil : i < l.length := by omega
    have hn : l[i]? = some l[i] := List.getElem?_eq_getElem hil
    have h2 := hk _ (List.getElem_mem hil)
    have ih := rfixed_l1 hlen hn h2.1 h2.2 (rfixed_l0 hlen hk d (i + 1) (by omega)) _ 0 (Nat.zero_add _)
    rw [List.drop_zero] at ih
    rw [List.drop_eq_getElem_cons hil, List.all_cons]
    refine ih.up (fun k => ?_)
    rw [purflingref05_Fixed.l0, if_pos (by omega)]
    rfl
theorem rfixed_ev {l : List Nd} (h : PageOK l) (hlen : l.length ≤ 1000000) (hk : ∀ n ∈ l, n.f1.length ≤ 1000000) : Ev (fun K => purflingref05_Fixed.f K l) (fixedB l) := by
  have := rfixed_l0 hlen (fun n hn => ⟨fun k hkk => by have := kids_ok h.links n hn k hkk; omega, hk n hn⟩) l.length 0 (Nat.zero_add _)
  exact this
def purflinglaw05_FixupFixes.f (l0 : List Nd) : Option Bool := some true
theorem pure_FixupFixes {P : Prop} : ∀ l0 : List Nd, P → purflinglaw05_FixupFixes.f l0 = some true := fun _ _ => rfl
set_option maxRecDepth 100000 in
set_option maxHeartbeats 8000000 in
theorem purflinglaw05_FixupFixes.calls (A0 : Option Addr) (c0 : Nat) (l0 : List Nd) (r : Bool) (w : World) (hr0 : Kd.C k43 w A0 l0.length l0) (hc0 : l0.length ≤ c0) (h : purflinglaw05_FixupFixes.f l0 = some r) :
    Calls Try.prog 8 #[.slice A0 l0.length c0] w fun e w' => e = .returned (.bool r) ∧ Below w.heap.size w w' := by
  obtain rfl : true = r := Option.some.inj h
  clear h
  have HSH := Lib.hid (fun W => purflinglaw05_shown.calls true W rfl)
  have HCUT := Lib.hid (fun W (hb : Below w.heap.size w W) => purflinglaw04_Cut.calls 0 (fun k_ => k_ < w.heap.size) A0 c0 l0 (cutL l0) W (Kd.V_mk hc0 (Kd.F_below (Kd.C_F k43_heap hr0) hb)) rfl)
  have hs := cut_small l0
  have hchk := rcheck_ev (cutL l0) (by omega) (fun n hn => by have := hs.2.1 n hn; omega) hs.2.2
  obtain ⟨k1, h1⟩ := hchk
  have h1 := h1 k1 (Nat.le_refl _)
  clear hr0 hc0
  by_cases q : (checkP (cutL l0)).2 = 0
  case neg =>
    have hf : fixup_Fix.f (cutL l0) = some ([], (checkP (cutL l0)).2) := by rw [cut_fix]; unfold fixR; rw [if_neg q]
    have hd : fixup_Fixed.f (cutL l0) = some (false, (checkP (cutL l0)).2) := by unfold fixup_Fixed.f fixedR; rw [if_pos hs.2.2, if_neg q]
    obtain ⟨ea, hea⟩ : ∃ ea, checkP (cutL l0) = (ea, (checkP (cutL l0)).2) := ⟨_, rfl⟩
    dsimp only at h1
    rw [hea] at h1
    clear hea
    generalize (checkP (cutL l0)).2 = er at q hf hd h1
    generalize cutL l0 = l at hf hd h1 HCUT
    have hqb : (er != 0) = true := by simpa using q
    have heq : (er == er) = true := by simp
    have HF := Lib.hid hf
    have HD := Lib.hid hd
    have H1 := Lib.hid h1
    clear hs hf hd h1 q
    go_enter Try.func8, Try.ntmps8
    go_wp2_with (first
      | (go_at_call 10; refine (HSH.out _).mono ?_; rintro e w1 ⟨rfl, hb⟩; have HB := Lib.hid hb; clear hb HSH)
      | (go_at_call 16; refine (HCUT.out _ HB.out).mono ?_; rintro e w2 ⟨v2, rfl, hn, hb⟩; have HN := Lib.hid hn; have HB2 := Lib.hid (below_then HB.out HB.out.size hb); obtain ⟨A2, c2, rfl⟩ := Kd.N_slice hn; clear hn hb HB HCUT)
      | (go_at_call 15; refine (fixup_Fix.calls _ _ l [] er _ (Kd.N_reads' HN.out).2.2 (Kd.N_reads' HN.out).2.1 HF.out).mono ?_; rintro e w3 ⟨v3, rfl, hv3, hb⟩; obtain ⟨A3, c3, rfl⟩ := Kd.V_slice hv3; have HB3 := Lib.hid (below_then HB2.out HB2.out.size hb); have HC3 := Lib.hid (And.intro (Kd.C_below (Kd.N_reads' HN.out).2.2 hb) (Kd.N_reads' HN.out).2.1); clear hv3 hb HN HB2)
      | (go_at_call 20; refine (fixup_Fixed.calls _ _ l false er _ HC3.out.1 HC3.out.2 HD.out).mono ?_; rintro e w4 ⟨rfl, hb⟩; have HB4 := Lib.hid (below_then HB3.out HB3.out.size hb); have HC4 := Lib.hid (And.intro (Kd.C_below HC3.out.1 hb) HC3.out.2); clear hb HB3 HC3)
      | (go_at_call 21; refine (purflingref04_Check.calls k1 _ _ l ea er _ HC4.out.1 HC4.out.2 H1.out).mono ?_; rintro e w5 ⟨rfl, hb⟩; have HB5 := Lib.hid (below_then HB4.out HB4.out.size hb); clear hb HB4 HC4))
    go_ret
    exact ⟨rfl, HB5.out⟩
  have hok := (ok_iff _).1 q
  have hf : fixup_Fix.f (cutL l0) = some (fixP (cutL l0), 0) := by rw [cut_fix]; unfold fixR; rw [if_pos q]
  have hd : fixup_Fixed.f (cutL l0) = some (fixedB (cutL l0), 0) := by unfold fixup_Fixed.f fixedR; rw [if_pos hs.2.2, if_pos q]
  obtain ⟨ea, hea⟩ : ∃ ea, checkP (cutL l0) = (ea, 0) := ⟨(checkP (cutL l0)).1, by rw [← q]⟩
  dsimp only at h1
  rw [hea] at h1
  clear hea
  obtain ⟨k2, h2⟩ := rfixed_ev hok (by omega) (fun n hn => by have := hs.2.1 n hn; omega)
  have h2 := h2 k2 (Nat.le_refl _)
  dsimp only at h2
  have hb9 := (fixed_small hok hs.1)
  have HOK := Lib.hid hok
  have hl1 := hs.1
  generalize cutL l0 = l at hf hd h1 h2 HCUT HOK hl1 hb9
  clear q hs hok
  have HRF := Lib.hid (fun A c W h1 h2 => rfix_any A c l W h1 h2 HOK.out (by omega))
  generalize fixP l = a at hf hb9 HRF
  generalize fixedB l = b at hd h2
  have HF := Lib.hid hf
  have HD := Lib.hid hd
  have H1 := Lib.hid h1
  have H2 := Lib.hid h2
  have HB9 := Lib.hid hb9
  have hbb : (b == b) = true := by simp
  clear hf hd h1 h2 hb9
  go_enter Try.func8, Try.ntmps8
  go_wp2_with (first
    | (go_at_call 10; refine (HSH.out _).mono ?_; rintro e w1 ⟨rfl, hb⟩; have HB := Lib.hid hb; clear hb HSH)
    | (go_at_call 16; refine (HCUT.out _ HB.out).mono ?_; rintro e w2 ⟨v2, rfl, hn, hb⟩; have HN := Lib.hid hn; have HB2 := Lib.hid (below_then HB.out HB.out.size hb); obtain ⟨A2, c2, rfl⟩ := Kd.N_slice hn; clear hn hb HB HCUT)
    | (go_at_call 15; refine (fixup_Fix.calls _ _ l a 0 _ (Kd.N_reads' HN.out).2.2 (Kd.N_reads' HN.out).2.1 HF.out).mono ?_; rintro e w3 ⟨v3, rfl, hv3, hb⟩; obtain ⟨A3, c3, rfl⟩ := Kd.V_slice hv3; have HB3 := Lib.hid (below_then HB2.out HB2.out.size hb); have HC3 := Lib.hid (And.intro (Kd.C_below (Kd.N_reads' HN.out).2.2 hb) (Kd.N_reads' HN.out).2.1); have HA3 := Lib.hid (Kd.V_reads' hv3).2; clear hv3 hb HN HB2)
    | (go_at_call 20; refine (fixup_Fixed.calls _ _ l b 0 _ HC3.out.1 HC3.out.2 HD.out).mono ?_; rintro e w4 ⟨rfl, hb⟩; have HB4 := Lib.hid (below_then HB3.out HB3.out.size hb); have HC4 := Lib.hid (And.intro (Kd.C_below HC3.out.1 hb) HC3.out.2); have HA4 := Lib.hid (And.intro HA3.out.1 (Kd.C_below HA3.out.2 hb)); clear hb HB3 HC3 HA3)
    | (go_at_call 21; refine (purflingref04_Check.calls k1 _ _ l ea 0 _ HC4.out.1 HC4.out.2 H1.out).mono ?_; rintro e w5 ⟨rfl, hb⟩; have HB5 := Lib.hid (below_then HB4.out HB4.out.size hb); have HC5 := Lib.hid (And.intro (Kd.C_below HC4.out.1 hb) HC4.out.2); have HA5 := Lib.hid (And.intro HA4.out.1 (Kd.C_below HA4.out.2 hb)); clear hb HB4 HC4 HA4)
    | ((try (refine gate_guard (by rfl) ?_; dsimp only)); go_at_call 23; refine (HRF.out _ _ _ HC5.out.1 HC5.out.2).mono ?_; rintro e w6 ⟨A6, c6, rfl, hl6, hC6, hb⟩; have HB6 := Lib.hid (below_then HB5.out HB5.out.size hb); have HC6 := Lib.hid (And.intro (Kd.C_below HC5.out.1 hb) HC5.out.2); have HA6 := Lib.hid (And.intro HA5.out.1 (Kd.C_below HA5.out.2 hb)); have HD6 := Lib.hid (And.intro hl6 hC6); clear hb hl6 hC6 HB5 HC5 HA5 HRF)
    | ((try (refine gate_guard (by rfl) ?_; dsimp only)); go_at_call 22; refine (same_any a _ _ _ _ _ HA6.out.2 HD6.out.2 HA6.out.1 HD6.out.1 (fun n hn => by have := HB9.out.2 n hn; omega)).mono ?_; rintro e w7 ⟨rfl, hb⟩; have HB7 := Lib.hid (below_then HB6.out HB6.out.size hb); have HC7 := Lib.hid (And.intro (Kd.C_below HC6.out.1 hb) HC6.out.2); clear hb HB6 HC6 HA6 HD6)
    | ((try (refine gate_guard (by rfl) ?_; dsimp only)); go_at_call 24; refine (purflingref05_Fixed.calls k2 _ _ l b _ HC7.out.1 HC7.out.2 H2.out).mono ?_; rintro e w8 ⟨rfl, ⟨nd, rfl⟩⟩))
  go_ret
  exact ⟨rfl, pw_below_drewN HB7.out _⟩
end Go.Proofs.Ytjhpkikgajgdmaa.K
