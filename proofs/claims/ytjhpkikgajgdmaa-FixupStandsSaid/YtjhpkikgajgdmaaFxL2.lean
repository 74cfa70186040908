/- Layer 5, plain: FixupStands. -/
import Derived.Test.YtjhpkikgajgdmaaFxQ
import Derived.Test.YtjhpkikgajgdmaaK15
namespace Go.Proofs.Ytjhpkikgajgdmaa.K
open Go.RowKit Go.Proofs.YtjhpkikgajgdmaaW.PrintWords Go.Proofs.YtjhpkikgajgdmaaW.PrintLast Go.Proofs.YtjhpkikgajgdmaaW.PrintMore
set_option linter.unusedVariables false
set_option linter.unusedSimpArgs false

theorem stands_l1 {a : List Nd} (hlen : a.length ≤ 1000000) {i : Nat} {n : Nd} (hn : a[i]? = some n) (hk : ∀ k ∈ n.f1, (0 ≤ k ∧ k < (a.length : Int)) ∧ mayB n.f0 (kindAt a k) = true) (hkl : n.f1.length ≤ 1000000) {b r : Bool}
    (next : Ev (fun K => purflinglaw05_FixupStands.l0 K b a ((i : Int) + 1)) r) : ∀ (d j : Nat), j + d = n.f1.length → Ev (fun K => purflinglaw05_FixupStands.l1 K b a (i : Int) (j : Int)) r
  | 0, j, hj => by
    have hi : i < a.length := (List.getElem?_eq_some_iff.1 hn).1
    refine next.up (fun k => ?_)
    rw [purflinglaw05_FixupStands.l1, rdNode hn, if_pos (by omega), if_pos (by omega), if_neg (by omega), wrap64_in _ (by omega)]
  | d + 1, j, hj => by
    have hi : i < a.length := (List.getElem?_eq_some_iff.1 hn).1
    have hjl : j < n.f1.length := by omega
    have hx : n.f1[j]? = some n.f1[j] := List.getElem?_eq_getElem hjl
    obtain ⟨h1, h2⟩ := hk _ (List.getElem_mem hjl)
    refine (stands_l1 hlen hn hk hkl next d (j + 1) (by omega)).up (fun k => ?_)
    rw [purflinglaw05_FixupStands.l1, rdNode hn, if_pos (by omega), if_pos (by omega), if_pos (by omega), if_pos (by omega), rd_at hx, if_neg (by omega), if_neg (by omega), if_pos (by omega), if_pos (by omega)]
    unfold fixup_May.f
    unfold kindAt at h2
    rw [Option.bind_some, if_pos h2, wrap64_in _ (by omega)]
    rfl
theorem stands_l0 {a : List Nd} (hlen : a.length ≤ 1000000) (hk : ∀ n ∈ a, (∀ k ∈ n.f1, (0 ≤ k ∧ k < (a.length : Int)) ∧ mayB n.f0 (kindAt a k) = true) ∧ n.f1.length ≤ 1000000) : ∀ (d i : Nat), i + d = a.length → Ev (fun K => purflinglaw05_FixupStands.l0 K true a (i : Int)) true
  | 0, i, hi => by
    refine (Ev.const true).up (fun k => ?_)
    rw [purflinglaw05_FixupStands.l0, if_neg (by omega)]
  | d + 1, i, hi => by
    have hil : i < a.length := by omega
    have hn : a[i]? = some a[i] := List.getElem?_eq_getElem hil
    have hm := hk _ (List.getElem_mem hil)
    refine (stands_l1 hlen hn hm.1 hm.2 (stands_l0 hlen hk d (i + 1) (by omega)) _ 0 (Nat.zero_add _)).up (fun k => ?_)
    rw [purflinglaw05_FixupStands.l0, if_pos (by omega)]
    rfl
theorem pure_FixupStands {P : Prop} (l0 : List Nd) (_ : P) : ∃ k, purflinglaw05_FixupStands.f k l0 = some true := by
  have hs := cut_small l0
  by_cases q : (checkP (cutL l0)).2 = 0
  · have hok := (ok_iff _).1 q
    have hb := fixed_small hok hs.1
    obtain ⟨k0, hk0⟩ := stands_l0 (a := fixP (cutL l0)) (by omega) (fun n hn => ⟨fix_stands hok n hn, by have := hb.2 n hn; omega⟩) _ 0 (Nat.zero_add _)
    refine ⟨k0, ?_⟩
    unfold purflinglaw05_FixupStands.f purflinglaw05_shown.f purflinglaw04_Cut.f
    rw [Option.bind_some, Option.bind_some, cut_fix, Option.bind_some]
    unfold fixR
    rw [if_pos q, if_pos rfl]
    exact hk0 k0 (Nat.le_refl _)
  · refine ⟨0, ?_⟩
    unfold purflinglaw05_FixupStands.f purflinglaw05_shown.f purflinglaw04_Cut.f
    rw [Option.bind_some, Option.bind_some, cut_fix, Option.bind_some]
    unfold fixR
    rw [if_neg q, if_neg q]
end Go.Proofs.Ytjhpkikgajgdmaa.K
