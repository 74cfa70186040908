/- Layer 13: Right. -/
import Derived.Test.YtfoocmmjefdojaaCo1
namespace Go.Proofs.Ytfoocmmjefdojaa.K
open Go.RowKit Go.Proofs.YtfoocmmjefdojaaW.PrintWords Go.Proofs.YtfoocmmjefdojaaW.PrintLast Go.Proofs.YtfoocmmjefdojaaW.PrintMore
set_option linter.unusedVariables false
set_option linter.unusedSimpArgs false

def rightB (sizes : List S58) (l : List S60) : Bool := decide (sizes.length ≤ 10000) && sizes.all (fun s => isSizeB s.f0 s.f1) && l.all (needB sizes.length)

theorem right_one (sizes : List S58) (A : Option Addr) (c : Nat) (W : World) (hr : Kd.C k58 W A sizes.length sizes) (hc : sizes.length ≤ c) :
    Calls Try.prog 44 #[.slice A sizes.length c, .func (.func 45) #[] #[]] W fun e w' => e = .returned (.bool (!sizes.all (fun s => isSizeB s.f0 s.f1))) ∧ Below W.heap.size W w' := by
  rw [show (!sizes.all (fun s => isSizeB s.f0 s.f1)) = sizes.any (fun s => !isSizeB s.f0 s.f1) by rw [List.all_eq_not_any_not, Bool.not_not]]
  refine contains_size 45 #[] (fun s => !isSizeB s.f0 s.f1) (enters_of Try.func45 (by kernel_rfl) rfl) A c sizes W ?_ hr hc
  intro W2 x cs hb _ _ hK
  obtain rfl := k58_open hK
  exact right1_any x.f0 x.f1 W2

theorem right_two (l : List S60) (A A0 : Option Addr) (c n c0 B : Nat) (W : World) (hB : B < W.heap.size) (hn : n ≤ 9223372036854775807) (hb0 : W.cell? ⟨B, 0, none⟩ = some (.slice A0 n c0)) (hr : Kd.C k60 W A l.length l) (hc : l.length ≤ c) :
    Calls Try.prog 47 #[.slice A l.length c, .func (.func 48) #[] #[.pointer (some ⟨B, 0, none⟩)]] W fun e w' => e = .returned (.bool (!l.all (needB n))) ∧ Below W.heap.size W w' := by
  rw [show (!l.all (needB n)) = l.any (fun x => !needB n x) by rw [List.all_eq_not_any_not, Bool.not_not]]
  refine contains_need 48 #[.pointer (some ⟨B, 0, none⟩)] (fun x => !needB n x) (enters_of Try.func48 (by kernel_rfl) rfl) A c l W ?_ hr hc
  intro W2 x cs hb _ _ hK
  obtain rfl := k60_open hK
  exact right2_any x B A0 n c0 W2 (Nat.lt_of_lt_of_le hB hb.size) ((hb.cell hB).trans hb0) hn

set_option maxHeartbeats 4000000 in
theorem right_any (sizes : List S58) (l : List S60) (A0 A1 : Option Addr) (c0 c1 : Nat) (w : World) (hr0 : Kd.C k58 w A0 sizes.length sizes) (hc0 : sizes.length ≤ c0) (hr1 : Kd.C k60 w A1 l.length l) (hc1 : l.length ≤ c1) :
    Calls Try.prog 30 #[.slice A0 sizes.length c0, .slice A1 l.length c1] w fun e w' => e = .returned (.bool (rightB sizes l)) ∧ Below w.heap.size w w' := by
  have hlen := hr0.2.1
  obtain ⟨R, hR⟩ : ∃ R, R = rightB sizes l := ⟨_, rfl⟩
  rw [← hR]
  have HR := Lib.hid hR
  have H0 := Lib.hid hr0
  have H1 := Lib.hid hr1
  have H2 := Lib.hid fun (W : World) (hb : Below w.heap.size w W) => right_one sizes A0 c0 W (Kd.C_below hr0 hb) hc0
  have H3 := Lib.hid fun (W : World) (B : Nat) (hb : Below w.heap.size w W) (hB : B < W.heap.size) (h : W.cell? ⟨B, 0, none⟩ = some (.slice A0 sizes.length c0)) => right_two l A1 A0 c1 sizes.length c0 B W hB hr0.2.1 h (Kd.C_below hr1 hb) hc1
  obtain ⟨p, hp⟩ : ∃ p, p = sizes.all (fun s => isSizeB s.f0 s.f1) := ⟨_, rfl⟩
  obtain ⟨q, hq⟩ : ∃ q, q = l.all (needB sizes.length) := ⟨_, rfl⟩
  rw [← hp] at H2
  rw [← hq] at H3
  have HP := Lib.hid hp
  have HQ := Lib.hid hq
  clear hr0 hr1 hR hp hq hc0 hc1
  by_cases hl : sizes.length ≤ 10000
  · have hl' : ¬ (sizes.length : Int) > 10000 := by omega
    cases p
    all_goals
      go_enter Try.func30, Try.ntmps30
      go_wp2_with (first
        | (go_at_call 44; refine (H2.out _ ((Below.refl _ w).alloc (Nat.le_refl _) _)).mono ?_; rintro e w' ⟨rfl, hb⟩; have hcc := (bcells hb).1; have hff := (bcells hb).2; have hzz := hb.size; simp only [World.size_alloc] at hzz; have hz1 : w.heap.size < w'.heap.size := (by omega); have hB1 : Below w.heap.size w w' := (((Below.refl _ w).alloc (Nat.le_refl _) _).trans (hb.mono (by simp))))
        | (go_at_call 47; refine (H3.out _ w.heap.size hB1 hz1 (by rw [hcc _ _ (by simp)]; simp)).mono ?_; rintro e w'' ⟨rfl, hb2⟩; have hB2 : Below w.heap.size w w'' := (hB1.trans (hb2.mono hB1.size))))
      go_ret
      refine ⟨ret_b ?_, by assumption⟩
      rw [HR.out]; unfold rightB; rw [← HP.out, ← HQ.out]; simp [hl]
  · have hl' : (sizes.length : Int) > 10000 := by omega
    go_enter Try.func30, Try.ntmps30
    go_wp2
    go_ret
    refine ⟨ret_b ?_, (Below.refl _ w).alloc (Nat.le_refl _) _⟩
    rw [HR.out]; unfold rightB; simp [hl]

def columns_Right.f (l0 : List S58) (l1 : List S60) : Option Bool := some (rightB l0 l1)
theorem columns_Right.calls (A0 : Option Addr) (c0 : Nat) (l0 : List S58) (A1 : Option Addr) (c1 : Nat) (l1 : List S60) (r : Bool) (w : World) (hr0 : Kd.C k58 w A0 l0.length l0) (hc0 : l0.length ≤ c0) (hr1 : Kd.C k60 w A1 l1.length l1) (hc1 : l1.length ≤ c1) (h : columns_Right.f l0 l1 = some r) :
    Calls Try.prog 30 #[.slice A0 l0.length c0, .slice A1 l1.length c1] w fun e w' => e = .returned (.bool r) ∧ Below w.heap.size w w' := by
  obtain rfl := Option.some.inj h
  exact right_any l0 l1 A0 A1 c0 c1 w hr0 hc0 hr1 hc1
end Go.Proofs.Ytfoocmmjefdojaa.K
