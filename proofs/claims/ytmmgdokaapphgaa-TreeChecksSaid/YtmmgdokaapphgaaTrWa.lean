/- Layer 4: TreeChecks. -/
import Derived.Test.YtmmgdokaapphgaaTrJ
namespace Go.Proofs.Ytmmgdokaapphgaa.K
open Go.RowKit Go.Proofs.YtmmgdokaapphgaaW.PrintWords Go.Proofs.YtmmgdokaapphgaaW.PrintLast Go.Proofs.YtmmgdokaapphgaaW.PrintMore
set_option linter.unusedVariables false
set_option linter.unusedSimpArgs false
attribute [local go_sem] Oper.semAt_some

def purflinglaw04_TreeChecks.f (l0 : List Nd) : Option Bool := some true
set_option maxRecDepth 100000 in
set_option maxHeartbeats 4000000 in
theorem purflinglaw04_TreeChecks.calls (A0 : Option Addr) (c0 : Nat) (l0 : List Nd) (r : Bool) (w : World) (hr0 : Kd.C k42 w A0 l0.length l0) (hc0 : l0.length ≤ c0) (h : purflinglaw04_TreeChecks.f l0 = some r) :
    Calls Try.prog 3 #[.slice A0 l0.length c0] w fun e w' => e = .returned (.bool r) ∧ Below w.heap.size w w' := by
  obtain rfl : true = r := Option.some.inj h
  clear h
  obtain ⟨ea, hea⟩ : ∃ ea, ea = (checkP (cutL l0)).1 := ⟨_, rfl⟩
  obtain ⟨er, her⟩ : ∃ er, er = (checkP (cutL l0)).2 := ⟨_, rfl⟩
  obtain ⟨n, hn⟩ : ∃ n, (cutL l0).length = n := ⟨_, rfl⟩
  have hn150 : n ≤ 150 := by rw [← hn]; exact cut_len150 l0
  have HSH := Lib.hid (fun W => purflinglaw04_shown.calls true W rfl)
  have HCUT := Lib.hid (fun W (hW : Below w.heap.size w W) => by have := cut_any A0 c0 l0 W (Kd.C_below hr0 hW) hc0; rw [hn] at this; exact this)
  have HCHK := Lib.hid (check_page hn (cut_links l0) ea er hea her)
  have HREF := Lib.hid (rcheck_page hn (by omega) (fun n hn => by have := cut_kids l0 n hn; omega) (cut_links l0) ea er hea her)
  clear hr0 hc0 hea her hn hn150
  have hq1 : (ea == ea) = true := by simp
  have hq2 : (er == er) = true := by simp
  go_enter Try.func3, Try.ntmps3
  go_upto_region 2 with (go_at_call 10; refine (HSH.out _).mono ?_; rintro e w1 ⟨rfl, hb⟩; have HB1 := Lib.hid hb; clear hb HSH)
  go_upto_region 3 with (first | (go_at_call 12; refine (HCUT.out _ HB1.out).mono ?_; rintro e w2 ⟨A1, c1, rfl, hc1, hC1, hb⟩; have HB2 := Lib.hid (below_then HB1.out HB1.out.size hb); have HC1 := Lib.hid hC1; have HL1 := Lib.hid hc1; clear hb hc1 hC1 HB1) | (go_at_call 11; refine (HCHK.out A1 c1 _ HC1.out HL1.out).mono ?_; rintro e w3 ⟨rfl, hb⟩; have HB3 := Lib.hid (below_then HB2.out HB2.out.size hb); clear hb HB2 HC1 HL1 HCHK))
  go_upto_region 4 with (first | (go_at_call 12; refine (HCUT.out _ HB3.out).mono ?_; rintro e w4 ⟨A2, c2, rfl, hc2, hC2, hb⟩; have HB4 := Lib.hid (below_then HB3.out HB3.out.size hb); have HC2 := Lib.hid hC2; have HL2 := Lib.hid hc2; clear hb hc2 hC2 HB3) | (go_at_call 13; refine (HREF.out A2 c2 _ HC2.out HL2.out).mono ?_; rintro e w5 ⟨rfl, hb⟩; have HB5 := Lib.hid (below_then HB4.out HB4.out.size hb); clear hb HB4 HC2 HL2 HREF))
  go_wp2
  go_ret
  exact ⟨rfl, HB5.out⟩
theorem pure_TreeChecks {P : Prop} : ∀ l0 : List Nd, P → purflinglaw04_TreeChecks.f l0 = some true := fun _ _ => rfl
end Go.Proofs.Ytmmgdokaapphgaa.K
