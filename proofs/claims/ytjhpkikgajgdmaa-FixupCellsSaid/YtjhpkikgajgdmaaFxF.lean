/- Layer 5: Fix walked, in the print's form. -/
import Derived.Test.YtjhpkikgajgdmaaFxI
import Derived.Test.YtjhpkikgajgdmaaTrB
namespace Go.Proofs.Ytjhpkikgajgdmaa.K
open Go.RowKit Go.Proofs.YtjhpkikgajgdmaaW.PrintWords Go.Proofs.YtjhpkikgajgdmaaW.PrintLast Go.Proofs.YtjhpkikgajgdmaaW.PrintMore
set_option linter.unusedVariables false
set_option linter.unusedSimpArgs false
attribute [local go_sem] Oper.semAt_some

/-- at the label -/
def FixJ (w : World) (l : List Nd) (b4 b6 : Nat) (a : Act) (W : World) : Prop :=
  ∃ (i k O cap : Nat) (xs : List Nd) (rows : List (List Value)) (ds : List Deferred), (fixGo k i xs = fixP l ∧ i + k = 4 * l.length) ∧ StOK l.length xs i ∧ FixI w W b4 b6 i O cap xs rows ∧ Marks w.heap.size ds W ∧
    ∃ u0 u1 u2 u3 u5 u7 u8 u9 u10 u11 u12 u13 u14 u15 u16 u17 u18 u19 u20 u21 u22 u23 u24 u25 u26 u27 u28 u29 u30 u31 u32 u33 u34 u35 u36 u37 u38 u39 u40 u41 u42 u43 u44 u45 u46 u47 u48 u49 u50 u51 u52 u53 u54 u55 u56 u57 u58 : Value, a = { tmps := #[u0, u1, u2, u3, .pointer (some ⟨b4, 0, none⟩), u5, .pointer (some ⟨b6, 0, none⟩), u7, u8, u9, u10, u11, u12, u13, u14, u15, u16, u17, u18, u19, u20, u21, u22, u23, u24, u25, u26, u27, u28, u29, u30, u31, u32, u33, u34, u35, u36, u37, u38, u39, u40, u41, u42, u43, u44, u45, u46, u47, u48, u49, u50, u51, u52, u53, u54, u55, u56, u57, u58], defers := ds }
def ptrOf : Value → Nat
  | .pointer (some a) => a.block
  | _ => 0
def fixMu (N : Nat) (a : Act) (W : World) : Nat := N - (intOf ((W.cell? ⟨ptrOf (a.tmps.getD 6 undef), 0, none⟩).getD undef)).toNat

theorem fixMu_eq {N b6 : Nat} {j : Int} {a : Act} {W : World} (h6 : a.tmps.getD 6 undef = .pointer (some ⟨b6, 0, none⟩)) (hc : W.cell? ⟨b6, 0, none⟩ = some (.int .i64 j)) : fixMu N a W = N - j.toNat := by
  unfold fixMu
  rw [h6]
  show N - (intOf ((W.cell? ⟨b6, 0, none⟩).getD undef)).toNat = _
  rw [hc]; rfl
theorem FixI.start {w W : World} {b4 b6 i O cap : Nat} {xs : List Nd} {rows : List (List Value)} (h : FixI w W b4 b6 i O cap xs rows) {n : Nd} {c : List Value} (hn : xs[i]? = some n) (hc : rows[i]? = some c) {Ak : Option Addr} (hF : Kd.F (Kd.int .i64) W (LkC (fun k => w.heap.size ≤ k ∧ k ≠ b4 ∧ k ≠ b6 ∧ k ≠ O) W) Ak n.f1.length n.f1) :
    RndI w b4 b6 W.heap.size i O cap Ak n c xs (((W.alloc (.cells #[.slice none 0 0] 30)).drew.alloc (.cells #[.slice (some ⟨O, 0, none⟩) xs.length cap] 25)).alloc (.cells c.toArray 43)) O cap [] xs (.slice none 0 0) rows := by
  have hlt := BlkIs.lt h.c6
  have hb := h.hb
  obtain ⟨cells, hcO⟩ := h.out.blk
  have ho4 : O ≠ b4 := fun e => by rw [e, show W.heap[b4]? = _ from h.c4] at hcO; cases hcO
  have ho6 : O ≠ b6 := fun e => by rw [e, show W.heap[b6]? = _ from h.c6] at hcO; cases hcO
  have h1 : BlkIs (W.alloc (.cells #[.slice none 0 0] 30)).drew W.heap.size 30 #[.slice none 0 0] := World.alloc_heap_new W _
  have hs1 : (W.alloc (.cells #[.slice none 0 0] 30)).drew.heap.size = W.heap.size + 1 := by simp
  have h2 : BlkIs ((W.alloc (.cells #[.slice none 0 0] 30)).drew.alloc (.cells #[.slice (some ⟨O, 0, none⟩) xs.length cap] 25)) (W.heap.size + 1) 25 #[.slice (some ⟨O, 0, none⟩) xs.length cap] := by
    have := World.alloc_heap_new (W.alloc (.cells #[.slice none 0 0] 30)).drew (.cells #[.slice (some ⟨O, 0, none⟩) xs.length cap] 25)
    rwa [hs1] at this
  have h3 : BlkIs (((W.alloc (.cells #[.slice none 0 0] 30)).drew.alloc (.cells #[.slice (some ⟨O, 0, none⟩) xs.length cap] 25)).alloc (.cells c.toArray 43)) (W.heap.size + 2) 43 c.toArray := by
    have := World.alloc_heap_new ((W.alloc (.cells #[.slice none 0 0] 30)).drew.alloc (.cells #[.slice (some ⟨O, 0, none⟩) xs.length cap] 25)) (.cells c.toArray 43)
    rwa [World.size_alloc, hs1] at this
  have hb' : Below W.heap.size W (((W.alloc (.cells #[.slice none 0 0] 30)).drew.alloc (.cells #[.slice (some ⟨O, 0, none⟩) xs.length cap] 25)).alloc (.cells c.toArray 43)) :=
    below_alloc (below_alloc (below_drew (below_alloc (Below.refl _ W) _)) _) _
  have hL : ∀ k, (w.heap.size ≤ k ∧ k ≠ b4 ∧ k ≠ b6 ∧ k ≠ O) → k < W.heap.size → LdP w b4 b6 O W.heap.size k := fun k hk hlt => ⟨hk, hlt⟩
  have hB : ∀ b t cs, BlkIs W b t cs → BlkIs (((W.alloc (.cells #[.slice none 0 0] 30)).drew.alloc (.cells #[.slice (some ⟨O, 0, none⟩) xs.length cap] 25)).alloc (.cells c.toArray 43)) b t cs := fun b t cs hb => (hb'.block b (BlkIs.lt hb)).trans hb
  refine ⟨(h.out.mono hL).below hb', .inl rfl, Kd.R_nil _ _ _ _ _, hB _ _ _ h.c4, hB _ _ _ h.c6, (h1.alloc _).alloc _, h2.alloc _, h3, f_lk hF (fun k _ hlt => hb'.block k hlt) hL, fun j x hx => ?_, below_step h.b hb', ⟨⟨hb.1, hb.2, hlt⟩, h.out.base, h.out.lt, ho4, ho6⟩⟩
  obtain ⟨d, -, -, -, hd, hcell, -⟩ := h.out.at_ hx
  obtain ⟨A1, c1, A3, c3, hd', -⟩ := k43_open (Kd.FK_now hd)
  have := hcell 0 (.int .i64 x.f0) (by rw [hd']; rfl)
  exact (hb'.cell (p := ⟨O, j * 34, none⟩) h.out.lt).trans this

theorem rnd_rd {w W : World} {b4 b6 S at_ O0 cap0 O cap ck : Nat} {Ak : Option Addr} {n : Nd} {cs : List Value} {xs0 xs : List Nd} {ks : List Int} {vk : Value} {rows : List (List Value)} (h : RndI w b4 b6 S at_ O0 cap0 Ak n cs xs0 W O cap ks xs vk rows)
    (h0 : cs[0]? = some (.int .i64 n.f0)) (h1 : cs[1]? = some (.slice Ak n.f1.length ck)) (hk : ∀ k ∈ n.f1, 1 ≤ k ∧ k < (xs0.length : Int)) :
    RunsRd (S + 2) (S + 1) n.f0 Ak n.f1.length ck (some ⟨O0, 0, none⟩) xs0.length cap0 (fun j => (n.f1.getD j 0).toNat) (fun j => kindAt xs0 (n.f1.getD j 0)) W := by
  refine ⟨(BlkIs.cell h.c2 0).trans (by simpa using h0), (BlkIs.cell h.c2 1).trans (by simpa using h1), BlkIs.cell h.c1 0, fun j hj => ?_⟩
  obtain ⟨ad, hA, hc⟩ := Kd.at_int (Kd.F_now h.fk) (j : Int) (by omega) (by omega)
  have hm : n.f1.getD j 0 ∈ n.f1 := by rw [List.getD_eq_getElem?_getD, List.getElem?_eq_getElem hj]; exact List.getElem_mem hj
  have hb := hk _ hm
  rw [Int.toNat_natCast] at hc
  have hrd : rd n.f1 (j : Int) = n.f1.getD j 0 := by unfold rd; rw [Int.toNat_natCast]
  rw [hrd] at hc
  obtain ⟨q, hq⟩ := Int.eq_ofNat_of_zero_le (show 0 ≤ n.f1.getD j 0 by omega)
  have hql : q < xs0.length := by omega
  refine ⟨by omega, ad, ⟨O0, 0, none⟩, hA, rfl, ?_, ?_⟩
  · rw [hc, hq]; simp
  · rw [hq, Int.toNat_natCast, add_plain, kindAt_nat (List.getElem?_eq_getElem hql)]
    exact h.kinds q _ (List.getElem?_eq_getElem hql)
theorem fk_heads {W : World} {ok : Nat → Prop} {n : Nd} {c : List Value} (h : Kd.FK k43 W ok n c) : ∃ (Ak : Option Addr) (ck : Nat), c[0]? = some (.int .i64 n.f0) ∧ c[1]? = some (.slice Ak n.f1.length ck) ∧ n.f1.length ≤ ck ∧ Kd.F (Kd.int .i64) W ok Ak n.f1.length n.f1 := by
  obtain ⟨Ak, ck, A3, c3, hce, hk1, hF1, -, -⟩ := k43_openF h
  exact ⟨Ak, ck, by rw [hce]; rfl, by rw [hce]; rfl, hk1, hF1⟩
theorem fk_kids {W : World} {ok : Nat → Prop} {n : Nd} {c : List Value} (h : Kd.FK k43 W ok n c) {A : Option Addr} {cp : Nat} {ks : List Int} (hl : ks.length ≤ cp) (hF : Kd.F (Kd.int .i64) W ok A ks.length ks) :
    Kd.FK k43 W ok { n with f1 := ks } (c.take 1 ++ [.slice A ks.length cp] ++ c.drop (1 + 1)) := by
  obtain ⟨Ak, ck, A3, c3, hce, hk1, hF1, hk3, hF3⟩ := k43_openF h
  rw [hce]
  exact k43_mkF W ok { n with f1 := ks } hl hF hk3 hF3
theorem fixGo_end (k : Nat) (xs : List Nd) : fixGo k xs.length xs = xs := by
  cases k with
  | zero => rfl
  | succ k => unfold fixGo; rw [if_neg (by omega)]
/-- what is handed back -/
theorem OutI.toV {w W V : World} {ok : Nat → Prop} {O cap : Nat} {xs : List Nd} {rows : List (List Value)} (h : OutI w W ok O cap xs rows) (hok : ∀ k, ok k → w.heap.size ≤ k ∧ k ≠ O) {B : Nat} (hs : SameBut B W V) : Kd.V k43 43 V w.heap.size (fun k_ => w.heap.size ≤ k_) (.slice (some ⟨O, 0, none⟩) xs.length cap) xs := by
  have hsame : ∀ (k : Nat) (cells : Array Value) (t : Nat), W.heap[k]? = some (.cells cells t (0, 0)) → V.heap[k]? = W.heap[k]? := by
    refine hs.stab (fun V => ∀ (k : Nat) (cells : Array Value) (t : Nat), W.heap[k]? = some (.cells cells t (0, 0)) → V.heap[k]? = W.heap[k]?) ?_ (fun _ _ _ _ => rfl)
    intro _ X Y row hX hg hr k cells t hk
    have hx := hX k cells t hk
    refine (hg.block k (Array.getElem?_eq_some_iff.1 (hx.trans hk)).1 (fun e => ?_)).trans hx
    obtain ⟨-, o, ho, hb⟩ := hr k e.symm
    rw [hx, hk] at ho; cases ho; cases hb
  obtain ⟨cellsO, hcO⟩ := h.blk
  have hR : Kd.R (Kd.raw 34) 43 V w.heap.size (fun k => k = O) (.slice (some ⟨O, 0, none⟩) xs.length cap) rows := Kd.R_step h.own (fun k hk _ => by rw [hk]; exact hsame O cellsO _ hcO)
  refine Kd.N_V (base := w.heap.size) ⟨fun k hk => ?_, rows, h.len, Kd.raw_tight hR, fun j x c hx hc => ?_⟩
  · have : k = O := by simpa [Value.ownBlock] using hk.symm
    rw [this]; exact h.base
  · refine Kd.FK_mono (Kd.FK_step (h.elem j x c hx hc) (fun k hk _ => ?_)) (fun k hk => ⟨(hok k hk.1).1, fun e => (hok k hk.1).2 (by simpa [Value.ownBlock] using e)⟩)
    obtain ⟨cells, t, hk⟩ := hk.2
    exact hsame k cells t hk
theorem FixI.init {w w1 : World} {O cap : Nat} {xs : List Nd} (hR : Kd.R k43 43 w1 w.heap.size (fun _ => True) (.slice (some ⟨O, 0, none⟩) xs.length cap) xs) (hb : Below w.heap.size w w1) :
    ∃ rows, FixI w ((w1.alloc (.cells #[.slice (some ⟨O, 0, none⟩) xs.length cap] 25)).alloc (.cells #[.int .i64 0] 3)) w1.heap.size (w1.heap.size + 1) 0 O cap xs rows := by
  obtain ⟨-, rows, hl, hr, hf⟩ := Kd.R_N (Kd.R_bound hR)
  have hb' : Below w1.heap.size w1 ((w1.alloc (.cells #[.slice (some ⟨O, 0, none⟩) xs.length cap] 25)).alloc (.cells #[.int .i64 0] 3)) := below_alloc (below_alloc (Below.refl _ _) _) _
  have h1 := World.alloc_heap_new w1 (.cells #[.slice (some ⟨O, 0, none⟩) xs.length cap] 25)
  have h2 := World.alloc_heap_new (w1.alloc (.cells #[.slice (some ⟨O, 0, none⟩) xs.length cap] 25)) (.cells #[.int .i64 0] 3)
  rw [World.size_alloc] at h2
  have hO : OutI w w1 (fun k => w.heap.size ≤ k ∧ k < w1.heap.size ∧ k ≠ O) O cap xs rows := by
    refine ⟨Kd.R_mono hr (fun k hk => by simpa [Value.ownBlock] using hk), hl, fun i x c hx hc => Kd.FK_mono (hf i x c hx hc) (fun k hk => ?_)⟩
    obtain ⟨⟨-, h1, h2, q, -, cells, hc⟩, h3⟩ := hk
    exact ⟨⟨h1, h2, fun e => h3 (by simp [Value.ownBlock, e])⟩, cells, q, hc⟩
  exact ⟨rows, (hO.mono (fun k hk _ => ⟨hk.1, by omega, by omega, hk.2.2⟩)).below hb', BlkIs.alloc h1 _, h2, ⟨hb.size, by omega⟩, below_step hb hb'⟩

set_option maxRecDepth 100000 in
set_option maxHeartbeats 8000000 in
theorem fix_yes (A0 : Option Addr) (c0 : Nat) (l0 : List Nd) (w : World) (hr0 : Kd.C k43 w A0 l0.length l0) (hc0 : l0.length ≤ c0) (hK : ∀ n ∈ l0, n.f1.length ≤ 1000000000) (hl : (linksOf l0).length ≤ 1000000000) (hok : (checkP l0).2 = 0) (hst0 : StOK l0.length (compP l0) 0) (h65 : 0 < l0.length ∧ l0.length ≤ 65536) :
    Calls Try.prog 15 #[.slice A0 l0.length c0] w fun e w' => ∃ v0_ : Value, e = .returned (.tuple #[v0_, .int .i64 0]) ∧ Kd.V k43 43 w' w.heap.size (fun k_ => w.heap.size ≤ k_) v0_ (fixP l0) ∧ Below w.heap.size w w' := by
  have HC := Lib.hid (tree_Computed.calls A0 c0 l0 (compP l0) 0 w hr0 hc0 hK (by unfold tree_Computed.f; rw [if_pos hl, if_pos hok]))
  have HST0 := Lib.hid hst0
  have H65 := Lib.hid h65
  clear hr0 hc0 hK hl hok hst0 h65
  refine calls_of_wp_marks Try.func15 rfl ?_
  simp only [Try.ntmps15, List.size_toArray, List.length_cons, List.length_nil, Nat.reduceAdd, Nat.reduceSub, Array.replicate_succ, Array.replicate_zero, List.push_toArray, List.append_toArray, List.nil_append, List.cons_append]
  go_upto_region 1 with fail
  refine wp_scope_jumps2 0 (fun a W => ∃ b4 b6, FixJ w l0 b4 b6 a W) (fixMu (4 * l0.length + 1)) (by repeat (first | exact fl_here _ _ | refine fl_seq1 (by repeat (first | exact fl_region _ _ _ _ | exact fl_cond _ _ _ _ | exact fl_block _ _ _ | exact fl_ret _ | exact fl_ne (by decide) | refine fl_seq0 ?_ ?_)) ?_)) ?_ ?_
  focus
    rintro a' W ⟨b4, b6, i, k, O, cap, xs, rows, ds, ⟨hgo, hik⟩, hst, hI, hm, hinv⟩
    obtain ⟨u0, hinv⟩ := hinv; obtain ⟨u1, hinv⟩ := hinv; obtain ⟨u2, hinv⟩ := hinv; obtain ⟨u3, hinv⟩ := hinv; obtain ⟨u5, hinv⟩ := hinv; obtain ⟨u7, hinv⟩ := hinv; obtain ⟨u8, hinv⟩ := hinv; obtain ⟨u9, hinv⟩ := hinv; obtain ⟨u10, hinv⟩ := hinv; obtain ⟨u11, hinv⟩ := hinv; obtain ⟨u12, hinv⟩ := hinv; obtain ⟨u13, hinv⟩ := hinv; obtain ⟨u14, hinv⟩ := hinv; obtain ⟨u15, hinv⟩ := hinv; obtain ⟨u16, hinv⟩ := hinv; obtain ⟨u17, hinv⟩ := hinv; obtain ⟨u18, hinv⟩ := hinv; obtain ⟨u19, hinv⟩ := hinv; obtain ⟨u20, hinv⟩ := hinv; obtain ⟨u21, hinv⟩ := hinv; obtain ⟨u22, hinv⟩ := hinv; obtain ⟨u23, hinv⟩ := hinv; obtain ⟨u24, hinv⟩ := hinv; obtain ⟨u25, hinv⟩ := hinv; obtain ⟨u26, hinv⟩ := hinv; obtain ⟨u27, hinv⟩ := hinv; obtain ⟨u28, hinv⟩ := hinv; obtain ⟨u29, hinv⟩ := hinv; obtain ⟨u30, hinv⟩ := hinv; obtain ⟨u31, hinv⟩ := hinv; obtain ⟨u32, hinv⟩ := hinv; obtain ⟨u33, hinv⟩ := hinv; obtain ⟨u34, hinv⟩ := hinv; obtain ⟨u35, hinv⟩ := hinv; obtain ⟨u36, hinv⟩ := hinv; obtain ⟨u37, hinv⟩ := hinv; obtain ⟨u38, hinv⟩ := hinv; obtain ⟨u39, hinv⟩ := hinv; obtain ⟨u40, hinv⟩ := hinv; obtain ⟨u41, hinv⟩ := hinv; obtain ⟨u42, hinv⟩ := hinv; obtain ⟨u43, hinv⟩ := hinv; obtain ⟨u44, hinv⟩ := hinv; obtain ⟨u45, hinv⟩ := hinv; obtain ⟨u46, hinv⟩ := hinv; obtain ⟨u47, hinv⟩ := hinv; obtain ⟨u48, hinv⟩ := hinv; obtain ⟨u49, hinv⟩ := hinv; obtain ⟨u50, hinv⟩ := hinv; obtain ⟨u51, hinv⟩ := hinv; obtain ⟨u52, hinv⟩ := hinv; obtain ⟨u53, hinv⟩ := hinv; obtain ⟨u54, hinv⟩ := hinv; obtain ⟨u55, hinv⟩ := hinv; obtain ⟨u56, hinv⟩ := hinv; obtain ⟨u57, hinv⟩ := hinv; obtain ⟨u58, hinv⟩ := hinv
    subst hinv
    have HGO := Lib.hid hgo
    have HIK := Lib.hid hik
    have HST := Lib.hid hst
    have HI := Lib.hid hI
    have HM := Lib.hid hm
    have y4 : W.cell? ⟨b4, 0, none⟩ = some (.slice (some ⟨O, 0, none⟩) xs.length cap) := BlkIs.cell hI.c4 0
    have y6 : W.cell? ⟨b6, 0, none⟩ = some (.int .i64 (i : Int)) := BlkIs.cell hI.c6 0
    have l4 := BlkIs.lt hI.c4
    have l6 := BlkIs.lt hI.c6
    have hil := hst.at_
    clear hgo hik hst hI hm
    by_cases hlt : i < xs.length
    focus
      have hne : ((i : Int) == (xs.length : Int)) = false := by simp; omega
      have hltz : (i : Int) < (xs.length : Int) := by omega
      obtain ⟨n, hn⟩ : ∃ n, xs[i]? = some n := ⟨_, List.getElem?_eq_getElem hlt⟩
      obtain ⟨c, hc, hcl, hone, hFK, hcell, hfr⟩ := HI.out.out.at_ hn
      obtain ⟨Ak, ck, hc0', hc1', hk1, hF1⟩ := fk_heads hFK
      have HN := Lib.hid hn
      have HC1 := Lib.hid hc
      have HC0 := Lib.hid hc0'
      have HC1' := Lib.hid hc1'
      have HF1 := Lib.hid hF1
      have HK1 := Lib.hid hk1
      have HCL := Lib.hid hcl
      have hrng : W.rangeAt O (i * 34) c := fun q v hq => hcell q v hq
      have hlO := HI.out.out.lt
      have hlenc : (Try.prog.info? 43).map (·.size) = some c.length := by rw [hcl]; kernel_rfl
      clear hn hc hcl hFK hcell hfr hc0' hc1' hF1 hk1 hne
      go_upto_region 8 with fail
      have hb1 : Below W.heap.size W (W.alloc (.cells #[.slice none 0 0] 30)) := below_alloc (Below.refl _ _) _
      have HS : (fun V : World => (V.cell? ⟨b4, 0, none⟩ = some (.slice (some ⟨O, 0, none⟩) xs.length cap) ∧ V.cell? ⟨b6, 0, none⟩ = some (.int .i64 (i : Int))) ∧ V.rangeAt O (i * 34) c) (W.alloc (.cells #[.slice none 0 0] 30)).drew :=
        ⟨⟨(hb1.cell (p := ⟨b4, 0, none⟩) l4).trans y4, (hb1.cell (p := ⟨b6, 0, none⟩) l6).trans y6⟩, fun q v hq => (hb1.cell (p := ⟨O, i * 34 + q, none⟩) hlO).trans (hrng q v hq)⟩
      refine wp_onlyN ((wpIn_wide (n := 0)).1 ?_)
      refine beginU (fun V : World => (V.cell? ⟨b4, 0, none⟩ = some (.slice (some ⟨O, 0, none⟩) xs.length cap) ∧ V.cell? ⟨b6, 0, none⟩ = some (.int .i64 (i : Int))) ∧ V.rangeAt O (i * 34) c) 5 (by kernel_rfl) ?_
      (refine takeU (i := 0) (d := 23) (v := ?_) rfl rfl (by kernel_rfl) (by kernel_rfl) (by kernel_rfl) (by kernel_rfl) (by kernel_rfl) (by kernel_rfl) (fun _ _ _ h => h) ⟨Or.inl ⟨by kernel_rfl, ?_⟩, fun _ => rfl⟩ HS ?_; rotate_left; (focus (rintro wS ⟨⟨s1, s2⟩, s3⟩; go_simp; try (with_reducible rfl))); (simp only [List.setIfInBounds_toArray, List.set_cons_zero, List.set_cons_succ]))
      (refine takeV (i := 1) (d := 24) (v := ?_) [5, 4, 3] rfl rfl (by kernel_rfl) (by kernel_rfl) (by kernel_rfl) (by kernel_rfl) (by kernel_rfl) (fun _ _ _ h => h) ⟨Or.inl ⟨by kernel_rfl, ?_⟩, fun _ => rfl⟩ HS ?_; rotate_left; (focus (rintro wS ⟨⟨s1, s2⟩, s3⟩; go_simp; try (with_reducible rfl))); (simp only [List.setIfInBounds_toArray, List.set_cons_zero, List.set_cons_succ]))
      (refine takeV (i := 2) (d := 25) (v := ?_) [5, 4, 3] rfl rfl (by kernel_rfl) (by kernel_rfl) (by kernel_rfl) (by kernel_rfl) (by kernel_rfl) (fun _ _ _ h => h) ⟨Or.inl ⟨by kernel_rfl, ?_⟩, fun _ => rfl⟩ HS ?_; rotate_left; (focus (rintro wS ⟨⟨s1, s2⟩, s3⟩; go_simp; try (with_reducible rfl))); (simp only [List.setIfInBounds_toArray, List.set_cons_zero, List.set_cons_succ]))
      (refine takeP (i := 3) (d := 26) (v := ?_) rfl rfl (by kernel_rfl) (by kernel_rfl) (by kernel_rfl) (by kernel_rfl) (by kernel_rfl) (fun _ _ _ h => h) ⟨Or.inl ⟨by kernel_rfl, ?_⟩, fun _ => rfl⟩ (fun _ => HS) ?_; rotate_left; (focus (rintro wS -; go_simp; try (with_reducible rfl))); (simp only [List.setIfInBounds_toArray, List.set_cons_zero, List.set_cons_succ]))
      (refine takeU (i := 4) (d := 27) (v := .agg c.toArray) rfl rfl (by kernel_rfl) (by kernel_rfl) (by kernel_rfl) (by kernel_rfl) (by kernel_rfl) (by kernel_rfl) (fun _ _ _ h => h) ⟨yieldsIf_load_mid (by kernel_rfl) 43 _ rfl _ _ rfl c _ (fun w h => h.2) Try.underlying43 rfl hlenc, fun _ => rfl⟩ HS ?_; (simp only [List.setIfInBounds_toArray, List.set_cons_zero, List.set_cons_succ]))
      (refine oneU (i := 5) rfl (by kernel_rfl) (fun K hK => ?_); go_simp)
      have hsz : (W.alloc (.cells #[.slice none 0 0] 30)).drew.heap.size = W.heap.size + 1 := by simp
      refine (callsIn_wide.2 (runs_any (some ⟨O, 0, none⟩) xs.length cap c _)).mono ?_
      rintro e w6 ⟨rfl, rfl⟩
      rw [hsz]
      dsimp only
      have HR0 : Aside0 (RndI w b4 b6 W.heap.size i O cap Ak n c xs (((W.alloc (.cells #[.slice none 0 0] 30)).drew.alloc (.cells #[.slice (some ⟨O, 0, none⟩) xs.length cap] 25)).alloc (.cells c.toArray 43)) O cap [] xs (.slice none 0 0) rows) := ⟨HI.out.start HN.out HC1.out HF1.out⟩
      have HM5 : Hid (Marks w.heap.size ds (((W.alloc (.cells #[.slice none 0 0] 30)).drew.alloc (.cells #[.slice (some ⟨O, 0, none⟩) xs.length cap] 25)).alloc (.cells c.toArray 43))) := Lib.hid (HM.out.keep (((((KeepBook.refl W).alloc _).drew).alloc _).alloc _).to)
      clear HS hsz
      (refine hK _ _ ⟨(no_more (by kernel_rfl)), ?_⟩; clear hK K; (try (simp only [List.setIfInBounds_toArray, List.set_cons_zero, List.set_cons_succ])))
      (refine doneU (by kernel_rfl) ?_ _)
      simp only [onlyN, Exit.then]
      have hmu : fixMu (4 * l0.length + 1) { tmps := #[u0, u1, u2, u3, .pointer (some ⟨b4, 0, none⟩), u5, .pointer (some ⟨b6, 0, none⟩), u7, u8, u9, u10, u11, u12, u13, u14, u15, u16, u17, u18, u19, u20, u21, u22, u23, u24, u25, u26, u27, u28, u29, u30, u31, u32, u33, u34, u35, u36, u37, u38, u39, u40, u41, u42, u43, u44, u45, u46, u47, u48, u49, u50, u51, u52, u53, u54, u55, u56, u57, u58], defers := ds } W = 4 * l0.length + 1 - i := by
        unfold fixMu ptrOf
        simp [y6, intOf]
      have HMU := Lib.hid hmu
      clear hmu y4 y6 l4 l6 hb1 hrng hlO hlenc HI HM HF1 HC1
      generalize (((W.alloc (.cells #[.slice none 0 0] 30)).drew.alloc (.cells #[.slice (some ⟨O, 0, none⟩) xs.length cap] 25)).alloc (.cells c.toArray 43)) = W5 at HR0 HM5 ⊢
      generalize W.heap.size = S at HR0 ⊢
      have hnl : n.f1.length ≤ 4 * l0.length ∧ xs.length ≤ 4 * l0.length := ⟨(round_le HST.out HN.out (List.nil_append _).symm).2.2.2, (round_le HST.out HN.out (List.nil_append _).symm).2.2.1⟩
      have HNL := Lib.hid hnl
      have hkd := HST.out.kid n (List.mem_of_getElem? HN.out)
      have HKD := Lib.hid hkd
      have hsz5 : S + 2 < W5.heap.size := BlkIs.lt HR0.out.c2
      clear hnl hkd
      go_wp2
      refine wp_range_plain (runs1_iter (S + 2) (S + 1) n.f0 Ak n.f1.length ck (some ⟨O, 0, none⟩) xs.length cap (fun j => (n.f1.getD j 0).toNat) (fun j => kindAt xs (n.f1.getD j 0)) (by have := HNL.out; have := H65.out; omega) HK1.out (by have := HNL.out; have := H65.out; omega)) (enters_of Try.func42 (by kernel_rfl) rfl) rfl (fun _ => rfl)
        (fun (pre : List (Nat × Nat × Bool)) V => ∃ O' cap' vk rows', RndI w b4 b6 S i O cap Ak n c xs V O' cap' (pre.foldl (runStep n) ([], xs)).1 (pre.foldl (runStep n) ([], xs)).2 vk rows')
        (fun _ _ => False) (RndI.stab (by have := BlkIs.lt HR0.out.c2; omega) (fun (pre : List (Nat × Nat × Bool)) => pre.foldl (runStep n) ([], xs))) (fun _ _ _ _ h _ _ => h)
        (fun pre V ⟨_, _, _, _, h⟩ => rnd_rd h HC0.out HC1'.out HKD.out) ⟨_, _, _, _, HR0.out⟩ ?round ?done (fun _ _ _ _ h => h.elim)
      case done =>
        rintro D V hD ⟨O1, cap1, vk, rows1, hR⟩ hbook hd
        have hns : nodeStep xs i = (((runsN xs n).foldl (runStep n) ([], xs)).2).set i { n with f1 := ((runsN xs n).foldl (runStep n) ([], xs)).1 } := by
          unfold nodeStep
          rw [show xs.getD i z43 = n by rw [List.getD_eq_getElem?_getD, HN.out]; rfl]
        have hbnd := (round_le HST.out HN.out (List.append_nil (runsN xs n)).symm).1
        obtain ⟨-, B, hB⟩ := runStep_pre n (runsN xs n) ([], xs)
        have hn1 : (((runsN xs n).foldl (runStep n) ([], xs)).2)[i]? = some n := by rw [hB, List.getElem?_append_left hlt]; exact HN.out
        change RndI w b4 b6 S i O cap Ak n c xs V O1 cap1 ((runsN xs n).foldl (runStep n) ([], xs)).1 ((runsN xs n).foldl (runStep n) ([], xs)).2 vk rows1 at hR
        clear hB
        generalize ((runsN xs n).foldl (runStep n) ([], xs)).1 = ks at hR hns
        generalize ((runsN xs n).foldl (runStep n) ([], xs)).2 = xs1 at hR hns hbnd hn1
        obtain ⟨Av, cv, rfl⟩ := Kd.R_slice hR.kd
        obtain ⟨⟨rows2, hI2⟩, ⟨u, hu⟩, hfr1, hlO1, hc6, hf6, hl6, hO6, hO4⟩ := hR.close hn1 (fun ok c' hFK hF => fk_kids hFK (Kd.R_reads' hR.kd).2.1 hF)
        have HNS := Lib.hid hns
        have HI2 := Lib.hid hI2
        have hi1 : i < xs1.length := (List.getElem?_eq_some_iff.1 hn1).1
        have hiz1 : (i : Int) < (xs1.length : Int) := by omega
        have HMk2 := Lib.hid (HM5.out.cons HR0.out.b.size hD hbook hd)
        have hwi : IntKind.i64.wrap ((i : Int) + 1) = (i : Int) + 1 := IntWalk.i64_in _ (by have := H65.out; omega)
        have y4 : V.cell? ⟨b4, 0, none⟩ = some (.slice (some ⟨O1, 0, none⟩) xs1.length cap1) := BlkIs.cell hR.c4 0
        have y6 : V.cell? ⟨b6, 0, none⟩ = some (.int .i64 (i : Int)) := BlkIs.cell hR.c6 0
        have y7 : V.cell? ⟨S, 0, none⟩ = some (.slice Av ks.length cv) := BlkIs.cell hR.c7 0
        have f6 := BlkIs.frozen hR.c6 0
        generalize ks.length = m at y7 hI2 HI2 hc6 hf6
        clear hns hI2 hR hbook hd HR0 HM5 hn1
        have hmu2 : fixMu (4 * l0.length + 1) { tmps := #[u0, u1, u2, u3, .pointer (some ⟨b4, 0, none⟩), u5, .pointer (some ⟨b6, 0, none⟩), u7, u8, u9, u10, u11, u12, u13, u14, u15, u16, u17, u18, u19, u20, u21, u22, u23, u24, u25, u26, u27, u28, u29, u30, u31, u32, u33, u34, u35, u36, u37, u38, u39, u40, u41, u42, u43, u44, u45, u46, u47, u48, u49, u50, u51, u52, u53, u54, u55, u56, u57, u58], defers := ds } W = 4 * l0.length + 1 - i := HMU.out
        go_wp2
        go_step3
        obtain ⟨k', rfl⟩ : ∃ k', k = k' + 1 := ⟨k - 1, by have := HIK.out; have := HNL.out.2; omega⟩
        have hgo2 : fixGo k' (i + 1) (nodeStep xs i) = fixP l0 := by
          have := HGO.out
          rw [fixGo, if_pos hlt] at this
          exact this
        have hst2 := HST.out.step hlt
        rw [HNS.out] at hgo2 hst2
        have hI3 := HI2.out
        rw [show ((i + 1 : Nat) : Int) = (i : Int) + 1 from rfl] at hI3
        refine ⟨rfl, ⟨b4, b6, i + 1, k', O1, cap1, _, rows2, markOf D :: ds, ⟨hgo2, by have := HIK.out; omega⟩, hst2, hI3, HMk2.out.keep (((KeepBook.refl V).setCell _ _).setCell _ _).to, by ((repeat apply Exists.intro); rfl)⟩, ?_⟩
        refine Nat.lt_of_lt_of_eq ?_ hmu2.symm
        have y6' : ((V.setCell ⟨O1, i * 34 + 1, none⟩ (.slice Av m cv)).setCell ⟨b6, 0, none⟩ (.int .i64 ((i : Int) + 1))).cell? ⟨b6, 0, none⟩ = some (.int .i64 ((i : Int) + 1)) := BlkIs.cell hI3.c6 0
        refine Nat.lt_of_le_of_lt (Nat.le_of_eq (fixMu_eq (b6 := b6) (j := (i : Int) + 1) rfl y6')) ?_
        have := HNL.out.2
        omega
      case round =>
        rintro lp pre x rest V hx hl ⟨O1, cap1, vk, rows1, hR⟩
        have HX := Lib.hid (show runsN xs n = pre ++ x :: rest from hx)
        have HR := Lib.hid hR
        clear hx hR HR0 HM5
        have HSZ := Lib.hid hsz5
        clear hsz5
        obtain ⟨f, tt, b⟩ := x
        dsimp only [runV]
        gi_wp2
        refine ⟨by (repeat (first | (with_reducible exact KeepBook.refl _) | (with_reducible refine KeepBook.alloc ?_ _) | (with_reducible refine KeepBook.setCell ?_ _ _) | (with_reducible refine KeepBook.drew ?_) | (refine KeepBook.below ?_ (by assumption)))), ?_⟩
        rintro W2 hs _
        have HR2 : Hid (RndI w b4 b6 S i O cap Ak n c xs W2 O1 cap1 (pre.foldl (runStep n) ([], xs)).1 (pre.foldl (runStep n) ([], xs)).2 vk rows1) := Lib.hid (hs.stab (fun V => RndI w b4 b6 S i O cap Ak n c xs V O1 cap1 (pre.foldl (runStep n) ([], xs)).1 (pre.foldl (runStep n) ([], xs)).2 vk rows1) (fun _ X Y row h hg hr => h.book hg (fun r e => ⟨by have := (hr r e).1; have := HSZ.out; omega, (hr r e).2⟩)) HR.out)
        clear hs HR
        have hbd := round_le HST.out HN.out HX.out
        obtain ⟨hf1, hf2⟩ := runsN_mem (show (f, tt, b) ∈ runsN xs n by rw [HX.out]; simp)
        dsimp only at hf1 hf2
        have hfold : ∀ s, (pre ++ [(f, tt, b)]).foldl (runStep n) s = runStep n (pre.foldl (runStep n) s) (f, tt, b) := fun s => by rw [List.foldl_append]; rfl
        obtain ⟨-, B, hB⟩ := runStep_pre n pre ([], xs)
        have hpos : ∀ (j : Nat) (x : Nd), xs[j]? = some x → ∃ x', ((pre.foldl (runStep n) ([], xs)).2)[j]? = some x' ∧ x'.f0 = x.f0 := fun j x hx => ⟨x, by rw [hB, List.getElem?_append_left (List.getElem?_eq_some_iff.1 hx).1]; exact hx, rfl⟩
        have HFOLD := Lib.hid (hfold ([], xs))
        have HPOS := Lib.hid hpos
        clear hfold hpos hB
        generalize hks : (pre.foldl (runStep n) ([], xs)).1 = ks at HR2 hbd
        generalize hxs1 : (pre.foldl (runStep n) ([], xs)).2 = xs1 at HR2 hbd HPOS
        have HSt := Lib.hid (show pre.foldl (runStep n) ([], xs) = (ks, xs1) by rw [← hks, ← hxs1])
        obtain ⟨Av, cv, hv⟩ := Kd.R_slice HR2.out.kd
        subst hv
        have y7 : W2.cell? ⟨S, 0, none⟩ = some (.slice Av ks.length cv) := BlkIs.cell HR2.out.c7 0
        have hSlt := BlkIs.lt HR2.out.c7
        have HBD := Lib.hid hbd
        have HF12 := Lib.hid (And.intro hf1 hf2)
        clear hks hxs1 hbd hf1 hf2
        cases b
        · have HFR := Lib.hid (run_F (x := (f, tt, false)) HR2.out.fk HK1.out HF12.out.1 HF12.out.2)
          have HCLN := Lib.hid (cutI_len (l := n.f1) (x := (f, tt, false)) HF12.out.2)
          have y4 : W2.cell? ⟨b4, 0, none⟩ = some (.slice (some ⟨O1, 0, none⟩) xs1.length cap1) := BlkIs.cell HR2.out.c4 0
          have l4 := BlkIs.lt HR2.out.c4
          gi_upto_region 14 with (gi_at_builtin; go_loud (refine listIn_of_wp rfl (by intro c h; cases h) (fun K hK => ?_)); refine of_if_pos (c := Region.wanted _ (yielded #[] _) = true) (B := K (Act.put _ _ undef) (W2.alloc (.cells #[.int .i64 (xs1.length : Int)] 3))) (by kernel_rfl) (Kd.R_append_step (Kd.int .i64) (w0 := W2) (W := W2) S (by kernel_rfl) (.tmp 35) (.tmp 38) 30 3 (.int .i64 0) 8 rfl Try.underlying30 info3 rfl (by decide) (by omega) (.slice Av ks.length cv) ks (xs1.length : Int) [.int .i64 (xs1.length : Int)] (fun k => S + 2 < k) (fun _ => False) rfl rfl rfl (fun _ hk => hk.elim) (fun k hk => by have := BlkIs.lt HR2.out.c2; omega) HR2.out.kd (Below.refl _ _) (by omega) (by have := HBD.out; have := H65.out; omega) ?_); intro v1 w1 hR1 hB1 hg1 hat1; obtain ⟨Av1, cv1, hv1⟩ := Kd.R_slice hR1; obtain ⟨m1, hm1⟩ : ∃ m, m = (ks ++ [(xs1.length : Int)]).length := ⟨_, rfl⟩; rw [← hm1] at hv1; subst hv1; have HM1 := Lib.hid hm1; clear hm1; obtain ⟨hr3, z7, f7, l7⟩ := HR2.out.kids hR1 hg1 rfl; have HR3 := Lib.hid hr3; have HG1 := Lib.hid hg1; clear hr3 hR1 hB1 hg1 hat1; refine hK _ _ ?_; clear hK K)
          have HKB3 : Hid (KeepBook W2 (w1.setCell ⟨S, 0, none⟩ (.slice Av1 m1 cv1))) := Lib.hid (((KeepBook.refl W2).grown HG1.out (fun j o e ho => by
            obtain ⟨inner, hin⟩ := Kd.R_own HR2.out.kd
            obtain ⟨cells, hc⟩ := own_typed hin j e
            rw [hc] at ho; cases ho; rfl)).setCell _ _)
          have HFR3 : Hid (n.f1.length ≤ ck) := HK1
          clear HG1 HR2 HFR z7 f7 l7 y7 y4 l4 hSlt
          generalize (w1.setCell ⟨S, 0, none⟩ (.slice Av1 m1 cv1)) = W3 at HR3 HKB3 ⊢
          obtain ⟨n', hn', hk'⟩ := HPOS.out i n HN.out
          have hn1 : xs1[i]? = some n' := hn'
          have hi1 : i < xs1.length := (List.getElem?_eq_some_iff.1 hn').1
          have hiz1 : (i : Int) < (xs1.length : Int) := by omega
          have yk : W3.cell? ⟨O1, i * 34, none⟩ = some (.int .i64 n.f0) := by
            obtain ⟨d, -, -, -, hd, hcell, -⟩ := HR3.out.out.at_ hn1
            obtain ⟨A1, c1, A3, c3, hd', -⟩ := k43_open (Kd.FK_now hd)
            have := hcell 0 (.int .i64 n'.f0) (by rw [hd']; rfl)
            rw [hk'] at this
            exact this
          have y4 : W3.cell? ⟨b4, 0, none⟩ = some (.slice (some ⟨O1, 0, none⟩) xs1.length cap1) := BlkIs.cell HR3.out.c4 0
          have y6 : W3.cell? ⟨b6, 0, none⟩ = some (.int .i64 (i : Int)) := BlkIs.cell HR3.out.c6 0
          clear hn' hk' hn1
          refine beginU (fun V : World => (V.cell? ⟨b4, 0, none⟩ = some (.slice (some ⟨O1, 0, none⟩) xs1.length cap1) ∧ V.cell? ⟨b6, 0, none⟩ = some (.int .i64 (i : Int))) ∧ V.cell? ⟨O1, i * 34, none⟩ = some (.int .i64 n.f0)) 11 (by kernel_rfl) ?_
          have HS : (fun V : World => (V.cell? ⟨b4, 0, none⟩ = some (.slice (some ⟨O1, 0, none⟩) xs1.length cap1) ∧ V.cell? ⟨b6, 0, none⟩ = some (.int .i64 (i : Int))) ∧ V.cell? ⟨O1, i * 34, none⟩ = some (.int .i64 n.f0)) W3.drew := ⟨⟨y4, y6⟩, yk⟩
          have HR4 := Lib.hid (HR3.out.below ((Below.refl _ W3).drew))
          have HKB4 := Lib.hid (HKB3.out.drew)
          clear y4 y6 yk HR3 HKB3
          generalize W3.drew = W4 at HS HR4 HKB4 ⊢
          (refine takeU (i := 0) (d := 40) (v := ?_) rfl rfl (by kernel_rfl) (by kernel_rfl) (by kernel_rfl) (by kernel_rfl) (by kernel_rfl) (by kernel_rfl) (fun _ _ _ h => h) ⟨Or.inl ⟨by kernel_rfl, ?_⟩, fun _ => rfl⟩ HS ?_; rotate_left; (focus (rintro wS ⟨⟨s1, s2⟩, s3⟩; go_simp; try (with_reducible rfl))); (simp only [List.setIfInBounds_toArray, List.set_cons_zero, List.set_cons_succ]))
          (refine takeV (i := 1) (d := 41) (v := ?_) [11, 6, 5, 4, 3] rfl rfl (by kernel_rfl) (by kernel_rfl) (by kernel_rfl) (by kernel_rfl) (by kernel_rfl) (fun _ _ _ h => h) ⟨Or.inl ⟨by kernel_rfl, ?_⟩, fun _ => rfl⟩ HS ?_; rotate_left; (focus (rintro wS ⟨⟨s1, s2⟩, s3⟩; go_simp; try (with_reducible rfl))); (simp only [List.setIfInBounds_toArray, List.set_cons_zero, List.set_cons_succ]))
          (refine takeV (i := 2) (d := 42) (v := ?_) [11, 6, 5, 4, 3] rfl rfl (by kernel_rfl) (by kernel_rfl) (by kernel_rfl) (by kernel_rfl) (by kernel_rfl) (fun _ _ _ h => h) ⟨Or.inl ⟨by kernel_rfl, ?_⟩, fun _ => rfl⟩ HS ?_; rotate_left; (focus (rintro wS ⟨⟨s1, s2⟩, s3⟩; go_simp; try (with_reducible rfl))); (simp only [List.setIfInBounds_toArray, List.set_cons_zero, List.set_cons_succ]))
          (refine takeP (i := 3) (d := 43) (v := ?_) rfl rfl (by kernel_rfl) (by kernel_rfl) (by kernel_rfl) (by kernel_rfl) (by kernel_rfl) (fun _ _ _ h => h) ⟨Or.inl ⟨by kernel_rfl, ?_⟩, fun _ => rfl⟩ (fun _ => HS) ?_; rotate_left; (focus (rintro wS -; go_simp; try (with_reducible rfl))); (simp only [List.setIfInBounds_toArray, List.set_cons_zero, List.set_cons_succ]))
          (refine takeP (i := 4) (d := 44) (v := ?_) rfl rfl (by kernel_rfl) (by kernel_rfl) (by kernel_rfl) (by kernel_rfl) (by kernel_rfl) (fun _ _ _ h => h) ⟨Or.inl ⟨by kernel_rfl, ?_⟩, fun _ => rfl⟩ (fun _ => HS) ?_; rotate_left; (focus (rintro wS -; go_simp; try (with_reducible rfl))); (simp only [List.setIfInBounds_toArray, List.set_cons_zero, List.set_cons_succ]))
          (refine takeV (i := 5) (d := 45) (v := ?_) [11, 6] rfl rfl (by kernel_rfl) (by kernel_rfl) (by kernel_rfl) (by kernel_rfl) (by kernel_rfl) (fun _ _ _ h => h) ⟨Or.inl ⟨by kernel_rfl, ?_⟩, fun _ => rfl⟩ HS ?_; rotate_left; (focus (rintro wS ⟨⟨s1, s2⟩, s3⟩; go_simp; try (with_reducible rfl))); (simp only [List.setIfInBounds_toArray, List.set_cons_zero, List.set_cons_succ]))
          (refine takeP (i := 7) (d := 47) (v := ?_) rfl rfl (by kernel_rfl) (by kernel_rfl) (by kernel_rfl) (by kernel_rfl) (by kernel_rfl) (fun _ _ _ h => h) ⟨Or.inl ⟨by kernel_rfl, ?_⟩, fun _ => rfl⟩ (fun _ => HS) ?_; rotate_left; (focus (rintro wS -; go_simp; try (with_reducible rfl))); (simp only [List.setIfInBounds_toArray, List.set_cons_zero, List.set_cons_succ]))
          (refine takeP (i := 8) (d := 48) (v := .agg (styN sty1).cells) rfl rfl (by kernel_rfl) (by kernel_rfl) (by kernel_rfl) (by kernel_rfl) (by kernel_rfl) (fun _ _ _ h => h) ⟨Or.inl ⟨by kernel_rfl, ?_⟩, fun _ => rfl⟩ (fun _ => HS) ?_; (focus (rintro wS -; go_simp; try rfl)); (simp only [List.setIfInBounds_toArray, List.set_cons_zero, List.set_cons_succ]))
          (refine oneU (i := 6) rfl (by kernel_rfl) (fun K hK => ?_); go_simp)
          refine (CallsIn.inRound _ (callsIn_wide.2 (around_any n.f0 W4))).mono ?_
          rintro e w5 ⟨rfl, hb5⟩
          dsimp only
          have HS2 : (fun V : World => (V.cell? ⟨b4, 0, none⟩ = some (.slice (some ⟨O1, 0, none⟩) xs1.length cap1) ∧ V.cell? ⟨b6, 0, none⟩ = some (.int .i64 (i : Int))) ∧ V.cell? ⟨O1, i * 34, none⟩ = some (.int .i64 n.f0)) w5 :=
            ⟨⟨(hb5.cell (World.block_lt_of_cell? _ _ HS.1.1)).trans HS.1.1, (hb5.cell (World.block_lt_of_cell? _ _ HS.1.2)).trans HS.1.2⟩, (hb5.cell (World.block_lt_of_cell? _ _ HS.2)).trans HS.2⟩
          have HR5 := Lib.hid (HR4.out.below hb5)
          have HKB5 := Lib.hid (HKB4.out.below hb5)
          clear HS HR4 HKB4 hb5
          (refine hK _ _ ⟨(fun _ => HS2), ?_⟩; clear hK K; (try (simp only [List.setIfInBounds_toArray, List.set_cons_zero, List.set_cons_succ])))
          (refine takeP (i := 9) (d := 49) (v := .agg (nvW (aroundP n.f0) (.slice (Ak.map (·.add f)) (tt - f) (tt - f))).toArray) rfl rfl (by kernel_rfl) (by kernel_rfl) (by kernel_rfl) (by kernel_rfl) (by kernel_rfl) (fun _ _ _ h => h) ⟨Or.inl ⟨by kernel_rfl, ?_⟩, fun _ => rfl⟩ (fun _ => HS2) ?_; (focus (rintro wS -; exact exec_build 43 _ rfl #[(0, .int .i64 (aroundP n.f0)), (1, .slice (Ak.map (·.add f)) (tt - f) (tt - f)), (2, .agg (styN sty1).cells)] (by kernel_rfl) (nodeW_build wS (aroundP n.f0) (Ak.map (·.add f)) (tt - f) (tt - f)))); (simp only [List.setIfInBounds_toArray, List.set_cons_zero, List.set_cons_succ]))
          refine oneU (i := 10) rfl (by kernel_rfl) (fun K hK => ?_)
          refine if_of (by kernel_rfl) (opIn_round (by intro c h; cases h) (op_buildSlice 25 1 _ rfl (.slice (some ⟨w5.heap.size, 0, none⟩) 1 1) #[(0, .agg (nvW (aroundP n.f0) (.slice (Ak.map (·.add f)) (tt - f) (tt - f))).toArray)] (by kernel_rfl) (litW_build w5 (aroundP n.f0) (Ak.map (·.add f)) (tt - f) (tt - f)) ?_))
          have hFw : Kd.FK k43 w5 (LkC (LdP w b4 b6 O S) w5) (wrapN n.f0 (cutI n.f1 (f, tt, false))) (nvW (aroundP n.f0) (.slice (Ak.map (·.add f)) (tt - f) (tt - f))) := by
            have hF := run_F (x := (f, tt, false)) HR5.out.fk HK1.out HF12.out.1 HF12.out.2
            have := nvW_FK (p := n.f0) (cp := tt - f) (Nat.le_of_eq HCLN.out) hF
            rw [HCLN.out] at this
            exact this
          obtain ⟨O2, cap2, W6, hrun, ⟨hR6, g4, gf4, gl4⟩, hkb6⟩ := HR5.out.grow HPOS.out hFw (by have := HBD.out; have := H65.out; omega) 25
          have HS3 : (fun V : World => (V.cell? ⟨b4, 0, none⟩ = some (.slice (some ⟨O1, 0, none⟩) xs1.length cap1) ∧ V.cell? ⟨b6, 0, none⟩ = some (.int .i64 (i : Int))) ∧ V.cell? ⟨O1, i * 34, none⟩ = some (.int .i64 n.f0)) (w5.alloc (.cells (nvW (aroundP n.f0) (.slice (Ak.map (·.add f)) (tt - f) (tt - f))).toArray 43)) :=
            ⟨⟨(World.cell?_alloc_past _ _ _ (World.block_lt_of_cell? _ _ HS2.1.1)).trans HS2.1.1, (World.cell?_alloc_past _ _ _ (World.block_lt_of_cell? _ _ HS2.1.2)).trans HS2.1.2⟩, (World.cell?_alloc_past _ _ _ (World.block_lt_of_cell? _ _ HS2.2)).trans HS2.2⟩
          have HKB6 := Lib.hid (HKB5.out.trans hkb6)
          have HR6 := Lib.hid hR6
          clear hFw hR6 hkb6 HS2
          (refine hK _ _ ⟨(fun _ => HS3), ?_⟩; clear hK K; (try (simp only [List.setIfInBounds_toArray, List.set_cons_zero, List.set_cons_succ])))
          refine oneU (i := 11) rfl (by kernel_rfl) (fun K hK => ?_)
          refine if_of (by kernel_rfl) (opIn_round (by intro c h; cases h) (op_append (.tmp 40) (.tmp 50) 25 rfl rfl rfl hrun ?_))
          clear HS3 hrun HR5 HKB5
          (refine hK _ _ ⟨(no_more (by kernel_rfl)), ?_⟩; clear hK K; (try (simp only [List.setIfInBounds_toArray, List.set_cons_zero, List.set_cons_succ])))
          (refine oneU (i := 12) rfl (by kernel_rfl) (fun K hK => ?_); go_simp)
          (refine hK _ _ ⟨(no_more (by kernel_rfl)), ?_⟩; clear hK K; (try (simp only [List.setIfInBounds_toArray, List.set_cons_zero, List.set_cons_succ])))
          (refine doneU (by kernel_rfl) ?_ _)
          refine ⟨HKB6.out.setCell _ _, O2, cap2, .slice Av1 m1 cv1, rows1 ++ [nvW (aroundP n.f0) (.slice (Ak.map (·.add f)) (tt - f) (tt - f))], ?_⟩
          rw [HFOLD.out, HSt.out]
          exact HR6.out
        · have HFR := Lib.hid (run_F (x := (f, tt, true)) HR2.out.fk HK1.out HF12.out.1 HF12.out.2)
          have HCLN := Lib.hid (cutI_len (l := n.f1) (x := (f, tt, true)) HF12.out.2)
          have HRead := Lib.hid (show Kd.C (Kd.int .i64) W2 (Ak.map (·.add f)) (tt - f) (cutI n.f1 (f, tt, true)) by have := Kd.F_now HFR.out; rw [HCLN.out] at this; exact this)
          gi_wp2_with (gi_at_builtin; go_loud (refine listIn_of_wp rfl (by intro c h; cases h) (fun K hK => ?_)); refine of_if_pos (c := Region.wanted _ (yielded #[] _) = true) (B := K (Act.put _ _ undef) W2) (by kernel_rfl) (Kd.R_append_rows_step (Kd.int .i64) (Rr := fun x cs => (Kd.int .i64).K W2 x cs) (w0 := W2) (W := W2) S (by kernel_rfl) (.tmp 32) (.tmp 33) 30 3 (.int .i64 0) 8 rfl Try.underlying30 info3 rfl (by decide) (by omega) (.slice Av ks.length cv) ks (cutI n.f1 (f, tt, true)) (Ak.map (·.add f)) (tt - f) (tt - f) (fun k => S + 2 < k) (fun _ => False) rfl rfl HR2.out.kd HRead.out (fun x cs h => h) (fun _ hk => hk.elim) (fun k hk => by have := BlkIs.lt HR2.out.c2; omega) (Below.refl _ _) (by omega) (by have := HBD.out; have := HF12.out; have := H65.out; omega) ?_); intro v1 w1 hR1 hB1 hg1 hat1; obtain ⟨Av1, cv1, hv1⟩ := Kd.R_slice hR1; obtain ⟨m1, hm1⟩ : ∃ m, m = (ks ++ cutI n.f1 (f, tt, true)).length := ⟨_, rfl⟩; rw [← hm1] at hv1; subst hv1; have HM1 := Lib.hid hm1; clear hm1; obtain ⟨hr3, z7, f7, l7⟩ := HR2.out.kids hR1 hg1 rfl; have HR3 := Lib.hid hr3; have HG1 := Lib.hid hg1; clear hr3 hR1 hB1 hg1 hat1; refine hK _ _ ?_; clear hK K)
          refine ⟨((KeepBook.refl W2).grown HG1.out (fun j o e ho => by
            obtain ⟨inner, hin⟩ := Kd.R_own HR2.out.kd
            obtain ⟨cells, hc⟩ := own_typed hin j e
            rw [hc] at ho; cases ho; rfl)).setCell _ _, O1, cap1, .slice Av1 m1 cv1, rows1, ?_⟩
          rw [HFOLD.out, HSt.out]
          exact HR3.out
    have hie : i = xs.length := by omega
    subst hie
    have hne : ((xs.length : Int) == (xs.length : Int)) = true := by simp
    go_wp2
    show LeavesInM _ _ _ _ _ _ _ _ _
    refine leaves_marks (v := .tuple #[.slice (some ⟨O, 0, none⟩) xs.length cap, .int .i64 0]) (B := w.heap.size) HM.out (fun W' hs => ⟨by simp [results, Try.results15], .slice (some ⟨O, 0, none⟩) xs.length cap, rfl, ?_, hs.stab _ (Stab.below (Nat.le_refl _) (Nat.le_refl _)) HI.out.b⟩)
    have e := HGO.out
    rw [fixGo_end] at e
    rw [← e]
    exact HI.out.out.toV (fun k hk => ⟨hk.1, hk.2.2.2⟩) hs
  intro hpass
  have HP := Lib.hid hpass
  clear hpass
  go_upto_region 4 with (go_at_call 27; refine HC.out.mono ?_; rintro e w1 ⟨v1, rfl, hr1, hb1⟩; obtain ⟨O, cap, hv, hO1, hO2, -⟩ := Kd.R_form hr1 (by unfold compP; rw [List.length_map]; exact H65.out.1); subst hv; have HR1 := Lib.hid hr1; have HB1 := Lib.hid hb1; clear hr1 hb1 HC)
  obtain ⟨rows, hI⟩ := FixI.init HR1.out HB1.out
  have HI := Lib.hid hI
  clear hI
  go_wp2
  go_step3
  rename_i hK
  exact hK _ _ (HP.out _ _ ⟨w1.heap.size, w1.heap.size + 1, 0, 4 * l0.length, O, cap, compP l0, rows, [], ⟨rfl, by omega⟩, HST0.out, HI.out, Marks.nil _ _, by ((repeat apply Exists.intro); rfl)⟩)
end Go.Proofs.Ytjhpkikgajgdmaa.K
namespace Go.Proofs.Ytjhpkikgajgdmaa.K
open Go.RowKit Go.Proofs.YtjhpkikgajgdmaaW.PrintWords Go.Proofs.YtjhpkikgajgdmaaW.PrintLast Go.Proofs.YtjhpkikgajgdmaaW.PrintMore
set_option linter.unusedVariables false
set_option linter.unusedSimpArgs false
attribute [local go_sem] Oper.semAt_some

theorem cells_len : ∀ (rows : List (List Int)) (q : Nat), (cellsFrom q rows).length = (rows.map List.length).sum
  | [], q => rfl
  | row :: rows, q => by
    rw [cellsFrom, List.length_append, List.length_map, cells_len rows, List.map_cons, List.sum_cons]
theorem links_len (l : List Nd) : (linksOf l).length = kidsum l := by
  unfold linksOf kidsum
  rw [cells_len, List.map_map]; rfl
theorem links_count (l : List Nd) (a : Int) : cntL (linksOf l) a = (ckid l a : Nat) := by
  unfold cntL linksOf ckid
  rw [count_cells, List.map_map]; rfl
theorem kids_le {l : List Nd} (hl : (linksOf l).length ≤ 1000000000) : ∀ n ∈ l, n.f1.length ≤ 1000000000 := fun n hn => by
  obtain ⟨i, hi⟩ := List.getElem?_of_mem hn
  have := sum_at (fun n => n.f1.length) hi
  rw [links_len] at hl
  unfold kidsum at hl
  omega
theorem ckid_valid {l : List Nd} (h : PageOK l) (a : Int) : ckid l a = if 1 ≤ a ∧ a < l.length then 1 else 0 := by
  split
  · rename_i ha
    obtain ⟨m, rfl⟩ := Int.eq_ofNat_of_zero_le (show 0 ≤ a by omega)
    have := h.times m (by omega) (by omega)
    rw [links_count] at this
    omega
  · rename_i ha
    cases q : ckid l a with
    | zero => rfl
    | succ k =>
      exfalso
      have hc := links_count l a
      rw [q] at hc
      unfold cntL at hc
      have hp : 0 < (linksOf l).countP (fun x => x.2 == a) := by omega
      obtain ⟨x, hx, hxa⟩ := List.countP_pos_iff.1 hp
      have hb := h.links x hx
      unfold badLink at hb
      simp only [Bool.or_eq_false_iff, decide_eq_false_iff_not, beq_iff_eq] at hb hxa
      omega
theorem kidsum_valid {l : List Nd} (h : PageOK l) : kidsum l + 1 = l.length := by
  have hp : (l.map (fun n => n.f1)).flatten.Perm ((List.range' 1 (l.length - 1)).map (fun (i : Nat) => (i : Int))) := by
    rw [List.perm_iff_count]
    intro a
    rw [List.count_flatten, List.map_map]
    show ckid l a = _
    rw [ckid_valid h a]
    split
    · rename_i ha
      obtain ⟨m, rfl⟩ := Int.eq_ofNat_of_zero_le (show 0 ≤ a by omega)
      have hnd : ((List.range' 1 (l.length - 1)).map (fun (i : Nat) => (i : Int))).Nodup := by
        unfold List.Nodup
        rw [List.pairwise_map]
        exact List.Pairwise.imp (fun hne e => hne (Int.ofNat.inj e)) (List.nodup_range' (s := 1) (n := l.length - 1) (step := 1) (h := by omega))
      have hle := List.nodup_iff_count.1 hnd (m : Int)
      have hpos := List.count_pos_iff.2 (show (m : Int) ∈ (List.range' 1 (l.length - 1)).map (fun (i : Nat) => (i : Int)) from List.mem_map.2 ⟨m, by rw [List.mem_range'_1]; omega, rfl⟩)
      omega
    · rename_i ha
      refine (List.count_eq_zero.2 (fun hm => ha ?_)).symm
      obtain ⟨m, hm', rfl⟩ := List.mem_map.1 hm
      rw [List.mem_range'_1] at hm'
      have := h.some
      omega
  have := hp.length_eq
  rw [List.length_flatten, List.map_map, List.length_map, List.length_range'] at this
  have h0 := h.some
  unfold kidsum
  have e : (l.map (List.length ∘ fun n => n.f1)).sum = (l.map (fun n => n.f1.length)).sum := rfl
  omega
theorem pot_le (K : Int → Int) (l : List Nd) : potW K l ≤ 3 * kidsum l := by
  unfold potW kidsum
  induction l with
  | nil => simp
  | cons n l ih =>
    rw [List.map_cons, List.map_cons, List.sum_cons, List.sum_cons]
    have h1 : ∀ g : List Int, (g.map (fun k => needP n.f0 (K k))).sum ≤ 3 * g.length := by
      intro g
      induction g with
      | nil => simp
      | cons x g ih2 =>
        rw [List.map_cons, List.sum_cons, List.length_cons]
        have := need_le n.f0 (K x)
        omega
    have := h1 n.f1
    omega
theorem comp_sum (f : Nd → Nat) (hf : ∀ n, f (compN n) = f n) (l : List Nd) : ((compP l).map f).sum = (l.map f).sum := by
  unfold compP
  rw [List.map_map]
  congr 1
  apply List.map_congr_left
  intro n _
  exact hf n
theorem compP_len (l : List Nd) : (compP l).length = l.length := by unfold compP; rw [List.length_map]
theorem right_head {n : Nd} (h : rightN n = true) : 0 ≤ n.f0 ∧ n.f0 ≤ 10 ∧ validB (styN n.f2) = true := by
  rw [show rightN n = (headB n && n.f3.all lengthB && lengthB n.f4 && lengthB n.f5 && (if n.f0 = 1 then decide (n.f1.length = 0) else if n.f0 = 5 then decide (n.f1.length = 0) && bareB n else bareB n)) from rfl] at h
  simp only [Bool.and_eq_true] at h
  have hh := h.1.1.1.1
  unfold headB at hh
  simp only [Bool.and_eq_true, decide_eq_true_eq] at hh
  exact ⟨hh.1.1.1, hh.1.1.2, hh.1.2⟩
theorem right_leaf {n : Nd} (h : rightN n = true) (hk : n.f0 = 1 ∨ n.f0 = 5) : n.f1 = [] := by
  rw [show rightN n = (headB n && n.f3.all lengthB && lengthB n.f4 && lengthB n.f5 && (if n.f0 = 1 then decide (n.f1.length = 0) else if n.f0 = 5 then decide (n.f1.length = 0) && bareB n else bareB n)) from rfl] at h
  simp only [Bool.and_eq_true] at h
  have h2 := h.2
  split at h2
  · exact List.eq_nil_of_length_eq_zero (by simpa using h2)
  · split at h2
    · simp only [Bool.and_eq_true] at h2
      exact List.eq_nil_of_length_eq_zero (by simpa using h2.1)
    · omega
theorem st_init {l : List Nd} (h : PageOK l) : StOK l.length (compP l) 0 := by
  have hmem : ∀ n ∈ compP l, ∃ m ∈ l, n = compN m := fun n hn => by
    unfold compP at hn
    obtain ⟨m, hm, rfl⟩ := List.mem_map.1 hn
    exact ⟨m, hm, rfl⟩
  refine ⟨fun a => ?_, ?_, fun n hn => ?_, fun n hn hne => ?_, ?_, Nat.zero_le _, fun j n hj => absurd hj (by omega)⟩
  · rw [compP_len, ← ckid_valid h a]
    exact comp_sum (fun n => n.f1.count a) (fun n => rfl) l
  · rw [compP_len, ← kidsum_valid h]
    congr 1
    exact comp_sum (fun n => n.f1.length) (fun n => rfl) l
  · obtain ⟨m, hm, rfl⟩ := hmem n hn
    have := right_head (h.right m hm)
    exact ⟨this.1, this.2.1⟩
  · obtain ⟨m, hm, rfl⟩ := hmem n hn
    have h1 := right_head (h.right m hm)
    have h2 : ¬ (m.f0 = 1 ∨ m.f0 = 5) := fun hk => hne (show m.f1 = [] from right_leaf (h.right m hm) hk)
    show goodK m.f0
    unfold goodK
    omega
  · have h1 := pot_le (kindAt (compP l)) (compP l)
    have h2 : kidsum (compP l) = kidsum l := comp_sum (fun n => n.f1.length) (fun n => rfl) l
    have h3 := kidsum_valid h
    rw [compP_len]
    omega
theorem wp_scope_only {P : Program} {a : Act} {w : World} {Q : Exit → Act → World → Prop} {c rest : Code} (l : Nat) (hf : findLabel c l = some (Code.skip.seq rest)) (h : c.wp P (Exit.jump l (fun _ _ => False) Q) a w) : (Code.scope c).wp P Q a w :=
  wp_scope_jumps2 l (fun _ _ => False) (fun _ _ => 0) hf (fun _ _ h => h.elim) (fun _ => h)

def fixR (l0 : List Nd) : List Nd × Int := if (checkP l0).2 = 0 then (fixP l0, 0) else ([], (checkP l0).2)
def fixup_Fix.f (l0 : List Nd) : Option ((List Nd) × Int) := if (linksOf l0).length ≤ 1000000000 then some (fixR l0) else none
set_option maxRecDepth 100000 in
set_option maxHeartbeats 8000000 in
theorem fixup_Fix.calls (A0 : Option Addr) (c0 : Nat) (l0 : List Nd) (r1 : List Nd) (r2 : Int) (w : World) (hr0 : Kd.C k43 w A0 l0.length l0) (hc0 : l0.length ≤ c0) (h : fixup_Fix.f l0 = some (r1, r2)) :
    Calls Try.prog 15 #[.slice A0 l0.length c0] w fun e w' => ∃ v0_ : Value, e = .returned (.tuple #[v0_, .int .i64 r2]) ∧ Kd.V k43 43 w' w.heap.size (fun k_ => (w.heap.size ≤ k_)) v0_ r1 ∧ Below w.heap.size w w' := by
  unfold fixup_Fix.f at h
  split at h
  rotate_left
  · cases h
  rename_i hl
  have h' := Option.some.inj h
  unfold fixR at h'
  by_cases q : (checkP l0).2 = 0
  · rw [if_pos q] at h'
    injection h' with e1 e2
    subst e1 e2
    have hok := (ok_iff l0).1 q
    exact fix_yes A0 c0 l0 w hr0 hc0 (kids_le hl) hl q (st_init hok) ⟨hok.some, hok.many⟩
  · rw [if_neg q] at h'
    injection h' with e1 e2
    have HC := Lib.hid (tree_Computed.calls A0 c0 l0 [] (checkP l0).2 w hr0 hc0 (kids_le hl) (by unfold tree_Computed.f; rw [if_pos hl, if_neg q]))
    subst e1 e2
    generalize (checkP l0).2 = er at q HC ⊢
    have hqb : (er != 0) = true := by simpa using q
    clear hr0 hc0 h hl q
    refine calls_of_wp_marks Try.func15 rfl ?_
    simp only [Try.ntmps15, List.size_toArray, List.length_cons, List.length_nil, Nat.reduceAdd, Nat.reduceSub, Array.replicate_succ, Array.replicate_zero, List.push_toArray, List.append_toArray, List.nil_append, List.cons_append]
    go_upto_region 1 with fail
    refine wp_scope_only 0 (by repeat (first | exact fl_here _ _ | refine fl_seq1 (by repeat (first | exact fl_region _ _ _ _ | exact fl_cond _ _ _ _ | exact fl_block _ _ _ | exact fl_ret _ | exact fl_ne (by decide) | refine fl_seq0 ?_ ?_)) ?_)) ?_
    go_wp2_with (go_at_call 27; refine HC.out.mono ?_; rintro e w1 ⟨v1, rfl, hr1, hb1⟩; obtain ⟨A1, c1, hv⟩ := Kd.R_slice hr1; subst hv; have HB1 := Lib.hid hb1; clear hr1 hb1 HC)
    show LeavesInM _ _ _ _ _ _ _ _ _
    refine leaves_marks (v := .tuple #[.slice none 0 0, .int .i64 er]) (B := w.heap.size) (Marks.nil _ _) (fun W' hs => ⟨by simp [results, Try.results15], .slice none 0 0, rfl, Kd.V_nil _ _ _ _ _, hs.stab _ (Stab.below (Nat.le_refl _) (Nat.le_refl _)) ?_⟩)
    first
      | exact HB1.out
      | exact HB1.out.alloc HB1.out.size _
end Go.Proofs.Ytjhpkikgajgdmaa.K
