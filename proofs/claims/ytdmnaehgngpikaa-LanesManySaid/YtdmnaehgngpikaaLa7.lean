/- Layer 6: slices.Repeat of one lane. -/
import Derived.Test.YtdmnaehgngpikaaLaA
import Derived.Test.YtdmnaehgngpikaaCopy
import Derived.Test.YtdmnaehgngpikaaMul
import Derived.Test.YtdmnaehgngpikaaK4
import Derived.Laws.MakeOwn
import Derived.RegionTactic
import Derived.ChangeAlike
import Derived.BigRegion
import Derived.StillTailTactics
namespace Go.Proofs.Ytdmnaehgngpikaa.K
open Go.RowKit Go.Proofs.YtdmnaehgngpikaaW.PrintWords Go.Proofs.YtdmnaehgngpikaaW.PrintLast Go.Proofs.YtdmnaehgngpikaaW.PrintMore
set_option linter.unusedVariables false
set_option linter.unusedSimpArgs false
/-! rows of equal parts -/
theorem lflat_len {α : Type} (c : α → List Value) (n : Nat) (hc : ∀ x, (c x).length = n) : ∀ xs : List α, (xs.flatMap c).length = xs.length * n
  | [] => by simp
  | x :: xs => by simp [hc x, lflat_len c n hc xs, Nat.succ_mul]; omega
theorem lflat_get {α : Type} (c : α → List Value) (n : Nat) (hc : ∀ x, (c x).length = n) (i : Nat) (hi : i < n) : ∀ (xs : List α) (j : Nat) (x : α), xs[j]? = some x → (xs.flatMap c)[j * n + i]? = (c x)[i]?
  | [], j, x, h => by simp at h
  | y :: ys, 0, x, h => by
    simp at h; subst h
    rw [List.flatMap_cons, List.getElem?_append_left (by rw [hc]; omega)]; simp
  | y :: ys, j + 1, x, h => by
    simp at h
    rw [List.flatMap_cons, List.getElem?_append_right (by rw [hc, Nat.succ_mul]; omega), ← lflat_get c n hc i hi ys j x h, hc]
    congr 1; rw [Nat.succ_mul]; omega
def laneC (b : S35) : List Value := [.int .i64 b.f0, .int .i64 b.f1]
theorem laneC_len (b : S35) : (laneC b).length = 2 := rfl
/-- block O is the row of the lanes bs -/
def OutIs (w : World) (O : Nat) (bs : List S35) : Prop := BlkIs w O 35 (bs.flatMap laneC).toArray
theorem OutIs.at_ {w : World} {O : Nat} {bs : List S35} (h : OutIs w O bs) {j : Nat} {b : S35} (hj : bs[j]? = some b) (i : Nat) (hi : i < 2) : w.cell? ⟨O, j * 2 + i, none⟩ = (laneC b)[i]? := by
  rw [BlkIs.cell h, List.getElem?_toArray, lflat_get laneC 2 laneC_len i hi bs j b hj]
/-- m lanes, and behind them those that are not laid yet -/
def part_ (x : S35) (n m : Nat) : List S35 := List.replicate m x ++ List.replicate (n - m) ⟨0, 0⟩
theorem part_len (x : S35) (n m : Nat) (h : m ≤ n) : (part_ x n m).length = n := by simp [part_]; omega
theorem part_step (x : S35) (n m d : Nat) (h : m + d ≤ n) :
    ((((part_ x n m).flatMap laneC).toArray.toList.take (m * 2) ++ ((part_ x n m).flatMap laneC).take (d * 2) ++ ((part_ x n m).flatMap laneC).toArray.toList.drop (m * 2 + (((part_ x n m).flatMap laneC).take (d * 2)).length)) : List Value) = (part_ x n (m + d)).flatMap laneC ∨ m < d := by
  by_cases hd : m < d
  · exact .inr hd
  left
  have hl : ∀ k (y : S35), ((List.replicate k y).flatMap laneC).length = k * 2 := fun k y => by rw [lflat_len laneC 2 laneC_len]; simp
  have e1 : (part_ x n m).flatMap laneC = (List.replicate m x).flatMap laneC ++ (List.replicate (n - m) ⟨0, 0⟩).flatMap laneC := by simp [part_]
  have e2 : (List.replicate m x).flatMap laneC = (List.replicate d x).flatMap laneC ++ (List.replicate (m - d) x).flatMap laneC := by
    rw [← List.flatMap_append, List.replicate_append_replicate]; congr 2; omega
  have e3 : (List.replicate (n - m) (⟨0, 0⟩ : S35)).flatMap laneC = (List.replicate d (⟨0, 0⟩ : S35)).flatMap laneC ++ (List.replicate (n - (m + d)) (⟨0, 0⟩ : S35)).flatMap laneC := by
    rw [← List.flatMap_append, List.replicate_append_replicate]; congr 2; omega
  have e4 : (part_ x n (m + d)).flatMap laneC = (List.replicate m x).flatMap laneC ++ ((List.replicate d x).flatMap laneC ++ (List.replicate (n - (m + d)) (⟨0, 0⟩ : S35)).flatMap laneC) := by
    rw [part_, List.flatMap_append, ← List.replicate_append_replicate, List.flatMap_append, List.append_assoc]
  have t1 : ((part_ x n m).flatMap laneC).take (m * 2) = (List.replicate m x).flatMap laneC := by rw [e1, List.take_left' (hl m x)]
  have t2 : ((part_ x n m).flatMap laneC).take (d * 2) = (List.replicate d x).flatMap laneC := by rw [e1, e2, List.append_assoc, List.take_left' (hl d x)]
  have t3 : ((part_ x n m).flatMap laneC).drop (m * 2 + d * 2) = (List.replicate (n - (m + d)) (⟨0, 0⟩ : S35)).flatMap laneC := by
    rw [e1, e3, ← List.append_assoc, List.drop_left']
    rw [List.length_append, hl, hl]
  rw [List.toList_toArray, t1, t2, hl, t3, e4, List.append_assoc]
theorem madeCells_lane (x : S35) (n : Nat) : (madeCells #[.int .i64 0, .int .i64 0] (n * 2)) = ((part_ x n 0).flatMap laneC).toArray := by
  have hp : part_ x n 0 = List.replicate n ⟨0, 0⟩ := by simp [part_]
  rw [hp]
  apply Array.ext
  · rw [size_madeCells, List.size_toArray, lflat_len laneC 2 laneC_len]; simp
  · intro i h1 h2
    rw [size_madeCells] at h1
    have h3 : ((List.replicate n (⟨0, 0⟩ : S35)).flatMap laneC)[i / 2 * 2 + i % 2]? = (laneC ⟨0, 0⟩)[i % 2]? :=
      lflat_get laneC 2 laneC_len (i % 2) (Nat.mod_lt _ (by decide)) _ (i / 2) ⟨0, 0⟩ (by rw [List.getElem?_replicate, if_pos (by omega)])
    rw [show i / 2 * 2 + i % 2 = i by omega] at h3
    have h4 : (madeCells #[.int .i64 0, .int .i64 0] (n * 2))[i] = .int .i64 0 := by
      simp only [madeCells, Array.getElem_map, Array.getElem_range]
      have : i % 2 = 0 ∨ i % 2 = 1 := by omega
      rcases this with e | e <;> simp [e]
    have h5 : (laneC ⟨0, 0⟩)[i % 2]? = some (.int .i64 0) := by
      have : i % 2 = 0 ∨ i % 2 = 1 := by omega
      rcases this with e | e <;> rw [e] <;> rfl
    rw [h4]
    rw [h5] at h3
    have := (List.getElem?_eq_some_iff.1 h3).2
    simpa using this.symm
theorem one_laneC (x : S35) : ∀ v ∈ laneC x, v.oneCell' = true := by
  intro v hv
  simp [laneC] at hv
  rcases hv with rfl | rfl <;> rfl
theorem one_part (x : S35) (n m : Nat) : ∀ v ∈ (part_ x n m).flatMap laneC, v.oneCell' = true := by
  intro v hv
  obtain ⟨y, _, hy⟩ := List.mem_flatMap.1 hv
  exact one_laneC y v hy
theorem first_copy (x : S35) (n : Nat) : (((part_ x n 0).flatMap laneC).toArray.toList.take 0 ++ (laneC x).take (min 1 n * 2) ++ ((part_ x n 0).flatMap laneC).toArray.toList.drop (0 + ((laneC x).take (min 1 n * 2)).length) : List Value) = (part_ x n (min 1 n)).flatMap laneC := by
  cases n with
  | zero => rfl
  | succ n =>
    have h1 : min 1 (n + 1) = 1 := by omega
    have h2 : (laneC x).take (1 * 2) = laneC x := rfl
    rw [h1, h2, List.toList_toArray, List.take_zero, List.nil_append, Nat.zero_add, laneC_len]
    have e : part_ x (n + 1) 0 = (⟨0, 0⟩ : S35) :: List.replicate n ⟨0, 0⟩ := by simp [part_, List.replicate_succ]
    have e2 : part_ x (n + 1) 1 = x :: List.replicate n ⟨0, 0⟩ := by simp [part_]
    rw [e, e2, List.flatMap_cons, List.flatMap_cons, List.drop_left' (laneC_len _)]
set_option maxRecDepth 100000 in
set_option maxHeartbeats 4000000 in
theorem repeat_lane (x : S35) (n : Nat) (hn : n ≤ 1000000) (b c : Nat) (w : World) (hb : b < w.heap.size) (hx : ∀ j v, (laneC x)[j]? = some v → w.cell? ⟨b, j, none⟩ = some v) :
    Calls Try.prog 25 #[.slice (some ⟨b, 0, none⟩) 1 c, .int .i64 n] w
      fun e w' => ∃ O, e = .returned (.slice (some ⟨O, 0, none⟩) n n) ∧ OutIs w' O (List.replicate n x) ∧ Below w.heap.size w w' ∧ w.heap.size ≤ O := by
  have hm : bits_Mul.f 1 n = some (0, (n : Int)) := by
    unfold bits_Mul.f
    rw [mul64 1 n (by omega) (by omega) (by omega) (by omega)]
    simp only [Option.bind_some, Int.one_mul, Option.some.injEq, Prod.mk.injEq]
    omega
  have HM := Lib.hid fun (W : World) => bits_Mul.calls 1 n 0 n W hm
  have HX := Lib.hid hx
  clear hm hx
  obtain ⟨i0, hi0, hz0⟩ := Option.map_eq_some_iff.1 (show (Try.prog.info? 35).map (fun i => (i.zero, i.size, i.bytes)) = some (some (.agg #[.int .i64 0, .int .i64 0]), 2, 16) by kernel_rfl)
  simp only [Prod.mk.injEq] at hz0
  have HMK := Lib.hid fun (W : World) => run_make (P := Try.prog) W 25 35 i0 _ Try.underlying25 hi0 hz0.1 .i64 .i64 n n (by omega) (by omega) (by rw [hz0.2.2]; omega) (by omega)
  rw [hz0.2.1] at HMK
  simp only [Int.toNat_natCast] at HMK
  rw [show (Value.agg #[.int .i64 0, .int .i64 0]).cells = #[.int .i64 0, .int .i64 0] from rfl, madeCells_lane x n] at HMK
  have hmk := fun W => HMK.out W
  clear HMK hz0 hi0
  go_enter Try.func25, Try.ntmps25
  go_wp2_with (first
    | (go_at_call 38; refine (HM.out _).mono ?_; rintro e w1 ⟨rfl, hd⟩; have HD := Lib.hid hd; clear hd)
    | (refine wpList_copy_k rfl (.tmp 31) (.tmp 32) 25 25 rfl 35 Try.underlying25 2 (by kernel_rfl) w1.heap.size 0 n n ⟨b, 0, none⟩ 1 c ?hd ?hs ((part_ x n 0).flatMap laneC).toArray 35 ?hg ((laneC x).take (min 1 n * 2)) ?hn ?hsrc ?hfit ?h1 w.heap.size w ?hb ?hB ?_; (case hd => rfl); (case hs => rfl); (case hg => exact World.alloc_heap_new w1 _); (case hn => rw [List.length_take, laneC_len]; show _ = min 1 n * 2; omega); (case hsrc => exact fun j v hv => (by
        have hj : j < 2 := (by have h1 := (List.getElem?_eq_some_iff.1 hv).1; rw [List.length_take, laneC_len] at h1; omega)
        have hv2 : (laneC x)[j]? = some v := (by rw [List.getElem?_take] at hv; split at hv; exact hv; cases hv)
        have h3 := HX.out j v hv2
        have hlt := hb
        rw [show ((⟨b, 0, none⟩ : Addr).add j) = ⟨b, j, none⟩ by (unfold Addr.add; split <;> simp_all)]
        have hBd := HD.out.below
        rw [World.cell?_alloc_lt _ _ _ (Nat.lt_of_lt_of_le hb hBd.size)]
        exact (hBd.cell (p := ⟨b, j, none⟩) hb).trans h3)); (case hfit => rw [List.size_toArray, lflat_len laneC 2 laneC_len, part_len x n 0 (by omega), List.length_take, laneC_len]; omega); (case h1 => exact fun v hv => one_laneC x v (List.mem_of_mem_take hv)); (case hb => exact HD.out.below.alloc HD.out.below.size _); (case hB => exact HD.out.below.size); intro w2 hg2 hb2; have HB2 := Lib.hid hb2; clear hb2))
  obtain ⟨G, hG⟩ : ∃ G, G = w1.heap.size := ⟨_, rfl⟩
  rw [← hG] at hg2 ⊢
  have hGw : w.heap.size ≤ G := by rw [hG]; exact HD.out.below.size
  clear hG
  have ho2 : OutIs w2 G (part_ x n (min 1 n)) := by
    have := hg2.out
    rw [first_copy] at this
    exact this
  have HO2 := Lib.hid ho2
  clear hg2 ho2 hmk
  have hms : Nat.min 1 n = min 1 n := rfl
  rw [hms]
  clear hms
  go_loopw [8] (fun i wr => ∃ m : Nat, m ≤ n ∧ (0 < n → 0 < m) ∧ i = .int .i64 m ∧ Aside0 (OutIs wr G (part_ x n m)) ∧ Aside0 (Below w.heap.size w wr)) (fun i _ => n - (intOf i).toNat)
  case atStart => exact ⟨min 1 n, by omega, by omega, rfl, ⟨HO2.out⟩, ⟨HB2.out⟩⟩
  case round =>
    obtain ⟨m, hmn, hm0, rfl, HO, HBr⟩ := hrel
    clear HO2 HB2 HM HX
    by_cases hlt : m < n
    · have hpos : 0 < m := hm0 (by omega)
      have hs1 : ∀ W, (Instr.slice 25 (.slice (some ⟨G, 0, none⟩) n n) (some (.int .i64 m)) none none).run Try.prog W = .ok (.slice (some ⟨G, m * 2, none⟩) (n - m) (n - m)) W := by
        intro W
        have hel : Try.prog.elem 25 = 35 := by simp [Program.elem, Try.underlying25]
        have hz : (sizeOf 35).run Try.prog W = .ok 2 W := by kernel_rfl
        rw [run_slice_l W 25 (some ⟨G, 0, none⟩) n n (by rw [hel]; exact Try.underlying25) .i64 m (by omega) (by omega), hel, hz]
        have h1 : ¬ n = m := by omega
        have h2 : ¬ m * 2 = 0 := by omega
        simp [sliced, Result.andThen, Addr.add, h1, h2]
      have hs2 : ∀ W, (Instr.slice 25 (.slice (some ⟨G, 0, none⟩) n n) none (some (.int .i64 m)) none).run Try.prog W = .ok (.slice (some ⟨G, 0, none⟩) m n) W := by
        intro W
        have hel : Try.prog.elem 25 = 35 := by simp [Program.elem, Try.underlying25]
        have hz : (sizeOf 35).run Try.prog W = .ok 2 W := by kernel_rfl
        rw [run_slice_h W 25 (some ⟨G, 0, none⟩) n n (by rw [hel]; exact Try.underlying25) .i64 m (by omega) (by omega), hel, hz]
        simp [sliced, Result.andThen, Addr.add]
      go_wp2
      go_region_law ((refine step_copy_k ?hgd (.tmp 41) (.tmp 44) 25 25 ?ho 35 Try.underlying25 2 ?hsz G (m * 2) (n - m) (n - m) ⟨G, 0, none⟩ m n ?hd ?hs ((part_ x n m).flatMap laneC).toArray 35 ?hg (((part_ x n m).flatMap laneC).take (min m (n - m) * 2)) ?hn ?hsrc ?hfit ?h1 w.heap.size w ?hb hGw ?_); (case hgd => rfl); (case ho => rfl); (case hsz => kernel_rfl); (case hd => go_simp); (case hs => go_simp); (case hg => exact BlkIs.drew HO.out); (case hn => rw [List.length_take, lflat_len laneC 2 laneC_len, part_len x n m hmn]; show _ = min m (n - m) * 2; omega); (case hsrc => exact fun j v hv => (by
        have hv2 : ((part_ x n m).flatMap laneC)[j]? = some v := (by rw [List.getElem?_take] at hv; split at hv; exact hv; cases hv)
        rw [show ((⟨G, 0, none⟩ : Addr).add j) = ⟨G, j, none⟩ by (unfold Addr.add; split <;> simp_all)]
        exact (BlkIs.cell (BlkIs.drew HO.out) j).trans (by rw [List.getElem?_toArray]; exact hv2))); (case hfit => rw [List.size_toArray, lflat_len laneC 2 laneC_len, part_len x n m hmn, List.length_take, lflat_len laneC 2 laneC_len, part_len x n m hmn]; omega); (case h1 => exact fun v hv => one_part x n m v (List.mem_of_mem_take hv)); (case hb => exact HBr.out.drew); intro w4 hg4 hb4; have HB4 := Lib.hid hb4; clear hb4)
      all_goals
        obtain ⟨d, hd⟩ : ∃ d, d = Nat.min m (n - m) := ⟨_, rfl⟩
        have hd' : d = min m (n - m) := hd
        have hwr : IntKind.i64.wrap ((m : Int) + (d : Int)) = ((m + d : Nat) : Int) := by rw [IntKind.wrap_i64]; omega
        rw [← hd, hwr]
        simp only [List.getElem_toArray, List.getElem_cons_succ, List.getElem_cons_zero, Act.put, List.setIfInBounds_toArray, List.set_cons_zero, List.set_cons_succ, Exit.inBlock]
        have ho4 : OutIs w4 G (part_ x n (m + d)) := by
          have h4 := hg4.out
          rw [show min m (n - m) = d from hd'.symm] at h4
          have hp := (part_step x n m d (by omega)).resolve_right (by omega)
          rw [hp] at h4
          exact h4
        have HO4 := Lib.hid ho4
        clear ho4 hg4 HO hwr
        go_roundw
        case rel => exact ⟨_, _, _, _, _, _, _, _, _, _, _, _, _, _, ⟨m + d, by omega, by omega, rfl, ⟨HO4.out⟩, ⟨HB4.out⟩⟩, rfl⟩
        case measure => simp [intOf]; omega
    · have hmn' : m = n := by omega
      subst hmn'
      have HR : part_ x m m = List.replicate m x := by simp [part_]
      have HRR := Lib.hid HR
      clear HR
      go_wp2
      go_ret
      exact ⟨G, rfl, by rw [← HRR.out]; exact HO.out, HBr.out, hGw⟩
end Go.Proofs.Ytdmnaehgngpikaa.K
