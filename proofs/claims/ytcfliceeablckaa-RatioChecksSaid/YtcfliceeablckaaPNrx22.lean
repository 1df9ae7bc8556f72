-- Written by wip/rprint.py of this session's repo (the kit's printer with patches), out of the translation. Not trusted: Lean checks it.
import Derived.Test.YtcfliceeablckaaPNrx0
import Derived.Test.YtcfliceeablckaaPNrx14
import Derived.Test.YtcfliceeablckaaPNrx15
import Derived.Test.YtcfliceeablckaaPNrx19
import Derived.Test.YtcfliceeablckaaPNrx21
import Derived.Test.YtcfliceeablckaaPNrx25
import Derived.Test.YtcfliceeablckaaPNrx30
namespace Go.Proofs.Ytcfliceeablckaa.PNr
open Go.RowKit Go.Proofs.YtcfliceeablckaaW.PrintWords Go.Proofs.YtcfliceeablckaaW.PrintLast Go.Proofs.YtcfliceeablckaaW.PrintMore Go.Proofs.Ytcfliceeablckaa.MWords
attribute [local go_sem] max2_int min2_int max_two min_two max_three min_three max_four min_four   -- for this text's walks alone
set_option linter.unusedVariables false
set_option linter.unusedSimpArgs false

/-! ### regattalaw03_RatioChecks: function 8 -/
mutual
def regattalaw03_RatioChecks.j0 : Nat → List Int → List Int → Bool → Int → Int → Option (Bool)
  | 0, _, _, _, _, _ => none
  | k + 1, x0, x1, x7, x744000, x744001 => if (x1.length : Int) > 4 then (if 4 ≤ (x1.length : Int) then (regattalaw03_RatioChecks.j1 k x0 (x1.take 4) x7 x744000 x744001) else (none)) else (regattalaw03_RatioChecks.j1 k x0 x1 x7 x744000 x744001)
def regattalaw03_RatioChecks.j1 : Nat → List Int → List Int → Bool → Int → Int → Option (Bool)
  | 0, _, _, _, _, _ => none
  | k + 1, x0, x1, x7, x744000, x744001 => (regattalaw03_weights.f k (([(⟨x744000, x744001⟩ : S55)] : List (S55)))).bind fun t759 => (if 0 < (t759.length : Int) then (if x7 = true then ((ratio_Check.f x0 x1).bind fun t764 => ((regattaref03_Check.f x0 x1).bind fun t765 => (if (t764 == t765) = true then ((ratio_Of.f ((rd_T57 t759 0).f0) ((rd_T57 t759 0).f1)).bind fun bt766 => ((regattaref03_Of.f k ((rd_T57 t759 0).f0) ((rd_T57 t759 0).f1)).bind fun bt772 => ((regattaref03_Cmp.f k bt766.1 bt766.2 bt772.1 bt772.2).bind fun t778 => (if t778 = 0 then ((ratio_Of.f ((rd_T57 t759 0).f0) ((rd_T57 t759 0).f1)).bind fun bt779 => ((ratio_Check.f bt779.1 bt779.2).bind fun t785 => (some t785))) else (some false))))) else (some false)))) else (some false)) else (none))
end
def regattalaw03_RatioChecks.f (k : Nat) (l0 : List Int) (l1 : List Int) (a2_0 : Int) (a2_1 : Int) : Option (Bool) := (regattalaw03_awake.f k).bind fun t744 => (if (l0.length : Int) > 4 then (if 4 ≤ (l0.length : Int) then (regattalaw03_RatioChecks.j0 k (l0.take 4) l1 t744 a2_0 a2_1) else (none)) else (regattalaw03_RatioChecks.j0 k l0 l1 t744 a2_0 a2_1))
theorem regattalaw03_RatioChecks.mono_l : ∀ k, (∀ y0 y1 y2 y3 y4, LeO (regattalaw03_RatioChecks.j0 k y0 y1 y2 y3 y4) (regattalaw03_RatioChecks.j0 (k + 1) y0 y1 y2 y3 y4)) ∧ (∀ y0 y1 y2 y3 y4, LeO (regattalaw03_RatioChecks.j1 k y0 y1 y2 y3 y4) (regattalaw03_RatioChecks.j1 (k + 1) y0 y1 y2 y3 y4))
  | 0 => ⟨fun _ _ _ _ _ r h => by simp [regattalaw03_RatioChecks.j0] at h, fun _ _ _ _ _ r h => by simp [regattalaw03_RatioChecks.j1] at h⟩
  | k + 1 => by
    obtain ⟨ih0, ih1⟩ := regattalaw03_RatioChecks.mono_l k
    refine ⟨?_, ?_⟩
    · intro y0 y1 y2 y3 y4
      unfold regattalaw03_RatioChecks.j0
      repeat' first
      | (with_reducible exact ih0 _ _ _ _ _)
      | (with_reducible exact ih1 _ _ _ _ _)
      | (with_reducible exact regattalaw03_awake.mono _)
      | (with_reducible exact regattalaw03_weights.mono _ _)
      | (with_reducible exact regattaref03_Cmp.mono _ _ _ _ _)
      | (with_reducible exact regattaref03_Of.mono _ _ _)
      | (with_reducible exact LeO.refl _)
      | (with_reducible exact LeO.none _)
      | (with_reducible refine LeO.ite ?_ ?_)
      | (with_reducible refine LeO.bind ?_ (fun _ => ?_))
      | exact ih0 _ _ _ _ _
      | exact ih1 _ _ _ _ _
      | exact regattalaw03_awake.mono _
      | exact regattalaw03_weights.mono _ _
      | exact regattaref03_Cmp.mono _ _ _ _ _
      | exact regattaref03_Of.mono _ _ _
      | exact LeO.none _
      | refine LeO.ite ?_ ?_
      | refine LeO.bind ?_ (fun _ => ?_)
    · intro y0 y1 y2 y3 y4
      unfold regattalaw03_RatioChecks.j1
      repeat' first
      | (with_reducible exact ih0 _ _ _ _ _)
      | (with_reducible exact ih1 _ _ _ _ _)
      | (with_reducible exact regattalaw03_awake.mono _)
      | (with_reducible exact regattalaw03_weights.mono _ _)
      | (with_reducible exact regattaref03_Cmp.mono _ _ _ _ _)
      | (with_reducible exact regattaref03_Of.mono _ _ _)
      | (with_reducible exact LeO.refl _)
      | (with_reducible exact LeO.none _)
      | (with_reducible refine LeO.ite ?_ ?_)
      | (with_reducible refine LeO.bind ?_ (fun _ => ?_))
      | exact ih0 _ _ _ _ _
      | exact ih1 _ _ _ _ _
      | exact regattalaw03_awake.mono _
      | exact regattalaw03_weights.mono _ _
      | exact regattaref03_Cmp.mono _ _ _ _ _
      | exact regattaref03_Of.mono _ _ _
      | exact LeO.none _
      | refine LeO.ite ?_ ?_
      | refine LeO.bind ?_ (fun _ => ?_)
theorem regattalaw03_RatioChecks.mono : ∀ a0 a1 a2 a3 k, LeO (regattalaw03_RatioChecks.f k a0 a1 a2 a3) (regattalaw03_RatioChecks.f (k + 1) a0 a1 a2 a3) := by
  intro a0 a1 a2 a3 k
  obtain ⟨ih0, ih1⟩ := regattalaw03_RatioChecks.mono_l k
  unfold regattalaw03_RatioChecks.f
  repeat' first
      | (with_reducible exact ih0 _ _ _ _ _)
      | (with_reducible exact ih1 _ _ _ _ _)
      | (with_reducible exact regattalaw03_awake.mono _)
      | (with_reducible exact regattalaw03_weights.mono _ _)
      | (with_reducible exact regattaref03_Cmp.mono _ _ _ _ _)
      | (with_reducible exact regattaref03_Of.mono _ _ _)
      | (with_reducible exact LeO.refl _)
      | (with_reducible exact LeO.none _)
      | (with_reducible refine LeO.ite ?_ ?_)
      | (with_reducible refine LeO.bind ?_ (fun _ => ?_))
      | exact ih0 _ _ _ _ _
      | exact ih1 _ _ _ _ _
      | exact regattalaw03_awake.mono _
      | exact regattalaw03_weights.mono _ _
      | exact regattaref03_Cmp.mono _ _ _ _ _
      | exact regattaref03_Of.mono _ _ _
      | exact LeO.none _
      | refine LeO.ite ?_ ?_
      | refine LeO.bind ?_ (fun _ => ?_)
def regattalaw03_RatioChecks.T8 : Bool × List (List Nat × List Nat) := (true, [([], []), ([0], [0]), ([1], [1]), ([2, 1, 1], [1, 2]), ([1], [1]), ([4, 3, 1], [1, 4]), ([3, 5, 1], [1, 3, 5]), ([1, 6], [1, 6]), ([7, 5], [7]), ([8], [8]), ([9, 8, 8], [8, 9]), ([8], [8]), ([11, 10, 8], [8, 11]), ([10, 12, 12, 8], [8, 10, 12]), ([13, 8], [8, 13]), ([8, 14], [8, 14]), ([15, 13], [15]), ([16], [16]), ([17, 16, 16], [16, 17]), ([18, 18, 16], [16, 18]), ([16, 19], [16, 19]), ([20, 19, 0, 1, 2, 3, 4, 5, 6, 7, 8, 9, 10, 11, 12, 13, 14, 15, 16, 17, 18, 19, 20], [20])])
def regattalaw03_RatioChecks.B8 : List Nat := [0, 1, 3, 7, 3, 31, 63, 127, 255, 511, 1023, 511, 4095, 8191, 16383, 32767, 65535, 131071, 262143, 524287, 1048575, 2097151]
theorem regattalaw03_RatioChecks.tab8 : rtab .any (opsOf Try.f8 8) = regattalaw03_RatioChecks.T8 := by kernel_rfl
theorem regattalaw03_RatioChecks.bits8 : waitsOk regattalaw03_RatioChecks.T8.2 regattalaw03_RatioChecks.B8 = true := by kernel_rfl
set_option maxHeartbeats 8000000 in
set_option maxRecDepth 100000 in
theorem regattalaw03_RatioChecks.calls (k : Nat) (P0_ : Nat → Prop) (A0 : Option Addr) (c0 : Nat) (l0 : List Int) (P1_ : Nat → Prop) (A1 : Option Addr) (c1 : Nat) (l1 : List Int) (a2_0 : Int) (a2_1 : Int) (r : Bool) (w : World) (hr_ : Aside0 (r = true)) (hs0 : Kd.V (Kd.int .u32) 30 w w.heap.size (fun k_ => P0_ k_) (.slice A0 l0.length c0) l0) (hs1 : Kd.V (Kd.int .u32) 30 w w.heap.size (fun k_ => P1_ k_) (.slice A1 l1.length c1) l1) (h : regattalaw03_RatioChecks.f k l0 l1 a2_0 a2_1 = some r) :
    Calls Try.prog 8 #[.slice A0 l0.length c0, .slice A1 l1.length c1, .agg #[.int .i64 a2_0, .int .i64 a2_1]] w fun e w' => e = .returned (.bool r) ∧ Below w.heap.size w w' := by
  have hu55 := Try.underlying55
  have hu45 := Try.underlying45
  have hu57 := Try.underlying57
  have HO0 := Aside0.mk (show Kd.V (Kd.int .u32) 30 w w.heap.size (fun k_ => ((P0_ k_ ∨ P1_ k_) ∨ w.heap.size ≤ k_)) (.slice A0 l0.length c0) l0 from Kd.V_mono hs0 (fun k_ hk => .inl (.inl hk)))
  have HO1 := Aside0.mk (show Kd.V (Kd.int .u32) 30 w w.heap.size (fun k_ => ((P0_ k_ ∨ P1_ k_) ∨ w.heap.size ≤ k_)) (.slice A1 l1.length c1) l1 from Kd.V_mono hs1 (fun k_ hk => .inl (.inr hk)))
  have HB := Aside0.mk (Below.refl w.heap.size w)
  have H : ((regattalaw03_awake.f k).bind fun t744 => (if (l0.length : Int) > 4 then (if 4 ≤ (l0.length : Int) then (regattalaw03_RatioChecks.j0 k (l0.take 4) l1 t744 a2_0 a2_1) else (none)) else (regattalaw03_RatioChecks.j0 k l0 l1 t744 a2_0 a2_1))) = some r := h
  clear h
  replace H := Option.bind_eq_some_iff.mp H
  obtain ⟨t744, A40, H⟩ := H
  replace H : (if (l0.length : Int) > 4 then (if 4 ≤ (l0.length : Int) then (regattalaw03_RatioChecks.j0 k (l0.take 4) l1 t744 a2_0 a2_1) else (none)) else (regattalaw03_RatioChecks.j0 k l0 l1 t744 a2_0 a2_1)) = some r := H
  have A4 := Aside0.mk A40
  clear A40
  have HC5 := Aside0.mk H
  clear H
  go_enter Try.func8, Try.ntmps8
  go_upto_if 13 with (first | ((with_reducible refine gate_dst (N := 5) rfl ?_); refine box_event ?hg (N := 5) ?hd (cs := #[.int .i64 a2_0, .int .i64 a2_1]) (t := 55) ?hr ?_; (case hd => rfl); (case hg => rfl); (case hr => first | (go_simp; done) | (go_simp; rfl)); intro gb743 hg w6 hbox hb; have n0_ := Aside0.mk (Kd.V_below (Kd.V_elderB (by (with_reducible repeat (first | apply Kd.V_alloc | apply Kd.V_drewN | apply Kd.V_drew)); exact HO0.out) gb743 (Nat.le_of_eq hg.symm)) hb); have n1_ := Aside0.mk (Kd.V_below (Kd.V_elderB (by (with_reducible repeat (first | apply Kd.V_alloc | apply Kd.V_drewN | apply Kd.V_drew)); exact HO1.out) gb743 (Nat.le_of_eq hg.symm)) hb); have n2_ := Aside0.mk (below_step (by repeat (first | (with_reducible first | exact HB.out | apply below_alloc | apply pw_below_drewN | apply below_drew1) | exact HB.out)) hb); have n3_ := Aside0.mk (hbox); have n4_ := Aside0.mk ((by rw [hg]; exact (below_size (by repeat (first | (with_reducible first | exact HB.out | apply below_alloc | apply pw_below_drewN | apply below_drew1) | exact HB.out))) : w.heap.size ≤ gb743)); have n5_ := Aside0.mk ((by rw [hg]; exact (below_size (by repeat (first | (with_reducible first | exact HB.out | apply below_alloc | apply pw_below_drewN | apply below_drew1) | exact HB.out))) : w.heap.size ≤ gb743)); clear HO0; clear HO1; clear HB; have HO0 := n0_; have HO1 := n1_; have HB := n2_; have BK743 := n3_; have GW743 := n4_; have GE743 := n5_; clear n0_ n1_ n2_ n3_ n4_ n5_; clear hb hbox hg) | ((with_reducible refine gate_callee (f := 28) rfl ?_); refine goesL_ (some 10) rfl rfl Try.func28 (by kernel_rfl) rfl #[] rfl (by (try simp only [List.map_toArray, List.map_cons, List.map_nil]); first | done | rfl | (simp only [List.length_drop, List.length_take]; rfl)) ?_; (with_reducible refine (regattalaw03_awake.calls k  t744 _ A4.out).mono ?_); rintro e w7 ⟨rfl, hb⟩; refine ⟨_, rfl, ?_⟩; have n0_ := Aside0.mk (Kd.V_below (by (with_reducible repeat (first | apply Kd.V_alloc | apply Kd.V_drewN | apply Kd.V_drew)); exact HO0.out) hb); have n1_ := Aside0.mk (Kd.V_below (by (with_reducible repeat (first | apply Kd.V_alloc | apply Kd.V_drewN | apply Kd.V_drew)); exact HO1.out) hb); have n2_ := Aside0.mk (blk_below (g := gb743) (o := .cells #[.int .i64 a2_0, .int .i64 a2_1] 55 (0, 0)) (by (with_reducible repeat (first | refine blk_drewN ?_ _ | refine blk_drew ?_ | refine blk_alloc ?_ _)); exact BK743.out) hb); have n3_ := Aside0.mk (below_step (by repeat (first | (with_reducible first | exact HB.out | apply below_alloc | apply pw_below_drewN | apply below_drew1 | refine below_set ?_ GE743.out) | exact HB.out)) hb); clear HO0; clear HO1; clear BK743; clear HB; have HO0 := n0_; have HO1 := n1_; have BK743 := n2_; have HB := n3_; clear n0_ n1_ n2_ n3_; (try clear hb); (try clear hb2); (try clear hk); (try clear hi)))
  (try simp only [Act.put, List.setIfInBounds_toArray, List.set_cons_zero, List.set_cons_succ])
  go_cut [0] (fun v0 wc => ∃ (kq : Nat) (x0_4 : List Int), Aside0 (regattalaw03_RatioChecks.j0 kq x0_4 l1 t744 a2_0 a2_1 = some r) ∧ Aside0 (kq ≤ k) ∧ Aside0 (Kd.V (Kd.int .u32) 30 wc w.heap.size (fun k_ => ((P0_ k_ ∨ P1_ k_) ∨ w.heap.size ≤ k_) ∧ k_ ≠ gb743) v0 x0_4) ∧ Aside0 (Kd.V (Kd.int .u32) 30 wc w.heap.size (fun k_ => ((P0_ k_ ∨ P1_ k_) ∨ w.heap.size ≤ k_) ∧ k_ ≠ gb743) (.slice A1 l1.length c1) l1) ∧ Aside0 (wc.heap[gb743]? = some (.cells #[.int .i64 a2_0, .int .i64 a2_1] 55 (0, 0))) ∧ Aside0 (Below w.heap.size w wc))
  case first =>
    have H := HC5.out
    clear HC5
    by_cases c8 : (l0.length : Int) > 4
    · rw [if_pos c8] at H
      have c8b0 : decide (4 < (l0.length : Int)) = true := decide_eq_true c8
      have c8b1 : decide (4 < l0.length) = true := decide_eq_true (by omega)
      clear c8
      (first | rw [c8b0] | rw [c8b1] | (simp only [i64_w, i32_w]; rw [c8b0]) | skip)
      by_cases c9 : 4 ≤ (l0.length : Int)
      · rw [if_pos c9] at H
        have c9b0 := eq_true c9
        have c9b1 : decide (4 ≤ (l0.length : Int)) = true := decide_eq_true c9
        clear c9
        obtain ⟨y745, hy745⟩ : ∃ y_ : List Int, y_ = (l0.take 4) := ⟨_, rfl⟩
        replace H : (regattalaw03_RatioChecks.j0 k y745 l1 t744 a2_0 a2_1) = some r := by first | (rw [hy745]; with_reducible exact H) | (have H2_ := (Option.bind_some _ _).symm.trans H; rw [hy745]; with_reducible exact H2_) | (have H2_ := (Option.bind_some _ _).symm.trans H; with_reducible exact H2_) | with_reducible exact H | (rw [hy745]; exact H) | exact H
        have Ny745 := Aside0.mk hy745
        clear hy745
        have H' := Aside0.mk H
        clear H
        have q10 : (4 : Int) ≤ ((l0.length : Int) : Int) := of_decide_eq_true (by first | (with_reducible assumption) | assumption)
        obtain ⟨i010, hi010, _, hsz10, _⟩ := info_parts info30
        have hroom10 : l0.length ≤ c0 := (Kd.V_reads' HO0.out).2.1
        have hC10 : Kd.F (Kd.int .u32) _ _ A0 l0.length l0 := (Kd.V_at (base := w.heap.size) HO0.out).2.2
        have hcut10 := cut_to (P := Try.prog) 22 30 .i64 Try.underlying22 hi010 A0 l0.length c0 4 (by omega) q10 hroom10
        have hr10 := Kd.F_take (m := 4) hC10 (by omega)
        have hy10 : y745.length = (4 : Int).toNat := (by rw [Ny745.out, List.length_take]; omega)
        rw [← Ny745.out] at hr10
        rw [← hy10] at hcut10
        have HO749 := Aside0.mk (show Kd.V (Kd.int .u32) 30 _ w.heap.size _ (.slice A0 y745.length c0) y745 from Kd.V_mk (by omega) hr10)
        have HC749 := Aside0.mk (show y745.length ≤ c0 from by omega)
        clear hr10 hC10 hroom10 hi010 hsz10
        have KY10 := Aside0.mk hy10
        clear hy10
        replace q10 := eq_true q10
        go_wp2
        go_meet
        case rel => exact ⟨_, (y745), H', ⟨by first | omega | exact Nat.le_refl _⟩, ⟨by (with_reducible repeat (first | apply Kd.V_alloc | apply Kd.V_drewN | apply Kd.V_drew)); exact HO749.out⟩, ⟨by (with_reducible repeat (first | apply Kd.V_alloc | apply Kd.V_drewN | apply Kd.V_drew)); exact HO1.out⟩, ⟨by (with_reducible repeat (first | refine blk_drewN ?_ _ | refine blk_drew ?_ | refine blk_alloc ?_ _)); exact BK743.out⟩, ⟨by repeat (first | (with_reducible first | exact HB.out | apply below_alloc | apply pw_below_drewN | apply below_drew1 | refine below_set ?_ GE743.out) | exact HB.out)⟩⟩
      · rw [if_neg c9] at H
        exact absurd H (by simp)
    · rw [if_neg c8] at H
      have c8b0 : decide (4 < (l0.length : Int)) = false := decide_eq_false c8
      have c8b1 : decide (4 < l0.length) = false := decide_eq_false (by omega)
      clear c8
      (first | rw [c8b0] | rw [c8b1] | (simp only [i64_w, i32_w]; rw [c8b0]) | skip)
      have H' := Aside0.mk H
      clear H
      go_wp2
      go_meet
      case rel => exact ⟨_, (l0), H', ⟨by first | omega | exact Nat.le_refl _⟩, ⟨by (with_reducible repeat (first | apply Kd.V_alloc | apply Kd.V_drewN | apply Kd.V_drew)); exact HO0.out⟩, ⟨by (with_reducible repeat (first | apply Kd.V_alloc | apply Kd.V_drewN | apply Kd.V_drew)); exact HO1.out⟩, ⟨by (with_reducible repeat (first | refine blk_drewN ?_ _ | refine blk_drew ?_ | refine blk_alloc ?_ _)); exact BK743.out⟩, ⟨by repeat (first | (with_reducible first | exact HB.out | apply below_alloc | apply pw_below_drewN | apply below_drew1 | refine below_set ?_ GE743.out) | exact HB.out)⟩⟩
  case rest =>
    clear HC5
    try clear c1
    try clear q1
    try clear c2
    try clear p2
    try clear c8
    try clear c8b0
    try clear c8b1
    try clear c9
    try clear c9b0
    try clear c9b1
    try clear q10
    try clear q10
    obtain ⟨kq, x0_4, HA, HJ4, HO_0, HO_1, BK743, HB⟩ := hcut
    cases kq with
    | zero => exact absurd HA.out (by simp [regattalaw03_RatioChecks.j0])
    | succ kj4 =>
      have H := HA.out
      clear HA
      simp only [regattalaw03_RatioChecks.j0] at H
      have HC11 := Aside0.mk H
      clear H
      go_upto_if 18 with (fail)
      go_cut [1] (fun v1 wc => ∃ (kq : Nat) (x1_10 : List Int), Aside0 (regattalaw03_RatioChecks.j1 kq x0_4 x1_10 t744 a2_0 a2_1 = some r) ∧ Aside0 (kq ≤ kj4) ∧ Aside0 (Kd.V (Kd.int .u32) 30 wc w.heap.size (fun k_ => ((P0_ k_ ∨ P1_ k_) ∨ w.heap.size ≤ k_) ∧ k_ ≠ gb743) u0 x0_4) ∧ Aside0 (Kd.V (Kd.int .u32) 30 wc w.heap.size (fun k_ => ((P0_ k_ ∨ P1_ k_) ∨ w.heap.size ≤ k_) ∧ k_ ≠ gb743) v1 x1_10) ∧ Aside0 (wc.heap[gb743]? = some (.cells #[.int .i64 a2_0, .int .i64 a2_1] 55 (0, 0))) ∧ Aside0 (Below w.heap.size w wc))
      case first =>
        have H := HC11.out
        clear HC11
        by_cases c12 : (l1.length : Int) > 4
        · rw [if_pos c12] at H
          have c12b0 : decide (4 < (l1.length : Int)) = true := decide_eq_true c12
          have c12b1 : decide (4 < l1.length) = true := decide_eq_true (by omega)
          clear c12
          (first | rw [c12b0] | rw [c12b1] | (simp only [i64_w, i32_w]; rw [c12b0]) | skip)
          by_cases c13 : 4 ≤ (l1.length : Int)
          · rw [if_pos c13] at H
            have c13b0 := eq_true c13
            have c13b1 : decide (4 ≤ (l1.length : Int)) = true := decide_eq_true c13
            clear c13
            obtain ⟨y750, hy750⟩ : ∃ y_ : List Int, y_ = (l1.take 4) := ⟨_, rfl⟩
            replace H : (regattalaw03_RatioChecks.j1 kj4 x0_4 y750 t744 a2_0 a2_1) = some r := by first | (rw [hy750]; with_reducible exact H) | (have H2_ := (Option.bind_some _ _).symm.trans H; rw [hy750]; with_reducible exact H2_) | (have H2_ := (Option.bind_some _ _).symm.trans H; with_reducible exact H2_) | with_reducible exact H | (rw [hy750]; exact H) | exact H
            have Ny750 := Aside0.mk hy750
            clear hy750
            have H' := Aside0.mk H
            clear H
            have q14 : (4 : Int) ≤ ((l1.length : Int) : Int) := of_decide_eq_true (by first | (with_reducible assumption) | assumption)
            obtain ⟨i014, hi014, _, hsz14, _⟩ := info_parts info30
            have hroom14 : l1.length ≤ c1 := (Kd.V_reads' HO_1.out).2.1
            have hC14 : Kd.F (Kd.int .u32) _ _ A1 l1.length l1 := (Kd.V_at (base := w.heap.size) HO_1.out).2.2
            have hcut14 := cut_to (P := Try.prog) 22 30 .i64 Try.underlying22 hi014 A1 l1.length c1 4 (by omega) q14 hroom14
            have hr14 := Kd.F_take (m := 4) hC14 (by omega)
            have hy14 : y750.length = (4 : Int).toNat := (by rw [Ny750.out, List.length_take]; omega)
            rw [← Ny750.out] at hr14
            rw [← hy14] at hcut14
            have HO754 := Aside0.mk (show Kd.V (Kd.int .u32) 30 _ w.heap.size _ (.slice A1 y750.length c1) y750 from Kd.V_mk (by omega) hr14)
            have HC754 := Aside0.mk (show y750.length ≤ c1 from by omega)
            clear hr14 hC14 hroom14 hi014 hsz14
            have KY14 := Aside0.mk hy14
            clear hy14
            replace q14 := eq_true q14
            go_wp2
            go_meet
            case rel => exact ⟨_, (y750), H', ⟨by have := HJ4.out; first | omega | exact Nat.le_refl _⟩, ⟨by (with_reducible repeat (first | apply Kd.V_alloc | apply Kd.V_drewN | apply Kd.V_drew)); exact HO_0.out⟩, ⟨by (with_reducible repeat (first | apply Kd.V_alloc | apply Kd.V_drewN | apply Kd.V_drew)); exact HO754.out⟩, ⟨by (with_reducible repeat (first | refine blk_drewN ?_ _ | refine blk_drew ?_ | refine blk_alloc ?_ _)); exact BK743.out⟩, ⟨by repeat (first | (with_reducible first | exact HB.out | apply below_alloc | apply pw_below_drewN | apply below_drew1 | refine below_set ?_ GE743.out) | exact HB.out)⟩⟩
          · rw [if_neg c13] at H
            exact absurd H (by simp)
        · rw [if_neg c12] at H
          have c12b0 : decide (4 < (l1.length : Int)) = false := decide_eq_false c12
          have c12b1 : decide (4 < l1.length) = false := decide_eq_false (by omega)
          clear c12
          (first | rw [c12b0] | rw [c12b1] | (simp only [i64_w, i32_w]; rw [c12b0]) | skip)
          have H' := Aside0.mk H
          clear H
          go_wp2
          go_meet
          case rel => exact ⟨_, (l1), H', ⟨by have := HJ4.out; first | omega | exact Nat.le_refl _⟩, ⟨by (with_reducible repeat (first | apply Kd.V_alloc | apply Kd.V_drewN | apply Kd.V_drew)); exact HO_0.out⟩, ⟨by (with_reducible repeat (first | apply Kd.V_alloc | apply Kd.V_drewN | apply Kd.V_drew)); exact HO_1.out⟩, ⟨by (with_reducible repeat (first | refine blk_drewN ?_ _ | refine blk_drew ?_ | refine blk_alloc ?_ _)); exact BK743.out⟩, ⟨by repeat (first | (with_reducible first | exact HB.out | apply below_alloc | apply pw_below_drewN | apply below_drew1 | refine below_set ?_ GE743.out) | exact HB.out)⟩⟩
      case rest =>
        clear HC11
        try clear c1
        try clear q1
        try clear c2
        try clear p2
        try clear c8
        try clear c8b0
        try clear c8b1
        try clear c9
        try clear c9b0
        try clear c9b1
        try clear q10
        try clear c12
        try clear c12b0
        try clear c12b1
        try clear c13
        try clear c13b0
        try clear c13b1
        try clear q14
        try clear p2
        try clear q1
        try clear q10
        try clear q14
        obtain ⟨kq, x1_10, HA, HJ10, HO_0, HO_1, BK743, HB⟩ := hcut
        cases kq with
        | zero => exact absurd HA.out (by simp [regattalaw03_RatioChecks.j1])
        | succ kj10 =>
          have H := HA.out
          clear HA
          simp only [regattalaw03_RatioChecks.j1] at H
          obtain ⟨y756, hy756⟩ : ∃ y_ : List (S55), y_ = (([(⟨a2_0, a2_1⟩ : S55)] : List (S55))) := ⟨_, rfl⟩
          replace H : ((regattalaw03_weights.f kj10 y756).bind fun t759 => (if 0 < (t759.length : Int) then (if t744 = true then ((ratio_Check.f x0_4 x1_10).bind fun t764 => ((regattaref03_Check.f x0_4 x1_10).bind fun t765 => (if (t764 == t765) = true then ((ratio_Of.f ((rd_T57 t759 0).f0) ((rd_T57 t759 0).f1)).bind fun bt766 => ((regattaref03_Of.f kj10 ((rd_T57 t759 0).f0) ((rd_T57 t759 0).f1)).bind fun bt772 => ((regattaref03_Cmp.f kj10 bt766.1 bt766.2 bt772.1 bt772.2).bind fun t778 => (if t778 = 0 then ((ratio_Of.f ((rd_T57 t759 0).f0) ((rd_T57 t759 0).f1)).bind fun bt779 => ((ratio_Check.f bt779.1 bt779.2).bind fun t785 => (some t785))) else (some false))))) else (some false)))) else (some false)) else (none))) = some r := by first | (rw [hy756]; with_reducible exact H) | (have H2_ := (Option.bind_some _ _).symm.trans H; rw [hy756]; with_reducible exact H2_) | (have H2_ := (Option.bind_some _ _).symm.trans H; with_reducible exact H2_) | with_reducible exact H | (rw [hy756]; exact H) | exact H
          have Ny756 := Aside0.mk hy756
          clear hy756
          replace H := Option.bind_eq_some_iff.mp H
          obtain ⟨t759, A150, H⟩ := H
          replace H : (if 0 < (t759.length : Int) then (if t744 = true then ((ratio_Check.f x0_4 x1_10).bind fun t764 => ((regattaref03_Check.f x0_4 x1_10).bind fun t765 => (if (t764 == t765) = true then ((ratio_Of.f ((rd_T57 t759 0).f0) ((rd_T57 t759 0).f1)).bind fun bt766 => ((regattaref03_Of.f kj10 ((rd_T57 t759 0).f0) ((rd_T57 t759 0).f1)).bind fun bt772 => ((regattaref03_Cmp.f kj10 bt766.1 bt766.2 bt772.1 bt772.2).bind fun t778 => (if t778 = 0 then ((ratio_Of.f ((rd_T57 t759 0).f0) ((rd_T57 t759 0).f1)).bind fun bt779 => ((ratio_Check.f bt779.1 bt779.2).bind fun t785 => (some t785))) else (some false))))) else (some false)))) else (some false)) else (none)) = some r := H
          have A15 := Aside0.mk A150
          clear A150
          by_cases c16 : 0 < (t759.length : Int)
          · rw [if_pos c16] at H
            have c16b0 : decide (0 < (t759.length : Int)) = true := decide_eq_true c16
            have c16b1 : decide (0 < t759.length) = true := decide_eq_true (by omega)
            clear c16
            by_cases c17 : t744 = true
            · subst c17
              have H1 : ((ratio_Check.f x0_4 x1_10).bind fun t764 => ((regattaref03_Check.f x0_4 x1_10).bind fun t765 => (if (t764 == t765) = true then ((ratio_Of.f ((rd_T57 t759 0).f0) ((rd_T57 t759 0).f1)).bind fun bt766 => ((regattaref03_Of.f kj10 ((rd_T57 t759 0).f0) ((rd_T57 t759 0).f1)).bind fun bt772 => ((regattaref03_Cmp.f kj10 bt766.1 bt766.2 bt772.1 bt772.2).bind fun t778 => (if t778 = 0 then ((ratio_Of.f ((rd_T57 t759 0).f0) ((rd_T57 t759 0).f1)).bind fun bt779 => ((ratio_Check.f bt779.1 bt779.2).bind fun t785 => (some t785))) else (some false))))) else (some false)))) = some r := by rw [if_pos rfl] at H; exact H
              clear H
              have H := H1
              clear H1
              replace H := Option.bind_eq_some_iff.mp H
              obtain ⟨t764, A180, H⟩ := H
              replace H : ((regattaref03_Check.f x0_4 x1_10).bind fun t765 => (if (t764 == t765) = true then ((ratio_Of.f ((rd_T57 t759 0).f0) ((rd_T57 t759 0).f1)).bind fun bt766 => ((regattaref03_Of.f kj10 ((rd_T57 t759 0).f0) ((rd_T57 t759 0).f1)).bind fun bt772 => ((regattaref03_Cmp.f kj10 bt766.1 bt766.2 bt772.1 bt772.2).bind fun t778 => (if t778 = 0 then ((ratio_Of.f ((rd_T57 t759 0).f0) ((rd_T57 t759 0).f1)).bind fun bt779 => ((ratio_Check.f bt779.1 bt779.2).bind fun t785 => (some t785))) else (some false))))) else (some false))) = some r := H
              have A18 := Aside0.mk A180
              clear A180
              replace H := Option.bind_eq_some_iff.mp H
              obtain ⟨t765, A190, H⟩ := H
              replace H : (if (t764 == t765) = true then ((ratio_Of.f ((rd_T57 t759 0).f0) ((rd_T57 t759 0).f1)).bind fun bt766 => ((regattaref03_Of.f kj10 ((rd_T57 t759 0).f0) ((rd_T57 t759 0).f1)).bind fun bt772 => ((regattaref03_Cmp.f kj10 bt766.1 bt766.2 bt772.1 bt772.2).bind fun t778 => (if t778 = 0 then ((ratio_Of.f ((rd_T57 t759 0).f0) ((rd_T57 t759 0).f1)).bind fun bt779 => ((ratio_Check.f bt779.1 bt779.2).bind fun t785 => (some t785))) else (some false))))) else (some false)) = some r := H
              have A19 := Aside0.mk A190
              clear A190
              by_cases c20 : (t764 == t765) = true
              · rw [if_pos c20] at H
                have c20b0 : (t764 == t765) = true := c20
                (try (have c20b1 : decide (t764 = t765) = true := by simpa using c20))
                (try (have c20b2 : (t764 == t765) = true := by simpa using c20))
                clear c20
                replace H := Option.bind_eq_some_iff.mp H
                obtain ⟨⟨t766, t769⟩, A210, H⟩ := H
                replace H : ((regattaref03_Of.f kj10 ((rd_T57 t759 0).f0) ((rd_T57 t759 0).f1)).bind fun bt772 => ((regattaref03_Cmp.f kj10 t766 t769 bt772.1 bt772.2).bind fun t778 => (if t778 = 0 then ((ratio_Of.f ((rd_T57 t759 0).f0) ((rd_T57 t759 0).f1)).bind fun bt779 => ((ratio_Check.f bt779.1 bt779.2).bind fun t785 => (some t785))) else (some false)))) = some r := H
                have A21 := Aside0.mk A210
                clear A210
                replace H := Option.bind_eq_some_iff.mp H
                obtain ⟨⟨t772, t775⟩, A220, H⟩ := H
                replace H : ((regattaref03_Cmp.f kj10 t766 t769 t772 t775).bind fun t778 => (if t778 = 0 then ((ratio_Of.f ((rd_T57 t759 0).f0) ((rd_T57 t759 0).f1)).bind fun bt779 => ((ratio_Check.f bt779.1 bt779.2).bind fun t785 => (some t785))) else (some false))) = some r := H
                have A22 := Aside0.mk A220
                clear A220
                replace H := Option.bind_eq_some_iff.mp H
                obtain ⟨t778, A230, H⟩ := H
                replace H : (if t778 = 0 then ((ratio_Of.f ((rd_T57 t759 0).f0) ((rd_T57 t759 0).f1)).bind fun bt779 => ((ratio_Check.f bt779.1 bt779.2).bind fun t785 => (some t785))) else (some false)) = some r := H
                have A23 := Aside0.mk A230
                clear A230
                by_cases c24 : t778 = 0
                · rw [if_pos c24] at H
                  have c24b0 : (t778 == 0) = true := beq_iff_eq.mpr c24
                  have c24b1 : (t778 != 0) = false := bne_eq_false_iff_eq.mpr c24
                  clear c24
                  replace H := Option.bind_eq_some_iff.mp H
                  obtain ⟨⟨t779, t782⟩, A250, H⟩ := H
                  replace H : ((ratio_Check.f t779 t782).bind fun t785 => (some t785)) = some r := H
                  have A25 := Aside0.mk A250
                  clear A250
                  replace H := Option.bind_eq_some_iff.mp H
                  obtain ⟨t785, A260, H⟩ := H
                  replace H : (some t785) = some r := H
                  have A26 := Aside0.mk A260
                  clear A260
                  obtain rfl := Option.some.inj H
                  obtain ⟨Ao27, co27, eo27⟩ := Kd.V_slice HO_1.out
                  subst eo27
                  obtain ⟨Ao28, co28, eo28⟩ := Kd.V_slice HO_0.out
                  subst eo28
                  try go_wp2_with (first | ((with_reducible refine gate_dst (N := 8) rfl ?_); refine box_event ?hg (N := 8) ?hd (cs := #[.slice none 0 0, .slice none 0 0]) (t := 45) ?hr ?_; (case hd => rfl); (case hg => rfl); (case hr => first | (go_simp; done) | (go_simp; rfl)); intro gb755 hg w29 hbox hb; have n0_ := Aside0.mk (Kd.V_below (Kd.V_elderB (by (with_reducible repeat (first | apply Kd.V_alloc | apply Kd.V_drewN | apply Kd.V_drew)); exact HO_0.out) gb755 (Nat.le_of_eq hg.symm)) hb); have n1_ := Aside0.mk (Kd.V_below (Kd.V_elderB (by (with_reducible repeat (first | apply Kd.V_alloc | apply Kd.V_drewN | apply Kd.V_drew)); exact HO_1.out) gb755 (Nat.le_of_eq hg.symm)) hb); have n2_ := Aside0.mk (blk_below (g := gb743) (o := .cells #[.int .i64 a2_0, .int .i64 a2_1] 55 (0, 0)) (by (with_reducible repeat (first | refine blk_drewN ?_ _ | refine blk_drew ?_ | refine blk_alloc ?_ _)); exact BK743.out) hb); have n3_ := Aside0.mk (below_step (by repeat (first | (with_reducible first | exact HB.out | apply below_alloc | apply pw_below_drewN | apply below_drew1 | refine below_set ?_ GE743.out) | exact HB.out)) hb); have n4_ := Aside0.mk (hbox); have n5_ := Aside0.mk ((by rw [hg]; exact (below_size (by repeat (first | (with_reducible first | exact HB.out | apply below_alloc | apply pw_below_drewN | apply below_drew1 | refine below_set ?_ GE743.out) | exact HB.out))) : w.heap.size ≤ gb755)); have n6_ := Aside0.mk ((by rw [hg]; exact (below_size (by repeat (first | (with_reducible first | exact HB.out | apply below_alloc | apply pw_below_drewN | apply below_drew1 | refine below_set ?_ GE743.out) | exact HB.out))) : w.heap.size ≤ gb755)); have n7_ := Aside0.mk ((by rw [hg]; exact Nat.ne_of_lt (blk_lt (g := gb743) (o := .cells #[.int .i64 a2_0, .int .i64 a2_1] 55 (0, 0)) (by (with_reducible repeat (first | refine blk_drewN ?_ _ | refine blk_drew ?_ | refine blk_alloc ?_ _)); exact BK743.out)) : gb743 ≠ gb755)); have n8_ := Aside0.mk ((by rw [hg]; exact Nat.ne_of_gt (blk_lt (g := gb743) (o := .cells #[.int .i64 a2_0, .int .i64 a2_1] 55 (0, 0)) (by (with_reducible repeat (first | refine blk_drewN ?_ _ | refine blk_drew ?_ | refine blk_alloc ?_ _)); exact BK743.out)) : gb755 ≠ gb743)); clear HO_0; clear HO_1; clear BK743; clear HB; have HO_0 := n0_; have HO_1 := n1_; have BK743 := n2_; have HB := n3_; have BK755 := n4_; have GW755 := n5_; have GE755 := n6_; have NB743_755 := n7_; have NB755_743 := n8_; clear n0_ n1_ n2_ n3_ n4_ n5_ n6_ n7_ n8_; clear hb hbox hg; have hnb30 := NB755_743.out; have hnc30 := NB743_755.out; have hcz31_0 : w29.cell? ⟨gb755, 0, none⟩ = some (.slice none 0 0) := (blk_cell BK755.out 0).trans rfl; have hcz31_1 : w29.cell? ⟨gb755, 1, none⟩ = some (.slice none 0 0) := (blk_cell BK755.out 1).trans rfl; have hfz31_0 := blk_frozen BK755.out 0; have hfz31_1 := blk_frozen BK755.out 1; have hcz32_0 : w29.cell? ⟨gb743, 0, none⟩ = some (.int .i64 a2_0) := (blk_cell BK743.out 0).trans rfl; have hcz32_1 : w29.cell? ⟨gb743, 1, none⟩ = some (.int .i64 a2_1) := (blk_cell BK743.out 1).trans rfl; have hfz32_0 := blk_frozen BK743.out 0; have hfz32_1 := blk_frozen BK743.out 1) | ((with_reducible refine gate_dst (N := 25) rfl ?_); refine Kd.R_lit k55 _ 55 ?hg (N := 25) ?hd (xs := ([(⟨a2_0, a2_1⟩ : S55)] : List (S55))) (inner := [.int .i64 a2_0, .int .i64 a2_1]) (ok := fun _ => True) (okp := fun _ => True) ?hr ?hp (fun _ hk => hk) trivial (Below.refl _ _) (Nat.le_refl _) (by simp) ?_; (case hd => rfl); (case hg => rfl); (case hr => first | (go_simp; done) | (go_simp; rfl)); (case hp => exact (Reps.c2 (show Kd.M k55 _ _ _ (⟨a2_0, a2_1⟩ : S55) [.int .i64 a2_0, .int .i64 a2_1] from (k55_mkM _ _ _ (⟨a2_0, a2_1⟩ : S55) )) (Reps.none _ _))); intro v757 w33 ho34 hb hg_ hnew_; clear hg_ hnew_; (first | rw [← Ny756.out] at ho34 | (simp only [Int.reduceToNat] at ho34; rw [← Ny756.out] at ho34)); have n0_ := Aside0.mk (Kd.V_elder' (by (with_reducible repeat (first | apply Kd.V_alloc | apply Kd.V_drewN | apply Kd.V_drew)); exact (Kd.V_mono (Kd.V_far (p := ⟨gb755, 1, none⟩) (Kd.V_far (p := ⟨gb755, 0, none⟩) (Kd.V_mono HO_0.out (fun k_ hk => (⟨hk, hk.2⟩ : _ ∧ k_ ≠ gb755))) (fun _ hk => hk.2) (.slice Ao28 x0_4.length co28)) (fun _ hk => hk.2) (.slice Ao27 x1_10.length co27)) (fun _ h_ => h_.1))) (Kd.R_base ho34) hb); have n1_ := Aside0.mk (Kd.V_elder' (by (with_reducible repeat (first | apply Kd.V_alloc | apply Kd.V_drewN | apply Kd.V_drew)); exact (Kd.V_mono (Kd.V_far (p := ⟨gb755, 1, none⟩) (Kd.V_far (p := ⟨gb755, 0, none⟩) (Kd.V_mono HO_1.out (fun k_ hk => (⟨hk, hk.2⟩ : _ ∧ k_ ≠ gb755))) (fun _ hk => hk.2) (.slice Ao28 x0_4.length co28)) (fun _ hk => hk.2) (.slice Ao27 x1_10.length co27)) (fun _ h_ => h_.1))) (Kd.R_base ho34) hb); have n2_ := Aside0.mk (Kd.R_lower (Kd.R_newB (Kd.R_newM (M := fun k_ => (w.heap.size ≤ k_)) ho34 (below_size (by repeat (first | (with_reducible first | exact HB.out | apply below_alloc | apply pw_below_drewN | apply below_drew1 | refine below_set ?_ GE743.out | refine below_set ?_ GE755.out) | exact HB.out))) (fun k_ h_ => h_)) (g := gb743) (o := .cells #[.int .i64 a2_0, .int .i64 a2_1] 55 (0, 0)) (by (with_reducible repeat (first | refine blk_drewN ?_ _ | refine blk_drew ?_ | refine blk_alloc ?_ _)); refine blk_far ?_ NB743_755.out _; (with_reducible repeat (first | refine blk_drewN ?_ _ | refine blk_drew ?_ | refine blk_alloc ?_ _)); refine blk_far ?_ NB743_755.out _; (with_reducible repeat (first | refine blk_drewN ?_ _ | refine blk_drew ?_ | refine blk_alloc ?_ _)); exact BK743.out)) (below_size (by repeat (first | (with_reducible first | exact HB.out | apply below_alloc | apply pw_below_drewN | apply below_drew1 | refine below_set ?_ GE743.out | refine below_set ?_ GE755.out) | exact HB.out)))); have n3_ := Aside0.mk (blk_below (g := gb743) (o := .cells #[.int .i64 a2_0, .int .i64 a2_1] 55 (0, 0)) (by (with_reducible repeat (first | refine blk_drewN ?_ _ | refine blk_drew ?_ | refine blk_alloc ?_ _)); refine blk_far ?_ NB743_755.out _; (with_reducible repeat (first | refine blk_drewN ?_ _ | refine blk_drew ?_ | refine blk_alloc ?_ _)); refine blk_far ?_ NB743_755.out _; (with_reducible repeat (first | refine blk_drewN ?_ _ | refine blk_drew ?_ | refine blk_alloc ?_ _)); exact BK743.out) hb); have n4_ := Aside0.mk (blk_below (g := gb755) (o := .cells #[.slice Ao28 x0_4.length co28, .slice Ao27 x1_10.length co27] 45 (0, 0)) (by (with_reducible repeat (first | refine blk_drewN ?_ _ | refine blk_drew ?_ | refine blk_alloc ?_ _)); refine blk_put (cs := #[.slice Ao28 x0_4.length co28, .slice none 0 0]) ?_ 1 _ rfl; (with_reducible repeat (first | refine blk_drewN ?_ _ | refine blk_drew ?_ | refine blk_alloc ?_ _)); refine blk_put (cs := #[.slice none 0 0, .slice none 0 0]) ?_ 0 _ rfl; (with_reducible repeat (first | refine blk_drewN ?_ _ | refine blk_drew ?_ | refine blk_alloc ?_ _)); exact BK755.out) hb); have n5_ := Aside0.mk (below_step (by repeat (first | (with_reducible first | exact HB.out | apply below_alloc | apply pw_below_drewN | apply below_drew1 | refine below_set ?_ GE743.out | refine below_set ?_ GE755.out) | exact HB.out)) hb); clear HO_0; clear HO_1; clear BK743; clear BK755; clear HB; have HO_0 := n0_; have HO_1 := n1_; have HO758 := n2_; have BK743 := n3_; have BK755 := n4_; have HB := n5_; clear n0_ n1_ n2_ n3_ n4_ n5_; clear hb ho34; obtain ⟨Ao35, co35, eo35⟩ := Kd.R_slice HO758.out; subst eo35) | ((with_reducible refine gate_callee (f := 36) rfl ?_); refine goesL_ (some 26) rfl rfl Try.func36 (by kernel_rfl) rfl #[.slice Ao35 y756.length co35] rfl (by (try simp only [List.map_toArray, List.map_cons, List.map_nil]); first | done | rfl | (simp only [List.length_drop, List.length_take]; rfl)) ?_; (with_reducible refine (regattalaw03_weights.calls kj10 _ _ y756 t759 _ ?side1 ?side2 A15.out).mono ?_); (case side1 => repeat (first | exact (Kd.R_reads' HO758.out).2.2 | (with_reducible refine Kd.C_alloc ?_ _) | (with_reducible refine Kd.C_drewN ?_ _) | (with_reducible refine Kd.C_drew ?_))); (case side2 => exact (Kd.R_reads' HO758.out).2.1); rintro e w36 ⟨v760, rfl, ho0, hb⟩; refine ⟨_, rfl, ?_⟩; have n0_ := Aside0.mk (Kd.V_elder' (by (with_reducible repeat (first | apply Kd.V_alloc | apply Kd.V_drewN | apply Kd.V_drew)); exact HO_0.out) (Kd.R_base ho0) hb); have n1_ := Aside0.mk (Kd.V_elder' (by (with_reducible repeat (first | apply Kd.V_alloc | apply Kd.V_drewN | apply Kd.V_drew)); exact HO_1.out) (Kd.R_base ho0) hb); have n2_ := Aside0.mk (Kd.R_below (by (with_reducible repeat (first | apply Kd.R_alloc | apply Kd.R_drewN | apply Kd.R_drew)); exact HO758.out) hb); have n3_ := Aside0.mk (Kd.R_lower (Kd.R_newM (M := fun k_ => (w.heap.size ≤ k_)) ho0 (below_size (by repeat (first | (with_reducible first | exact HB.out | apply below_alloc | apply pw_below_drewN | apply below_drew1 | refine below_set ?_ GE743.out | refine below_set ?_ GE755.out) | exact HB.out))) (fun k_ h_ => h_)) (below_size (by repeat (first | (with_reducible first | exact HB.out | apply below_alloc | apply pw_below_drewN | apply below_drew1 | refine below_set ?_ GE743.out | refine below_set ?_ GE755.out) | exact HB.out)))); have n4_ := Aside0.mk (blk_below (g := gb743) (o := .cells #[.int .i64 a2_0, .int .i64 a2_1] 55 (0, 0)) (by (with_reducible repeat (first | refine blk_drewN ?_ _ | refine blk_drew ?_ | refine blk_alloc ?_ _)); exact BK743.out) hb); have n5_ := Aside0.mk (blk_below (g := gb755) (o := .cells #[.slice Ao28 x0_4.length co28, .slice Ao27 x1_10.length co27] 45 (0, 0)) (by (with_reducible repeat (first | refine blk_drewN ?_ _ | refine blk_drew ?_ | refine blk_alloc ?_ _)); exact BK755.out) hb); have n6_ := Aside0.mk (below_step (by repeat (first | (with_reducible first | exact HB.out | apply below_alloc | apply pw_below_drewN | apply below_drew1 | refine below_set ?_ GE743.out | refine below_set ?_ GE755.out) | exact HB.out)) hb); clear HO_0; clear HO_1; clear HO758; clear BK743; clear BK755; clear HB; have HO_0 := n0_; have HO_1 := n1_; have HO758 := n2_; have HO761 := n3_; have BK743 := n4_; have BK755 := n5_; have HB := n6_; clear n0_ n1_ n2_ n3_ n4_ n5_ n6_; (try clear hb); (try clear hb2); (try clear hk); (try clear hi); (try clear ho0); obtain ⟨Ao37, co37, eo37⟩ := Kd.R_slice HO761.out; subst eo37; have p762 : 0 ≤ (0 : Int) := (by omega); have q762 : 0 < (t759.length : Int) := of_decide_eq_true (by first | (with_reducible assumption) | assumption); obtain ⟨ad762, e762, hx762_0, hx762_1⟩ := at_T57 (Kd.R_reads' HO761.out).2.2 0 p762 q762; cases e762; have qi762 : (0 < t759.length) = True := eq_true (by omega); (try rw [show ((0 : Int)).toNat = 0 from rfl] at hx762_0); (try rw [show 0 * 2 = 0 from rfl] at hx762_0); (try rw [Addr.add_zero'] at hx762_0); (try rw [show ((0 : Int)).toNat = 0 from rfl] at hx762_1); (try rw [show 0 * 2 = 0 from rfl] at hx762_1); (try rw [Addr.add_zero'] at hx762_1); replace p762 := eq_true p762; replace q762 := eq_true q762) | ((with_reducible refine gate_dst (N := 9) rfl ?_); refine box_event ?hg (N := 9) ?hd (cs := #[.int .i64 0, .int .i64 0]) (t := 57) ?hr ?_; (case hd => rfl); (case hg => rfl); (case hr => first | (go_simp; done) | (go_simp; rfl)); intro gb763 hg w38 hbox hb; have n0_ := Aside0.mk (Kd.V_below (Kd.V_elderB (by (with_reducible repeat (first | apply Kd.V_alloc | apply Kd.V_drewN | apply Kd.V_drew)); exact HO_0.out) gb763 (Nat.le_of_eq hg.symm)) hb); have n1_ := Aside0.mk (Kd.V_below (Kd.V_elderB (by (with_reducible repeat (first | apply Kd.V_alloc | apply Kd.V_drewN | apply Kd.V_drew)); exact HO_1.out) gb763 (Nat.le_of_eq hg.symm)) hb); have n2_ := Aside0.mk (Kd.R_below (by (with_reducible repeat (first | apply Kd.R_alloc | apply Kd.R_drewN | apply Kd.R_drew)); exact HO758.out) hb); have n3_ := Aside0.mk (Kd.R_below (Kd.R_elderB (by (with_reducible repeat (first | apply Kd.R_alloc | apply Kd.R_drewN | apply Kd.R_drew)); exact HO761.out) gb763 (Nat.le_of_eq hg.symm)) hb); have n4_ := Aside0.mk (blk_below (g := gb743) (o := .cells #[.int .i64 a2_0, .int .i64 a2_1] 55 (0, 0)) (by (with_reducible repeat (first | refine blk_drewN ?_ _ | refine blk_drew ?_ | refine blk_alloc ?_ _)); exact BK743.out) hb); have n5_ := Aside0.mk (blk_below (g := gb755) (o := .cells #[.slice Ao28 x0_4.length co28, .slice Ao27 x1_10.length co27] 45 (0, 0)) (by (with_reducible repeat (first | refine blk_drewN ?_ _ | refine blk_drew ?_ | refine blk_alloc ?_ _)); exact BK755.out) hb); have n6_ := Aside0.mk (below_step (by repeat (first | (with_reducible first | exact HB.out | apply below_alloc | apply pw_below_drewN | apply below_drew1 | refine below_set ?_ GE743.out | refine below_set ?_ GE755.out) | exact HB.out)) hb); have n7_ := Aside0.mk (hbox); have n8_ := Aside0.mk ((by rw [hg]; exact (below_size (by repeat (first | (with_reducible first | exact HB.out | apply below_alloc | apply pw_below_drewN | apply below_drew1 | refine below_set ?_ GE743.out | refine below_set ?_ GE755.out) | exact HB.out))) : w.heap.size ≤ gb763)); have n9_ := Aside0.mk ((by rw [hg]; exact (below_size (by repeat (first | (with_reducible first | exact HB.out | apply below_alloc | apply pw_below_drewN | apply below_drew1 | refine below_set ?_ GE743.out | refine below_set ?_ GE755.out) | exact HB.out))) : w.heap.size ≤ gb763)); have n10_ := Aside0.mk ((by rw [hg]; exact Nat.ne_of_lt (blk_lt (g := gb743) (o := .cells #[.int .i64 a2_0, .int .i64 a2_1] 55 (0, 0)) (by (with_reducible repeat (first | refine blk_drewN ?_ _ | refine blk_drew ?_ | refine blk_alloc ?_ _)); exact BK743.out)) : gb743 ≠ gb763)); have n11_ := Aside0.mk ((by rw [hg]; exact Nat.ne_of_gt (blk_lt (g := gb743) (o := .cells #[.int .i64 a2_0, .int .i64 a2_1] 55 (0, 0)) (by (with_reducible repeat (first | refine blk_drewN ?_ _ | refine blk_drew ?_ | refine blk_alloc ?_ _)); exact BK743.out)) : gb763 ≠ gb743)); have n12_ := Aside0.mk ((by rw [hg]; exact Nat.ne_of_lt (blk_lt (g := gb755) (o := .cells #[.slice Ao28 x0_4.length co28, .slice Ao27 x1_10.length co27] 45 (0, 0)) (by (with_reducible repeat (first | refine blk_drewN ?_ _ | refine blk_drew ?_ | refine blk_alloc ?_ _)); exact BK755.out)) : gb755 ≠ gb763)); have n13_ := Aside0.mk ((by rw [hg]; exact Nat.ne_of_gt (blk_lt (g := gb755) (o := .cells #[.slice Ao28 x0_4.length co28, .slice Ao27 x1_10.length co27] 45 (0, 0)) (by (with_reducible repeat (first | refine blk_drewN ?_ _ | refine blk_drew ?_ | refine blk_alloc ?_ _)); exact BK755.out)) : gb763 ≠ gb755)); clear HO_0; clear HO_1; clear HO758; clear HO761; clear BK743; clear BK755; clear HB; have HO_0 := n0_; have HO_1 := n1_; have HO758 := n2_; have HO761 := n3_; have BK743 := n4_; have BK755 := n5_; have HB := n6_; have BK763 := n7_; have GW763 := n8_; have GE763 := n9_; have NB743_763 := n10_; have NB763_743 := n11_; have NB755_763 := n12_; have NB763_755 := n13_; clear n0_ n1_ n2_ n3_ n4_ n5_ n6_ n7_ n8_ n9_ n10_ n11_ n12_ n13_; clear hb hbox hg; have hnb39 := NB763_743.out; have hnc39 := NB743_763.out; have hnb40 := NB763_755.out; have hnc40 := NB755_763.out; have hcz41_0 : w38.cell? ⟨gb763, 0, none⟩ = some (.int .i64 0) := (blk_cell BK763.out 0).trans rfl; have hcz41_1 : w38.cell? ⟨gb763, 1, none⟩ = some (.int .i64 0) := (blk_cell BK763.out 1).trans rfl; have hfz41_0 := blk_frozen BK763.out 0; have hfz41_1 := blk_frozen BK763.out 1))
                  have n0_ : Aside0 (Kd.V (Kd.int .u32) 30 ((w38.setCell ⟨gb763, 0, none⟩ (.int .i64 ((rd_T57 t759 0).f0))).setCell ⟨gb763, 1, none⟩ (.int .i64 ((rd_T57 t759 0).f1))) w.heap.size (fun k_ => ((P0_ k_ ∨ P1_ k_) ∨ w.heap.size ≤ k_) ∧ some k_ ≠ (.slice Ao35 y756.length co35 : Value).ownBlock ∧ some k_ ≠ (.slice (some ad762) t759.length co37 : Value).ownBlock ∧ k_ ≠ gb743 ∧ k_ ≠ gb755 ∧ k_ ≠ gb763) (.slice Ao28 x0_4.length co28) x0_4) := ⟨by (with_reducible repeat (first | apply Kd.V_alloc | apply Kd.V_drewN | apply Kd.V_drew)); exact Kd.V_mono (Kd.V_far (p := ⟨gb763, 1, none⟩) (Kd.V_far (p := ⟨gb763, 0, none⟩) (Kd.V_mono HO_0.out (fun k_ hk => (⟨hk, hk.2⟩ : _ ∧ k_ ≠ gb763))) (fun _ hk => hk.2) (.int .i64 ((rd_T57 t759 0).f0))) (fun _ hk => hk.2) (.int .i64 ((rd_T57 t759 0).f1))) (fun _ hk => ⟨hk.1.1.1.1.1.1, ⟨hk.1.1.1.2, ⟨hk.1.1.2, ⟨hk.1.1.1.1.1.2, ⟨hk.1.1.1.1.2, hk.1.2⟩⟩⟩⟩⟩)⟩
                  have n1_ : Aside0 (Kd.V (Kd.int .u32) 30 ((w38.setCell ⟨gb763, 0, none⟩ (.int .i64 ((rd_T57 t759 0).f0))).setCell ⟨gb763, 1, none⟩ (.int .i64 ((rd_T57 t759 0).f1))) w.heap.size (fun k_ => ((P0_ k_ ∨ P1_ k_) ∨ w.heap.size ≤ k_) ∧ some k_ ≠ (.slice Ao35 y756.length co35 : Value).ownBlock ∧ some k_ ≠ (.slice (some ad762) t759.length co37 : Value).ownBlock ∧ k_ ≠ gb743 ∧ k_ ≠ gb755 ∧ k_ ≠ gb763) (.slice Ao27 x1_10.length co27) x1_10) := ⟨by (with_reducible repeat (first | apply Kd.V_alloc | apply Kd.V_drewN | apply Kd.V_drew)); exact Kd.V_mono (Kd.V_far (p := ⟨gb763, 1, none⟩) (Kd.V_far (p := ⟨gb763, 0, none⟩) (Kd.V_mono HO_1.out (fun k_ hk => (⟨hk, hk.2⟩ : _ ∧ k_ ≠ gb763))) (fun _ hk => hk.2) (.int .i64 ((rd_T57 t759 0).f0))) (fun _ hk => hk.2) (.int .i64 ((rd_T57 t759 0).f1))) (fun _ hk => ⟨hk.1.1.1.1.1.1, ⟨hk.1.1.1.2, ⟨hk.1.1.2, ⟨hk.1.1.1.1.1.2, ⟨hk.1.1.1.1.2, hk.1.2⟩⟩⟩⟩⟩)⟩
                  have n2_ : Aside0 (Kd.R k55 55 ((w38.setCell ⟨gb763, 0, none⟩ (.int .i64 ((rd_T57 t759 0).f0))).setCell ⟨gb763, 1, none⟩ (.int .i64 ((rd_T57 t759 0).f1))) w.heap.size (fun k_ => (w.heap.size ≤ k_) ∧ k_ ≠ gb743) (.slice Ao35 y756.length co35) y756) := ⟨by (with_reducible repeat (first | apply Kd.R_alloc | apply Kd.R_drewN | apply Kd.R_drew)); exact Kd.R_mono (Kd.R_far (p := ⟨gb763, 1, none⟩) (Kd.R_far (p := ⟨gb763, 0, none⟩) (Kd.R_types HO758.out BK763.out (by decide)) (fun _ hk => hk.2) (.int .i64 ((rd_T57 t759 0).f0))) (fun _ hk => hk.2) (.int .i64 ((rd_T57 t759 0).f1))) (fun _ hk => ⟨hk.1.1.1, hk.1.2⟩)⟩
                  have n3_ : Aside0 (Kd.R k57 57 ((w38.setCell ⟨gb763, 0, none⟩ (.int .i64 ((rd_T57 t759 0).f0))).setCell ⟨gb763, 1, none⟩ (.int .i64 ((rd_T57 t759 0).f1))) w.heap.size (fun k_ => (w.heap.size ≤ k_) ∧ k_ ≠ gb763) (.slice (some ad762) t759.length co37) t759) := ⟨by (with_reducible repeat (first | apply Kd.R_alloc | apply Kd.R_drewN | apply Kd.R_drew)); exact Kd.R_mono (Kd.R_far (p := ⟨gb763, 1, none⟩) (Kd.R_far (p := ⟨gb763, 0, none⟩) (Kd.R_mono HO761.out (fun k_ hk => (⟨hk, hk.2⟩ : _ ∧ k_ ≠ gb763))) (fun _ hk => hk.2) (.int .i64 ((rd_T57 t759 0).f0))) (fun _ hk => hk.2) (.int .i64 ((rd_T57 t759 0).f1))) (fun _ hk => ⟨hk.1.1.1, hk.1.2⟩)⟩
                  have n4_ : Aside0 (((w38.setCell ⟨gb763, 0, none⟩ (.int .i64 ((rd_T57 t759 0).f0))).setCell ⟨gb763, 1, none⟩ (.int .i64 ((rd_T57 t759 0).f1))).heap[gb743]? = some (.cells #[.int .i64 a2_0, .int .i64 a2_1] 55 (0, 0))) := ⟨by (with_reducible repeat (first | refine blk_drewN ?_ _ | refine blk_drew ?_ | refine blk_alloc ?_ _)); refine blk_far ?_ NB743_763.out _; (with_reducible repeat (first | refine blk_drewN ?_ _ | refine blk_drew ?_ | refine blk_alloc ?_ _)); refine blk_far ?_ NB743_763.out _; (with_reducible repeat (first | refine blk_drewN ?_ _ | refine blk_drew ?_ | refine blk_alloc ?_ _)); exact BK743.out⟩
                  have n5_ : Aside0 (((w38.setCell ⟨gb763, 0, none⟩ (.int .i64 ((rd_T57 t759 0).f0))).setCell ⟨gb763, 1, none⟩ (.int .i64 ((rd_T57 t759 0).f1))).heap[gb755]? = some (.cells #[.slice Ao28 x0_4.length co28, .slice Ao27 x1_10.length co27] 45 (0, 0))) := ⟨by (with_reducible repeat (first | refine blk_drewN ?_ _ | refine blk_drew ?_ | refine blk_alloc ?_ _)); refine blk_far ?_ NB755_763.out _; (with_reducible repeat (first | refine blk_drewN ?_ _ | refine blk_drew ?_ | refine blk_alloc ?_ _)); refine blk_far ?_ NB755_763.out _; (with_reducible repeat (first | refine blk_drewN ?_ _ | refine blk_drew ?_ | refine blk_alloc ?_ _)); exact BK755.out⟩
                  have n6_ : Aside0 (((w38.setCell ⟨gb763, 0, none⟩ (.int .i64 ((rd_T57 t759 0).f0))).setCell ⟨gb763, 1, none⟩ (.int .i64 ((rd_T57 t759 0).f1))).heap[gb763]? = some (.cells #[.int .i64 ((rd_T57 t759 0).f0), .int .i64 ((rd_T57 t759 0).f1)] 57 (0, 0))) := ⟨by (with_reducible repeat (first | refine blk_drewN ?_ _ | refine blk_drew ?_ | refine blk_alloc ?_ _)); refine blk_put (cs := #[.int .i64 ((rd_T57 t759 0).f0), .int .i64 0]) ?_ 1 _ rfl; (with_reducible repeat (first | refine blk_drewN ?_ _ | refine blk_drew ?_ | refine blk_alloc ?_ _)); refine blk_put (cs := #[.int .i64 0, .int .i64 0]) ?_ 0 _ rfl; (with_reducible repeat (first | refine blk_drewN ?_ _ | refine blk_drew ?_ | refine blk_alloc ?_ _)); exact BK763.out⟩
                  have n7_ : Aside0 (Below w.heap.size w ((w38.setCell ⟨gb763, 0, none⟩ (.int .i64 ((rd_T57 t759 0).f0))).setCell ⟨gb763, 1, none⟩ (.int .i64 ((rd_T57 t759 0).f1)))) := ⟨by repeat (first | (with_reducible first | exact HB.out | apply below_alloc | apply pw_below_drewN | apply below_drew1 | refine below_set ?_ GE743.out | refine below_set ?_ GE755.out | refine below_set ?_ GE763.out) | exact HB.out)⟩
                  (try clear HO_0)
                  (try clear HO_1)
                  (try clear HO758)
                  (try clear HO761)
                  (try clear BK743)
                  (try clear BK755)
                  (try clear BK763)
                  (try clear HB)
                  generalize ((w38.setCell ⟨gb763, 0, none⟩ (.int .i64 ((rd_T57 t759 0).f0))).setCell ⟨gb763, 1, none⟩ (.int .i64 ((rd_T57 t759 0).f1))) = w42 at n0_ n1_ n2_ n3_ n4_ n5_ n6_ n7_ ⊢
                  have HO_0 := n0_
                  have HO_1 := n1_
                  have HO758 := n2_
                  have HO761 := n3_
                  have BK743 := n4_
                  have BK755 := n5_
                  have BK763 := n6_
                  have HB := n7_
                  clear n0_ n1_ n2_ n3_ n4_ n5_ n6_ n7_
                  have n0_ := Aside0.mk (Kd.V_drew HO_0.out)
                  have n1_ := Aside0.mk (Kd.V_drew HO_1.out)
                  have n2_ := Aside0.mk (Kd.R_drew HO758.out)
                  have n3_ := Aside0.mk (Kd.R_drew HO761.out)
                  have n4_ := Aside0.mk (blk_drew BK743.out)
                  have n5_ := Aside0.mk (blk_drew BK755.out)
                  have n6_ := Aside0.mk (blk_drew BK763.out)
                  have n7_ := Aside0.mk (below_drew1 HB.out)
                  clear HO_0
                  clear HO_1
                  clear HO758
                  clear HO761
                  clear BK743
                  clear BK755
                  clear BK763
                  clear HB
                  have HO_0 := n0_
                  have HO_1 := n1_
                  have HO758 := n2_
                  have HO761 := n3_
                  have BK743 := n4_
                  have BK755 := n5_
                  have BK763 := n6_
                  have HB := n7_
                  clear n0_ n1_ n2_ n3_ n4_ n5_ n6_ n7_
                  refine start_ (n := 22) (S := fun w' => w'.cell? ⟨gb755, 0, none⟩ = some (.slice Ao28 x0_4.length co28) ∧ w'.cell? ⟨gb755, 1, none⟩ = some (.slice Ao27 x1_10.length co27) ∧ w'.cell? ⟨gb763, 0, none⟩ = some (.int .i64 ((rd_T57 t759 0).f0)) ∧ w'.cell? ⟨gb763, 1, none⟩ = some (.int .i64 ((rd_T57 t759 0).f1))) (ds := []) #[false, false, false, false, false, false, false, false, false, false, false, false, false, false, false, false, false, false, false, false, false, false] (by kernel_rfl) rfl rfl ⟨(blk_cell BK755.out 0).trans rfl, (blk_cell BK755.out 1).trans rfl, (blk_cell BK763.out 0).trans rfl, (blk_cell BK763.out 1).trans rfl⟩ (fun hHeld => ?_); refine with_tabW regattalaw03_RatioChecks.tab8 regattalaw03_RatioChecks.bits8 (fun HT_ HW_ => ?_)
                  generalize w42.drew = w43 at HO_0 HO_1 HO758 HO761 BK743 BK755 BK763 HB hHeld ⊢
                  refine pure_ (i := 0) (N := some 29) (v := ?_) (a' := ?_) #[true, false, false, false, false, false, false, false, false, false, false, false, false, false, false, false, false, false, false, false, false, false] rfl rfl (any_of HT_.out (by kernel_rfl)) (fun _ _ _ h => h) (Or.inl ⟨by rfl, ?_⟩) ?_ ?_
                  rotate_left
                  · intro w'
                    go_simp
                    with_reducible rfl
                  rotate_left
                  · simp only [Act.put, List.setIfInBounds_toArray, List.set_cons_zero, List.set_cons_succ, i64_w, i32_w]
                    rfl
                  refine pure_ (i := 1) (N := some 30) (v := ?_) (a' := ?_) #[true, true, false, false, false, false, false, false, false, false, false, false, false, false, false, false, false, false, false, false, false, false] rfl rfl (any_of HT_.out (by kernel_rfl)) (fun _ _ _ h => h) (Or.inl ⟨by rfl, ?_⟩) ?_ ?_
                  rotate_left
                  · intro w'
                    go_simp
                    with_reducible rfl
                  rotate_left
                  · simp only [Act.put, List.setIfInBounds_toArray, List.set_cons_zero, List.set_cons_succ, i64_w, i32_w]
                    rfl
                  refine take_ (i := 2) (N := some 31) (v := ?_) (a' := ?_) #[true, true, true, false, false, false, false, false, false, false, false, false, false, false, false, false, false, false, false, false, false, false] rfl rfl (take_ofW HT_.out HW_.out (by kernel_rfl)) (fun _ _ _ h => h) (Or.inl ⟨by rfl, ?_⟩) hHeld ?_ ?_
                  rotate_left
                  · rintro w' ⟨s0, s1, s2, s3⟩
                    go_simp
                    with_reducible rfl
                  rotate_left
                  · simp only [Act.put, List.setIfInBounds_toArray, List.set_cons_zero, List.set_cons_succ, i64_w, i32_w]
                    rfl
                  refine take_ (i := 4) (N := some 33) (v := ?_) (a' := ?_) #[true, true, true, false, true, false, false, false, false, false, false, false, false, false, false, false, false, false, false, false, false, false] rfl rfl (take_ofW HT_.out HW_.out (by kernel_rfl)) (fun _ _ _ h => h) (Or.inl ⟨by rfl, ?_⟩) hHeld ?_ ?_
                  rotate_left
                  · rintro w' ⟨s0, s1, s2, s3⟩
                    go_simp
                    with_reducible rfl
                  rotate_left
                  · simp only [Act.put, List.setIfInBounds_toArray, List.set_cons_zero, List.set_cons_succ, i64_w, i32_w]
                    rfl
                  refine one_ (i := 3) (N := some 32) #[true, true, true, true, true, false, false, false, false, false, false, false, false, false, false, false, false, false, false, false, false, false] rfl rfl (one_of HT_.out (by kernel_rfl)) (by decide) (fun K hK => ?_)
                  refine goes_ Try.func37 (by kernel_rfl) rfl #[.agg #[.slice Ao28 x0_4.length co28, .slice Ao27 x1_10.length co27]] (by rfl) rfl rfl (by (try simp only [List.map_toArray, List.map_cons, List.map_nil]); first | done | rfl | (simp only [List.length_drop, List.length_take]; rfl)) ?_
                  with_reducible refine (ratio_Check.calls _ _ x0_4 _ _ x1_10 t764 _ ?side1 ?side2 ?side3 ?side4 A18.out).mono ?_
                  (case side1 => repeat (first | exact (Kd.V_reads' HO_0.out).2.2 | (with_reducible refine Kd.C_alloc ?_ _) | (with_reducible refine Kd.C_drewN ?_ _) | (with_reducible refine Kd.C_drew ?_)))
                  (case side2 => exact (Kd.V_reads' HO_0.out).2.1)
                  (case side3 => repeat (first | exact (Kd.V_reads' HO_1.out).2.2 | (with_reducible refine Kd.C_alloc ?_ _) | (with_reducible refine Kd.C_drewN ?_ _) | (with_reducible refine Kd.C_drew ?_)))
                  (case side4 => exact (Kd.V_reads' HO_1.out).2.1)
                  rintro e w44 ⟨rfl, hb⟩
                  refine ⟨_, rfl, ?_⟩
                  have n0_ := Aside0.mk (Kd.V_below (by (with_reducible repeat (first | apply Kd.V_alloc | apply Kd.V_drewN | apply Kd.V_drew)); exact HO_0.out) hb)
                  have n1_ := Aside0.mk (Kd.V_below (by (with_reducible repeat (first | apply Kd.V_alloc | apply Kd.V_drewN | apply Kd.V_drew)); exact HO_1.out) hb)
                  have n2_ := Aside0.mk (Kd.R_below (by (with_reducible repeat (first | apply Kd.R_alloc | apply Kd.R_drewN | apply Kd.R_drew)); exact HO758.out) hb)
                  have n3_ := Aside0.mk (Kd.R_below (by (with_reducible repeat (first | apply Kd.R_alloc | apply Kd.R_drewN | apply Kd.R_drew)); exact HO761.out) hb)
                  have n4_ := Aside0.mk (blk_below (g := gb743) (o := .cells #[.int .i64 a2_0, .int .i64 a2_1] 55 (0, 0)) (by (with_reducible repeat (first | refine blk_drewN ?_ _ | refine blk_drew ?_ | refine blk_alloc ?_ _)); exact BK743.out) hb)
                  have n5_ := Aside0.mk (blk_below (g := gb755) (o := .cells #[.slice Ao28 x0_4.length co28, .slice Ao27 x1_10.length co27] 45 (0, 0)) (by (with_reducible repeat (first | refine blk_drewN ?_ _ | refine blk_drew ?_ | refine blk_alloc ?_ _)); exact BK755.out) hb)
                  have n6_ := Aside0.mk (blk_below (g := gb763) (o := .cells #[.int .i64 ((rd_T57 t759 0).f0), .int .i64 ((rd_T57 t759 0).f1)] 57 (0, 0)) (by (with_reducible repeat (first | refine blk_drewN ?_ _ | refine blk_drew ?_ | refine blk_alloc ?_ _)); exact BK763.out) hb)
                  have n7_ := Aside0.mk (below_step (by repeat (first | (with_reducible first | exact HB.out | apply below_alloc | apply pw_below_drewN | apply below_drew1 | refine below_set ?_ GE743.out | refine below_set ?_ GE755.out | refine below_set ?_ GE763.out) | exact HB.out)) hb)
                  clear HO_0
                  clear HO_1
                  clear HO758
                  clear HO761
                  clear BK743
                  clear BK755
                  clear BK763
                  clear HB
                  have HO_0 := n0_
                  have HO_1 := n1_
                  have HO758 := n2_
                  have HO761 := n3_
                  have BK743 := n4_
                  have BK755 := n5_
                  have BK763 := n6_
                  have HB := n7_
                  clear n0_ n1_ n2_ n3_ n4_ n5_ n6_ n7_
                  (try clear hb)
                  (try clear hb2)
                  (try clear hk)
                  (try clear hi)
                  refine hK.out _ _ ⟨(blk_cell BK755.out 0).trans rfl, (blk_cell BK755.out 1).trans rfl, (blk_cell BK763.out 0).trans rfl, (blk_cell BK763.out 1).trans rfl⟩ (fun hHeld => ?_)
                  clear hK K
                  refine norm_ (a' := ?_) ?_ ?_
                  rotate_left
                  · show Act.put _ (some 32) _ = _
                    simp only [Act.put, List.setIfInBounds_toArray, List.set_cons_zero, List.set_cons_succ, i64_w, i32_w]
                    rfl
                  refine one_ (i := 5) (N := some 34) #[true, true, true, true, true, true, false, false, false, false, false, false, false, false, false, false, false, false, false, false, false, false] rfl rfl (one_of HT_.out (by kernel_rfl)) (by decide) (fun K hK => ?_)
                  refine goes_ Try.func38 (by kernel_rfl) rfl #[.agg #[.slice Ao28 x0_4.length co28, .slice Ao27 x1_10.length co27]] (by rfl) rfl rfl (by (try simp only [List.map_toArray, List.map_cons, List.map_nil]); first | done | rfl | (simp only [List.length_drop, List.length_take]; rfl)) ?_
                  with_reducible refine (regattaref03_Check.calls _ _ x0_4 _ _ x1_10 t765 _ ?side1 ?side2 ?side3 ?side4 A19.out).mono ?_
                  (case side1 => repeat (first | exact (Kd.V_reads' HO_0.out).2.2 | (with_reducible refine Kd.C_alloc ?_ _) | (with_reducible refine Kd.C_drewN ?_ _) | (with_reducible refine Kd.C_drew ?_)))
                  (case side2 => exact (Kd.V_reads' HO_0.out).2.1)
                  (case side3 => repeat (first | exact (Kd.V_reads' HO_1.out).2.2 | (with_reducible refine Kd.C_alloc ?_ _) | (with_reducible refine Kd.C_drewN ?_ _) | (with_reducible refine Kd.C_drew ?_)))
                  (case side4 => exact (Kd.V_reads' HO_1.out).2.1)
                  rintro e w45 ⟨rfl, hb⟩
                  refine ⟨_, rfl, ?_⟩
                  have n0_ := Aside0.mk (Kd.V_below (by (with_reducible repeat (first | apply Kd.V_alloc | apply Kd.V_drewN | apply Kd.V_drew)); exact HO_0.out) hb)
                  have n1_ := Aside0.mk (Kd.V_below (by (with_reducible repeat (first | apply Kd.V_alloc | apply Kd.V_drewN | apply Kd.V_drew)); exact HO_1.out) hb)
                  have n2_ := Aside0.mk (Kd.R_below (by (with_reducible repeat (first | apply Kd.R_alloc | apply Kd.R_drewN | apply Kd.R_drew)); exact HO758.out) hb)
                  have n3_ := Aside0.mk (Kd.R_below (by (with_reducible repeat (first | apply Kd.R_alloc | apply Kd.R_drewN | apply Kd.R_drew)); exact HO761.out) hb)
                  have n4_ := Aside0.mk (blk_below (g := gb743) (o := .cells #[.int .i64 a2_0, .int .i64 a2_1] 55 (0, 0)) (by (with_reducible repeat (first | refine blk_drewN ?_ _ | refine blk_drew ?_ | refine blk_alloc ?_ _)); exact BK743.out) hb)
                  have n5_ := Aside0.mk (blk_below (g := gb755) (o := .cells #[.slice Ao28 x0_4.length co28, .slice Ao27 x1_10.length co27] 45 (0, 0)) (by (with_reducible repeat (first | refine blk_drewN ?_ _ | refine blk_drew ?_ | refine blk_alloc ?_ _)); exact BK755.out) hb)
                  have n6_ := Aside0.mk (blk_below (g := gb763) (o := .cells #[.int .i64 ((rd_T57 t759 0).f0), .int .i64 ((rd_T57 t759 0).f1)] 57 (0, 0)) (by (with_reducible repeat (first | refine blk_drewN ?_ _ | refine blk_drew ?_ | refine blk_alloc ?_ _)); exact BK763.out) hb)
                  have n7_ := Aside0.mk (below_step (by repeat (first | (with_reducible first | exact HB.out | apply below_alloc | apply pw_below_drewN | apply below_drew1 | refine below_set ?_ GE743.out | refine below_set ?_ GE755.out | refine below_set ?_ GE763.out) | exact HB.out)) hb)
                  clear HO_0
                  clear HO_1
                  clear HO758
                  clear HO761
                  clear BK743
                  clear BK755
                  clear BK763
                  clear HB
                  have HO_0 := n0_
                  have HO_1 := n1_
                  have HO758 := n2_
                  have HO761 := n3_
                  have BK743 := n4_
                  have BK755 := n5_
                  have BK763 := n6_
                  have HB := n7_
                  clear n0_ n1_ n2_ n3_ n4_ n5_ n6_ n7_
                  (try clear hb)
                  (try clear hb2)
                  (try clear hk)
                  (try clear hi)
                  refine hK.out _ _ ⟨(blk_cell BK755.out 0).trans rfl, (blk_cell BK755.out 1).trans rfl, (blk_cell BK763.out 0).trans rfl, (blk_cell BK763.out 1).trans rfl⟩ (fun hHeld => ?_)
                  clear hK K
                  refine norm_ (a' := ?_) ?_ ?_
                  rotate_left
                  · show Act.put _ (some 34) _ = _
                    simp only [Act.put, List.setIfInBounds_toArray, List.set_cons_zero, List.set_cons_succ, i64_w, i32_w]
                    rfl
                  refine pure_ (i := 6) (N := some 35) (v := ?_) (a' := ?_) #[true, true, true, true, true, true, true, false, false, false, false, false, false, false, false, false, false, false, false, false, false, false] rfl rfl (any_of HT_.out (by kernel_rfl)) (fun _ _ _ h => h) (Or.inl ⟨by rfl, ?_⟩) ?_ ?_
                  rotate_left
                  · intro w'
                    go_simp
                    with_reducible rfl
                  rotate_left
                  · simp only [Act.put, List.setIfInBounds_toArray, List.set_cons_zero, List.set_cons_succ, i64_w, i32_w]
                    rfl
                  refine pure_ (i := 7) (N := some 36) (v := ?_) (a' := ?_) #[true, true, true, true, true, true, true, true, false, false, false, false, false, false, false, false, false, false, false, false, false, false] rfl rfl (any_of HT_.out (by kernel_rfl)) (fun _ _ _ h => h) (Or.inl ⟨by rfl, ?_⟩) ?_ ?_
                  rotate_left
                  · intro w'
                    go_simp
                    with_reducible rfl
                  rotate_left
                  · simp only [Act.put, List.setIfInBounds_toArray, List.set_cons_zero, List.set_cons_succ, i64_w, i32_w]
                    rfl
                  refine pure_ (i := 8) (N := some 37) (v := ?_) (a' := ?_) #[true, true, true, true, true, true, true, true, true, false, false, false, false, false, false, false, false, false, false, false, false, false] rfl rfl (any_of HT_.out (by kernel_rfl)) (fun _ _ _ h => h) (Or.inl ⟨by rfl, ?_⟩) ?_ ?_
                  rotate_left
                  · intro w'
                    go_simp
                    with_reducible rfl
                  rotate_left
                  · simp only [Act.put, List.setIfInBounds_toArray, List.set_cons_zero, List.set_cons_succ, i64_w, i32_w]
                    rfl
                  refine take_ (i := 9) (N := some 38) (v := ?_) (a' := ?_) #[true, true, true, true, true, true, true, true, true, true, false, false, false, false, false, false, false, false, false, false, false, false] rfl rfl (take_ofW HT_.out HW_.out (by kernel_rfl)) (fun _ _ _ h => h) (Or.inl ⟨by rfl, ?_⟩) hHeld ?_ ?_
                  rotate_left
                  · rintro w' ⟨s0, s1, s2, s3⟩
                    go_simp
                    with_reducible rfl
                  rotate_left
                  · simp only [Act.put, List.setIfInBounds_toArray, List.set_cons_zero, List.set_cons_succ, i64_w, i32_w]
                    rfl
                  refine take_ (i := 11) (N := some 40) (v := ?_) (a' := ?_) #[true, true, true, true, true, true, true, true, true, true, false, true, false, false, false, false, false, false, false, false, false, false] rfl rfl (take_ofW HT_.out HW_.out (by kernel_rfl)) (fun _ _ _ h => h) (Or.inl ⟨by rfl, ?_⟩) hHeld ?_ ?_
                  rotate_left
                  · rintro w' ⟨s0, s1, s2, s3⟩
                    go_simp
                    with_reducible rfl
                  rotate_left
                  · simp only [Act.put, List.setIfInBounds_toArray, List.set_cons_zero, List.set_cons_succ, i64_w, i32_w]
                    rfl
                  refine one_ (i := 10) (N := some 39) #[true, true, true, true, true, true, true, true, true, true, true, true, false, false, false, false, false, false, false, false, false, false] rfl rfl (one_of HT_.out (by kernel_rfl)) (by decide) (fun K hK => ?_)
                  refine goes_ Try.func40 (by kernel_rfl) rfl #[.agg #[.int .i64 ((rd_T57 t759 0).f0), .int .i64 ((rd_T57 t759 0).f1)]] (by rfl) rfl rfl (by (try simp only [List.map_toArray, List.map_cons, List.map_nil]); first | done | rfl | (simp only [List.length_drop, List.length_take]; rfl)) ?_
                  with_reducible refine (ratio_Of.calls ((rd_T57 t759 0).f0) ((rd_T57 t759 0).f1) t766 t769 _ A21.out).mono ?_
                  rintro e w46 ⟨v767, v770, rfl, ho0, ho1, hb⟩
                  refine ⟨_, rfl, ?_⟩
                  have n0_ := Aside0.mk (Kd.V_below (by (with_reducible repeat (first | apply Kd.V_alloc | apply Kd.V_drewN | apply Kd.V_drew)); exact HO_0.out) hb)
                  have n1_ := Aside0.mk (Kd.V_below (by (with_reducible repeat (first | apply Kd.V_alloc | apply Kd.V_drewN | apply Kd.V_drew)); exact HO_1.out) hb)
                  have n2_ := Aside0.mk (Kd.R_below (by (with_reducible repeat (first | apply Kd.R_alloc | apply Kd.R_drewN | apply Kd.R_drew)); exact HO758.out) hb)
                  have n3_ := Aside0.mk (Kd.R_below (by (with_reducible repeat (first | apply Kd.R_alloc | apply Kd.R_drewN | apply Kd.R_drew)); exact HO761.out) hb)
                  have n4_ := Aside0.mk (Kd.V_lower (Kd.V_mono (ok' := fun k_ => ((P0_ k_ ∨ P1_ k_) ∨ w.heap.size ≤ k_) ∧ some k_ ≠ (.slice Ao35 y756.length co35 : Value).ownBlock ∧ some k_ ≠ (.slice (some ad762) t759.length co37 : Value).ownBlock ∧ k_ ≠ gb743 ∧ k_ ≠ gb755 ∧ k_ ≠ gb763) ho0 (fun k_ hk_ => ⟨(.inr (Nat.le_trans (below_size (by repeat (first | (with_reducible first | exact HB.out | apply below_alloc | apply pw_below_drewN | apply below_drew1 | refine below_set ?_ GE743.out | refine below_set ?_ GE755.out | refine below_set ?_ GE763.out) | exact HB.out))) hk_)), (Kd.fresh' (Kd.R_lt (by (with_reducible repeat (first | apply Kd.R_alloc | apply Kd.R_drewN | apply Kd.R_drew)); exact HO758.out)) k_ hk_), (Kd.fresh' (Kd.R_lt (by (with_reducible repeat (first | apply Kd.R_alloc | apply Kd.R_drewN | apply Kd.R_drew)); exact HO761.out)) k_ hk_), (Kd.freshB (g := gb743) (o := .cells #[.int .i64 a2_0, .int .i64 a2_1] 55 (0, 0)) (by (with_reducible repeat (first | refine blk_drewN ?_ _ | refine blk_drew ?_ | refine blk_alloc ?_ _)); exact BK743.out) k_ hk_), (Kd.freshB (g := gb755) (o := .cells #[.slice Ao28 x0_4.length co28, .slice Ao27 x1_10.length co27] 45 (0, 0)) (by (with_reducible repeat (first | refine blk_drewN ?_ _ | refine blk_drew ?_ | refine blk_alloc ?_ _)); exact BK755.out) k_ hk_), (Kd.freshB (g := gb763) (o := .cells #[.int .i64 ((rd_T57 t759 0).f0), .int .i64 ((rd_T57 t759 0).f1)] 57 (0, 0)) (by (with_reducible repeat (first | refine blk_drewN ?_ _ | refine blk_drew ?_ | refine blk_alloc ?_ _)); exact BK763.out) k_ hk_)⟩)) (below_size (by repeat (first | (with_reducible first | exact HB.out | apply below_alloc | apply pw_below_drewN | apply below_drew1 | refine below_set ?_ GE743.out | refine below_set ?_ GE755.out | refine below_set ?_ GE763.out) | exact HB.out))))
                  have n5_ := Aside0.mk (Kd.V_lower (Kd.V_mono (ok' := fun k_ => ((P0_ k_ ∨ P1_ k_) ∨ w.heap.size ≤ k_) ∧ some k_ ≠ (.slice Ao35 y756.length co35 : Value).ownBlock ∧ some k_ ≠ (.slice (some ad762) t759.length co37 : Value).ownBlock ∧ k_ ≠ gb743 ∧ k_ ≠ gb755 ∧ k_ ≠ gb763) ho1 (fun k_ hk_ => ⟨(.inr (Nat.le_trans (below_size (by repeat (first | (with_reducible first | exact HB.out | apply below_alloc | apply pw_below_drewN | apply below_drew1 | refine below_set ?_ GE743.out | refine below_set ?_ GE755.out | refine below_set ?_ GE763.out) | exact HB.out))) hk_)), (Kd.fresh' (Kd.R_lt (by (with_reducible repeat (first | apply Kd.R_alloc | apply Kd.R_drewN | apply Kd.R_drew)); exact HO758.out)) k_ hk_), (Kd.fresh' (Kd.R_lt (by (with_reducible repeat (first | apply Kd.R_alloc | apply Kd.R_drewN | apply Kd.R_drew)); exact HO761.out)) k_ hk_), (Kd.freshB (g := gb743) (o := .cells #[.int .i64 a2_0, .int .i64 a2_1] 55 (0, 0)) (by (with_reducible repeat (first | refine blk_drewN ?_ _ | refine blk_drew ?_ | refine blk_alloc ?_ _)); exact BK743.out) k_ hk_), (Kd.freshB (g := gb755) (o := .cells #[.slice Ao28 x0_4.length co28, .slice Ao27 x1_10.length co27] 45 (0, 0)) (by (with_reducible repeat (first | refine blk_drewN ?_ _ | refine blk_drew ?_ | refine blk_alloc ?_ _)); exact BK755.out) k_ hk_), (Kd.freshB (g := gb763) (o := .cells #[.int .i64 ((rd_T57 t759 0).f0), .int .i64 ((rd_T57 t759 0).f1)] 57 (0, 0)) (by (with_reducible repeat (first | refine blk_drewN ?_ _ | refine blk_drew ?_ | refine blk_alloc ?_ _)); exact BK763.out) k_ hk_)⟩)) (below_size (by repeat (first | (with_reducible first | exact HB.out | apply below_alloc | apply pw_below_drewN | apply below_drew1 | refine below_set ?_ GE743.out | refine below_set ?_ GE755.out | refine below_set ?_ GE763.out) | exact HB.out))))
                  have n6_ := Aside0.mk (blk_below (g := gb743) (o := .cells #[.int .i64 a2_0, .int .i64 a2_1] 55 (0, 0)) (by (with_reducible repeat (first | refine blk_drewN ?_ _ | refine blk_drew ?_ | refine blk_alloc ?_ _)); exact BK743.out) hb)
                  have n7_ := Aside0.mk (blk_below (g := gb755) (o := .cells #[.slice Ao28 x0_4.length co28, .slice Ao27 x1_10.length co27] 45 (0, 0)) (by (with_reducible repeat (first | refine blk_drewN ?_ _ | refine blk_drew ?_ | refine blk_alloc ?_ _)); exact BK755.out) hb)
                  have n8_ := Aside0.mk (blk_below (g := gb763) (o := .cells #[.int .i64 ((rd_T57 t759 0).f0), .int .i64 ((rd_T57 t759 0).f1)] 57 (0, 0)) (by (with_reducible repeat (first | refine blk_drewN ?_ _ | refine blk_drew ?_ | refine blk_alloc ?_ _)); exact BK763.out) hb)
                  have n9_ := Aside0.mk (below_step (by repeat (first | (with_reducible first | exact HB.out | apply below_alloc | apply pw_below_drewN | apply below_drew1 | refine below_set ?_ GE743.out | refine below_set ?_ GE755.out | refine below_set ?_ GE763.out) | exact HB.out)) hb)
                  clear HO_0
                  clear HO_1
                  clear HO758
                  clear HO761
                  clear BK743
                  clear BK755
                  clear BK763
                  clear HB
                  have HO_0 := n0_
                  have HO_1 := n1_
                  have HO758 := n2_
                  have HO761 := n3_
                  have HO768 := n4_
                  have HO771 := n5_
                  have BK743 := n6_
                  have BK755 := n7_
                  have BK763 := n8_
                  have HB := n9_
                  clear n0_ n1_ n2_ n3_ n4_ n5_ n6_ n7_ n8_ n9_
                  (try clear hb)
                  (try clear hb2)
                  (try clear hk)
                  (try clear hi)
                  (try clear ho0)
                  (try clear ho1)
                  refine hK.out _ _ ⟨(blk_cell BK755.out 0).trans rfl, (blk_cell BK755.out 1).trans rfl, (blk_cell BK763.out 0).trans rfl, (blk_cell BK763.out 1).trans rfl⟩ (fun hHeld => ?_)
                  clear hK K
                  refine norm_ (a' := ?_) ?_ ?_
                  rotate_left
                  · show Act.put _ (some 39) _ = _
                    simp only [Act.put, List.setIfInBounds_toArray, List.set_cons_zero, List.set_cons_succ, i64_w, i32_w]
                    rfl
                  refine one_ (i := 12) (N := some 41) #[true, true, true, true, true, true, true, true, true, true, true, true, true, false, false, false, false, false, false, false, false, false] rfl rfl (one_of HT_.out (by kernel_rfl)) (by decide) (fun K hK => ?_)
                  refine goes_ Try.func41 (by kernel_rfl) rfl #[.agg #[.int .i64 ((rd_T57 t759 0).f0), .int .i64 ((rd_T57 t759 0).f1)]] (by rfl) rfl rfl (by (try simp only [List.map_toArray, List.map_cons, List.map_nil]); first | done | rfl | (simp only [List.length_drop, List.length_take]; rfl)) ?_
                  with_reducible refine (regattaref03_Of.calls kj10 ((rd_T57 t759 0).f0) ((rd_T57 t759 0).f1) t772 t775 _ A22.out).mono ?_
                  rintro e w47 ⟨v773, v776, rfl, ho0, ho1, hb⟩
                  refine ⟨_, rfl, ?_⟩
                  have n0_ := Aside0.mk (Kd.V_mono (Kd.V_told (Kd.V_told (Kd.V_old (by (with_reducible repeat (first | apply Kd.V_alloc | apply Kd.V_drewN | apply Kd.V_drew)); exact HO_0.out) hb) (Kd.R_base ho0)) (Kd.R_base ho1)) (fun _ h_ => h_.1))
                  have n1_ := Aside0.mk (Kd.V_mono (Kd.V_told (Kd.V_told (Kd.V_old (by (with_reducible repeat (first | apply Kd.V_alloc | apply Kd.V_drewN | apply Kd.V_drew)); exact HO_1.out) hb) (Kd.R_base ho0)) (Kd.R_base ho1)) (fun _ h_ => h_.1))
                  have n2_ := Aside0.mk (Kd.R_below (by (with_reducible repeat (first | apply Kd.R_alloc | apply Kd.R_drewN | apply Kd.R_drew)); exact HO758.out) hb)
                  have n3_ := Aside0.mk (Kd.R_below (by (with_reducible repeat (first | apply Kd.R_alloc | apply Kd.R_drewN | apply Kd.R_drew)); exact HO761.out) hb)
                  have n4_ := Aside0.mk (Kd.V_mono (Kd.V_told (Kd.V_told (Kd.V_old (by (with_reducible repeat (first | apply Kd.V_alloc | apply Kd.V_drewN | apply Kd.V_drew)); exact HO768.out) hb) (Kd.R_base ho0)) (Kd.R_base ho1)) (fun _ h_ => h_.1))
                  have n5_ := Aside0.mk (Kd.V_mono (Kd.V_told (Kd.V_told (Kd.V_old (by (with_reducible repeat (first | apply Kd.V_alloc | apply Kd.V_drewN | apply Kd.V_drew)); exact HO771.out) hb) (Kd.R_base ho0)) (Kd.R_base ho1)) (fun _ h_ => h_.1))
                  have n6_ := Aside0.mk (Kd.R_lower (Kd.R_newM (M := fun k_ => (w.heap.size ≤ k_)) ho0 (below_size (by repeat (first | (with_reducible first | exact HB.out | apply below_alloc | apply pw_below_drewN | apply below_drew1 | refine below_set ?_ GE743.out | refine below_set ?_ GE755.out | refine below_set ?_ GE763.out) | exact HB.out))) (fun k_ h_ => h_)) (below_size (by repeat (first | (with_reducible first | exact HB.out | apply below_alloc | apply pw_below_drewN | apply below_drew1 | refine below_set ?_ GE743.out | refine below_set ?_ GE755.out | refine below_set ?_ GE763.out) | exact HB.out))))
                  have n7_ := Aside0.mk (Kd.R_lower (Kd.R_newM (M := fun k_ => (w.heap.size ≤ k_)) ho1 (below_size (by repeat (first | (with_reducible first | exact HB.out | apply below_alloc | apply pw_below_drewN | apply below_drew1 | refine below_set ?_ GE743.out | refine below_set ?_ GE755.out | refine below_set ?_ GE763.out) | exact HB.out))) (fun k_ h_ => h_)) (below_size (by repeat (first | (with_reducible first | exact HB.out | apply below_alloc | apply pw_below_drewN | apply below_drew1 | refine below_set ?_ GE743.out | refine below_set ?_ GE755.out | refine below_set ?_ GE763.out) | exact HB.out))))
                  have n8_ := Aside0.mk (blk_below (g := gb743) (o := .cells #[.int .i64 a2_0, .int .i64 a2_1] 55 (0, 0)) (by (with_reducible repeat (first | refine blk_drewN ?_ _ | refine blk_drew ?_ | refine blk_alloc ?_ _)); exact BK743.out) hb)
                  have n9_ := Aside0.mk (blk_below (g := gb755) (o := .cells #[.slice Ao28 x0_4.length co28, .slice Ao27 x1_10.length co27] 45 (0, 0)) (by (with_reducible repeat (first | refine blk_drewN ?_ _ | refine blk_drew ?_ | refine blk_alloc ?_ _)); exact BK755.out) hb)
                  have n10_ := Aside0.mk (blk_below (g := gb763) (o := .cells #[.int .i64 ((rd_T57 t759 0).f0), .int .i64 ((rd_T57 t759 0).f1)] 57 (0, 0)) (by (with_reducible repeat (first | refine blk_drewN ?_ _ | refine blk_drew ?_ | refine blk_alloc ?_ _)); exact BK763.out) hb)
                  have n11_ := Aside0.mk (below_step (by repeat (first | (with_reducible first | exact HB.out | apply below_alloc | apply pw_below_drewN | apply below_drew1 | refine below_set ?_ GE743.out | refine below_set ?_ GE755.out | refine below_set ?_ GE763.out) | exact HB.out)) hb)
                  clear HO_0
                  clear HO_1
                  clear HO758
                  clear HO761
                  clear HO768
                  clear HO771
                  clear BK743
                  clear BK755
                  clear BK763
                  clear HB
                  have HO_0 := n0_
                  have HO_1 := n1_
                  have HO758 := n2_
                  have HO761 := n3_
                  have HO768 := n4_
                  have HO771 := n5_
                  have HO774 := n6_
                  have HO777 := n7_
                  have BK743 := n8_
                  have BK755 := n9_
                  have BK763 := n10_
                  have HB := n11_
                  clear n0_ n1_ n2_ n3_ n4_ n5_ n6_ n7_ n8_ n9_ n10_ n11_
                  (try clear hb)
                  (try clear hb2)
                  (try clear hk)
                  (try clear hi)
                  (try clear ho0)
                  (try clear ho1)
                  obtain ⟨Ao48, co48, eo48⟩ := Kd.V_slice HO768.out
                  (first | subst eo48 | (injection eo48 with f1_ f2_ f3_; have f4_ := f1_.symm; have f5_ := f3_.symm; clear f1_ f2_ f3_; subst f4_; subst f5_))
                  obtain ⟨Ao49, co49, eo49⟩ := Kd.V_slice HO771.out
                  (first | subst eo49 | (injection eo49 with f1_ f2_ f3_; have f4_ := f1_.symm; have f5_ := f3_.symm; clear f1_ f2_ f3_; subst f4_; subst f5_))
                  obtain ⟨Ao50, co50, eo50⟩ := Kd.R_slice HO774.out
                  (first | subst eo50 | (injection eo50 with f1_ f2_ f3_; have f4_ := f1_.symm; have f5_ := f3_.symm; clear f1_ f2_ f3_; subst f4_; subst f5_))
                  obtain ⟨Ao51, co51, eo51⟩ := Kd.R_slice HO777.out
                  (first | subst eo51 | (injection eo51 with f1_ f2_ f3_; have f4_ := f1_.symm; have f5_ := f3_.symm; clear f1_ f2_ f3_; subst f4_; subst f5_))
                  refine hK.out _ _ ⟨(blk_cell BK755.out 0).trans rfl, (blk_cell BK755.out 1).trans rfl, (blk_cell BK763.out 0).trans rfl, (blk_cell BK763.out 1).trans rfl⟩ (fun hHeld => ?_)
                  clear hK K
                  refine norm_ (a' := ?_) ?_ ?_
                  rotate_left
                  · show Act.put _ (some 41) _ = _
                    simp only [Act.put, List.setIfInBounds_toArray, List.set_cons_zero, List.set_cons_succ, i64_w, i32_w]
                    rfl
                  refine one_ (i := 13) (N := some 42) #[true, true, true, true, true, true, true, true, true, true, true, true, true, true, false, false, false, false, false, false, false, false] rfl rfl (one_of HT_.out (by kernel_rfl)) (by decide) (fun K hK => ?_)
                  refine goes_ Try.func39 (by kernel_rfl) rfl #[.agg #[.slice Ao48 t766.length co48, .slice Ao49 t769.length co49], .agg #[.slice Ao50 t772.length co50, .slice Ao51 t775.length co51]] (by rfl) rfl rfl (by (try simp only [List.map_toArray, List.map_cons, List.map_nil]); first | done | rfl | (simp only [List.length_drop, List.length_take]; rfl)) ?_
                  with_reducible refine (regattaref03_Cmp.calls kj10 _ _ t766 _ _ t769 _ _ t772 _ _ t775 t778 _ ?side1 ?side2 ?side3 ?side4 ?side5 ?side6 ?side7 ?side8 A23.out).mono ?_
                  (case side1 => repeat (first | exact (Kd.V_reads' HO768.out).2.2 | (with_reducible refine Kd.C_alloc ?_ _) | (with_reducible refine Kd.C_drewN ?_ _) | (with_reducible refine Kd.C_drew ?_)))
                  (case side2 => exact (Kd.V_reads' HO768.out).2.1)
                  (case side3 => repeat (first | exact (Kd.V_reads' HO771.out).2.2 | (with_reducible refine Kd.C_alloc ?_ _) | (with_reducible refine Kd.C_drewN ?_ _) | (with_reducible refine Kd.C_drew ?_)))
                  (case side4 => exact (Kd.V_reads' HO771.out).2.1)
                  (case side5 => repeat (first | exact (Kd.R_reads' HO774.out).2.2 | (with_reducible refine Kd.C_alloc ?_ _) | (with_reducible refine Kd.C_drewN ?_ _) | (with_reducible refine Kd.C_drew ?_)))
                  (case side6 => exact (Kd.R_reads' HO774.out).2.1)
                  (case side7 => repeat (first | exact (Kd.R_reads' HO777.out).2.2 | (with_reducible refine Kd.C_alloc ?_ _) | (with_reducible refine Kd.C_drewN ?_ _) | (with_reducible refine Kd.C_drew ?_)))
                  (case side8 => exact (Kd.R_reads' HO777.out).2.1)
                  rintro e w52 ⟨rfl, hb⟩
                  refine ⟨_, rfl, ?_⟩
                  have n0_ := Aside0.mk (Kd.V_below (by (with_reducible repeat (first | apply Kd.V_alloc | apply Kd.V_drewN | apply Kd.V_drew)); exact HO_0.out) hb)
                  have n1_ := Aside0.mk (Kd.V_below (by (with_reducible repeat (first | apply Kd.V_alloc | apply Kd.V_drewN | apply Kd.V_drew)); exact HO_1.out) hb)
                  have n2_ := Aside0.mk (Kd.R_below (by (with_reducible repeat (first | apply Kd.R_alloc | apply Kd.R_drewN | apply Kd.R_drew)); exact HO758.out) hb)
                  have n3_ := Aside0.mk (Kd.R_below (by (with_reducible repeat (first | apply Kd.R_alloc | apply Kd.R_drewN | apply Kd.R_drew)); exact HO761.out) hb)
                  have n4_ := Aside0.mk (Kd.V_below (by (with_reducible repeat (first | apply Kd.V_alloc | apply Kd.V_drewN | apply Kd.V_drew)); exact HO768.out) hb)
                  have n5_ := Aside0.mk (Kd.V_below (by (with_reducible repeat (first | apply Kd.V_alloc | apply Kd.V_drewN | apply Kd.V_drew)); exact HO771.out) hb)
                  have n6_ := Aside0.mk (Kd.R_below (by (with_reducible repeat (first | apply Kd.R_alloc | apply Kd.R_drewN | apply Kd.R_drew)); exact HO774.out) hb)
                  have n7_ := Aside0.mk (Kd.R_below (by (with_reducible repeat (first | apply Kd.R_alloc | apply Kd.R_drewN | apply Kd.R_drew)); exact HO777.out) hb)
                  have n8_ := Aside0.mk (blk_below (g := gb743) (o := .cells #[.int .i64 a2_0, .int .i64 a2_1] 55 (0, 0)) (by (with_reducible repeat (first | refine blk_drewN ?_ _ | refine blk_drew ?_ | refine blk_alloc ?_ _)); exact BK743.out) hb)
                  have n9_ := Aside0.mk (blk_below (g := gb755) (o := .cells #[.slice Ao28 x0_4.length co28, .slice Ao27 x1_10.length co27] 45 (0, 0)) (by (with_reducible repeat (first | refine blk_drewN ?_ _ | refine blk_drew ?_ | refine blk_alloc ?_ _)); exact BK755.out) hb)
                  have n10_ := Aside0.mk (blk_below (g := gb763) (o := .cells #[.int .i64 ((rd_T57 t759 0).f0), .int .i64 ((rd_T57 t759 0).f1)] 57 (0, 0)) (by (with_reducible repeat (first | refine blk_drewN ?_ _ | refine blk_drew ?_ | refine blk_alloc ?_ _)); exact BK763.out) hb)
                  have n11_ := Aside0.mk (below_step (by repeat (first | (with_reducible first | exact HB.out | apply below_alloc | apply pw_below_drewN | apply below_drew1 | refine below_set ?_ GE743.out | refine below_set ?_ GE755.out | refine below_set ?_ GE763.out) | exact HB.out)) hb)
                  clear HO_0
                  clear HO_1
                  clear HO758
                  clear HO761
                  clear HO768
                  clear HO771
                  clear HO774
                  clear HO777
                  clear BK743
                  clear BK755
                  clear BK763
                  clear HB
                  have HO_0 := n0_
                  have HO_1 := n1_
                  have HO758 := n2_
                  have HO761 := n3_
                  have HO768 := n4_
                  have HO771 := n5_
                  have HO774 := n6_
                  have HO777 := n7_
                  have BK743 := n8_
                  have BK755 := n9_
                  have BK763 := n10_
                  have HB := n11_
                  clear n0_ n1_ n2_ n3_ n4_ n5_ n6_ n7_ n8_ n9_ n10_ n11_
                  (try clear hb)
                  (try clear hb2)
                  (try clear hk)
                  (try clear hi)
                  refine hK.out _ _ ⟨(blk_cell BK755.out 0).trans rfl, (blk_cell BK755.out 1).trans rfl, (blk_cell BK763.out 0).trans rfl, (blk_cell BK763.out 1).trans rfl⟩ (fun hHeld => ?_)
                  clear hK K
                  refine norm_ (a' := ?_) ?_ ?_
                  rotate_left
                  · show Act.put _ (some 42) _ = _
                    simp only [Act.put, List.setIfInBounds_toArray, List.set_cons_zero, List.set_cons_succ, i64_w, i32_w]
                    rfl
                  refine pure_ (i := 14) (N := some 43) (v := ?_) (a' := ?_) #[true, true, true, true, true, true, true, true, true, true, true, true, true, true, true, false, false, false, false, false, false, false] rfl rfl (any_of HT_.out (by kernel_rfl)) (fun _ _ _ h => h) (Or.inl ⟨by rfl, ?_⟩) ?_ ?_
                  rotate_left
                  · intro w'
                    go_simp
                    with_reducible rfl
                  rotate_left
                  · simp only [Act.put, List.setIfInBounds_toArray, List.set_cons_zero, List.set_cons_succ, i64_w, i32_w]
                    rfl
                  refine pure_ (i := 15) (N := some 44) (v := ?_) (a' := ?_) #[true, true, true, true, true, true, true, true, true, true, true, true, true, true, true, true, false, false, false, false, false, false] rfl rfl (any_of HT_.out (by kernel_rfl)) (fun _ _ _ h => h) (Or.inl ⟨by rfl, ?_⟩) ?_ ?_
                  rotate_left
                  · intro w'
                    go_simp
                    with_reducible rfl
                  rotate_left
                  · simp only [Act.put, List.setIfInBounds_toArray, List.set_cons_zero, List.set_cons_succ, i64_w, i32_w]
                    rfl
                  refine pure_ (i := 16) (N := some 45) (v := ?_) (a' := ?_) #[true, true, true, true, true, true, true, true, true, true, true, true, true, true, true, true, true, false, false, false, false, false] rfl rfl (any_of HT_.out (by kernel_rfl)) (fun _ _ _ h => h) (Or.inl ⟨by rfl, ?_⟩) ?_ ?_
                  rotate_left
                  · intro w'
                    go_simp
                    with_reducible rfl
                  rotate_left
                  · simp only [Act.put, List.setIfInBounds_toArray, List.set_cons_zero, List.set_cons_succ, i64_w, i32_w]
                    rfl
                  refine take_ (i := 17) (N := some 46) (v := ?_) (a' := ?_) #[true, true, true, true, true, true, true, true, true, true, true, true, true, true, true, true, true, true, false, false, false, false] rfl rfl (take_ofW HT_.out HW_.out (by kernel_rfl)) (fun _ _ _ h => h) (Or.inl ⟨by rfl, ?_⟩) hHeld ?_ ?_
                  rotate_left
                  · rintro w' ⟨s0, s1, s2, s3⟩
                    go_simp
                    with_reducible rfl
                  rotate_left
                  · simp only [Act.put, List.setIfInBounds_toArray, List.set_cons_zero, List.set_cons_succ, i64_w, i32_w]
                    rfl
                  refine one_ (i := 18) (N := some 47) #[true, true, true, true, true, true, true, true, true, true, true, true, true, true, true, true, true, true, true, false, false, false] rfl rfl (one_of HT_.out (by kernel_rfl)) (by decide) (fun K hK => ?_)
                  refine goes_ Try.func40 (by kernel_rfl) rfl #[.agg #[.int .i64 ((rd_T57 t759 0).f0), .int .i64 ((rd_T57 t759 0).f1)]] (by rfl) rfl rfl (by (try simp only [List.map_toArray, List.map_cons, List.map_nil]); first | done | rfl | (simp only [List.length_drop, List.length_take]; rfl)) ?_
                  with_reducible refine (ratio_Of.calls ((rd_T57 t759 0).f0) ((rd_T57 t759 0).f1) t779 t782 _ A25.out).mono ?_
                  rintro e w53 ⟨v780, v783, rfl, ho0, ho1, hb⟩
                  refine ⟨_, rfl, ?_⟩
                  have n0_ := Aside0.mk (Kd.V_below (by (with_reducible repeat (first | apply Kd.V_alloc | apply Kd.V_drewN | apply Kd.V_drew)); exact HO_0.out) hb)
                  have n1_ := Aside0.mk (Kd.V_below (by (with_reducible repeat (first | apply Kd.V_alloc | apply Kd.V_drewN | apply Kd.V_drew)); exact HO_1.out) hb)
                  have n2_ := Aside0.mk (Kd.R_below (by (with_reducible repeat (first | apply Kd.R_alloc | apply Kd.R_drewN | apply Kd.R_drew)); exact HO758.out) hb)
                  have n3_ := Aside0.mk (Kd.R_below (by (with_reducible repeat (first | apply Kd.R_alloc | apply Kd.R_drewN | apply Kd.R_drew)); exact HO761.out) hb)
                  have n4_ := Aside0.mk (Kd.V_below (by (with_reducible repeat (first | apply Kd.V_alloc | apply Kd.V_drewN | apply Kd.V_drew)); exact HO768.out) hb)
                  have n5_ := Aside0.mk (Kd.V_below (by (with_reducible repeat (first | apply Kd.V_alloc | apply Kd.V_drewN | apply Kd.V_drew)); exact HO771.out) hb)
                  have n6_ := Aside0.mk (Kd.R_below (by (with_reducible repeat (first | apply Kd.R_alloc | apply Kd.R_drewN | apply Kd.R_drew)); exact HO774.out) hb)
                  have n7_ := Aside0.mk (Kd.R_below (by (with_reducible repeat (first | apply Kd.R_alloc | apply Kd.R_drewN | apply Kd.R_drew)); exact HO777.out) hb)
                  have n8_ := Aside0.mk (Kd.V_lower (Kd.V_mono (ok' := fun k_ => ((P0_ k_ ∨ P1_ k_) ∨ w.heap.size ≤ k_) ∧ some k_ ≠ (.slice Ao35 y756.length co35 : Value).ownBlock ∧ some k_ ≠ (.slice (some ad762) t759.length co37 : Value).ownBlock ∧ some k_ ≠ (.slice Ao50 t772.length co50 : Value).ownBlock ∧ some k_ ≠ (.slice Ao51 t775.length co51 : Value).ownBlock ∧ k_ ≠ gb743 ∧ k_ ≠ gb755 ∧ k_ ≠ gb763) ho0 (fun k_ hk_ => ⟨(.inr (Nat.le_trans (below_size (by repeat (first | (with_reducible first | exact HB.out | apply below_alloc | apply pw_below_drewN | apply below_drew1 | refine below_set ?_ GE743.out | refine below_set ?_ GE755.out | refine below_set ?_ GE763.out) | exact HB.out))) hk_)), (Kd.fresh' (Kd.R_lt (by (with_reducible repeat (first | apply Kd.R_alloc | apply Kd.R_drewN | apply Kd.R_drew)); exact HO758.out)) k_ hk_), (Kd.fresh' (Kd.R_lt (by (with_reducible repeat (first | apply Kd.R_alloc | apply Kd.R_drewN | apply Kd.R_drew)); exact HO761.out)) k_ hk_), (Kd.fresh' (Kd.R_lt (by (with_reducible repeat (first | apply Kd.R_alloc | apply Kd.R_drewN | apply Kd.R_drew)); exact HO774.out)) k_ hk_), (Kd.fresh' (Kd.R_lt (by (with_reducible repeat (first | apply Kd.R_alloc | apply Kd.R_drewN | apply Kd.R_drew)); exact HO777.out)) k_ hk_), (Kd.freshB (g := gb743) (o := .cells #[.int .i64 a2_0, .int .i64 a2_1] 55 (0, 0)) (by (with_reducible repeat (first | refine blk_drewN ?_ _ | refine blk_drew ?_ | refine blk_alloc ?_ _)); exact BK743.out) k_ hk_), (Kd.freshB (g := gb755) (o := .cells #[.slice Ao28 x0_4.length co28, .slice Ao27 x1_10.length co27] 45 (0, 0)) (by (with_reducible repeat (first | refine blk_drewN ?_ _ | refine blk_drew ?_ | refine blk_alloc ?_ _)); exact BK755.out) k_ hk_), (Kd.freshB (g := gb763) (o := .cells #[.int .i64 ((rd_T57 t759 0).f0), .int .i64 ((rd_T57 t759 0).f1)] 57 (0, 0)) (by (with_reducible repeat (first | refine blk_drewN ?_ _ | refine blk_drew ?_ | refine blk_alloc ?_ _)); exact BK763.out) k_ hk_)⟩)) (below_size (by repeat (first | (with_reducible first | exact HB.out | apply below_alloc | apply pw_below_drewN | apply below_drew1 | refine below_set ?_ GE743.out | refine below_set ?_ GE755.out | refine below_set ?_ GE763.out) | exact HB.out))))
                  have n9_ := Aside0.mk (Kd.V_lower (Kd.V_mono (ok' := fun k_ => ((P0_ k_ ∨ P1_ k_) ∨ w.heap.size ≤ k_) ∧ some k_ ≠ (.slice Ao35 y756.length co35 : Value).ownBlock ∧ some k_ ≠ (.slice (some ad762) t759.length co37 : Value).ownBlock ∧ some k_ ≠ (.slice Ao50 t772.length co50 : Value).ownBlock ∧ some k_ ≠ (.slice Ao51 t775.length co51 : Value).ownBlock ∧ k_ ≠ gb743 ∧ k_ ≠ gb755 ∧ k_ ≠ gb763) ho1 (fun k_ hk_ => ⟨(.inr (Nat.le_trans (below_size (by repeat (first | (with_reducible first | exact HB.out | apply below_alloc | apply pw_below_drewN | apply below_drew1 | refine below_set ?_ GE743.out | refine below_set ?_ GE755.out | refine below_set ?_ GE763.out) | exact HB.out))) hk_)), (Kd.fresh' (Kd.R_lt (by (with_reducible repeat (first | apply Kd.R_alloc | apply Kd.R_drewN | apply Kd.R_drew)); exact HO758.out)) k_ hk_), (Kd.fresh' (Kd.R_lt (by (with_reducible repeat (first | apply Kd.R_alloc | apply Kd.R_drewN | apply Kd.R_drew)); exact HO761.out)) k_ hk_), (Kd.fresh' (Kd.R_lt (by (with_reducible repeat (first | apply Kd.R_alloc | apply Kd.R_drewN | apply Kd.R_drew)); exact HO774.out)) k_ hk_), (Kd.fresh' (Kd.R_lt (by (with_reducible repeat (first | apply Kd.R_alloc | apply Kd.R_drewN | apply Kd.R_drew)); exact HO777.out)) k_ hk_), (Kd.freshB (g := gb743) (o := .cells #[.int .i64 a2_0, .int .i64 a2_1] 55 (0, 0)) (by (with_reducible repeat (first | refine blk_drewN ?_ _ | refine blk_drew ?_ | refine blk_alloc ?_ _)); exact BK743.out) k_ hk_), (Kd.freshB (g := gb755) (o := .cells #[.slice Ao28 x0_4.length co28, .slice Ao27 x1_10.length co27] 45 (0, 0)) (by (with_reducible repeat (first | refine blk_drewN ?_ _ | refine blk_drew ?_ | refine blk_alloc ?_ _)); exact BK755.out) k_ hk_), (Kd.freshB (g := gb763) (o := .cells #[.int .i64 ((rd_T57 t759 0).f0), .int .i64 ((rd_T57 t759 0).f1)] 57 (0, 0)) (by (with_reducible repeat (first | refine blk_drewN ?_ _ | refine blk_drew ?_ | refine blk_alloc ?_ _)); exact BK763.out) k_ hk_)⟩)) (below_size (by repeat (first | (with_reducible first | exact HB.out | apply below_alloc | apply pw_below_drewN | apply below_drew1 | refine below_set ?_ GE743.out | refine below_set ?_ GE755.out | refine below_set ?_ GE763.out) | exact HB.out))))
                  have n10_ := Aside0.mk (blk_below (g := gb743) (o := .cells #[.int .i64 a2_0, .int .i64 a2_1] 55 (0, 0)) (by (with_reducible repeat (first | refine blk_drewN ?_ _ | refine blk_drew ?_ | refine blk_alloc ?_ _)); exact BK743.out) hb)
                  have n11_ := Aside0.mk (blk_below (g := gb755) (o := .cells #[.slice Ao28 x0_4.length co28, .slice Ao27 x1_10.length co27] 45 (0, 0)) (by (with_reducible repeat (first | refine blk_drewN ?_ _ | refine blk_drew ?_ | refine blk_alloc ?_ _)); exact BK755.out) hb)
                  have n12_ := Aside0.mk (blk_below (g := gb763) (o := .cells #[.int .i64 ((rd_T57 t759 0).f0), .int .i64 ((rd_T57 t759 0).f1)] 57 (0, 0)) (by (with_reducible repeat (first | refine blk_drewN ?_ _ | refine blk_drew ?_ | refine blk_alloc ?_ _)); exact BK763.out) hb)
                  have n13_ := Aside0.mk (below_step (by repeat (first | (with_reducible first | exact HB.out | apply below_alloc | apply pw_below_drewN | apply below_drew1 | refine below_set ?_ GE743.out | refine below_set ?_ GE755.out | refine below_set ?_ GE763.out) | exact HB.out)) hb)
                  clear HO_0
                  clear HO_1
                  clear HO758
                  clear HO761
                  clear HO768
                  clear HO771
                  clear HO774
                  clear HO777
                  clear BK743
                  clear BK755
                  clear BK763
                  clear HB
                  have HO_0 := n0_
                  have HO_1 := n1_
                  have HO758 := n2_
                  have HO761 := n3_
                  have HO768 := n4_
                  have HO771 := n5_
                  have HO774 := n6_
                  have HO777 := n7_
                  have HO781 := n8_
                  have HO784 := n9_
                  have BK743 := n10_
                  have BK755 := n11_
                  have BK763 := n12_
                  have HB := n13_
                  clear n0_ n1_ n2_ n3_ n4_ n5_ n6_ n7_ n8_ n9_ n10_ n11_ n12_ n13_
                  (try clear hb)
                  (try clear hb2)
                  (try clear hk)
                  (try clear hi)
                  (try clear ho0)
                  (try clear ho1)
                  obtain ⟨Ao54, co54, eo54⟩ := Kd.V_slice HO781.out
                  (first | subst eo54 | (injection eo54 with f1_ f2_ f3_; have f4_ := f1_.symm; have f5_ := f3_.symm; clear f1_ f2_ f3_; subst f4_; subst f5_))
                  obtain ⟨Ao55, co55, eo55⟩ := Kd.V_slice HO784.out
                  (first | subst eo55 | (injection eo55 with f1_ f2_ f3_; have f4_ := f1_.symm; have f5_ := f3_.symm; clear f1_ f2_ f3_; subst f4_; subst f5_))
                  refine hK.out _ _ ⟨(blk_cell BK755.out 0).trans rfl, (blk_cell BK755.out 1).trans rfl, (blk_cell BK763.out 0).trans rfl, (blk_cell BK763.out 1).trans rfl⟩ (fun hHeld => ?_)
                  clear hK K
                  refine norm_ (a' := ?_) ?_ ?_
                  rotate_left
                  · show Act.put _ (some 47) _ = _
                    simp only [Act.put, List.setIfInBounds_toArray, List.set_cons_zero, List.set_cons_succ, i64_w, i32_w]
                    rfl
                  refine one_ (i := 19) (N := some 48) #[true, true, true, true, true, true, true, true, true, true, true, true, true, true, true, true, true, true, true, true, false, false] rfl rfl (one_of HT_.out (by kernel_rfl)) (by decide) (fun K hK => ?_)
                  refine goes_ Try.func37 (by kernel_rfl) rfl #[.agg #[.slice Ao54 t779.length co54, .slice Ao55 t782.length co55]] (by rfl) rfl rfl (by (try simp only [List.map_toArray, List.map_cons, List.map_nil]); first | done | rfl | (simp only [List.length_drop, List.length_take]; rfl)) ?_
                  with_reducible refine (ratio_Check.calls _ _ t779 _ _ t782 t785 _ ?side1 ?side2 ?side3 ?side4 A26.out).mono ?_
                  (case side1 => repeat (first | exact (Kd.V_reads' HO781.out).2.2 | (with_reducible refine Kd.C_alloc ?_ _) | (with_reducible refine Kd.C_drewN ?_ _) | (with_reducible refine Kd.C_drew ?_)))
                  (case side2 => exact (Kd.V_reads' HO781.out).2.1)
                  (case side3 => repeat (first | exact (Kd.V_reads' HO784.out).2.2 | (with_reducible refine Kd.C_alloc ?_ _) | (with_reducible refine Kd.C_drewN ?_ _) | (with_reducible refine Kd.C_drew ?_)))
                  (case side4 => exact (Kd.V_reads' HO784.out).2.1)
                  rintro e w56 ⟨rfl, hb⟩
                  refine ⟨_, rfl, ?_⟩
                  have n0_ := Aside0.mk (Kd.V_below (by (with_reducible repeat (first | apply Kd.V_alloc | apply Kd.V_drewN | apply Kd.V_drew)); exact HO_0.out) hb)
                  have n1_ := Aside0.mk (Kd.V_below (by (with_reducible repeat (first | apply Kd.V_alloc | apply Kd.V_drewN | apply Kd.V_drew)); exact HO_1.out) hb)
                  have n2_ := Aside0.mk (Kd.R_below (by (with_reducible repeat (first | apply Kd.R_alloc | apply Kd.R_drewN | apply Kd.R_drew)); exact HO758.out) hb)
                  have n3_ := Aside0.mk (Kd.R_below (by (with_reducible repeat (first | apply Kd.R_alloc | apply Kd.R_drewN | apply Kd.R_drew)); exact HO761.out) hb)
                  have n4_ := Aside0.mk (Kd.V_below (by (with_reducible repeat (first | apply Kd.V_alloc | apply Kd.V_drewN | apply Kd.V_drew)); exact HO768.out) hb)
                  have n5_ := Aside0.mk (Kd.V_below (by (with_reducible repeat (first | apply Kd.V_alloc | apply Kd.V_drewN | apply Kd.V_drew)); exact HO771.out) hb)
                  have n6_ := Aside0.mk (Kd.R_below (by (with_reducible repeat (first | apply Kd.R_alloc | apply Kd.R_drewN | apply Kd.R_drew)); exact HO774.out) hb)
                  have n7_ := Aside0.mk (Kd.R_below (by (with_reducible repeat (first | apply Kd.R_alloc | apply Kd.R_drewN | apply Kd.R_drew)); exact HO777.out) hb)
                  have n8_ := Aside0.mk (Kd.V_below (by (with_reducible repeat (first | apply Kd.V_alloc | apply Kd.V_drewN | apply Kd.V_drew)); exact HO781.out) hb)
                  have n9_ := Aside0.mk (Kd.V_below (by (with_reducible repeat (first | apply Kd.V_alloc | apply Kd.V_drewN | apply Kd.V_drew)); exact HO784.out) hb)
                  have n10_ := Aside0.mk (blk_below (g := gb743) (o := .cells #[.int .i64 a2_0, .int .i64 a2_1] 55 (0, 0)) (by (with_reducible repeat (first | refine blk_drewN ?_ _ | refine blk_drew ?_ | refine blk_alloc ?_ _)); exact BK743.out) hb)
                  have n11_ := Aside0.mk (blk_below (g := gb755) (o := .cells #[.slice Ao28 x0_4.length co28, .slice Ao27 x1_10.length co27] 45 (0, 0)) (by (with_reducible repeat (first | refine blk_drewN ?_ _ | refine blk_drew ?_ | refine blk_alloc ?_ _)); exact BK755.out) hb)
                  have n12_ := Aside0.mk (blk_below (g := gb763) (o := .cells #[.int .i64 ((rd_T57 t759 0).f0), .int .i64 ((rd_T57 t759 0).f1)] 57 (0, 0)) (by (with_reducible repeat (first | refine blk_drewN ?_ _ | refine blk_drew ?_ | refine blk_alloc ?_ _)); exact BK763.out) hb)
                  have n13_ := Aside0.mk (below_step (by repeat (first | (with_reducible first | exact HB.out | apply below_alloc | apply pw_below_drewN | apply below_drew1 | refine below_set ?_ GE743.out | refine below_set ?_ GE755.out | refine below_set ?_ GE763.out) | exact HB.out)) hb)
                  clear HO_0
                  clear HO_1
                  clear HO758
                  clear HO761
                  clear HO768
                  clear HO771
                  clear HO774
                  clear HO777
                  clear HO781
                  clear HO784
                  clear BK743
                  clear BK755
                  clear BK763
                  clear HB
                  have HO_0 := n0_
                  have HO_1 := n1_
                  have HO758 := n2_
                  have HO761 := n3_
                  have HO768 := n4_
                  have HO771 := n5_
                  have HO774 := n6_
                  have HO777 := n7_
                  have HO781 := n8_
                  have HO784 := n9_
                  have BK743 := n10_
                  have BK755 := n11_
                  have BK763 := n12_
                  have HB := n13_
                  clear n0_ n1_ n2_ n3_ n4_ n5_ n6_ n7_ n8_ n9_ n10_ n11_ n12_ n13_
                  (try clear hb)
                  (try clear hb2)
                  (try clear hk)
                  (try clear hi)
                  refine hK.out _ _ ⟨(blk_cell BK755.out 0).trans rfl, (blk_cell BK755.out 1).trans rfl, (blk_cell BK763.out 0).trans rfl, (blk_cell BK763.out 1).trans rfl⟩ (fun hHeld => ?_)
                  clear hK K
                  refine norm_ (a' := ?_) ?_ ?_
                  rotate_left
                  · show Act.put _ (some 48) _ = _
                    simp only [Act.put, List.setIfInBounds_toArray, List.set_cons_zero, List.set_cons_succ, i64_w, i32_w]
                    rfl
                  refine pure_ (i := 20) (N := some 49) (v := ?_) (a' := ?_) #[true, true, true, true, true, true, true, true, true, true, true, true, true, true, true, true, true, true, true, true, true, false] rfl rfl (any_of HT_.out (by kernel_rfl)) (fun _ _ _ h => h) (Or.inl ⟨by rfl, ?_⟩) ?_ ?_
                  rotate_left
                  · intro w'
                    go_simp
                    with_reducible rfl
                  rotate_left
                  · simp only [Act.put, List.setIfInBounds_toArray, List.set_cons_zero, List.set_cons_succ, i64_w, i32_w]
                    rfl
                  refine pure_ (i := 21) (N := some 6) (v := ?_) (a' := ?_) #[true, true, true, true, true, true, true, true, true, true, true, true, true, true, true, true, true, true, true, true, true, true] rfl rfl (any_of HT_.out (by kernel_rfl)) (fun _ _ _ h => h) (Or.inl ⟨by rfl, ?_⟩) ?_ ?_
                  rotate_left
                  · intro w'
                    go_simp
                    with_reducible rfl
                  rotate_left
                  · simp only [Act.put, List.setIfInBounds_toArray, List.set_cons_zero, List.set_cons_succ, i64_w, i32_w]
                    rfl
                  refine done_ (done_of HT_.out (by kernel_rfl)) ?_
                  try go_wp2
                  go_ret
                  exact ⟨by first | rfl | (simp [errW_none, errW_some] <;> rfl) | (simp [*, errW_none, errW_some] <;> rfl), by repeat (first | (with_reducible first | exact HB.out | apply below_alloc | apply pw_below_drewN | apply below_drew1 | refine below_set ?_ GE743.out | refine below_set ?_ GE755.out | refine below_set ?_ GE763.out) | exact HB.out)⟩
                · rw [if_neg c24] at H
                  have c24b0 : (t778 == 0) = false := beq_eq_false_iff_ne.mpr c24
                  have c24b1 : (t778 != 0) = true := bne_iff_ne.mpr c24
                  exact absurd ((Option.some.inj H).trans hr_.out) (by simp)
              · rw [if_neg c20] at H
                have c20b0 : (t764 == t765) = false := by simpa using c20
                (try (have c20b1 : decide (t764 = t765) = false := by simpa using c20))
                (try (have c20b2 : (t764 == t765) = false := by simpa using c20))
                (try (have c20b3 : ¬ (t764 = t765) := by simpa using c20))
                clear c20
                exact absurd ((Option.some.inj H).trans hr_.out) (by simp)
            · replace c17 := Bool.eq_false_iff.mpr c17
              subst c17
              have H1 : (some false) = some r := by rw [if_neg (show ¬ (false = true) by decide)] at H; exact H
              clear H
              have H := H1
              clear H1
              exact absurd ((Option.some.inj H).trans hr_.out) (by simp)
          · rw [if_neg c16] at H
            exact absurd H (by simp)

/-- THE ONE PURE STATEMENT of regattalaw03_RatioChecks: yours. -/
def regattalaw03_RatioChecks.Pure : Prop := ∀ (x0 : List Int) (x1 : List Int) (x2 : S55), (x0.length ≤ 9223372036854775807 ∧ ∀ y ∈ x0, ((Lit.int .u32 y).wf = true)) → (x1.length ≤ 9223372036854775807 ∧ ∀ y ∈ x1, ((Lit.int .u32 y).wf = true)) → (ok55 x2) → ∃ k, regattalaw03_RatioChecks.f k x0 x1 x2.f0 x2.f1 = some true

end Go.Proofs.Ytcfliceeablckaa.PNr
