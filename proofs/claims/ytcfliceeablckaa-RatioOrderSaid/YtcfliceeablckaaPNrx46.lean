-- Written by wip/rprint.py of this session's repo (the kit's printer with patches), out of the translation. Not trusted: Lean checks it.
import Derived.Test.YtcfliceeablckaaPNrx0
import Derived.Test.YtcfliceeablckaaPNrx43
import Derived.Test.YtcfliceeablckaaPNrx44
import Derived.Test.YtcfliceeablckaaPNrx45
namespace Go.Proofs.Ytcfliceeablckaa.PNr
open Go.RowKit Go.Proofs.YtcfliceeablckaaW.PrintWords Go.Proofs.YtcfliceeablckaaW.PrintLast Go.Proofs.YtcfliceeablckaaW.PrintMore Go.Proofs.Ytcfliceeablckaa.MWords
attribute [local go_sem] max2_int min2_int max_two min_two max_three min_three max_four min_four   -- for this text's walks alone
set_option linter.unusedVariables false
set_option linter.unusedSimpArgs false

/-! ### ratio_Sum: function 42 -/
def ratio_Sum.l0 : Nat → List (S57) → Int → Int → List Int → List Int → Option (List Int × List Int)
  | 0, _, _, _, _, _ => none
  | k + 1, x7, x8, x9, x613000, x613001 => if x9 < x8 then (if 0 ≤ x9 then (if x9 < (x7.length : Int) then ((ratio_Of.f ((rd_T57 x7 x9).f0) ((rd_T57 x7 x9).f1)).bind fun bt615 => ((ratio_Add.f k x613000 x613001 bt615.1 bt615.2).bind fun bt621 => (ratio_Sum.l0 k x7 x8 (wrap64 (x9 + 1)) bt621.1 bt621.2))) else (none)) else (none)) else (some (x613000, x613001))
def ratio_Sum.f (k : Nat) (l0 : List (S57)) : Option (List Int × List Int) := (ratio_Whole.f 0).bind fun bt606 => (ratio_Sum.l0 k l0 (l0.length : Int) 0 bt606.1 bt606.2)
theorem ratio_Sum.mono_l : ∀ k, (∀ y0 y1 y2 y3 y4, LeO (ratio_Sum.l0 k y0 y1 y2 y3 y4) (ratio_Sum.l0 (k + 1) y0 y1 y2 y3 y4))
  | 0 => fun _ _ _ _ _ r h => by simp [ratio_Sum.l0] at h
  | k + 1 => by
    have ih0 := ratio_Sum.mono_l k
    · intro y0 y1 y2 y3 y4
      unfold ratio_Sum.l0
      repeat' first
      | (with_reducible exact ih0 _ _ _ _ _)
      | (with_reducible exact ratio_Add.mono _ _ _ _ _)
      | (with_reducible exact LeO.refl _)
      | (with_reducible exact LeO.none _)
      | (with_reducible refine LeO.ite ?_ ?_)
      | (with_reducible refine LeO.bind ?_ (fun _ => ?_))
      | exact ih0 _ _ _ _ _
      | exact ratio_Add.mono _ _ _ _ _
      | exact LeO.none _
      | refine LeO.ite ?_ ?_
      | refine LeO.bind ?_ (fun _ => ?_)
theorem ratio_Sum.mono : ∀ a0 k, LeO (ratio_Sum.f k a0) (ratio_Sum.f (k + 1) a0) := by
  intro a0 k
  have ih0 := ratio_Sum.mono_l k
  unfold ratio_Sum.f
  repeat' first
      | (with_reducible exact ih0 _ _ _ _ _)
      | (with_reducible exact ratio_Add.mono _ _ _ _ _)
      | (with_reducible exact LeO.refl _)
      | (with_reducible exact LeO.none _)
      | (with_reducible refine LeO.ite ?_ ?_)
      | (with_reducible refine LeO.bind ?_ (fun _ => ?_))
      | exact ih0 _ _ _ _ _
      | exact ratio_Add.mono _ _ _ _ _
      | exact LeO.none _
      | refine LeO.ite ?_ ?_
      | refine LeO.bind ?_ (fun _ => ?_)
set_option maxHeartbeats 8000000 in
set_option maxRecDepth 100000 in
theorem ratio_Sum.calls (k : Nat) (A0 : Option Addr) (c0 : Nat) (l0 : List (S57)) (r1 : List Int) (r2 : List Int) (w : World) (hr0 : Kd.C k57 w A0 l0.length l0) (hc0 : l0.length ≤ c0) (h : ratio_Sum.f k l0 = some (r1, r2)) :
    Calls Try.prog 42 #[.slice A0 l0.length c0] w fun e w' => ∃ v0_ v1_ : Value, e = .returned (.agg #[v0_, v1_]) ∧ Kd.V (Kd.int .u32) 30 w' w.heap.size (fun k_ => (w.heap.size ≤ k_)) v0_ r1 ∧ Kd.V (Kd.int .u32) 30 w' w.heap.size (fun k_ => (w.heap.size ≤ k_)) v1_ r2 ∧ Below w.heap.size w w' := by
  have hu45 := Try.underlying45
  have hu57 := Try.underlying57
  have HR0 := Aside0.mk hr0
  have HC0 := Aside0.mk hc0
  clear hr0 hc0
  have HB := Aside0.mk (Below.refl w.heap.size w)
  have H : ((ratio_Whole.f 0).bind fun bt606 => (ratio_Sum.l0 k l0 (l0.length : Int) 0 bt606.1 bt606.2)) = some (r1, r2) := h
  clear h
  replace H := Option.bind_eq_some_iff.mp H
  obtain ⟨⟨t606, t609⟩, A20, H⟩ := H
  replace H : (ratio_Sum.l0 k l0 (l0.length : Int) 0 t606 t609) = some (r1, r2) := H
  have A2 := Aside0.mk A20
  clear A20
  have H' := Aside0.mk H
  clear H
  go_enter Try.func42, Try.ntmps42
  go_wp2_with (first | ((with_reducible refine gate_dst (N := 2) rfl ?_); refine box_event ?hg (N := 2) ?hd (cs := #[.slice none 0 0, .slice none 0 0]) (t := 45) ?hr ?_; (case hd => rfl); (case hg => rfl); (case hr => first | (go_simp; done) | (go_simp; rfl)); intro gb605 hg w3 hbox hb; have n0_ := Aside0.mk (below_step (by repeat (first | (with_reducible first | exact HB.out | apply below_alloc | apply pw_below_drewN | apply below_drew1) | exact HB.out)) hb); have n1_ := Aside0.mk (hbox); have n2_ := Aside0.mk ((by rw [hg]; exact (below_size (by repeat (first | (with_reducible first | exact HB.out | apply below_alloc | apply pw_below_drewN | apply below_drew1) | exact HB.out))) : w.heap.size ≤ gb605)); have n3_ := Aside0.mk ((by rw [hg]; exact (below_size (by repeat (first | (with_reducible first | exact HB.out | apply below_alloc | apply pw_below_drewN | apply below_drew1) | exact HB.out))) : w.heap.size ≤ gb605)); clear HB; have HB := n0_; have BK605 := n1_; have GW605 := n2_; have GE605 := n3_; clear n0_ n1_ n2_ n3_; clear hb hbox hg) | ((with_reducible refine gate_callee (f := 43) rfl ?_); refine goesL_ (some 6) rfl rfl Try.func43 (by kernel_rfl) rfl #[.int .u64 0] rfl (by (try simp only [List.map_toArray, List.map_cons, List.map_nil]); first | done | rfl | (simp only [List.length_drop, List.length_take]; rfl)) ?_; (with_reducible refine (ratio_Whole.calls 0 t606 t609 _ A2.out).mono ?_); rintro e w4 ⟨v607, v610, rfl, ho0, ho1, hb⟩; refine ⟨_, rfl, ?_⟩; have n0_ := Aside0.mk (Kd.V_lower (Kd.V_mono (ok' := fun k_ => (w.heap.size ≤ k_) ∧ k_ ≠ gb605) ho0 (fun k_ hk_ => ⟨(Nat.le_trans (below_size (by repeat (first | (with_reducible first | exact HB.out | apply below_alloc | apply pw_below_drewN | apply below_drew1 | refine below_set ?_ GE605.out) | exact HB.out))) hk_), (Kd.freshB (g := gb605) (o := .cells #[.slice none 0 0, .slice none 0 0] 45 (0, 0)) (by (with_reducible repeat (first | refine blk_drewN ?_ _ | refine blk_drew ?_ | refine blk_alloc ?_ _)); exact BK605.out) k_ hk_)⟩)) (below_size (by repeat (first | (with_reducible first | exact HB.out | apply below_alloc | apply pw_below_drewN | apply below_drew1 | refine below_set ?_ GE605.out) | exact HB.out)))); have n1_ := Aside0.mk (Kd.V_lower (Kd.V_mono (ok' := fun k_ => (w.heap.size ≤ k_) ∧ k_ ≠ gb605) ho1 (fun k_ hk_ => ⟨(Nat.le_trans (below_size (by repeat (first | (with_reducible first | exact HB.out | apply below_alloc | apply pw_below_drewN | apply below_drew1 | refine below_set ?_ GE605.out) | exact HB.out))) hk_), (Kd.freshB (g := gb605) (o := .cells #[.slice none 0 0, .slice none 0 0] 45 (0, 0)) (by (with_reducible repeat (first | refine blk_drewN ?_ _ | refine blk_drew ?_ | refine blk_alloc ?_ _)); exact BK605.out) k_ hk_)⟩)) (below_size (by repeat (first | (with_reducible first | exact HB.out | apply below_alloc | apply pw_below_drewN | apply below_drew1 | refine below_set ?_ GE605.out) | exact HB.out)))); have n2_ := Aside0.mk (blk_below (g := gb605) (o := .cells #[.slice none 0 0, .slice none 0 0] 45 (0, 0)) (by (with_reducible repeat (first | refine blk_drewN ?_ _ | refine blk_drew ?_ | refine blk_alloc ?_ _)); exact BK605.out) hb); have n3_ := Aside0.mk (below_step (by repeat (first | (with_reducible first | exact HB.out | apply below_alloc | apply pw_below_drewN | apply below_drew1 | refine below_set ?_ GE605.out) | exact HB.out)) hb); clear BK605; clear HB; have HO608 := n0_; have HO611 := n1_; have BK605 := n2_; have HB := n3_; clear n0_ n1_ n2_ n3_; (try clear hb); (try clear hb2); (try clear hk); (try clear hi); (try clear ho0); (try clear ho1)) | ((with_reducible refine gate_dst (N := 3) rfl ?_); refine box_event ?hg (N := 3) ?hd (cs := #[.slice none 0 0, .slice none 0 0]) (t := 45) ?hr ?_; (case hd => rfl); (case hg => rfl); (case hr => first | (go_simp; done) | (go_simp; rfl)); intro gb612 hg w5 hbox hb; have n0_ := Aside0.mk (Kd.V_below (Kd.V_elderB (by (with_reducible repeat (first | apply Kd.V_alloc | apply Kd.V_drewN | apply Kd.V_drew)); exact HO608.out) gb612 (Nat.le_of_eq hg.symm)) hb); have n1_ := Aside0.mk (Kd.V_below (Kd.V_elderB (by (with_reducible repeat (first | apply Kd.V_alloc | apply Kd.V_drewN | apply Kd.V_drew)); exact HO611.out) gb612 (Nat.le_of_eq hg.symm)) hb); have n2_ := Aside0.mk (blk_below (g := gb605) (o := .cells #[.slice none 0 0, .slice none 0 0] 45 (0, 0)) (by (with_reducible repeat (first | refine blk_drewN ?_ _ | refine blk_drew ?_ | refine blk_alloc ?_ _)); exact BK605.out) hb); have n3_ := Aside0.mk (below_step (by repeat (first | (with_reducible first | exact HB.out | apply below_alloc | apply pw_below_drewN | apply below_drew1 | refine below_set ?_ GE605.out) | exact HB.out)) hb); have n4_ := Aside0.mk (hbox); have n5_ := Aside0.mk ((by rw [hg]; exact (below_size (by repeat (first | (with_reducible first | exact HB.out | apply below_alloc | apply pw_below_drewN | apply below_drew1 | refine below_set ?_ GE605.out) | exact HB.out))) : w.heap.size ≤ gb612)); have n6_ := Aside0.mk ((by rw [hg]; exact (below_size (by repeat (first | (with_reducible first | exact HB.out | apply below_alloc | apply pw_below_drewN | apply below_drew1 | refine below_set ?_ GE605.out) | exact HB.out))) : w.heap.size ≤ gb612)); have n7_ := Aside0.mk ((by rw [hg]; exact Nat.ne_of_lt (blk_lt (g := gb605) (o := .cells #[.slice none 0 0, .slice none 0 0] 45 (0, 0)) (by (with_reducible repeat (first | refine blk_drewN ?_ _ | refine blk_drew ?_ | refine blk_alloc ?_ _)); exact BK605.out)) : gb605 ≠ gb612)); have n8_ := Aside0.mk ((by rw [hg]; exact Nat.ne_of_gt (blk_lt (g := gb605) (o := .cells #[.slice none 0 0, .slice none 0 0] 45 (0, 0)) (by (with_reducible repeat (first | refine blk_drewN ?_ _ | refine blk_drew ?_ | refine blk_alloc ?_ _)); exact BK605.out)) : gb612 ≠ gb605)); clear HO608; clear HO611; clear BK605; clear HB; have HO608 := n0_; have HO611 := n1_; have BK605 := n2_; have HB := n3_; have BK612 := n4_; have GW612 := n5_; have GE612 := n6_; have NB605_612 := n7_; have NB612_605 := n8_; clear n0_ n1_ n2_ n3_ n4_ n5_ n6_ n7_ n8_; clear hb hbox hg; obtain ⟨Ao6, co6, eo6⟩ := Kd.V_slice HO608.out; subst eo6; have hnb7 := NB612_605.out; have hnc7 := NB605_612.out; have hcz8_0 : w5.cell? ⟨gb612, 0, none⟩ = some (.slice none 0 0) := (blk_cell BK612.out 0).trans rfl; have hcz8_1 : w5.cell? ⟨gb612, 1, none⟩ = some (.slice none 0 0) := (blk_cell BK612.out 1).trans rfl; have hfz8_0 := blk_frozen BK612.out 0; have hfz8_1 := blk_frozen BK612.out 1; obtain ⟨Ao9, co9, eo9⟩ := Kd.V_slice HO611.out; subst eo9))
  go_loopg [9] k (fun kq v9 w' => ∃ (x9_1 : Int) (x613000_1 : List Int) (x613001_1 : List Int) (u613000 : Value) (u613001 : Value), v9 = .int .i64 x9_1 ∧ Aside0 (ratio_Sum.l0 kq l0 (l0.length : Int) x9_1 x613000_1 x613001_1 = some (r1, r2)) ∧ Aside0 (kq ≤ k) ∧ Aside0 (Kd.V (Kd.int .u32) 30 w' w.heap.size (fun k_ => (w.heap.size ≤ k_) ∧ k_ ≠ gb605 ∧ k_ ≠ gb612) u613000 x613000_1) ∧ Aside0 (Kd.V (Kd.int .u32) 30 w' w.heap.size (fun k_ => (w.heap.size ≤ k_) ∧ k_ ≠ gb605 ∧ k_ ≠ gb612) u613001 x613001_1) ∧ Aside0 (w'.heap[gb605]? = some (.cells #[(.slice none 0 0), (.slice none 0 0)] 45 (0, 0))) ∧ Aside0 (w'.heap[gb612]? = some (.cells #[u613000, u613001] 45 (0, 0))) ∧ Aside0 (Below w.heap.size w w'))
  case atStart => exact ⟨(0), (t606), (t609), (.slice Ao6 t606.length co6), (.slice Ao9 t609.length co9), (by first | rfl | (simp; done) | (simp [*]; done)), H', ⟨Nat.le_refl _⟩, ⟨by (with_reducible repeat (first | apply Kd.V_alloc | apply Kd.V_drewN | apply Kd.V_drew)); exact Kd.V_mono (Kd.V_far (p := ⟨gb612, 1, none⟩) (Kd.V_far (p := ⟨gb612, 0, none⟩) (Kd.V_mono HO608.out (fun k_ hk => (⟨hk, hk.2⟩ : _ ∧ k_ ≠ gb612))) (fun _ hk => hk.2) (.slice Ao6 t606.length co6)) (fun _ hk => hk.2) (.slice Ao9 t609.length co9)) (fun _ hk => ⟨hk.1.1.1, ⟨hk.1.1.2, hk.1.2⟩⟩)⟩, ⟨by (with_reducible repeat (first | apply Kd.V_alloc | apply Kd.V_drewN | apply Kd.V_drew)); exact Kd.V_mono (Kd.V_far (p := ⟨gb612, 1, none⟩) (Kd.V_far (p := ⟨gb612, 0, none⟩) (Kd.V_mono HO611.out (fun k_ hk => (⟨hk, hk.2⟩ : _ ∧ k_ ≠ gb612))) (fun _ hk => hk.2) (.slice Ao6 t606.length co6)) (fun _ hk => hk.2) (.slice Ao9 t609.length co9)) (fun _ hk => ⟨hk.1.1.1, ⟨hk.1.1.2, hk.1.2⟩⟩)⟩, ⟨by (with_reducible repeat (first | refine blk_drewN ?_ _ | refine blk_drew ?_ | refine blk_alloc ?_ _)); refine blk_far ?_ NB605_612.out _; (with_reducible repeat (first | refine blk_drewN ?_ _ | refine blk_drew ?_ | refine blk_alloc ?_ _)); refine blk_far ?_ NB605_612.out _; (with_reducible repeat (first | refine blk_drewN ?_ _ | refine blk_drew ?_ | refine blk_alloc ?_ _)); exact BK605.out⟩, ⟨by (with_reducible repeat (first | refine blk_drewN ?_ _ | refine blk_drew ?_ | refine blk_alloc ?_ _)); refine blk_put (cs := #[.slice Ao6 t606.length co6, .slice none 0 0]) ?_ 1 _ rfl; (with_reducible repeat (first | refine blk_drewN ?_ _ | refine blk_drew ?_ | refine blk_alloc ?_ _)); refine blk_put (cs := #[.slice none 0 0, .slice none 0 0]) ?_ 0 _ rfl; (with_reducible repeat (first | refine blk_drewN ?_ _ | refine blk_drew ?_ | refine blk_alloc ?_ _)); exact BK612.out⟩, ⟨by repeat (first | (with_reducible first | exact HB.out | apply below_alloc | apply pw_below_drewN | apply below_drew1 | refine below_set ?_ GE605.out | refine below_set ?_ GE612.out) | exact HB.out)⟩⟩
  case round =>
    clear H'
    try clear p2
    try clear c4
    try clear c7
    try clear hcz8_0
    try clear hcz8_1
    try clear hfz8_0
    try clear hfz8_1
    obtain ⟨x9_1, x613000_1, x613001_1, u613000, u613001, rfl, HA, HK1, HO_613000, HO_613001, BK605, BK612, HB⟩ := hrel
    cases gk with
    | zero => exact absurd HA.out (by simp [ratio_Sum.l0])
    | succ k1 =>
      have H := HA.out
      clear HA
      simp only [ratio_Sum.l0] at H
      by_cases c10 : x9_1 < (l0.length : Int)
      · rw [if_pos c10] at H
        have c10b0 : decide (x9_1 < (l0.length : Int)) = true := decide_eq_true c10
        clear c10
        by_cases c11 : 0 ≤ x9_1
        · rw [if_pos c11] at H
          have c11b0 : decide (0 ≤ x9_1) = true := decide_eq_true c11
          clear c11
          by_cases c12 : x9_1 < (l0.length : Int)
          · rw [if_pos c12] at H
            have c12b0 : decide (x9_1 < (l0.length : Int)) = true := decide_eq_true c12
            clear c12
            replace H := Option.bind_eq_some_iff.mp H
            obtain ⟨⟨t615, t618⟩, A130, H⟩ := H
            replace H : ((ratio_Add.f k1 x613000_1 x613001_1 t615 t618).bind fun bt621 => (ratio_Sum.l0 k1 l0 (l0.length : Int) (wrap64 (x9_1 + 1)) bt621.1 bt621.2)) = some (r1, r2) := H
            have A13 := Aside0.mk A130
            clear A130
            replace H := Option.bind_eq_some_iff.mp H
            obtain ⟨⟨t621, t624⟩, A140, H⟩ := H
            replace H : (ratio_Sum.l0 k1 l0 (l0.length : Int) (wrap64 (x9_1 + 1)) t621 t624) = some (r1, r2) := H
            have A14 := Aside0.mk A140
            clear A140
            have H' := Aside0.mk H
            clear H
            have p613 : 0 ≤ (x9_1 : Int) := of_decide_eq_true (by first | (with_reducible assumption) | assumption)
            have q613 : x9_1 < (l0.length : Int) := of_decide_eq_true (by first | (with_reducible assumption) | assumption)
            obtain ⟨ad613, e613, hx613_0, hx613_1⟩ := at_T57 HR0.out x9_1 p613 q613
            cases e613
            replace hx613_0 := (HB.out.cell (World.block_lt_of_cell? w _ hx613_0)).trans hx613_0
            replace hx613_1 := (HB.out.cell (World.block_lt_of_cell? w _ hx613_1)).trans hx613_1
            replace p613 := eq_true p613
            replace q613 := eq_true q613
            try go_wp2_with (first | ((with_reducible refine gate_dst (N := 5) rfl ?_); refine box_event ?hg (N := 5) ?hd (cs := #[.int .i64 0, .int .i64 0]) (t := 57) ?hr ?_; (case hd => rfl); (case hg => rfl); (case hr => first | (go_simp; done) | (go_simp; rfl)); intro gb614 hg w15 hbox hb; have n0_ := Aside0.mk (Kd.V_below (Kd.V_elderB (by (with_reducible repeat (first | apply Kd.V_alloc | apply Kd.V_drewN | apply Kd.V_drew)); exact HO_613000.out) gb614 (Nat.le_of_eq hg.symm)) hb); have n1_ := Aside0.mk (Kd.V_below (Kd.V_elderB (by (with_reducible repeat (first | apply Kd.V_alloc | apply Kd.V_drewN | apply Kd.V_drew)); exact HO_613001.out) gb614 (Nat.le_of_eq hg.symm)) hb); have n2_ := Aside0.mk (blk_below (g := gb605) (o := .cells #[.slice none 0 0, .slice none 0 0] 45 (0, 0)) (by (with_reducible repeat (first | refine blk_drewN ?_ _ | refine blk_drew ?_ | refine blk_alloc ?_ _)); exact BK605.out) hb); have n3_ := Aside0.mk (blk_below (g := gb612) (o := .cells #[u613000, u613001] 45 (0, 0)) (by (with_reducible repeat (first | refine blk_drewN ?_ _ | refine blk_drew ?_ | refine blk_alloc ?_ _)); exact BK612.out) hb); have n4_ := Aside0.mk (below_step (by repeat (first | (with_reducible first | exact HB.out | apply below_alloc | apply pw_below_drewN | apply below_drew1 | refine below_set ?_ GE605.out | refine below_set ?_ GE612.out) | exact HB.out)) hb); have n5_ := Aside0.mk (hbox); have n6_ := Aside0.mk ((by rw [hg]; exact (below_size (by repeat (first | (with_reducible first | exact HB.out | apply below_alloc | apply pw_below_drewN | apply below_drew1 | refine below_set ?_ GE605.out | refine below_set ?_ GE612.out) | exact HB.out))) : w.heap.size ≤ gb614)); have n7_ := Aside0.mk ((by rw [hg]; exact (below_size (by repeat (first | (with_reducible first | exact HB.out | apply below_alloc | apply pw_below_drewN | apply below_drew1 | refine below_set ?_ GE605.out | refine below_set ?_ GE612.out) | exact HB.out))) : w.heap.size ≤ gb614)); have n8_ := Aside0.mk ((by rw [hg]; exact Nat.ne_of_lt (blk_lt (g := gb605) (o := .cells #[.slice none 0 0, .slice none 0 0] 45 (0, 0)) (by (with_reducible repeat (first | refine blk_drewN ?_ _ | refine blk_drew ?_ | refine blk_alloc ?_ _)); exact BK605.out)) : gb605 ≠ gb614)); have n9_ := Aside0.mk ((by rw [hg]; exact Nat.ne_of_gt (blk_lt (g := gb605) (o := .cells #[.slice none 0 0, .slice none 0 0] 45 (0, 0)) (by (with_reducible repeat (first | refine blk_drewN ?_ _ | refine blk_drew ?_ | refine blk_alloc ?_ _)); exact BK605.out)) : gb614 ≠ gb605)); have n10_ := Aside0.mk ((by rw [hg]; exact Nat.ne_of_lt (blk_lt (g := gb612) (o := .cells #[u613000, u613001] 45 (0, 0)) (by (with_reducible repeat (first | refine blk_drewN ?_ _ | refine blk_drew ?_ | refine blk_alloc ?_ _)); exact BK612.out)) : gb612 ≠ gb614)); have n11_ := Aside0.mk ((by rw [hg]; exact Nat.ne_of_gt (blk_lt (g := gb612) (o := .cells #[u613000, u613001] 45 (0, 0)) (by (with_reducible repeat (first | refine blk_drewN ?_ _ | refine blk_drew ?_ | refine blk_alloc ?_ _)); exact BK612.out)) : gb614 ≠ gb612)); clear HO_613000; clear HO_613001; clear BK605; clear BK612; clear HB; have HO_613000 := n0_; have HO_613001 := n1_; have BK605 := n2_; have BK612 := n3_; have HB := n4_; have BK614 := n5_; have GW614 := n6_; have GE614 := n7_; have NB605_614 := n8_; have NB614_605 := n9_; have NB612_614 := n10_; have NB614_612 := n11_; clear n0_ n1_ n2_ n3_ n4_ n5_ n6_ n7_ n8_ n9_ n10_ n11_; clear hb hbox hg; have hnb16 := NB614_605.out; have hnc16 := NB605_614.out; have hnb17 := NB614_612.out; have hnc17 := NB612_614.out; have hcz18_0 : w15.cell? ⟨gb614, 0, none⟩ = some (.int .i64 0) := (blk_cell BK614.out 0).trans rfl; have hcz18_1 : w15.cell? ⟨gb614, 1, none⟩ = some (.int .i64 0) := (blk_cell BK614.out 1).trans rfl; have hfz18_0 := blk_frozen BK614.out 0; have hfz18_1 := blk_frozen BK614.out 1))
            have n0_ : Aside0 (Kd.V (Kd.int .u32) 30 ((w15.setCell ⟨gb614, 0, none⟩ (.int .i64 ((rd_T57 l0 x9_1).f0))).setCell ⟨gb614, 1, none⟩ (.int .i64 ((rd_T57 l0 x9_1).f1))) w.heap.size (fun k_ => (w.heap.size ≤ k_) ∧ k_ ≠ gb605 ∧ k_ ≠ gb612 ∧ k_ ≠ gb614) u613000 x613000_1) := ⟨by (with_reducible repeat (first | apply Kd.V_alloc | apply Kd.V_drewN | apply Kd.V_drew)); exact Kd.V_mono (Kd.V_far (p := ⟨gb614, 1, none⟩) (Kd.V_far (p := ⟨gb614, 0, none⟩) (Kd.V_mono HO_613000.out (fun k_ hk => (⟨hk, hk.2⟩ : _ ∧ k_ ≠ gb614))) (fun _ hk => hk.2) (.int .i64 ((rd_T57 l0 x9_1).f0))) (fun _ hk => hk.2) (.int .i64 ((rd_T57 l0 x9_1).f1))) (fun _ hk => ⟨hk.1.1.1, ⟨hk.1.1.2.1, ⟨hk.1.1.2.2, hk.1.2⟩⟩⟩)⟩
            have n1_ : Aside0 (Kd.V (Kd.int .u32) 30 ((w15.setCell ⟨gb614, 0, none⟩ (.int .i64 ((rd_T57 l0 x9_1).f0))).setCell ⟨gb614, 1, none⟩ (.int .i64 ((rd_T57 l0 x9_1).f1))) w.heap.size (fun k_ => (w.heap.size ≤ k_) ∧ k_ ≠ gb605 ∧ k_ ≠ gb612 ∧ k_ ≠ gb614) u613001 x613001_1) := ⟨by (with_reducible repeat (first | apply Kd.V_alloc | apply Kd.V_drewN | apply Kd.V_drew)); exact Kd.V_mono (Kd.V_far (p := ⟨gb614, 1, none⟩) (Kd.V_far (p := ⟨gb614, 0, none⟩) (Kd.V_mono HO_613001.out (fun k_ hk => (⟨hk, hk.2⟩ : _ ∧ k_ ≠ gb614))) (fun _ hk => hk.2) (.int .i64 ((rd_T57 l0 x9_1).f0))) (fun _ hk => hk.2) (.int .i64 ((rd_T57 l0 x9_1).f1))) (fun _ hk => ⟨hk.1.1.1, ⟨hk.1.1.2.1, ⟨hk.1.1.2.2, hk.1.2⟩⟩⟩)⟩
            have n2_ : Aside0 (((w15.setCell ⟨gb614, 0, none⟩ (.int .i64 ((rd_T57 l0 x9_1).f0))).setCell ⟨gb614, 1, none⟩ (.int .i64 ((rd_T57 l0 x9_1).f1))).heap[gb605]? = some (.cells #[.slice none 0 0, .slice none 0 0] 45 (0, 0))) := ⟨by (with_reducible repeat (first | refine blk_drewN ?_ _ | refine blk_drew ?_ | refine blk_alloc ?_ _)); refine blk_far ?_ NB605_614.out _; (with_reducible repeat (first | refine blk_drewN ?_ _ | refine blk_drew ?_ | refine blk_alloc ?_ _)); refine blk_far ?_ NB605_614.out _; (with_reducible repeat (first | refine blk_drewN ?_ _ | refine blk_drew ?_ | refine blk_alloc ?_ _)); exact BK605.out⟩
            have n3_ : Aside0 (((w15.setCell ⟨gb614, 0, none⟩ (.int .i64 ((rd_T57 l0 x9_1).f0))).setCell ⟨gb614, 1, none⟩ (.int .i64 ((rd_T57 l0 x9_1).f1))).heap[gb612]? = some (.cells #[u613000, u613001] 45 (0, 0))) := ⟨by (with_reducible repeat (first | refine blk_drewN ?_ _ | refine blk_drew ?_ | refine blk_alloc ?_ _)); refine blk_far ?_ NB612_614.out _; (with_reducible repeat (first | refine blk_drewN ?_ _ | refine blk_drew ?_ | refine blk_alloc ?_ _)); refine blk_far ?_ NB612_614.out _; (with_reducible repeat (first | refine blk_drewN ?_ _ | refine blk_drew ?_ | refine blk_alloc ?_ _)); exact BK612.out⟩
            have n4_ : Aside0 (((w15.setCell ⟨gb614, 0, none⟩ (.int .i64 ((rd_T57 l0 x9_1).f0))).setCell ⟨gb614, 1, none⟩ (.int .i64 ((rd_T57 l0 x9_1).f1))).heap[gb614]? = some (.cells #[.int .i64 ((rd_T57 l0 x9_1).f0), .int .i64 ((rd_T57 l0 x9_1).f1)] 57 (0, 0))) := ⟨by (with_reducible repeat (first | refine blk_drewN ?_ _ | refine blk_drew ?_ | refine blk_alloc ?_ _)); refine blk_put (cs := #[.int .i64 ((rd_T57 l0 x9_1).f0), .int .i64 0]) ?_ 1 _ rfl; (with_reducible repeat (first | refine blk_drewN ?_ _ | refine blk_drew ?_ | refine blk_alloc ?_ _)); refine blk_put (cs := #[.int .i64 0, .int .i64 0]) ?_ 0 _ rfl; (with_reducible repeat (first | refine blk_drewN ?_ _ | refine blk_drew ?_ | refine blk_alloc ?_ _)); exact BK614.out⟩
            have n5_ : Aside0 (Below w.heap.size w ((w15.setCell ⟨gb614, 0, none⟩ (.int .i64 ((rd_T57 l0 x9_1).f0))).setCell ⟨gb614, 1, none⟩ (.int .i64 ((rd_T57 l0 x9_1).f1)))) := ⟨by repeat (first | (with_reducible first | exact HB.out | apply below_alloc | apply pw_below_drewN | apply below_drew1 | refine below_set ?_ GE605.out | refine below_set ?_ GE612.out | refine below_set ?_ GE614.out) | exact HB.out)⟩
            (try clear HO_613000)
            (try clear HO_613001)
            (try clear BK605)
            (try clear BK612)
            (try clear BK614)
            (try clear HB)
            generalize ((w15.setCell ⟨gb614, 0, none⟩ (.int .i64 ((rd_T57 l0 x9_1).f0))).setCell ⟨gb614, 1, none⟩ (.int .i64 ((rd_T57 l0 x9_1).f1))) = w19 at n0_ n1_ n2_ n3_ n4_ n5_ ⊢
            have HO_613000 := n0_
            have HO_613001 := n1_
            have BK605 := n2_
            have BK612 := n3_
            have BK614 := n4_
            have HB := n5_
            clear n0_ n1_ n2_ n3_ n4_ n5_
            have n0_ := Aside0.mk (Kd.V_drew HO_613000.out)
            have n1_ := Aside0.mk (Kd.V_drew HO_613001.out)
            have n2_ := Aside0.mk (blk_drew BK605.out)
            have n3_ := Aside0.mk (blk_drew BK612.out)
            have n4_ := Aside0.mk (blk_drew BK614.out)
            have n5_ := Aside0.mk (below_drew1 HB.out)
            clear HO_613000
            clear HO_613001
            clear BK605
            clear BK612
            clear BK614
            clear HB
            have HO_613000 := n0_
            have HO_613001 := n1_
            have BK605 := n2_
            have BK612 := n3_
            have BK614 := n4_
            have HB := n5_
            clear n0_ n1_ n2_ n3_ n4_ n5_
            refine start_ (n := 5) (S := fun w' => w'.cell? ⟨gb612, 0, none⟩ = some (u613000) ∧ w'.cell? ⟨gb612, 1, none⟩ = some (u613001) ∧ w'.cell? ⟨gb614, 0, none⟩ = some (.int .i64 ((rd_T57 l0 x9_1).f0)) ∧ w'.cell? ⟨gb614, 1, none⟩ = some (.int .i64 ((rd_T57 l0 x9_1).f1))) (ds := [4]) #[false, false, false, false, false] (by kernel_rfl) rfl rfl ⟨(blk_cell BK612.out 0).trans rfl, (blk_cell BK612.out 1).trans rfl, (blk_cell BK614.out 0).trans rfl, (blk_cell BK614.out 1).trans rfl⟩ (fun hHeld => ?_)
            generalize w19.drew = w20 at HO_613000 HO_613001 BK605 BK612 BK614 HB hHeld ⊢
            refine take_ (i := 0) (N := some 13) (v := ?_) (a' := ?_) #[true, false, false, false, false] rfl rfl (by kernel_rfl) (fun _ _ _ h => h) (Or.inl ⟨by rfl, ?_⟩) hHeld ?_ ?_
            rotate_left
            · rintro w' ⟨s0, s1, s2, s3⟩
              go_simp
              with_reducible rfl
            rotate_left
            · simp only [Act.put, List.setIfInBounds_toArray, List.set_cons_zero, List.set_cons_succ, i64_w, i32_w]
              rfl
            refine take_ (i := 1) (N := some 14) (v := ?_) (a' := ?_) #[true, true, false, false, false] rfl rfl (by kernel_rfl) (fun _ _ _ h => h) (Or.inl ⟨by rfl, ?_⟩) hHeld ?_ ?_
            rotate_left
            · rintro w' ⟨s0, s1, s2, s3⟩
              go_simp
              with_reducible rfl
            rotate_left
            · simp only [Act.put, List.setIfInBounds_toArray, List.set_cons_zero, List.set_cons_succ, i64_w, i32_w]
              rfl
            refine one_ (i := 2) (N := some 15) #[true, true, true, false, false] rfl rfl (by kernel_rfl) (by decide) (fun K hK => ?_)
            refine goes_ Try.func40 (by kernel_rfl) rfl #[.agg #[.int .i64 ((rd_T57 l0 x9_1).f0), .int .i64 ((rd_T57 l0 x9_1).f1)]] (by rfl) rfl rfl (by (try simp only [List.map_toArray, List.map_cons, List.map_nil]); first | done | rfl | (simp only [List.length_drop, List.length_take]; rfl)) ?_
            with_reducible refine (ratio_Of.calls ((rd_T57 l0 x9_1).f0) ((rd_T57 l0 x9_1).f1) t615 t618 _ A13.out).mono ?_
            rintro e w21 ⟨v616, v619, rfl, ho0, ho1, hb⟩
            refine ⟨_, rfl, ?_⟩
            have n0_ := Aside0.mk (Kd.V_below (by (with_reducible repeat (first | apply Kd.V_alloc | apply Kd.V_drewN | apply Kd.V_drew)); exact HO_613000.out) hb)
            have n1_ := Aside0.mk (Kd.V_below (by (with_reducible repeat (first | apply Kd.V_alloc | apply Kd.V_drewN | apply Kd.V_drew)); exact HO_613001.out) hb)
            have n2_ := Aside0.mk (Kd.V_lower (Kd.V_mono (ok' := fun k_ => (w.heap.size ≤ k_) ∧ k_ ≠ gb605 ∧ k_ ≠ gb612 ∧ k_ ≠ gb614) ho0 (fun k_ hk_ => ⟨(Nat.le_trans (below_size (by repeat (first | (with_reducible first | exact HB.out | apply below_alloc | apply pw_below_drewN | apply below_drew1 | refine below_set ?_ GE605.out | refine below_set ?_ GE612.out | refine below_set ?_ GE614.out) | exact HB.out))) hk_), (Kd.freshB (g := gb605) (o := .cells #[.slice none 0 0, .slice none 0 0] 45 (0, 0)) (by (with_reducible repeat (first | refine blk_drewN ?_ _ | refine blk_drew ?_ | refine blk_alloc ?_ _)); exact BK605.out) k_ hk_), (Kd.freshB (g := gb612) (o := .cells #[u613000, u613001] 45 (0, 0)) (by (with_reducible repeat (first | refine blk_drewN ?_ _ | refine blk_drew ?_ | refine blk_alloc ?_ _)); exact BK612.out) k_ hk_), (Kd.freshB (g := gb614) (o := .cells #[.int .i64 ((rd_T57 l0 x9_1).f0), .int .i64 ((rd_T57 l0 x9_1).f1)] 57 (0, 0)) (by (with_reducible repeat (first | refine blk_drewN ?_ _ | refine blk_drew ?_ | refine blk_alloc ?_ _)); exact BK614.out) k_ hk_)⟩)) (below_size (by repeat (first | (with_reducible first | exact HB.out | apply below_alloc | apply pw_below_drewN | apply below_drew1 | refine below_set ?_ GE605.out | refine below_set ?_ GE612.out | refine below_set ?_ GE614.out) | exact HB.out))))
            have n3_ := Aside0.mk (Kd.V_lower (Kd.V_mono (ok' := fun k_ => (w.heap.size ≤ k_) ∧ k_ ≠ gb605 ∧ k_ ≠ gb612 ∧ k_ ≠ gb614) ho1 (fun k_ hk_ => ⟨(Nat.le_trans (below_size (by repeat (first | (with_reducible first | exact HB.out | apply below_alloc | apply pw_below_drewN | apply below_drew1 | refine below_set ?_ GE605.out | refine below_set ?_ GE612.out | refine below_set ?_ GE614.out) | exact HB.out))) hk_), (Kd.freshB (g := gb605) (o := .cells #[.slice none 0 0, .slice none 0 0] 45 (0, 0)) (by (with_reducible repeat (first | refine blk_drewN ?_ _ | refine blk_drew ?_ | refine blk_alloc ?_ _)); exact BK605.out) k_ hk_), (Kd.freshB (g := gb612) (o := .cells #[u613000, u613001] 45 (0, 0)) (by (with_reducible repeat (first | refine blk_drewN ?_ _ | refine blk_drew ?_ | refine blk_alloc ?_ _)); exact BK612.out) k_ hk_), (Kd.freshB (g := gb614) (o := .cells #[.int .i64 ((rd_T57 l0 x9_1).f0), .int .i64 ((rd_T57 l0 x9_1).f1)] 57 (0, 0)) (by (with_reducible repeat (first | refine blk_drewN ?_ _ | refine blk_drew ?_ | refine blk_alloc ?_ _)); exact BK614.out) k_ hk_)⟩)) (below_size (by repeat (first | (with_reducible first | exact HB.out | apply below_alloc | apply pw_below_drewN | apply below_drew1 | refine below_set ?_ GE605.out | refine below_set ?_ GE612.out | refine below_set ?_ GE614.out) | exact HB.out))))
            have n4_ := Aside0.mk (blk_below (g := gb605) (o := .cells #[.slice none 0 0, .slice none 0 0] 45 (0, 0)) (by (with_reducible repeat (first | refine blk_drewN ?_ _ | refine blk_drew ?_ | refine blk_alloc ?_ _)); exact BK605.out) hb)
            have n5_ := Aside0.mk (blk_below (g := gb612) (o := .cells #[u613000, u613001] 45 (0, 0)) (by (with_reducible repeat (first | refine blk_drewN ?_ _ | refine blk_drew ?_ | refine blk_alloc ?_ _)); exact BK612.out) hb)
            have n6_ := Aside0.mk (blk_below (g := gb614) (o := .cells #[.int .i64 ((rd_T57 l0 x9_1).f0), .int .i64 ((rd_T57 l0 x9_1).f1)] 57 (0, 0)) (by (with_reducible repeat (first | refine blk_drewN ?_ _ | refine blk_drew ?_ | refine blk_alloc ?_ _)); exact BK614.out) hb)
            have n7_ := Aside0.mk (below_step (by repeat (first | (with_reducible first | exact HB.out | apply below_alloc | apply pw_below_drewN | apply below_drew1 | refine below_set ?_ GE605.out | refine below_set ?_ GE612.out | refine below_set ?_ GE614.out) | exact HB.out)) hb)
            clear HO_613000
            clear HO_613001
            clear BK605
            clear BK612
            clear BK614
            clear HB
            have HO_613000 := n0_
            have HO_613001 := n1_
            have HO617 := n2_
            have HO620 := n3_
            have BK605 := n4_
            have BK612 := n5_
            have BK614 := n6_
            have HB := n7_
            clear n0_ n1_ n2_ n3_ n4_ n5_ n6_ n7_
            (try clear hb)
            (try clear hb2)
            (try clear hk)
            (try clear hi)
            (try clear ho0)
            (try clear ho1)
            obtain ⟨Ao22, co22, eo22⟩ := Kd.V_slice HO_613000.out
            (first | subst eo22 | (injection eo22 with f1_ f2_ f3_; have f4_ := f1_.symm; have f5_ := f3_.symm; clear f1_ f2_ f3_; subst f4_; subst f5_))
            obtain ⟨Ao23, co23, eo23⟩ := Kd.V_slice HO_613001.out
            (first | subst eo23 | (injection eo23 with f1_ f2_ f3_; have f4_ := f1_.symm; have f5_ := f3_.symm; clear f1_ f2_ f3_; subst f4_; subst f5_))
            obtain ⟨Ao24, co24, eo24⟩ := Kd.V_slice HO617.out
            (first | subst eo24 | (injection eo24 with f1_ f2_ f3_; have f4_ := f1_.symm; have f5_ := f3_.symm; clear f1_ f2_ f3_; subst f4_; subst f5_))
            obtain ⟨Ao25, co25, eo25⟩ := Kd.V_slice HO620.out
            (first | subst eo25 | (injection eo25 with f1_ f2_ f3_; have f4_ := f1_.symm; have f5_ := f3_.symm; clear f1_ f2_ f3_; subst f4_; subst f5_))
            refine hK.out _ _ ⟨(blk_cell BK612.out 0).trans rfl, (blk_cell BK612.out 1).trans rfl, (blk_cell BK614.out 0).trans rfl, (blk_cell BK614.out 1).trans rfl⟩ (fun hHeld => ?_)
            clear hK K
            refine norm_ (a' := ?_) ?_ ?_
            rotate_left
            · show Act.put _ (some 15) _ = _
              simp only [Act.put, List.setIfInBounds_toArray, List.set_cons_zero, List.set_cons_succ, i64_w, i32_w]
              rfl
            refine one_ (i := 3) (N := some 16) #[true, true, true, true, false] rfl rfl (by kernel_rfl) (by decide) (fun K hK => ?_)
            refine goes_ Try.func45 (by kernel_rfl) rfl #[.agg #[.slice Ao22 x613000_1.length co22, .slice Ao23 x613001_1.length co23], .agg #[.slice Ao24 t615.length co24, .slice Ao25 t618.length co25]] (by rfl) rfl rfl (by (try simp only [List.map_toArray, List.map_cons, List.map_nil]); first | done | rfl | (simp only [List.length_drop, List.length_take]; rfl)) ?_
            with_reducible refine (ratio_Add.calls k1 _ _ x613000_1 _ _ x613001_1 _ _ t615 _ _ t618 t621 t624 _ ?side1 ?side2 ?side3 ?side4 ?side5 ?side6 ?side7 ?side8 A14.out).mono ?_
            (case side1 => repeat (first | exact (Kd.V_reads' HO_613000.out).2.2 | (with_reducible refine Kd.C_alloc ?_ _) | (with_reducible refine Kd.C_drewN ?_ _) | (with_reducible refine Kd.C_drew ?_)))
            (case side2 => exact (Kd.V_reads' HO_613000.out).2.1)
            (case side3 => repeat (first | exact (Kd.V_reads' HO_613001.out).2.2 | (with_reducible refine Kd.C_alloc ?_ _) | (with_reducible refine Kd.C_drewN ?_ _) | (with_reducible refine Kd.C_drew ?_)))
            (case side4 => exact (Kd.V_reads' HO_613001.out).2.1)
            (case side5 => repeat (first | exact (Kd.V_reads' HO617.out).2.2 | (with_reducible refine Kd.C_alloc ?_ _) | (with_reducible refine Kd.C_drewN ?_ _) | (with_reducible refine Kd.C_drew ?_)))
            (case side6 => exact (Kd.V_reads' HO617.out).2.1)
            (case side7 => repeat (first | exact (Kd.V_reads' HO620.out).2.2 | (with_reducible refine Kd.C_alloc ?_ _) | (with_reducible refine Kd.C_drewN ?_ _) | (with_reducible refine Kd.C_drew ?_)))
            (case side8 => exact (Kd.V_reads' HO620.out).2.1)
            rintro e w26 ⟨v622, v625, rfl, ho0, ho1, hb⟩
            refine ⟨_, rfl, ?_⟩
            have n0_ := Aside0.mk (Kd.V_below (by (with_reducible repeat (first | apply Kd.V_alloc | apply Kd.V_drewN | apply Kd.V_drew)); exact HO_613000.out) hb)
            have n1_ := Aside0.mk (Kd.V_below (by (with_reducible repeat (first | apply Kd.V_alloc | apply Kd.V_drewN | apply Kd.V_drew)); exact HO_613001.out) hb)
            have n2_ := Aside0.mk (Kd.V_below (by (with_reducible repeat (first | apply Kd.V_alloc | apply Kd.V_drewN | apply Kd.V_drew)); exact HO617.out) hb)
            have n3_ := Aside0.mk (Kd.V_below (by (with_reducible repeat (first | apply Kd.V_alloc | apply Kd.V_drewN | apply Kd.V_drew)); exact HO620.out) hb)
            have n4_ := Aside0.mk (Kd.V_lower (Kd.V_mono (ok' := fun k_ => (w.heap.size ≤ k_) ∧ k_ ≠ gb605 ∧ k_ ≠ gb612 ∧ k_ ≠ gb614) ho0 (fun k_ hk_ => ⟨(Nat.le_trans (below_size (by repeat (first | (with_reducible first | exact HB.out | apply below_alloc | apply pw_below_drewN | apply below_drew1 | refine below_set ?_ GE605.out | refine below_set ?_ GE612.out | refine below_set ?_ GE614.out) | exact HB.out))) hk_), (Kd.freshB (g := gb605) (o := .cells #[.slice none 0 0, .slice none 0 0] 45 (0, 0)) (by (with_reducible repeat (first | refine blk_drewN ?_ _ | refine blk_drew ?_ | refine blk_alloc ?_ _)); exact BK605.out) k_ hk_), (Kd.freshB (g := gb612) (o := .cells #[.slice Ao22 x613000_1.length co22, .slice Ao23 x613001_1.length co23] 45 (0, 0)) (by (with_reducible repeat (first | refine blk_drewN ?_ _ | refine blk_drew ?_ | refine blk_alloc ?_ _)); exact BK612.out) k_ hk_), (Kd.freshB (g := gb614) (o := .cells #[.int .i64 ((rd_T57 l0 x9_1).f0), .int .i64 ((rd_T57 l0 x9_1).f1)] 57 (0, 0)) (by (with_reducible repeat (first | refine blk_drewN ?_ _ | refine blk_drew ?_ | refine blk_alloc ?_ _)); exact BK614.out) k_ hk_)⟩)) (below_size (by repeat (first | (with_reducible first | exact HB.out | apply below_alloc | apply pw_below_drewN | apply below_drew1 | refine below_set ?_ GE605.out | refine below_set ?_ GE612.out | refine below_set ?_ GE614.out) | exact HB.out))))
            have n5_ := Aside0.mk (Kd.V_lower (Kd.V_mono (ok' := fun k_ => (w.heap.size ≤ k_) ∧ k_ ≠ gb605 ∧ k_ ≠ gb612 ∧ k_ ≠ gb614) ho1 (fun k_ hk_ => ⟨(Nat.le_trans (below_size (by repeat (first | (with_reducible first | exact HB.out | apply below_alloc | apply pw_below_drewN | apply below_drew1 | refine below_set ?_ GE605.out | refine below_set ?_ GE612.out | refine below_set ?_ GE614.out) | exact HB.out))) hk_), (Kd.freshB (g := gb605) (o := .cells #[.slice none 0 0, .slice none 0 0] 45 (0, 0)) (by (with_reducible repeat (first | refine blk_drewN ?_ _ | refine blk_drew ?_ | refine blk_alloc ?_ _)); exact BK605.out) k_ hk_), (Kd.freshB (g := gb612) (o := .cells #[.slice Ao22 x613000_1.length co22, .slice Ao23 x613001_1.length co23] 45 (0, 0)) (by (with_reducible repeat (first | refine blk_drewN ?_ _ | refine blk_drew ?_ | refine blk_alloc ?_ _)); exact BK612.out) k_ hk_), (Kd.freshB (g := gb614) (o := .cells #[.int .i64 ((rd_T57 l0 x9_1).f0), .int .i64 ((rd_T57 l0 x9_1).f1)] 57 (0, 0)) (by (with_reducible repeat (first | refine blk_drewN ?_ _ | refine blk_drew ?_ | refine blk_alloc ?_ _)); exact BK614.out) k_ hk_)⟩)) (below_size (by repeat (first | (with_reducible first | exact HB.out | apply below_alloc | apply pw_below_drewN | apply below_drew1 | refine below_set ?_ GE605.out | refine below_set ?_ GE612.out | refine below_set ?_ GE614.out) | exact HB.out))))
            have n6_ := Aside0.mk (blk_below (g := gb605) (o := .cells #[.slice none 0 0, .slice none 0 0] 45 (0, 0)) (by (with_reducible repeat (first | refine blk_drewN ?_ _ | refine blk_drew ?_ | refine blk_alloc ?_ _)); exact BK605.out) hb)
            have n7_ := Aside0.mk (blk_below (g := gb612) (o := .cells #[.slice Ao22 x613000_1.length co22, .slice Ao23 x613001_1.length co23] 45 (0, 0)) (by (with_reducible repeat (first | refine blk_drewN ?_ _ | refine blk_drew ?_ | refine blk_alloc ?_ _)); exact BK612.out) hb)
            have n8_ := Aside0.mk (blk_below (g := gb614) (o := .cells #[.int .i64 ((rd_T57 l0 x9_1).f0), .int .i64 ((rd_T57 l0 x9_1).f1)] 57 (0, 0)) (by (with_reducible repeat (first | refine blk_drewN ?_ _ | refine blk_drew ?_ | refine blk_alloc ?_ _)); exact BK614.out) hb)
            have n9_ := Aside0.mk (below_step (by repeat (first | (with_reducible first | exact HB.out | apply below_alloc | apply pw_below_drewN | apply below_drew1 | refine below_set ?_ GE605.out | refine below_set ?_ GE612.out | refine below_set ?_ GE614.out) | exact HB.out)) hb)
            clear HO_613000
            clear HO_613001
            clear HO617
            clear HO620
            clear BK605
            clear BK612
            clear BK614
            clear HB
            have HO_613000 := n0_
            have HO_613001 := n1_
            have HO617 := n2_
            have HO620 := n3_
            have HO623 := n4_
            have HO626 := n5_
            have BK605 := n6_
            have BK612 := n7_
            have BK614 := n8_
            have HB := n9_
            clear n0_ n1_ n2_ n3_ n4_ n5_ n6_ n7_ n8_ n9_
            (try clear hb)
            (try clear hb2)
            (try clear hk)
            (try clear hi)
            (try clear ho0)
            (try clear ho1)
            obtain ⟨Ao27, co27, eo27⟩ := Kd.V_slice HO623.out
            (first | subst eo27 | (injection eo27 with f1_ f2_ f3_; have f4_ := f1_.symm; have f5_ := f3_.symm; clear f1_ f2_ f3_; subst f4_; subst f5_))
            obtain ⟨Ao29, co29, eo29⟩ := Kd.V_slice HO626.out
            (first | subst eo29 | (injection eo29 with f1_ f2_ f3_; have f4_ := f1_.symm; have f5_ := f3_.symm; clear f1_ f2_ f3_; subst f4_; subst f5_))
            refine hK.out _ _ ⟨(blk_cell BK612.out 0).trans rfl, (blk_cell BK612.out 1).trans rfl, (blk_cell BK614.out 0).trans rfl, (blk_cell BK614.out 1).trans rfl⟩ (fun hHeld => ?_)
            clear hK K
            refine norm_ (a' := ?_) ?_ ?_
            rotate_left
            · show Act.put _ (some 16) _ = _
              simp only [Act.put, List.setIfInBounds_toArray, List.set_cons_zero, List.set_cons_succ, i64_w, i32_w]
              rfl
            refine last_ (i := 4) (N := none) #[true, true, true, true, true] rfl rfl (by kernel_rfl) (by decide) (fun K hK => ?_)
            have hs28 : w26.cell? ⟨gb612, 0, none⟩ = some (.slice Ao22 x613000_1.length co22) := (blk_cell BK612.out 0).trans rfl
            have hfs28 := blk_frozen BK612.out 0
            have hns28_0 := NB605_612.out
            have hns28_2 := NB614_612.out
            have hms28_0 := NB612_605.out
            have hms28_2 := NB612_614.out
            have hs30 : w26.cell? ⟨gb612, 1, none⟩ = some (.slice Ao23 x613001_1.length co23) := (blk_cell BK612.out 1).trans rfl
            have hfs30 := blk_frozen BK612.out 1
            have hns30_0 := NB605_612.out
            have hns30_2 := NB614_612.out
            have hms30_0 := NB612_605.out
            have hms30_2 := NB612_614.out
            refine skip_ (w1 := ?_) (by rfl) rfl ?_ ?_
            rotate_left
            · go_simp
              rfl
            refine hK.out _ _ ?_
            clear hK K
            refine done_ (by kernel_rfl) ?_
            try go_wp2
            go_roundg k1
            case measure => have := HK1.out; omega
            case rel => exact ⟨(wrap64 (x9_1 + 1)), (t621), (t624), (.slice Ao27 t621.length co27), (.slice Ao29 t624.length co29), (by first | rfl | (simp; done) | (simp [*]; done)), H', ⟨by have := HK1.out; omega⟩, ⟨by (with_reducible repeat (first | apply Kd.V_alloc | apply Kd.V_drewN | apply Kd.V_drew)); exact Kd.V_mono (Kd.V_far (p := ⟨gb612, 1, none⟩) (Kd.V_far (p := ⟨gb612, 0, none⟩) (Kd.V_mono HO623.out (fun k_ hk => (⟨hk, hk.2.2.1⟩ : _ ∧ k_ ≠ gb612))) (fun _ hk => hk.2) (.slice Ao27 t621.length co27)) (fun _ hk => hk.2) (.slice Ao29 t624.length co29)) (fun _ hk => ⟨hk.1.1, ⟨hk.1.2.1, hk.1.2.2.1⟩⟩)⟩, ⟨by (with_reducible repeat (first | apply Kd.V_alloc | apply Kd.V_drewN | apply Kd.V_drew)); exact Kd.V_mono (Kd.V_far (p := ⟨gb612, 1, none⟩) (Kd.V_far (p := ⟨gb612, 0, none⟩) (Kd.V_mono HO626.out (fun k_ hk => (⟨hk, hk.2.2.1⟩ : _ ∧ k_ ≠ gb612))) (fun _ hk => hk.2) (.slice Ao27 t621.length co27)) (fun _ hk => hk.2) (.slice Ao29 t624.length co29)) (fun _ hk => ⟨hk.1.1, ⟨hk.1.2.1, hk.1.2.2.1⟩⟩)⟩, ⟨by (with_reducible repeat (first | refine blk_drewN ?_ _ | refine blk_drew ?_ | refine blk_alloc ?_ _)); refine blk_far ?_ NB605_612.out _; (with_reducible repeat (first | refine blk_drewN ?_ _ | refine blk_drew ?_ | refine blk_alloc ?_ _)); refine blk_far ?_ NB605_612.out _; (with_reducible repeat (first | refine blk_drewN ?_ _ | refine blk_drew ?_ | refine blk_alloc ?_ _)); exact BK605.out⟩, ⟨by (with_reducible repeat (first | refine blk_drewN ?_ _ | refine blk_drew ?_ | refine blk_alloc ?_ _)); refine blk_put (cs := #[.slice Ao27 t621.length co27, .slice Ao23 x613001_1.length co23]) ?_ 1 _ rfl; (with_reducible repeat (first | refine blk_drewN ?_ _ | refine blk_drew ?_ | refine blk_alloc ?_ _)); refine blk_put (cs := #[.slice Ao22 x613000_1.length co22, .slice Ao23 x613001_1.length co23]) ?_ 0 _ rfl; (with_reducible repeat (first | refine blk_drewN ?_ _ | refine blk_drew ?_ | refine blk_alloc ?_ _)); exact BK612.out⟩, ⟨by repeat (first | (with_reducible first | exact HB.out | apply below_alloc | apply pw_below_drewN | apply below_drew1 | refine below_set ?_ GE605.out | refine below_set ?_ GE612.out | refine below_set ?_ GE614.out) | exact HB.out)⟩⟩
          · rw [if_neg c12] at H
            exact absurd H (by simp)
        · rw [if_neg c11] at H
          exact absurd H (by simp)
      · rw [if_neg c10] at H
        have c10b0 : decide (x9_1 < (l0.length : Int)) = false := decide_eq_false c10
        clear c10
        simp only [Option.some.injEq, Prod.mk.injEq] at H
        obtain ⟨rfl, rfl⟩ := H
        have hnb31 := NB612_605.out
        have hnc31 := NB605_612.out
        have hcz32_0 : wr.cell? ⟨gb612, 0, none⟩ = some (u613000) := (blk_cell BK612.out 0).trans rfl
        have hcz32_1 : wr.cell? ⟨gb612, 1, none⟩ = some (u613001) := (blk_cell BK612.out 1).trans rfl
        have hfz32_0 := blk_frozen BK612.out 0
        have hfz32_1 := blk_frozen BK612.out 1
        obtain ⟨Ao33, co33, eo33⟩ := Kd.V_slice HO_613000.out
        subst eo33
        have hcz34_0 : wr.cell? ⟨gb605, 0, none⟩ = some (.slice none 0 0) := (blk_cell BK605.out 0).trans rfl
        have hcz34_1 : wr.cell? ⟨gb605, 1, none⟩ = some (.slice none 0 0) := (blk_cell BK605.out 1).trans rfl
        have hfz34_0 := blk_frozen BK605.out 0
        have hfz34_1 := blk_frozen BK605.out 1
        obtain ⟨Ao35, co35, eo35⟩ := Kd.V_slice HO_613001.out
        subst eo35
        go_wp2
        refine bodyPost_ret (results_cell_row rfl _ _ gb605 45 #[.slice Ao33 x613000_1.length co33, .slice Ao35 x613001_1.length co35] (0, 0) _ rfl (by (with_reducible repeat (first | refine blk_drewN ?_ _ | refine blk_drew ?_ | refine blk_alloc ?_ _)); refine blk_put (cs := #[.slice Ao33 x613000_1.length co33, .slice none 0 0]) ?_ 1 _ rfl; (with_reducible repeat (first | refine blk_drewN ?_ _ | refine blk_drew ?_ | refine blk_alloc ?_ _)); refine blk_put (cs := #[.slice none 0 0, .slice none 0 0]) ?_ 0 _ rfl; (with_reducible repeat (first | refine blk_drewN ?_ _ | refine blk_drew ?_ | refine blk_alloc ?_ _)); exact BK605.out) Try.underlying45 rfl (by kernel_rfl)) rfl ?_
        exact ⟨_, _, by first | rfl | (simp [errW_none, errW_some] <;> rfl) | (simp [*, errW_none, errW_some] <;> rfl), by (with_reducible repeat (first | apply Kd.V_alloc | apply Kd.V_drewN | apply Kd.V_drew)); exact Kd.V_mono (Kd.V_far (p := ⟨gb605, 1, none⟩) (Kd.V_far (p := ⟨gb605, 0, none⟩) (Kd.V_mono HO_613000.out (fun k_ hk => (⟨hk, hk.2.1⟩ : _ ∧ k_ ≠ gb605))) (fun _ hk => hk.2) (.slice Ao33 x613000_1.length co33)) (fun _ hk => hk.2) (.slice Ao35 x613001_1.length co35)) (fun _ hk => hk.1.1), by (with_reducible repeat (first | apply Kd.V_alloc | apply Kd.V_drewN | apply Kd.V_drew)); exact Kd.V_mono (Kd.V_far (p := ⟨gb605, 1, none⟩) (Kd.V_far (p := ⟨gb605, 0, none⟩) (Kd.V_mono HO_613001.out (fun k_ hk => (⟨hk, hk.2.1⟩ : _ ∧ k_ ≠ gb605))) (fun _ hk => hk.2) (.slice Ao33 x613000_1.length co33)) (fun _ hk => hk.2) (.slice Ao35 x613001_1.length co35)) (fun _ hk => hk.1.1), by repeat (first | (with_reducible first | exact HB.out | apply below_alloc | apply pw_below_drewN | apply below_drew1 | refine below_set ?_ GE605.out | refine below_set ?_ GE612.out) | exact HB.out)⟩

end Go.Proofs.Ytcfliceeablckaa.PNr
