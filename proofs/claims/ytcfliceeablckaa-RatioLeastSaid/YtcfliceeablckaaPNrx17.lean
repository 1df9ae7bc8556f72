-- Written by wip/rprint.py of this session's repo (the kit's printer with patches), out of the translation. Not trusted: Lean checks it.
import Derived.Test.YtcfliceeablckaaPNrx0
import Derived.Test.YtcfliceeablckaaPNrx7
namespace Go.Proofs.Ytcfliceeablckaa.PNr
open Go.RowKit Go.Proofs.YtcfliceeablckaaW.PrintWords Go.Proofs.YtcfliceeablckaaW.PrintLast Go.Proofs.YtcfliceeablckaaW.PrintMore Go.Proofs.Ytcfliceeablckaa.MWords
attribute [local go_sem] max2_int min2_int max_two min_two max_three min_three max_four min_four   -- for this text's walks alone
set_option linter.unusedVariables false
set_option linter.unusedSimpArgs false

/-! ### regattaref03_Little: function 31 -/
def regattaref03_Little.j0 : Nat → Bool → List Int → List Int → Option (Int × Int × Bool)
  | 0, _, _, _ => none
  | k + 1, x13, x655000, x655001 => if x13 = true then (some (0, 0, false)) else (if 0 < (x655001.length : Int) then (if (x655000.length : Int) = 1 then (if 0 < (x655000.length : Int) then (some (IntKind.u64.wrap (rd x655000 0), IntKind.u64.wrap (rd x655001 0), true)) else (none)) else (some (0, IntKind.u64.wrap (rd x655001 0), true))) else (none))
def regattaref03_Little.f (k : Nat) (l0_0 : List Int) (l0_1 : List Int) : Option (Int × Int × Bool) := if (l0_0.length : Int) > 1 then (regattaref03_Little.j0 k true l0_0 l0_1) else (regattaref03_Little.j0 k ((l0_1.length : Int) != 1) l0_0 l0_1)
theorem regattaref03_Little.mono_l : ∀ k, (∀ y0 y1 y2, LeO (regattaref03_Little.j0 k y0 y1 y2) (regattaref03_Little.j0 (k + 1) y0 y1 y2))
  | 0 => fun _ _ _ r h => by simp [regattaref03_Little.j0] at h
  | k + 1 => by
    have ih0 := regattaref03_Little.mono_l k
    · intro y0 y1 y2
      unfold regattaref03_Little.j0
      repeat' first
      | (with_reducible exact ih0 _ _ _)
      | (with_reducible exact LeO.refl _)
      | (with_reducible exact LeO.none _)
      | (with_reducible refine LeO.ite ?_ ?_)
      | (with_reducible refine LeO.bind ?_ (fun _ => ?_))
      | exact ih0 _ _ _
      | exact LeO.none _
      | refine LeO.ite ?_ ?_
      | refine LeO.bind ?_ (fun _ => ?_)
theorem regattaref03_Little.mono : ∀ a0 a1 k, LeO (regattaref03_Little.f k a0 a1) (regattaref03_Little.f (k + 1) a0 a1) := by
  intro a0 a1 k
  have ih0 := regattaref03_Little.mono_l k
  unfold regattaref03_Little.f
  repeat' first
      | (with_reducible exact ih0 _ _ _)
      | (with_reducible exact LeO.refl _)
      | (with_reducible exact LeO.none _)
      | (with_reducible refine LeO.ite ?_ ?_)
      | (with_reducible refine LeO.bind ?_ (fun _ => ?_))
      | exact ih0 _ _ _
      | exact LeO.none _
      | refine LeO.ite ?_ ?_
      | refine LeO.bind ?_ (fun _ => ?_)
set_option maxHeartbeats 8000000 in
set_option maxRecDepth 100000 in
theorem regattaref03_Little.calls (k : Nat) (A0_0 : Option Addr) (c0_0 : Nat) (l0_0 : List Int) (A0_1 : Option Addr) (c0_1 : Nat) (l0_1 : List Int) (r1 : Int) (r2 : Int) (r3 : Bool) (w : World) (hr0_0 : Kd.C (Kd.int .u32) w A0_0 l0_0.length l0_0) (hc0_0 : l0_0.length ≤ c0_0) (hr0_1 : Kd.C (Kd.int .u32) w A0_1 l0_1.length l0_1) (hc0_1 : l0_1.length ≤ c0_1) (h : regattaref03_Little.f k l0_0 l0_1 = some (r1, r2, r3)) :
    Calls Try.prog 31 #[.agg #[.slice A0_0 l0_0.length c0_0, .slice A0_1 l0_1.length c0_1]] w fun e w' => e = .returned (.agg #[.int .u64 r1, .int .u64 r2, .bool r3]) ∧ Below w.heap.size w w' := by
  have hu45 := Try.underlying45
  have hu48 := Try.underlying48
  have HR0_0 := Aside0.mk hr0_0
  have HC0_0 := Aside0.mk hc0_0
  clear hr0_0 hc0_0
  have HR0_1 := Aside0.mk hr0_1
  have HC0_1 := Aside0.mk hc0_1
  clear hr0_1 hc0_1
  have HB := Aside0.mk (Below.refl w.heap.size w)
  have H : (if (l0_0.length : Int) > 1 then (regattaref03_Little.j0 k true l0_0 l0_1) else (regattaref03_Little.j0 k ((l0_1.length : Int) != 1) l0_0 l0_1)) = some (r1, r2, r3) := h
  clear h
  have HC2 := Aside0.mk H
  clear H
  go_enter Try.func31, Try.ntmps31
  go_upto_region 1 with (first | ((with_reducible refine gate_dst (N := 1) rfl ?_); (try (refine gate_guard (by rfl) ?_; dsimp only)); refine box_event ?hg (N := 1) ?hd (cs := #[.slice A0_0 l0_0.length c0_0, .slice A0_1 l0_1.length c0_1]) (t := 45) ?hr ?_; (case hd => rfl); (case hg => rfl); (case hr => first | (go_simp; done) | (go_simp; rfl)); intro gb654 hg w3 hbox hb; have n0_ := Aside0.mk (below_step (by repeat (first | (with_reducible first | exact HB.out | apply below_alloc | apply pw_below_drewN | apply below_drew1) | exact HB.out)) hb); have n1_ := Aside0.mk (hbox); have n2_ := Aside0.mk ((by rw [hg]; exact (below_size (by repeat (first | (with_reducible first | exact HB.out | apply below_alloc | apply pw_below_drewN | apply below_drew1) | exact HB.out))) : w.heap.size ≤ gb654)); have n3_ := Aside0.mk ((by rw [hg]; exact (below_size (by repeat (first | (with_reducible first | exact HB.out | apply below_alloc | apply pw_below_drewN | apply below_drew1) | exact HB.out))) : w.heap.size ≤ gb654)); clear HB; have HB := n0_; have BK654 := n1_; have GW654 := n2_; have GE654 := n3_; clear n0_ n1_ n2_ n3_; clear hb hbox hg) | ((with_reducible refine gate_dst (N := 2) rfl ?_); (try (refine gate_guard (by rfl) ?_; dsimp only)); refine box_event ?hg (N := 2) ?hd (cs := #[.int .u64 0, .int .u64 0, .bool false]) (t := 48) ?hr ?_; (case hd => rfl); (case hg => rfl); (case hr => first | (go_simp; done) | (go_simp; rfl)); intro gb655 hg w4 hbox hb; have n0_ := Aside0.mk (blk_below (g := gb654) (o := .cells #[.slice A0_0 l0_0.length c0_0, .slice A0_1 l0_1.length c0_1] 45 (0, 0)) (by (with_reducible repeat (first | refine blk_drewN ?_ _ | refine blk_drew ?_ | refine blk_alloc ?_ _)); exact BK654.out) hb); have n1_ := Aside0.mk (below_step (by repeat (first | (with_reducible first | exact HB.out | apply below_alloc | apply pw_below_drewN | apply below_drew1 | refine below_set ?_ GE654.out) | exact HB.out)) hb); have n2_ := Aside0.mk (hbox); have n3_ := Aside0.mk ((by rw [hg]; exact (below_size (by repeat (first | (with_reducible first | exact HB.out | apply below_alloc | apply pw_below_drewN | apply below_drew1 | refine below_set ?_ GE654.out) | exact HB.out))) : w.heap.size ≤ gb655)); have n4_ := Aside0.mk ((by rw [hg]; exact (below_size (by repeat (first | (with_reducible first | exact HB.out | apply below_alloc | apply pw_below_drewN | apply below_drew1 | refine below_set ?_ GE654.out) | exact HB.out))) : w.heap.size ≤ gb655)); have n5_ := Aside0.mk ((by rw [hg]; exact Nat.ne_of_lt (blk_lt (g := gb654) (o := .cells #[.slice A0_0 l0_0.length c0_0, .slice A0_1 l0_1.length c0_1] 45 (0, 0)) (by (with_reducible repeat (first | refine blk_drewN ?_ _ | refine blk_drew ?_ | refine blk_alloc ?_ _)); exact BK654.out)) : gb654 ≠ gb655)); have n6_ := Aside0.mk ((by rw [hg]; exact Nat.ne_of_gt (blk_lt (g := gb654) (o := .cells #[.slice A0_0 l0_0.length c0_0, .slice A0_1 l0_1.length c0_1] 45 (0, 0)) (by (with_reducible repeat (first | refine blk_drewN ?_ _ | refine blk_drew ?_ | refine blk_alloc ?_ _)); exact BK654.out)) : gb655 ≠ gb654)); clear BK654; clear HB; have BK654 := n0_; have HB := n1_; have BK655 := n2_; have GW655 := n3_; have GE655 := n4_; have NB654_655 := n5_; have NB655_654 := n6_; clear n0_ n1_ n2_ n3_ n4_ n5_ n6_; clear hb hbox hg))
  (try simp only [Act.put, List.setIfInBounds_toArray, List.set_cons_zero, List.set_cons_succ])
  go_cut [13] (fun v13 wc => ∃ (kq : Nat) (x13_1 : Bool), v13 = .bool x13_1 ∧ Aside0 (regattaref03_Little.j0 kq x13_1 l0_0 l0_1 = some (r1, r2, r3)) ∧ Aside0 (kq ≤ k) ∧ Aside0 (wc.heap[gb654]? = some (.cells #[(.slice A0_0 l0_0.length c0_0), (.slice A0_1 l0_1.length c0_1)] 45 (0, 0))) ∧ Aside0 (wc.heap[gb655]? = some (.cells #[.int .u64 0, .int .u64 0, .bool false] 48 (0, 0))) ∧ Aside0 (Below w.heap.size w wc))
  case first =>
    have H := HC2.out
    clear HC2
    by_cases c5 : (l0_0.length : Int) > 1
    · rw [if_pos c5] at H
      have c5b0 : decide (1 < (l0_0.length : Int)) = true := decide_eq_true c5
      have c5b1 : decide (1 < l0_0.length) = true := decide_eq_true (by omega)
      clear c5
      (first | rw [c5b0] | (simp only [i64_w, i32_w]; rw [c5b0]) | skip)
      have H' := Aside0.mk H
      clear H
      have hnb6 := NB654_655.out
      have hnc6 := NB655_654.out
      have hcz7_0 : w4.cell? ⟨gb654, 0, none⟩ = some (.slice A0_0 l0_0.length c0_0) := (blk_cell BK654.out 0).trans rfl
      have hcz7_1 : w4.cell? ⟨gb654, 1, none⟩ = some (.slice A0_1 l0_1.length c0_1) := (blk_cell BK654.out 1).trans rfl
      have hfz7_0 := blk_frozen BK654.out 0
      have hfz7_1 := blk_frozen BK654.out 1
      go_wp2
      go_meet
      case rel => exact ⟨_, (true), (by first | rfl | (simp; done) | (simp [*]; done)), H', ⟨by first | omega | exact Nat.le_refl _⟩, ⟨by (with_reducible repeat (first | refine blk_drewN ?_ _ | refine blk_drew ?_ | refine blk_alloc ?_ _)); exact BK654.out⟩, ⟨by (with_reducible repeat (first | refine blk_drewN ?_ _ | refine blk_drew ?_ | refine blk_alloc ?_ _)); exact BK655.out⟩, ⟨by repeat (first | (with_reducible first | exact HB.out | apply below_alloc | apply pw_below_drewN | apply below_drew1 | refine below_set ?_ GE654.out | refine below_set ?_ GE655.out) | exact HB.out)⟩⟩
    · rw [if_neg c5] at H
      have c5b0 : decide (1 < (l0_0.length : Int)) = false := decide_eq_false c5
      have c5b1 : decide (1 < l0_0.length) = false := decide_eq_false (by omega)
      clear c5
      (first | rw [c5b0] | (simp only [i64_w, i32_w]; rw [c5b0]) | skip)
      have H' := Aside0.mk H
      clear H
      have hnb8 := NB654_655.out
      have hnc8 := NB655_654.out
      have hcz9_0 : w4.cell? ⟨gb654, 0, none⟩ = some (.slice A0_0 l0_0.length c0_0) := (blk_cell BK654.out 0).trans rfl
      have hcz9_1 : w4.cell? ⟨gb654, 1, none⟩ = some (.slice A0_1 l0_1.length c0_1) := (blk_cell BK654.out 1).trans rfl
      have hfz9_0 := blk_frozen BK654.out 0
      have hfz9_1 := blk_frozen BK654.out 1
      go_wp2
      go_meet
      case rel => exact ⟨_, (((l0_1.length : Int) != 1)), (by first | rfl | (simp; done) | (simp [*]; done)), H', ⟨by first | omega | exact Nat.le_refl _⟩, ⟨by (with_reducible repeat (first | refine blk_drewN ?_ _ | refine blk_drew ?_ | refine blk_alloc ?_ _)); exact BK654.out⟩, ⟨by (with_reducible repeat (first | refine blk_drewN ?_ _ | refine blk_drew ?_ | refine blk_alloc ?_ _)); exact BK655.out⟩, ⟨by repeat (first | (with_reducible first | exact HB.out | apply below_alloc | apply pw_below_drewN | apply below_drew1 | refine below_set ?_ GE654.out | refine below_set ?_ GE655.out) | exact HB.out)⟩⟩
  case rest =>
    clear HC2
    try clear p2
    try clear c3
    try clear c5
    try clear c5b0
    try clear c5b1
    try clear c6
    try clear c8
    try clear hcz7_0
    try clear hcz7_1
    try clear hcz9_0
    try clear hcz9_1
    try clear hfz7_0
    try clear hfz7_1
    try clear hfz9_0
    try clear hfz9_1
    obtain ⟨kq, x13_1, rfl, HA, HJ1, BK654, BK655, HB⟩ := hcut
    cases kq with
    | zero => exact absurd HA.out (by simp [regattaref03_Little.j0])
    | succ kj1 =>
      have H := HA.out
      clear HA
      simp only [regattaref03_Little.j0] at H
      by_cases c10 : x13_1 = true
      · subst c10
        have H1 : (some (0, 0, false)) = some (r1, r2, r3) := by rw [if_pos rfl] at H; exact H
        clear H
        have H := H1
        clear H1
        simp only [Option.some.injEq, Prod.mk.injEq] at H
        obtain ⟨rfl, rfl, rfl⟩ := H
        have hnb11 := NB655_654.out
        have hnc11 := NB654_655.out
        have hcz12_0 : wc.cell? ⟨gb655, 0, none⟩ = some (.int .u64 0) := (blk_cell BK655.out 0).trans rfl
        have hcz12_1 : wc.cell? ⟨gb655, 1, none⟩ = some (.int .u64 0) := (blk_cell BK655.out 1).trans rfl
        have hcz12_2 : wc.cell? ⟨gb655, 2, none⟩ = some (.bool false) := (blk_cell BK655.out 2).trans rfl
        have hfz12_0 := blk_frozen BK655.out 0
        have hfz12_1 := blk_frozen BK655.out 1
        have hfz12_2 := blk_frozen BK655.out 2
        go_wp2
        refine bodyPost_ret (results_cell_row rfl _ _ gb655 48 #[.int .u64 0, .int .u64 0, .bool false] (0, 0) _ rfl (by (with_reducible repeat (first | refine blk_drewN ?_ _ | refine blk_drew ?_ | refine blk_alloc ?_ _)); refine blk_put (cs := #[.int .u64 0, .int .u64 0, .bool false]) ?_ 2 _ rfl; (with_reducible repeat (first | refine blk_drewN ?_ _ | refine blk_drew ?_ | refine blk_alloc ?_ _)); refine blk_put (cs := #[.int .u64 0, .int .u64 0, .bool false]) ?_ 1 _ rfl; (with_reducible repeat (first | refine blk_drewN ?_ _ | refine blk_drew ?_ | refine blk_alloc ?_ _)); refine blk_put (cs := #[.int .u64 0, .int .u64 0, .bool false]) ?_ 0 _ rfl; (with_reducible repeat (first | refine blk_drewN ?_ _ | refine blk_drew ?_ | refine blk_alloc ?_ _)); exact BK655.out) Try.underlying48 rfl (by kernel_rfl)) rfl ?_
        exact ⟨by first | rfl | (simp [errW_none, errW_some] <;> rfl) | (simp [*, errW_none, errW_some] <;> rfl), by repeat (first | (with_reducible first | exact HB.out | apply below_alloc | apply pw_below_drewN | apply below_drew1 | refine below_set ?_ GE654.out | refine below_set ?_ GE655.out) | exact HB.out)⟩
      · replace c10 := Bool.eq_false_iff.mpr c10
        subst c10
        have H1 : (if 0 < (l0_1.length : Int) then (if (l0_0.length : Int) = 1 then (if 0 < (l0_0.length : Int) then (some (IntKind.u64.wrap (rd l0_0 0), IntKind.u64.wrap (rd l0_1 0), true)) else (none)) else (some (0, IntKind.u64.wrap (rd l0_1 0), true))) else (none)) = some (r1, r2, r3) := by rw [if_neg (show ¬ (false = true) by decide)] at H; exact H
        clear H
        have H := H1
        clear H1
        by_cases c13 : 0 < (l0_1.length : Int)
        · rw [if_pos c13] at H
          have c13b0 : decide (0 < (l0_1.length : Int)) = true := decide_eq_true c13
          have c13b1 : decide (0 < l0_1.length) = true := decide_eq_true (by omega)
          clear c13
          by_cases c14 : (l0_0.length : Int) = 1
          · rw [if_pos c14] at H
            have c14b0 : ((l0_0.length : Int) == 1) = true := beq_iff_eq.mpr c14
            have c14b1 : ((l0_0.length : Int) != 1) = false := bne_eq_false_iff_eq.mpr c14
            clear c14
            by_cases c15 : 0 < (l0_0.length : Int)
            · rw [if_pos c15] at H
              have c15b0 : decide (0 < (l0_0.length : Int)) = true := decide_eq_true c15
              have c15b1 : decide (0 < l0_0.length) = true := decide_eq_true (by omega)
              clear c15
              simp only [Option.some.injEq, Prod.mk.injEq] at H
              obtain ⟨rfl, rfl, rfl⟩ := H
              have hnb16 := NB654_655.out
              have hnc16 := NB655_654.out
              have hcz17_0 : wc.cell? ⟨gb654, 0, none⟩ = some (.slice A0_0 l0_0.length c0_0) := (blk_cell BK654.out 0).trans rfl
              have hcz17_1 : wc.cell? ⟨gb654, 1, none⟩ = some (.slice A0_1 l0_1.length c0_1) := (blk_cell BK654.out 1).trans rfl
              have hfz17_0 := blk_frozen BK654.out 0
              have hfz17_1 := blk_frozen BK654.out 1
              have p656 : 0 ≤ (0 : Int) := (by omega)
              have q656 : 0 < (l0_1.length : Int) := of_decide_eq_true (by first | (with_reducible assumption) | assumption)
              obtain ⟨ad656, e656, hx656_0⟩ := Kd.at_int HR0_1.out 0 p656 q656
              cases e656
              have qi656 : (0 < l0_1.length) = True := eq_true (by omega)
              (try rw [show ((0 : Int)).toNat = 0 from rfl] at hx656_0)
              (try rw [Addr.add_zero'] at hx656_0)
              replace hx656_0 := (HB.out.cell (World.block_lt_of_cell? w _ hx656_0)).trans hx656_0
              replace p656 := eq_true p656
              replace q656 := eq_true q656
              go_wp2_with (first | ((with_reducible refine gate_dst (N := 3) rfl ?_); (try (refine gate_guard (by rfl) ?_; dsimp only)); refine box_event ?hg (N := 3) ?hd (cs := #[.int .u64 0, .int .u64 0, .bool false]) (t := 48) ?hr ?_; (case hd => rfl); (case hg => rfl); (case hr => first | (go_simp; done) | (go_simp; rfl)); intro gb657 hg w18 hbox hb; have n0_ := Aside0.mk (blk_below (g := gb654) (o := .cells #[.slice A0_0 l0_0.length c0_0, .slice (some ad656) l0_1.length c0_1] 45 (0, 0)) (by (with_reducible repeat (first | refine blk_drewN ?_ _ | refine blk_drew ?_ | refine blk_alloc ?_ _)); exact BK654.out) hb); have n1_ := Aside0.mk (blk_below (g := gb655) (o := .cells #[.int .u64 0, .int .u64 0, .bool false] 48 (0, 0)) (by (with_reducible repeat (first | refine blk_drewN ?_ _ | refine blk_drew ?_ | refine blk_alloc ?_ _)); exact BK655.out) hb); have n2_ := Aside0.mk (below_step (by repeat (first | (with_reducible first | exact HB.out | apply below_alloc | apply pw_below_drewN | apply below_drew1 | refine below_set ?_ GE654.out | refine below_set ?_ GE655.out) | exact HB.out)) hb); have n3_ := Aside0.mk (hbox); have n4_ := Aside0.mk ((by rw [hg]; exact (below_size (by repeat (first | (with_reducible first | exact HB.out | apply below_alloc | apply pw_below_drewN | apply below_drew1 | refine below_set ?_ GE654.out | refine below_set ?_ GE655.out) | exact HB.out))) : w.heap.size ≤ gb657)); have n5_ := Aside0.mk ((by rw [hg]; exact (below_size (by repeat (first | (with_reducible first | exact HB.out | apply below_alloc | apply pw_below_drewN | apply below_drew1 | refine below_set ?_ GE654.out | refine below_set ?_ GE655.out) | exact HB.out))) : w.heap.size ≤ gb657)); have n6_ := Aside0.mk ((by rw [hg]; exact Nat.ne_of_lt (blk_lt (g := gb654) (o := .cells #[.slice A0_0 l0_0.length c0_0, .slice (some ad656) l0_1.length c0_1] 45 (0, 0)) (by (with_reducible repeat (first | refine blk_drewN ?_ _ | refine blk_drew ?_ | refine blk_alloc ?_ _)); exact BK654.out)) : gb654 ≠ gb657)); have n7_ := Aside0.mk ((by rw [hg]; exact Nat.ne_of_gt (blk_lt (g := gb654) (o := .cells #[.slice A0_0 l0_0.length c0_0, .slice (some ad656) l0_1.length c0_1] 45 (0, 0)) (by (with_reducible repeat (first | refine blk_drewN ?_ _ | refine blk_drew ?_ | refine blk_alloc ?_ _)); exact BK654.out)) : gb657 ≠ gb654)); have n8_ := Aside0.mk ((by rw [hg]; exact Nat.ne_of_lt (blk_lt (g := gb655) (o := .cells #[.int .u64 0, .int .u64 0, .bool false] 48 (0, 0)) (by (with_reducible repeat (first | refine blk_drewN ?_ _ | refine blk_drew ?_ | refine blk_alloc ?_ _)); exact BK655.out)) : gb655 ≠ gb657)); have n9_ := Aside0.mk ((by rw [hg]; exact Nat.ne_of_gt (blk_lt (g := gb655) (o := .cells #[.int .u64 0, .int .u64 0, .bool false] 48 (0, 0)) (by (with_reducible repeat (first | refine blk_drewN ?_ _ | refine blk_drew ?_ | refine blk_alloc ?_ _)); exact BK655.out)) : gb657 ≠ gb655)); clear BK654; clear BK655; clear HB; have BK654 := n0_; have BK655 := n1_; have HB := n2_; have BK657 := n3_; have GW657 := n4_; have GE657 := n5_; have NB654_657 := n6_; have NB657_654 := n7_; have NB655_657 := n8_; have NB657_655 := n9_; clear n0_ n1_ n2_ n3_ n4_ n5_ n6_ n7_ n8_ n9_; clear hb hbox hg; have hnb19 := NB657_654.out; have hnc19 := NB654_657.out; have hnb20 := NB657_655.out; have hnc20 := NB655_657.out; have hcz21_0 : w18.cell? ⟨gb657, 0, none⟩ = some (.int .u64 0) := (blk_cell BK657.out 0).trans rfl; have hcz21_1 : w18.cell? ⟨gb657, 1, none⟩ = some (.int .u64 0) := (blk_cell BK657.out 1).trans rfl; have hcz21_2 : w18.cell? ⟨gb657, 2, none⟩ = some (.bool false) := (blk_cell BK657.out 2).trans rfl; have hfz21_0 := blk_frozen BK657.out 0; have hfz21_1 := blk_frozen BK657.out 1; have hfz21_2 := blk_frozen BK657.out 2; have hcz22_0 : w18.cell? ⟨gb654, 0, none⟩ = some (.slice A0_0 l0_0.length c0_0) := (blk_cell BK654.out 0).trans rfl; have hcz22_1 : w18.cell? ⟨gb654, 1, none⟩ = some (.slice (some ad656) l0_1.length c0_1) := (blk_cell BK654.out 1).trans rfl; have hfz22_0 := blk_frozen BK654.out 0; have hfz22_1 := blk_frozen BK654.out 1; have p658 : 0 ≤ (0 : Int) := (by omega); have q658 : 0 < (l0_0.length : Int) := of_decide_eq_true (by first | (with_reducible assumption) | assumption); obtain ⟨ad658, e658, hx658_0⟩ := Kd.at_int HR0_0.out 0 p658 q658; cases e658; have qi658 : (0 < l0_0.length) = True := eq_true (by omega); (try rw [show ((0 : Int)).toNat = 0 from rfl] at hx658_0); (try rw [Addr.add_zero'] at hx658_0); have hn658_0 : ad658.block ≠ gb657 := Nat.ne_of_lt (Nat.lt_of_lt_of_le (by have := World.block_lt_of_cell? _ _ hx658_0; first | rwa [add_block] at this | exact this) GW657.out); have hn658_1 : ad658.block ≠ gb657 := Nat.ne_of_lt (Nat.lt_of_lt_of_le (by have := World.block_lt_of_cell? _ _ hx658_0; first | rwa [add_block] at this | exact this) GW657.out); have hn658_2 : ad658.block ≠ gb657 := Nat.ne_of_lt (Nat.lt_of_lt_of_le (by have := World.block_lt_of_cell? _ _ hx658_0; first | rwa [add_block] at this | exact this) GW657.out); replace hx658_0 := (HB.out.cell (World.block_lt_of_cell? w _ hx658_0)).trans hx658_0; replace hx658_0 := (cell_far (p := ⟨gb657, 0, none⟩) (by first | (rw [add_block]; exact hn658_0) | (show (Addr.add _ _).block ≠ _; rw [add_block]; exact hn658_0) | exact hn658_0) (.int .u64 0)).trans hx658_0; replace hx658_0 := (cell_far (p := ⟨gb657, 1, none⟩) (by first | (rw [add_block]; exact hn658_1) | (show (Addr.add _ _).block ≠ _; rw [add_block]; exact hn658_1) | exact hn658_1) (.int .u64 (IntKind.u64.wrap (rd l0_1 0)))).trans hx658_0; replace hx658_0 := (cell_far (p := ⟨gb657, 2, none⟩) (by first | (rw [add_block]; exact hn658_2) | (show (Addr.add _ _).block ≠ _; rw [add_block]; exact hn658_2) | exact hn658_2) (.bool true)).trans hx658_0; clear hn658_0; clear hn658_1; clear hn658_2; replace p658 := eq_true p658; replace q658 := eq_true q658; have hcz23_0 : w18.cell? ⟨gb655, 0, none⟩ = some (.int .u64 0) := (blk_cell BK655.out 0).trans rfl; have hcz23_1 : w18.cell? ⟨gb655, 1, none⟩ = some (.int .u64 0) := (blk_cell BK655.out 1).trans rfl; have hcz23_2 : w18.cell? ⟨gb655, 2, none⟩ = some (.bool false) := (blk_cell BK655.out 2).trans rfl; have hfz23_0 := blk_frozen BK655.out 0; have hfz23_1 := blk_frozen BK655.out 1; have hfz23_2 := blk_frozen BK655.out 2))
              refine bodyPost_ret (results_cell_row rfl _ _ gb655 48 #[.int .u64 (IntKind.u64.wrap (rd l0_0 0)), .int .u64 (IntKind.u64.wrap (rd l0_1 0)), .bool true] (0, 0) _ rfl (by (with_reducible repeat (first | refine blk_drewN ?_ _ | refine blk_drew ?_ | refine blk_alloc ?_ _)); refine blk_put (cs := #[.int .u64 (IntKind.u64.wrap (rd l0_0 0)), .int .u64 (IntKind.u64.wrap (rd l0_1 0)), .bool false]) ?_ 2 _ rfl; (with_reducible repeat (first | refine blk_drewN ?_ _ | refine blk_drew ?_ | refine blk_alloc ?_ _)); refine blk_put (cs := #[.int .u64 (IntKind.u64.wrap (rd l0_0 0)), .int .u64 0, .bool false]) ?_ 1 _ rfl; (with_reducible repeat (first | refine blk_drewN ?_ _ | refine blk_drew ?_ | refine blk_alloc ?_ _)); refine blk_put (cs := #[.int .u64 0, .int .u64 0, .bool false]) ?_ 0 _ rfl; (with_reducible repeat (first | refine blk_drewN ?_ _ | refine blk_drew ?_ | refine blk_alloc ?_ _)); refine blk_far ?_ NB655_657.out _; (with_reducible repeat (first | refine blk_drewN ?_ _ | refine blk_drew ?_ | refine blk_alloc ?_ _)); refine blk_far ?_ NB655_657.out _; (with_reducible repeat (first | refine blk_drewN ?_ _ | refine blk_drew ?_ | refine blk_alloc ?_ _)); refine blk_far ?_ NB655_657.out _; (with_reducible repeat (first | refine blk_drewN ?_ _ | refine blk_drew ?_ | refine blk_alloc ?_ _)); refine blk_far ?_ NB655_657.out _; (with_reducible repeat (first | refine blk_drewN ?_ _ | refine blk_drew ?_ | refine blk_alloc ?_ _)); exact BK655.out) Try.underlying48 rfl (by kernel_rfl)) rfl ?_
              exact ⟨by first | rfl | (simp [errW_none, errW_some] <;> rfl) | (simp [*, errW_none, errW_some] <;> rfl), by repeat (first | (with_reducible first | exact HB.out | apply below_alloc | apply pw_below_drewN | apply below_drew1 | refine below_set ?_ GE654.out | refine below_set ?_ GE655.out | refine below_set ?_ GE657.out) | exact HB.out)⟩
            · rw [if_neg c15] at H
              exact absurd H (by simp)
          · rw [if_neg c14] at H
            have c14b0 : ((l0_0.length : Int) == 1) = false := beq_eq_false_iff_ne.mpr c14
            have c14b1 : ((l0_0.length : Int) != 1) = true := bne_iff_ne.mpr c14
            simp only [Option.some.injEq, Prod.mk.injEq] at H
            obtain ⟨rfl, rfl, rfl⟩ := H
            have hnb24 := NB654_655.out
            have hnc24 := NB655_654.out
            have hcz25_0 : wc.cell? ⟨gb654, 0, none⟩ = some (.slice A0_0 l0_0.length c0_0) := (blk_cell BK654.out 0).trans rfl
            have hcz25_1 : wc.cell? ⟨gb654, 1, none⟩ = some (.slice A0_1 l0_1.length c0_1) := (blk_cell BK654.out 1).trans rfl
            have hfz25_0 := blk_frozen BK654.out 0
            have hfz25_1 := blk_frozen BK654.out 1
            have p656 : 0 ≤ (0 : Int) := (by omega)
            have q656 : 0 < (l0_1.length : Int) := of_decide_eq_true (by first | (with_reducible assumption) | assumption)
            obtain ⟨ad656, e656, hx656_0⟩ := Kd.at_int HR0_1.out 0 p656 q656
            cases e656
            have qi656 : (0 < l0_1.length) = True := eq_true (by omega)
            (try rw [show ((0 : Int)).toNat = 0 from rfl] at hx656_0)
            (try rw [Addr.add_zero'] at hx656_0)
            replace hx656_0 := (HB.out.cell (World.block_lt_of_cell? w _ hx656_0)).trans hx656_0
            replace p656 := eq_true p656
            replace q656 := eq_true q656
            go_wp2_with (first | ((with_reducible refine gate_dst (N := 3) rfl ?_); (try (refine gate_guard (by rfl) ?_; dsimp only)); refine box_event ?hg (N := 3) ?hd (cs := #[.int .u64 0, .int .u64 0, .bool false]) (t := 48) ?hr ?_; (case hd => rfl); (case hg => rfl); (case hr => first | (go_simp; done) | (go_simp; rfl)); intro gb657 hg w26 hbox hb; have n0_ := Aside0.mk (blk_below (g := gb654) (o := .cells #[.slice A0_0 l0_0.length c0_0, .slice (some ad656) l0_1.length c0_1] 45 (0, 0)) (by (with_reducible repeat (first | refine blk_drewN ?_ _ | refine blk_drew ?_ | refine blk_alloc ?_ _)); exact BK654.out) hb); have n1_ := Aside0.mk (blk_below (g := gb655) (o := .cells #[.int .u64 0, .int .u64 0, .bool false] 48 (0, 0)) (by (with_reducible repeat (first | refine blk_drewN ?_ _ | refine blk_drew ?_ | refine blk_alloc ?_ _)); exact BK655.out) hb); have n2_ := Aside0.mk (below_step (by repeat (first | (with_reducible first | exact HB.out | apply below_alloc | apply pw_below_drewN | apply below_drew1 | refine below_set ?_ GE654.out | refine below_set ?_ GE655.out) | exact HB.out)) hb); have n3_ := Aside0.mk (hbox); have n4_ := Aside0.mk ((by rw [hg]; exact (below_size (by repeat (first | (with_reducible first | exact HB.out | apply below_alloc | apply pw_below_drewN | apply below_drew1 | refine below_set ?_ GE654.out | refine below_set ?_ GE655.out) | exact HB.out))) : w.heap.size ≤ gb657)); have n5_ := Aside0.mk ((by rw [hg]; exact (below_size (by repeat (first | (with_reducible first | exact HB.out | apply below_alloc | apply pw_below_drewN | apply below_drew1 | refine below_set ?_ GE654.out | refine below_set ?_ GE655.out) | exact HB.out))) : w.heap.size ≤ gb657)); have n6_ := Aside0.mk ((by rw [hg]; exact Nat.ne_of_lt (blk_lt (g := gb654) (o := .cells #[.slice A0_0 l0_0.length c0_0, .slice (some ad656) l0_1.length c0_1] 45 (0, 0)) (by (with_reducible repeat (first | refine blk_drewN ?_ _ | refine blk_drew ?_ | refine blk_alloc ?_ _)); exact BK654.out)) : gb654 ≠ gb657)); have n7_ := Aside0.mk ((by rw [hg]; exact Nat.ne_of_gt (blk_lt (g := gb654) (o := .cells #[.slice A0_0 l0_0.length c0_0, .slice (some ad656) l0_1.length c0_1] 45 (0, 0)) (by (with_reducible repeat (first | refine blk_drewN ?_ _ | refine blk_drew ?_ | refine blk_alloc ?_ _)); exact BK654.out)) : gb657 ≠ gb654)); have n8_ := Aside0.mk ((by rw [hg]; exact Nat.ne_of_lt (blk_lt (g := gb655) (o := .cells #[.int .u64 0, .int .u64 0, .bool false] 48 (0, 0)) (by (with_reducible repeat (first | refine blk_drewN ?_ _ | refine blk_drew ?_ | refine blk_alloc ?_ _)); exact BK655.out)) : gb655 ≠ gb657)); have n9_ := Aside0.mk ((by rw [hg]; exact Nat.ne_of_gt (blk_lt (g := gb655) (o := .cells #[.int .u64 0, .int .u64 0, .bool false] 48 (0, 0)) (by (with_reducible repeat (first | refine blk_drewN ?_ _ | refine blk_drew ?_ | refine blk_alloc ?_ _)); exact BK655.out)) : gb657 ≠ gb655)); clear BK654; clear BK655; clear HB; have BK654 := n0_; have BK655 := n1_; have HB := n2_; have BK657 := n3_; have GW657 := n4_; have GE657 := n5_; have NB654_657 := n6_; have NB657_654 := n7_; have NB655_657 := n8_; have NB657_655 := n9_; clear n0_ n1_ n2_ n3_ n4_ n5_ n6_ n7_ n8_ n9_; clear hb hbox hg; have hnb27 := NB657_654.out; have hnc27 := NB654_657.out; have hnb28 := NB657_655.out; have hnc28 := NB655_657.out; have hcz29_0 : w26.cell? ⟨gb657, 0, none⟩ = some (.int .u64 0) := (blk_cell BK657.out 0).trans rfl; have hcz29_1 : w26.cell? ⟨gb657, 1, none⟩ = some (.int .u64 0) := (blk_cell BK657.out 1).trans rfl; have hcz29_2 : w26.cell? ⟨gb657, 2, none⟩ = some (.bool false) := (blk_cell BK657.out 2).trans rfl; have hfz29_0 := blk_frozen BK657.out 0; have hfz29_1 := blk_frozen BK657.out 1; have hfz29_2 := blk_frozen BK657.out 2; have hcz30_0 : w26.cell? ⟨gb654, 0, none⟩ = some (.slice A0_0 l0_0.length c0_0) := (blk_cell BK654.out 0).trans rfl; have hcz30_1 : w26.cell? ⟨gb654, 1, none⟩ = some (.slice (some ad656) l0_1.length c0_1) := (blk_cell BK654.out 1).trans rfl; have hfz30_0 := blk_frozen BK654.out 0; have hfz30_1 := blk_frozen BK654.out 1; have hcz31_0 : w26.cell? ⟨gb655, 0, none⟩ = some (.int .u64 0) := (blk_cell BK655.out 0).trans rfl; have hcz31_1 : w26.cell? ⟨gb655, 1, none⟩ = some (.int .u64 0) := (blk_cell BK655.out 1).trans rfl; have hcz31_2 : w26.cell? ⟨gb655, 2, none⟩ = some (.bool false) := (blk_cell BK655.out 2).trans rfl; have hfz31_0 := blk_frozen BK655.out 0; have hfz31_1 := blk_frozen BK655.out 1; have hfz31_2 := blk_frozen BK655.out 2))
            refine bodyPost_ret (results_cell_row rfl _ _ gb655 48 #[.int .u64 0, .int .u64 (IntKind.u64.wrap (rd l0_1 0)), .bool true] (0, 0) _ rfl (by (with_reducible repeat (first | refine blk_drewN ?_ _ | refine blk_drew ?_ | refine blk_alloc ?_ _)); refine blk_put (cs := #[.int .u64 0, .int .u64 (IntKind.u64.wrap (rd l0_1 0)), .bool false]) ?_ 2 _ rfl; (with_reducible repeat (first | refine blk_drewN ?_ _ | refine blk_drew ?_ | refine blk_alloc ?_ _)); refine blk_put (cs := #[.int .u64 0, .int .u64 0, .bool false]) ?_ 1 _ rfl; (with_reducible repeat (first | refine blk_drewN ?_ _ | refine blk_drew ?_ | refine blk_alloc ?_ _)); refine blk_put (cs := #[.int .u64 0, .int .u64 0, .bool false]) ?_ 0 _ rfl; (with_reducible repeat (first | refine blk_drewN ?_ _ | refine blk_drew ?_ | refine blk_alloc ?_ _)); refine blk_far ?_ NB655_657.out _; (with_reducible repeat (first | refine blk_drewN ?_ _ | refine blk_drew ?_ | refine blk_alloc ?_ _)); refine blk_far ?_ NB655_657.out _; (with_reducible repeat (first | refine blk_drewN ?_ _ | refine blk_drew ?_ | refine blk_alloc ?_ _)); refine blk_far ?_ NB655_657.out _; (with_reducible repeat (first | refine blk_drewN ?_ _ | refine blk_drew ?_ | refine blk_alloc ?_ _)); exact BK655.out) Try.underlying48 rfl (by kernel_rfl)) rfl ?_
            exact ⟨by first | rfl | (simp [errW_none, errW_some] <;> rfl) | (simp [*, errW_none, errW_some] <;> rfl), by repeat (first | (with_reducible first | exact HB.out | apply below_alloc | apply pw_below_drewN | apply below_drew1 | refine below_set ?_ GE654.out | refine below_set ?_ GE655.out | refine below_set ?_ GE657.out) | exact HB.out)⟩
        · rw [if_neg c13] at H
          exact absurd H (by simp)

/-! ### regattaref03_gcd: function 64 -/
def regattaref03_gcd.f : Nat → Int → Int → Option (Int)
  | 0, _, _ => none
  | k + 1, a0, a1 => if a1 = 0 then (some a0) else ((regattaref03_gcd.f k a1 (Int.tmod a0 a1)).bind fun t659 => (some t659))
theorem regattaref03_gcd.mono_l : ∀ k, (∀ y0 y1, LeO (regattaref03_gcd.f k y0 y1) (regattaref03_gcd.f (k + 1) y0 y1))
  | 0 => fun _ _ r h => by simp [regattaref03_gcd.f] at h
  | k + 1 => by
    have ih0 := regattaref03_gcd.mono_l k
    · intro y0 y1
      unfold regattaref03_gcd.f
      repeat' first
      | (with_reducible exact ih0 _ _)
      | (with_reducible exact LeO.refl _)
      | (with_reducible exact LeO.none _)
      | (with_reducible refine LeO.ite ?_ ?_)
      | (with_reducible refine LeO.bind ?_ (fun _ => ?_))
      | exact ih0 _ _
      | exact LeO.none _
      | refine LeO.ite ?_ ?_
      | refine LeO.bind ?_ (fun _ => ?_)
theorem regattaref03_gcd.mono : ∀ a0 a1 k, LeO (regattaref03_gcd.f k a0 a1) (regattaref03_gcd.f (k + 1) a0 a1) := by
  intro a0 a1 k
  have ih0 := regattaref03_gcd.mono_l k
  exact ih0 a0 a1
set_option maxHeartbeats 8000000 in
set_option maxRecDepth 100000 in
theorem regattaref03_gcd.calls (k : Nat) : ∀ (a0 : Int) (a1 : Int) (r : Int) (w : World) (h : regattaref03_gcd.f k a0 a1 = some r),
    Calls Try.prog 64 #[.int .u64 a0, .int .u64 a1] w fun e w' => e = .returned (.int .u64 r) ∧ Drawn0 w w' := by
  induction k using Nat.strongRecOn with
  | _ k ih =>
  intro a0 a1 r w h
  cases k with
  | zero => exact absurd h (by simp [regattaref03_gcd.f])
  | succ k =>
  simp only [regattaref03_gcd.f] at h
  have H : (if a1 = 0 then (some a0) else ((regattaref03_gcd.f k a1 (Int.tmod a0 a1)).bind fun t659 => (some t659))) = some r := h
  clear h
  by_cases c3 : a1 = 0
  · rw [if_pos c3] at H
    have c3b0 : (a1 == 0) = true := beq_iff_eq.mpr c3
    have c3b1 : (a1 != 0) = false := bne_eq_false_iff_eq.mpr c3
    clear c3
    obtain rfl := Option.some.inj H
    go_enter Try.func64, Try.ntmps64
    go_wp2
    go_ret
    exact ⟨by first | rfl | (simp; done) | (simp [*]; done), by repeat (first | exact Drawn0.refl _ | apply Drawn0.step)⟩
  · rw [if_neg c3] at H
    have c3b0 : (a1 == 0) = false := beq_eq_false_iff_ne.mpr c3
    have c3b1 : (a1 != 0) = true := bne_iff_ne.mpr c3
    replace H := Option.bind_eq_some_iff.mp H
    obtain ⟨t659, A40, H⟩ := H
    replace H : (some t659) = some r := H
    have A4 := Aside0.mk A40
    clear A40
    obtain rfl := Option.some.inj H
    go_enter Try.func64, Try.ntmps64
    go_wp2_with (first | ((with_reducible refine gate_callee (f := 64) rfl ?_); refine goesL_ (some 12) rfl rfl Try.func64 (by kernel_rfl) rfl #[.int .u64 a1, .int .u64 (Int.tmod a0 a1)] rfl (by (try simp only [List.map_toArray, List.map_cons, List.map_nil]); first | done | rfl | (simp only [List.length_drop, List.length_take]; rfl)) ?_; (with_reducible refine (ih k (by omega) a1 (Int.tmod a0 a1) t659 _ A4.out).mono ?_); rintro e w' ⟨rfl, ⟨nd, rfl⟩⟩; refine ⟨_, rfl, ?_⟩))
    go_ret
    exact ⟨by first | rfl | (simp; done) | (simp [*]; done), by repeat (first | exact Drawn0.refl _ | apply Drawn0.step)⟩

/-! ### regattaref03_Least: function 32 -/
def regattaref03_Least.f (k : Nat) (a0_0 : Int) (a0_1 : Int) (a0_2 : Bool) : Option (Int × Int × Bool) := (regattaref03_gcd.f k a0_0 a0_1).bind fun t662 => (if t662 = 0 then (none) else (some (IntKind.u64.wrap (Int.tdiv a0_0 t662), IntKind.u64.wrap (Int.tdiv a0_1 t662), a0_2)))
theorem regattaref03_Least.mono : ∀ a0 a1 a2 k, LeO (regattaref03_Least.f k a0 a1 a2) (regattaref03_Least.f (k + 1) a0 a1 a2) := by
  intro a0 a1 a2 k
  unfold regattaref03_Least.f
  repeat' first
      | (with_reducible exact regattaref03_gcd.mono _ _ _)
      | (with_reducible exact LeO.refl _)
      | (with_reducible exact LeO.none _)
      | (with_reducible refine LeO.ite ?_ ?_)
      | (with_reducible refine LeO.bind ?_ (fun _ => ?_))
      | exact regattaref03_gcd.mono _ _ _
      | exact LeO.none _
      | refine LeO.ite ?_ ?_
      | refine LeO.bind ?_ (fun _ => ?_)
def regattaref03_Least.T2 : Bool × List (List Nat × List Nat) := (true, [([], []), ([0], [0]), ([], []), ([1, 2], [1, 2]), ([], []), ([4], [4]), ([], []), ([5, 6], [5, 6]), ([], []), ([8], [8]), ([3, 7, 9], [3, 7, 9]), ([10, 0, 1, 2, 3, 4, 5, 6, 7, 8, 9, 10], [10])])
def regattaref03_Least.B2 : List Nat := [0, 1, 0, 7, 0, 16, 0, 112, 0, 256, 1023, 2047]
theorem regattaref03_Least.tab2 : rtab .any (opsOf Try.f32 2) = regattaref03_Least.T2 := by kernel_rfl
theorem regattaref03_Least.bits2 : waitsOk regattaref03_Least.T2.2 regattaref03_Least.B2 = true := by kernel_rfl
set_option maxHeartbeats 8000000 in
set_option maxRecDepth 100000 in
theorem regattaref03_Least.calls (k : Nat) (a0_0 : Int) (a0_1 : Int) (a0_2 : Bool) (r1 : Int) (r2 : Int) (r3 : Bool) (w : World) (h : regattaref03_Least.f k a0_0 a0_1 a0_2 = some (r1, r2, r3)) :
    Calls Try.prog 32 #[.agg #[.int .u64 a0_0, .int .u64 a0_1, .bool a0_2]] w fun e w' => e = .returned (.agg #[.int .u64 r1, .int .u64 r2, .bool r3]) ∧ Below w.heap.size w w' := by
  have hu48 := Try.underlying48
  have HB := Aside0.mk (Below.refl w.heap.size w)
  have H : ((regattaref03_gcd.f k a0_0 a0_1).bind fun t662 => (if t662 = 0 then (none) else (some (IntKind.u64.wrap (Int.tdiv a0_0 t662), IntKind.u64.wrap (Int.tdiv a0_1 t662), a0_2)))) = some (r1, r2, r3) := h
  clear h
  replace H := Option.bind_eq_some_iff.mp H
  obtain ⟨t662, A20, H⟩ := H
  replace H : (if t662 = 0 then (none) else (some (IntKind.u64.wrap (Int.tdiv a0_0 t662), IntKind.u64.wrap (Int.tdiv a0_1 t662), a0_2))) = some (r1, r2, r3) := H
  have A2 := Aside0.mk A20
  clear A20
  by_cases c3 : t662 = 0
  · rw [if_pos c3] at H
    exact absurd H (by simp)
  · rw [if_neg c3] at H
    have c3b0 : (t662 == 0) = false := beq_eq_false_iff_ne.mpr c3
    have c3b1 : (t662 != 0) = true := bne_iff_ne.mpr c3
    simp only [Option.some.injEq, Prod.mk.injEq] at H
    obtain ⟨rfl, rfl, rfl⟩ := H
    go_enter Try.func32, Try.ntmps32
    try go_wp2_with (first | ((with_reducible refine gate_dst (N := 1) rfl ?_); refine box_event ?hg (N := 1) ?hd (cs := #[.int .u64 a0_0, .int .u64 a0_1, .bool a0_2]) (t := 48) ?hr ?_; (case hd => rfl); (case hg => rfl); (case hr => first | (go_simp; done) | (go_simp; rfl)); intro gb660 hg w4 hbox hb; have n0_ := Aside0.mk (below_step (by repeat (first | (with_reducible first | exact HB.out | apply below_alloc | apply pw_below_drewN | apply below_drew1) | exact HB.out)) hb); have n1_ := Aside0.mk (hbox); have n2_ := Aside0.mk ((by rw [hg]; exact (below_size (by repeat (first | (with_reducible first | exact HB.out | apply below_alloc | apply pw_below_drewN | apply below_drew1) | exact HB.out))) : w.heap.size ≤ gb660)); have n3_ := Aside0.mk ((by rw [hg]; exact (below_size (by repeat (first | (with_reducible first | exact HB.out | apply below_alloc | apply pw_below_drewN | apply below_drew1) | exact HB.out))) : w.heap.size ≤ gb660)); clear HB; have HB := n0_; have BK660 := n1_; have GW660 := n2_; have GE660 := n3_; clear n0_ n1_ n2_ n3_; clear hb hbox hg) | ((with_reducible refine gate_dst (N := 2) rfl ?_); refine box_event ?hg (N := 2) ?hd (cs := #[.int .u64 0, .int .u64 0, .bool false]) (t := 48) ?hr ?_; (case hd => rfl); (case hg => rfl); (case hr => first | (go_simp; done) | (go_simp; rfl)); intro gb661 hg w5 hbox hb; have n0_ := Aside0.mk (blk_below (g := gb660) (o := .cells #[.int .u64 a0_0, .int .u64 a0_1, .bool a0_2] 48 (0, 0)) (by (with_reducible repeat (first | refine blk_drewN ?_ _ | refine blk_drew ?_ | refine blk_alloc ?_ _)); exact BK660.out) hb); have n1_ := Aside0.mk (below_step (by repeat (first | (with_reducible first | exact HB.out | apply below_alloc | apply pw_below_drewN | apply below_drew1 | refine below_set ?_ GE660.out) | exact HB.out)) hb); have n2_ := Aside0.mk (hbox); have n3_ := Aside0.mk ((by rw [hg]; exact (below_size (by repeat (first | (with_reducible first | exact HB.out | apply below_alloc | apply pw_below_drewN | apply below_drew1 | refine below_set ?_ GE660.out) | exact HB.out))) : w.heap.size ≤ gb661)); have n4_ := Aside0.mk ((by rw [hg]; exact (below_size (by repeat (first | (with_reducible first | exact HB.out | apply below_alloc | apply pw_below_drewN | apply below_drew1 | refine below_set ?_ GE660.out) | exact HB.out))) : w.heap.size ≤ gb661)); have n5_ := Aside0.mk ((by rw [hg]; exact Nat.ne_of_lt (blk_lt (g := gb660) (o := .cells #[.int .u64 a0_0, .int .u64 a0_1, .bool a0_2] 48 (0, 0)) (by (with_reducible repeat (first | refine blk_drewN ?_ _ | refine blk_drew ?_ | refine blk_alloc ?_ _)); exact BK660.out)) : gb660 ≠ gb661)); have n6_ := Aside0.mk ((by rw [hg]; exact Nat.ne_of_gt (blk_lt (g := gb660) (o := .cells #[.int .u64 a0_0, .int .u64 a0_1, .bool a0_2] 48 (0, 0)) (by (with_reducible repeat (first | refine blk_drewN ?_ _ | refine blk_drew ?_ | refine blk_alloc ?_ _)); exact BK660.out)) : gb661 ≠ gb660)); clear BK660; clear HB; have BK660 := n0_; have HB := n1_; have BK661 := n2_; have GW661 := n3_; have GE661 := n4_; have NB660_661 := n5_; have NB661_660 := n6_; clear n0_ n1_ n2_ n3_ n4_ n5_ n6_; clear hb hbox hg; have hnb6 := NB660_661.out; have hnc6 := NB661_660.out; have hcz7_0 : w5.cell? ⟨gb660, 0, none⟩ = some (.int .u64 a0_0) := (blk_cell BK660.out 0).trans rfl; have hcz7_1 : w5.cell? ⟨gb660, 1, none⟩ = some (.int .u64 a0_1) := (blk_cell BK660.out 1).trans rfl; have hcz7_2 : w5.cell? ⟨gb660, 2, none⟩ = some (.bool a0_2) := (blk_cell BK660.out 2).trans rfl; have hfz7_0 := blk_frozen BK660.out 0; have hfz7_1 := blk_frozen BK660.out 1; have hfz7_2 := blk_frozen BK660.out 2) | ((with_reducible refine gate_callee (f := 64) rfl ?_); refine goesL_ (some 8) rfl rfl Try.func64 (by kernel_rfl) rfl #[.int .u64 a0_0, .int .u64 a0_1] rfl (by (try simp only [List.map_toArray, List.map_cons, List.map_nil]); first | done | rfl | (simp only [List.length_drop, List.length_take]; rfl)) ?_; (with_reducible refine (regattaref03_gcd.calls k a0_0 a0_1 t662 _ A2.out).mono ?_); rintro e w' ⟨rfl, ⟨nd, rfl⟩⟩; refine ⟨_, rfl, ?_⟩; (try (rw [drewN_self w5]; generalize hq_ : World.drewN w5 _ = w5; have n0_ : Aside0 (w5.heap[gb660]? = some (.cells #[.int .u64 a0_0, .int .u64 a0_1, .bool a0_2] 48 (0, 0))) := ⟨by rw [← hq_]; exact (by (with_reducible repeat (first | refine blk_drewN ?_ _ | refine blk_drew ?_ | refine blk_alloc ?_ _)); exact BK660.out)⟩; have n1_ : Aside0 (w5.heap[gb661]? = some (.cells #[.int .u64 0, .int .u64 0, .bool false] 48 (0, 0))) := ⟨by rw [← hq_]; exact (by (with_reducible repeat (first | refine blk_drewN ?_ _ | refine blk_drew ?_ | refine blk_alloc ?_ _)); exact BK661.out)⟩; have n2_ : Aside0 (Below w.heap.size w w5) := ⟨by rw [← hq_]; exact (by repeat (first | (with_reducible first | exact HB.out | apply below_alloc | apply pw_below_drewN | apply below_drew1 | refine below_set ?_ GE660.out | refine below_set ?_ GE661.out) | exact HB.out))⟩; clear BK660 BK661 HB hq_; have BK660 := n0_; have BK661 := n1_; have HB := n2_; clear n0_ n1_ n2_))))
    have n0_ := Aside0.mk (blk_drew BK660.out)
    have n1_ := Aside0.mk (blk_drew BK661.out)
    have n2_ := Aside0.mk (below_drew1 HB.out)
    clear BK660
    clear BK661
    clear HB
    have BK660 := n0_
    have BK661 := n1_
    have HB := n2_
    clear n0_ n1_ n2_
    refine start_ (n := 12) (S := fun w' => w'.cell? ⟨gb660, 0, none⟩ = some (.int .u64 a0_0) ∧ w'.cell? ⟨gb660, 1, none⟩ = some (.int .u64 a0_1) ∧ w'.cell? ⟨gb660, 2, none⟩ = some (.bool a0_2)) (ds := []) #[false, false, false, false, false, false, false, false, false, false, false, false] (by kernel_rfl) rfl rfl ⟨(blk_cell BK660.out 0).trans rfl, (blk_cell BK660.out 1).trans rfl, (blk_cell BK660.out 2).trans rfl⟩ (fun hHeld => ?_); refine with_tabW regattaref03_Least.tab2 regattaref03_Least.bits2 (fun HT_ HW_ => ?_)
    generalize w5.drew = w8 at BK660 BK661 HB hHeld ⊢
    refine pure_ (i := 0) (N := some 9) (v := ?_) (a' := ?_) #[true, false, false, false, false, false, false, false, false, false, false, false] rfl rfl (any_of HT_.out (by kernel_rfl)) (fun _ _ _ h => h) (Or.inl ⟨by rfl, ?_⟩) ?_ ?_
    rotate_left
    · intro w'
      go_simp
      with_reducible rfl
    rotate_left
    · simp only [Act.put, List.setIfInBounds_toArray, List.set_cons_zero, List.set_cons_succ, i64_w, i32_w]
      rfl
    refine pure_ (i := 2) (N := some 11) (v := ?_) (a' := ?_) #[true, false, true, false, false, false, false, false, false, false, false, false] rfl rfl (any_of HT_.out (by kernel_rfl)) (fun _ _ _ h => h) (Or.inl ⟨by rfl, ?_⟩) ?_ ?_
    rotate_left
    · intro w'
      go_simp
      with_reducible rfl
    rotate_left
    · simp only [Act.put, List.setIfInBounds_toArray, List.set_cons_zero, List.set_cons_succ, i64_w, i32_w]
      rfl
    refine pure_ (i := 4) (N := some 13) (v := ?_) (a' := ?_) #[true, false, true, false, true, false, false, false, false, false, false, false] rfl rfl (any_of HT_.out (by kernel_rfl)) (fun _ _ _ h => h) (Or.inl ⟨by rfl, ?_⟩) ?_ ?_
    rotate_left
    · intro w'
      go_simp
      with_reducible rfl
    rotate_left
    · simp only [Act.put, List.setIfInBounds_toArray, List.set_cons_zero, List.set_cons_succ, i64_w, i32_w]
      rfl
    refine pure_ (i := 6) (N := some 15) (v := ?_) (a' := ?_) #[true, false, true, false, true, false, true, false, false, false, false, false] rfl rfl (any_of HT_.out (by kernel_rfl)) (fun _ _ _ h => h) (Or.inl ⟨by rfl, ?_⟩) ?_ ?_
    rotate_left
    · intro w'
      go_simp
      with_reducible rfl
    rotate_left
    · simp only [Act.put, List.setIfInBounds_toArray, List.set_cons_zero, List.set_cons_succ, i64_w, i32_w]
      rfl
    refine pure_ (i := 8) (N := some 17) (v := ?_) (a' := ?_) #[true, false, true, false, true, false, true, false, true, false, false, false] rfl rfl (any_of HT_.out (by kernel_rfl)) (fun _ _ _ h => h) (Or.inl ⟨by rfl, ?_⟩) ?_ ?_
    rotate_left
    · intro w'
      go_simp
      with_reducible rfl
    rotate_left
    · simp only [Act.put, List.setIfInBounds_toArray, List.set_cons_zero, List.set_cons_succ, i64_w, i32_w]
      rfl
    refine take_ (i := 1) (N := some 10) (v := ?_) (a' := ?_) #[true, true, true, false, true, false, true, false, true, false, false, false] rfl rfl (take_ofW HT_.out HW_.out (by kernel_rfl)) (fun _ _ _ h => h) (Or.inl ⟨by rfl, ?_⟩) hHeld ?_ ?_
    rotate_left
    · rintro w' ⟨s0, s1, s2⟩
      go_simp
      with_reducible rfl
    rotate_left
    · simp only [Act.put, List.setIfInBounds_toArray, List.set_cons_zero, List.set_cons_succ, i64_w, i32_w]
      rfl
    refine pure_ (i := 3) (N := some 12) (v := ?_) (a' := ?_) #[true, true, true, true, true, false, true, false, true, false, false, false] rfl rfl (any_of HT_.out (by kernel_rfl)) (fun _ _ _ h => h) (Or.inl ⟨by rfl, ?_⟩) ?_ ?_
    rotate_left
    · intro w'
      go_simp
      with_reducible rfl
    rotate_left
    · simp only [Act.put, List.setIfInBounds_toArray, List.set_cons_zero, List.set_cons_succ, i64_w, i32_w]
      rfl
    refine take_ (i := 5) (N := some 14) (v := ?_) (a' := ?_) #[true, true, true, true, true, true, true, false, true, false, false, false] rfl rfl (take_ofW HT_.out HW_.out (by kernel_rfl)) (fun _ _ _ h => h) (Or.inl ⟨by rfl, ?_⟩) hHeld ?_ ?_
    rotate_left
    · rintro w' ⟨s0, s1, s2⟩
      go_simp
      with_reducible rfl
    rotate_left
    · simp only [Act.put, List.setIfInBounds_toArray, List.set_cons_zero, List.set_cons_succ, i64_w, i32_w]
      rfl
    refine pure_ (i := 7) (N := some 16) (v := ?_) (a' := ?_) #[true, true, true, true, true, true, true, true, true, false, false, false] rfl rfl (any_of HT_.out (by kernel_rfl)) (fun _ _ _ h => h) (Or.inl ⟨by rfl, ?_⟩) ?_ ?_
    rotate_left
    · intro w'
      go_simp
      with_reducible rfl
    rotate_left
    · simp only [Act.put, List.setIfInBounds_toArray, List.set_cons_zero, List.set_cons_succ, i64_w, i32_w]
      rfl
    refine take_ (i := 9) (N := some 18) (v := ?_) (a' := ?_) #[true, true, true, true, true, true, true, true, true, true, false, false] rfl rfl (take_ofW HT_.out HW_.out (by kernel_rfl)) (fun _ _ _ h => h) (Or.inl ⟨by rfl, ?_⟩) hHeld ?_ ?_
    rotate_left
    · rintro w' ⟨s0, s1, s2⟩
      go_simp
      with_reducible rfl
    rotate_left
    · simp only [Act.put, List.setIfInBounds_toArray, List.set_cons_zero, List.set_cons_succ, i64_w, i32_w]
      rfl
    refine pure_ (i := 10) (N := some 19) (v := ?_) (a' := ?_) #[true, true, true, true, true, true, true, true, true, true, true, false] rfl rfl (any_of HT_.out (by kernel_rfl)) (fun _ _ _ h => h) (Or.inl ⟨by rfl, ?_⟩) ?_ ?_
    rotate_left
    · intro w'
      go_simp
      with_reducible rfl
    rotate_left
    · simp only [Act.put, List.setIfInBounds_toArray, List.set_cons_zero, List.set_cons_succ, i64_w, i32_w]
      rfl
    refine one_ (i := 11) (N := none) #[true, true, true, true, true, true, true, true, true, true, true, true] rfl rfl (one_of HT_.out (by kernel_rfl)) (by decide) (fun K hK => ?_)
    have hs9 : w8.cell? ⟨gb661, 0, none⟩ = some (.int .u64 0) := (blk_cell BK661.out 0).trans rfl
    have hfs9 := blk_frozen BK661.out 0
    have hns9_0 := NB660_661.out
    have hms9_0 := NB661_660.out
    have hs10 : w8.cell? ⟨gb661, 1, none⟩ = some (.int .u64 0) := (blk_cell BK661.out 1).trans rfl
    have hfs10 := blk_frozen BK661.out 1
    have hns10_0 := NB660_661.out
    have hms10_0 := NB661_660.out
    have hs11 : w8.cell? ⟨gb661, 2, none⟩ = some (.bool false) := (blk_cell BK661.out 2).trans rfl
    have hfs11 := blk_frozen BK661.out 2
    have hns11_0 := NB660_661.out
    have hms11_0 := NB661_660.out
    refine skip_ (w1 := ?_) (by rfl) rfl ?_ ?_
    rotate_left
    · go_simp
      rfl
    refine hK.out _ _ ⟨((cell_far (p := ⟨gb661, _, none⟩) NB660_661.out _).trans (((cell_far (p := ⟨gb661, _, none⟩) NB660_661.out _).trans (((cell_far (p := ⟨gb661, _, none⟩) NB660_661.out _).trans (hHeld.1)))))), ((cell_far (p := ⟨gb661, _, none⟩) NB660_661.out _).trans (((cell_far (p := ⟨gb661, _, none⟩) NB660_661.out _).trans (((cell_far (p := ⟨gb661, _, none⟩) NB660_661.out _).trans (hHeld.2.1)))))), ((cell_far (p := ⟨gb661, _, none⟩) NB660_661.out _).trans (((cell_far (p := ⟨gb661, _, none⟩) NB660_661.out _).trans (((cell_far (p := ⟨gb661, _, none⟩) NB660_661.out _).trans (hHeld.2.2))))))⟩ (fun hHeld => ?_)
    clear hK K
    refine done_ (done_of HT_.out (by kernel_rfl)) ?_
    try go_wp2
    refine bodyPost_ret (results_cell_row rfl _ _ gb661 48 #[.int .u64 (IntKind.u64.wrap (Int.tdiv a0_0 t662)), .int .u64 (IntKind.u64.wrap (Int.tdiv a0_1 t662)), .bool a0_2] (0, 0) _ rfl (by (with_reducible repeat (first | refine blk_drewN ?_ _ | refine blk_drew ?_ | refine blk_alloc ?_ _)); refine blk_put (cs := #[.int .u64 (IntKind.u64.wrap (Int.tdiv a0_0 t662)), .int .u64 (IntKind.u64.wrap (Int.tdiv a0_1 t662)), .bool false]) ?_ 2 _ rfl; (with_reducible repeat (first | refine blk_drewN ?_ _ | refine blk_drew ?_ | refine blk_alloc ?_ _)); refine blk_put (cs := #[.int .u64 (IntKind.u64.wrap (Int.tdiv a0_0 t662)), .int .u64 0, .bool false]) ?_ 1 _ rfl; (with_reducible repeat (first | refine blk_drewN ?_ _ | refine blk_drew ?_ | refine blk_alloc ?_ _)); refine blk_put (cs := #[.int .u64 0, .int .u64 0, .bool false]) ?_ 0 _ rfl; (with_reducible repeat (first | refine blk_drewN ?_ _ | refine blk_drew ?_ | refine blk_alloc ?_ _)); exact BK661.out) Try.underlying48 rfl (by kernel_rfl)) rfl ?_
    exact ⟨by first | rfl | (simp [errW_none, errW_some] <;> rfl) | (simp [*, errW_none, errW_some] <;> rfl), by repeat (first | (with_reducible first | exact HB.out | apply below_alloc | apply pw_below_drewN | apply below_drew1 | refine below_set ?_ GE660.out | refine below_set ?_ GE661.out) | exact HB.out)⟩

/-! ### regattaref02_Text: function 33 -/
def regattaref02_Text.l0 : Nat → List Int → ByteArray → Int → Option (ByteArray)
  | 0, _, _, _ => none
  | k + 1, x3, x4, x5 => if x5 ≥ 0 then (if 0 ≤ x5 then (if x5 < (x3.length : Int) then ((some (([(wrap64 (48 + (rd x3 x5))) % 256] : List Int) : List Int)).bind fun y667 => (if x4.size + (strOfNums y667).size ≤ 9223372036854775807 then (regattaref02_Text.l0 k x3 (x4 ++ (strOfNums y667)) (wrap64 (x5 - 1))) else (none))) else (none)) else (none)) else (some x4)
def regattaref02_Text.f (k : Nat) (l0 : List Int) : Option (ByteArray) := (regattaref02_FromLimbs.f k l0).bind fun t663 => (if (t663.length : Int) = 0 then (some (⟨#[48]⟩ : ByteArray)) else (regattaref02_Text.l0 k t663 (⟨#[]⟩ : ByteArray) (wrap64 ((t663.length : Int) - 1))))
theorem regattaref02_Text.mono_l : ∀ k, (∀ y0 y1 y2, LeO (regattaref02_Text.l0 k y0 y1 y2) (regattaref02_Text.l0 (k + 1) y0 y1 y2))
  | 0 => fun _ _ _ r h => by simp [regattaref02_Text.l0] at h
  | k + 1 => by
    have ih0 := regattaref02_Text.mono_l k
    · intro y0 y1 y2
      unfold regattaref02_Text.l0
      repeat' first
      | (with_reducible exact ih0 _ _ _)
      | (with_reducible exact regattaref02_FromLimbs.mono _ _)
      | (with_reducible exact LeO.refl _)
      | (with_reducible exact LeO.none _)
      | (with_reducible refine LeO.ite ?_ ?_)
      | (with_reducible refine LeO.bind ?_ (fun _ => ?_))
      | exact ih0 _ _ _
      | exact regattaref02_FromLimbs.mono _ _
      | exact LeO.none _
      | refine LeO.ite ?_ ?_
      | refine LeO.bind ?_ (fun _ => ?_)
theorem regattaref02_Text.mono : ∀ a0 k, LeO (regattaref02_Text.f k a0) (regattaref02_Text.f (k + 1) a0) := by
  intro a0 k
  have ih0 := regattaref02_Text.mono_l k
  unfold regattaref02_Text.f
  repeat' first
      | (with_reducible exact ih0 _ _ _)
      | (with_reducible exact regattaref02_FromLimbs.mono _ _)
      | (with_reducible exact LeO.refl _)
      | (with_reducible exact LeO.none _)
      | (with_reducible refine LeO.ite ?_ ?_)
      | (with_reducible refine LeO.bind ?_ (fun _ => ?_))
      | exact ih0 _ _ _
      | exact regattaref02_FromLimbs.mono _ _
      | exact LeO.none _
      | refine LeO.ite ?_ ?_
      | refine LeO.bind ?_ (fun _ => ?_)
set_option maxHeartbeats 8000000 in
set_option maxRecDepth 100000 in
theorem regattaref02_Text.calls (k : Nat) (A0 : Option Addr) (c0 : Nat) (l0 : List Int) (r : ByteArray) (w : World) (hr0 : Kd.C (Kd.int .u32) w A0 l0.length l0) (hc0 : l0.length ≤ c0) (h : regattaref02_Text.f k l0 = some r) :
    Calls Try.prog 33 #[.slice A0 l0.length c0] w fun e w' => e = .returned (.string r) ∧ Below w.heap.size w w' := by
  have HR0 := Aside0.mk hr0
  have HC0 := Aside0.mk hc0
  clear hr0 hc0
  have HB := Aside0.mk (Below.refl w.heap.size w)
  have H : ((regattaref02_FromLimbs.f k l0).bind fun t663 => (if (t663.length : Int) = 0 then (some (⟨#[48]⟩ : ByteArray)) else (regattaref02_Text.l0 k t663 (⟨#[]⟩ : ByteArray) (wrap64 ((t663.length : Int) - 1))))) = some r := h
  clear h
  replace H := Option.bind_eq_some_iff.mp H
  obtain ⟨t663, A20, H⟩ := H
  replace H : (if (t663.length : Int) = 0 then (some (⟨#[48]⟩ : ByteArray)) else (regattaref02_Text.l0 k t663 (⟨#[]⟩ : ByteArray) (wrap64 ((t663.length : Int) - 1)))) = some r := H
  have A2 := Aside0.mk A20
  clear A20
  by_cases c3 : (t663.length : Int) = 0
  · rw [if_pos c3] at H
    have c3b0 : ((t663.length : Int) == 0) = true := beq_iff_eq.mpr c3
    have c3b1 : ((t663.length : Int) != 0) = false := bne_eq_false_iff_eq.mpr c3
    clear c3
    obtain rfl := Option.some.inj H
    go_enter Try.func33, Try.ntmps33
    go_wp2_with (first | ((with_reducible refine gate_callee (f := 57) rfl ?_); refine goesL_ (some 7) rfl rfl Try.func57 (by kernel_rfl) rfl #[.slice A0 l0.length c0] rfl (by (try simp only [List.map_toArray, List.map_cons, List.map_nil]); first | done | rfl | (simp only [List.length_drop, List.length_take]; rfl)) ?_; (with_reducible refine (regattaref02_FromLimbs.calls k _ _ l0 t663 _ ?side1 ?side2 A2.out).mono ?_); (case side1 => repeat (first | exact HR0.out | (with_reducible refine Kd.C_alloc ?_ _) | (with_reducible refine Kd.C_drewN ?_ _) | (with_reducible refine Kd.C_drew ?_))); (case side2 => exact HC0.out); rintro e w4 ⟨v664, rfl, ho0, hb⟩; refine ⟨_, rfl, ?_⟩; have n0_ := Aside0.mk (Kd.V_lower (Kd.V_mono (ok' := fun k_ => True) ho0 (fun k_ hk_ => trivial)) (below_size (by repeat (first | (with_reducible first | exact HB.out | apply below_alloc | apply pw_below_drewN | apply below_drew1) | exact HB.out)))); have n1_ := Aside0.mk (below_step (by repeat (first | (with_reducible first | exact HB.out | apply below_alloc | apply pw_below_drewN | apply below_drew1) | exact HB.out)) hb); clear HB; have HO665 := n0_; have HB := n1_; clear n0_ n1_; (try clear hb); (try clear hb2); (try clear hk); (try clear hi); (try clear ho0); obtain ⟨Ao5, co5, eo5⟩ := Kd.V_slice HO665.out; subst eo5))
    go_ret
    exact ⟨by first | rfl | (simp [errW_none, errW_some] <;> rfl) | (simp [*, errW_none, errW_some] <;> rfl), by repeat (first | (with_reducible first | exact HB.out | apply below_alloc | apply pw_below_drewN | apply below_drew1) | exact HB.out)⟩
  · rw [if_neg c3] at H
    have c3b0 : ((t663.length : Int) == 0) = false := beq_eq_false_iff_ne.mpr c3
    have c3b1 : ((t663.length : Int) != 0) = true := bne_iff_ne.mpr c3
    have c3b2 : ¬ (t663 = []) := fun h_ => c3 (by rw [h_]; rfl)
    have H' := Aside0.mk H
    clear H
    go_enter Try.func33, Try.ntmps33
    go_wp2_with (first | ((with_reducible refine gate_callee (f := 57) rfl ?_); refine goesL_ (some 7) rfl rfl Try.func57 (by kernel_rfl) rfl #[.slice A0 l0.length c0] rfl (by (try simp only [List.map_toArray, List.map_cons, List.map_nil]); first | done | rfl | (simp only [List.length_drop, List.length_take]; rfl)) ?_; (with_reducible refine (regattaref02_FromLimbs.calls k _ _ l0 t663 _ ?side1 ?side2 A2.out).mono ?_); (case side1 => repeat (first | exact HR0.out | (with_reducible refine Kd.C_alloc ?_ _) | (with_reducible refine Kd.C_drewN ?_ _) | (with_reducible refine Kd.C_drew ?_))); (case side2 => exact HC0.out); rintro e w6 ⟨v664, rfl, ho0, hb⟩; refine ⟨_, rfl, ?_⟩; have n0_ := Aside0.mk (Kd.V_lower (Kd.V_mono (ok' := fun k_ => True) ho0 (fun k_ hk_ => trivial)) (below_size (by repeat (first | (with_reducible first | exact HB.out | apply below_alloc | apply pw_below_drewN | apply below_drew1) | exact HB.out)))); have n1_ := Aside0.mk (below_step (by repeat (first | (with_reducible first | exact HB.out | apply below_alloc | apply pw_below_drewN | apply below_drew1) | exact HB.out)) hb); clear HB; have HO665 := n0_; have HB := n1_; clear n0_ n1_; (try clear hb); (try clear hb2); (try clear hk); (try clear hi); (try clear ho0); obtain ⟨Ao7, co7, eo7⟩ := Kd.V_slice HO665.out; subst eo7))
    go_loopg [4, 5] k (fun kq v4 v5 w' => ∃ (x4_1 : ByteArray) (x5_1 : Int), v4 = .string x4_1 ∧ v5 = .int .i64 x5_1 ∧ Aside0 (regattaref02_Text.l0 kq t663 x4_1 x5_1 = some r) ∧ Aside0 (kq ≤ k) ∧ Aside0 (Kd.V (Kd.int .i64) 3 w' w.heap.size (fun _ => True) (.slice Ao7 t663.length co7) t663) ∧ Aside0 (Below w.heap.size w w'))
    case atStart => exact ⟨((⟨#[]⟩ : ByteArray)), (wrap64 ((t663.length : Int) - 1)), (by first | rfl | (simp; done) | (simp [*]; done)), (by first | rfl | (simp; done) | (simp [*]; done)), H', ⟨Nat.le_refl _⟩, ⟨by (with_reducible repeat (first | apply Kd.V_alloc | apply Kd.V_drewN | apply Kd.V_drew)); exact HO665.out⟩, ⟨by repeat (first | (with_reducible first | exact HB.out | apply below_alloc | apply pw_below_drewN | apply below_drew1) | exact HB.out)⟩⟩
    case round =>
      clear H'
      try clear p2
      try clear c3
      try clear c3b0
      try clear c3b1
      try clear c3b2
      try clear c5
      try clear p6
      obtain ⟨x4_1, x5_1, rfl, rfl, HA, HK1, HO_3, HB⟩ := hrel
      cases gk with
      | zero => exact absurd HA.out (by simp [regattaref02_Text.l0])
      | succ k1 =>
        have H := HA.out
        clear HA
        simp only [regattaref02_Text.l0] at H
        by_cases c8 : x5_1 ≥ 0
        · rw [if_pos c8] at H
          have c8b0 : decide (0 ≤ x5_1) = true := decide_eq_true c8
          clear c8
          by_cases c9 : 0 ≤ x5_1
          · rw [if_pos c9] at H
            have c9b0 : decide (0 ≤ x5_1) = true := decide_eq_true c9
            clear c9
            by_cases c10 : x5_1 < (t663.length : Int)
            · rw [if_pos c10] at H
              have c10b0 : decide (x5_1 < (t663.length : Int)) = true := decide_eq_true c10
              clear c10
              obtain ⟨y667, hy667⟩ : ∃ y_ : List Int, y_ = (([(wrap64 (48 + (rd t663 x5_1))) % 256] : List Int)) := ⟨_, rfl⟩
              replace H : (if x4_1.size + (strOfNums y667).size ≤ 9223372036854775807 then (regattaref02_Text.l0 k1 t663 (x4_1 ++ (strOfNums y667)) (wrap64 (x5_1 - 1))) else (none)) = some r := by first | (rw [hy667]; with_reducible exact H) | (have H2_ := (Option.bind_some _ _).symm.trans H; rw [hy667]; with_reducible exact H2_) | (have H2_ := (Option.bind_some _ _).symm.trans H; with_reducible exact H2_) | with_reducible exact H | (rw [hy667]; exact H) | exact H
              have Ny667 := Aside0.mk hy667
              clear hy667
              by_cases c11 : x4_1.size + (strOfNums y667).size ≤ 9223372036854775807
              · rw [if_pos c11] at H
                have c11b0 := eq_true c11
                have c11b1 : decide (x4_1.size + (strOfNums y667).size ≤ 9223372036854775807) = true := decide_eq_true c11
                try have c11b2 : (9223372036854775807 < x4_1.size + (strOfNums y667).size) = False := eq_false (Nat.not_lt.2 c11)
                have H' := Aside0.mk H
                clear H
                have p666 : 0 ≤ (x5_1 : Int) := of_decide_eq_true (by first | (with_reducible assumption) | assumption)
                have q666 : x5_1 < (t663.length : Int) := of_decide_eq_true (by first | (with_reducible assumption) | assumption)
                obtain ⟨ad666, e666, hx666_0⟩ := Kd.at_int (Kd.V_reads' HO_3.out).2.2 x5_1 p666 q666
                cases e666
                replace p666 := eq_true p666
                replace q666 := eq_true q666
                go_wp2_with (first | ((with_reducible refine gate_dst (N := 25) rfl ?_); refine Kd.R_lit (Kd.int .u8) _ 5 ?hg (N := 25) ?hd (xs := ([(wrap64 (48 + (rd t663 x5_1))) % 256] : List Int)) (inner := [.int .u8 ((wrap64 (48 + (rd t663 x5_1))) % 256)]) (ok := fun _ => True) (okp := fun _ => True) ?hr ?hp (fun _ hk => hk) trivial (Below.refl _ _) (Nat.le_refl _) (by simp) ?_; (case hd => rfl); (case hg => rfl); (case hr => first | (go_simp; done) | (go_simp; rfl)); (case hp => exact (Reps.one (show Kd.M (Kd.int .u8) _ _ _ ((wrap64 (48 + (rd t663 x5_1))) % 256) [.int .u8 ((wrap64 (48 + (rd t663 x5_1))) % 256)] from rfl) (Reps.none _ _))); intro v668 w12 ho13 hb hg_ hnew_; clear hg_ hnew_; (first | rw [← Ny667.out] at ho13 | (simp only [Int.reduceToNat] at ho13; rw [← Ny667.out] at ho13)); have n0_ := Aside0.mk (Kd.V_elder' (by (with_reducible repeat (first | apply Kd.V_alloc | apply Kd.V_drewN | apply Kd.V_drew)); exact HO_3.out) (Kd.R_base ho13) hb); have n1_ := Aside0.mk (Kd.R_lower ho13 (below_size (by repeat (first | (with_reducible first | exact HB.out | apply below_alloc | apply pw_below_drewN | apply below_drew1) | exact HB.out)))); have n2_ := Aside0.mk (below_step (by repeat (first | (with_reducible first | exact HB.out | apply below_alloc | apply pw_below_drewN | apply below_drew1) | exact HB.out)) hb); clear HO_3; clear HB; have HO_3 := n0_; have HO669 := n1_; have HB := n2_; clear n0_ n1_ n2_; clear hb ho13; have hcv14 := own_string (P := Try.prog) Try.underlying91 Try.underlying5 Try.underlying9 (Kd.own_of_R HO669.out)))
                go_roundg k1
                case measure => have := HK1.out; omega
                case rel => exact ⟨(x4_1 ++ (strOfNums y667)), (wrap64 (x5_1 - 1)), (by first | rfl | (simp; done) | (simp [*]; done)), (by first | rfl | (simp; done) | (simp [*]; done)), H', ⟨by have := HK1.out; omega⟩, ⟨by (with_reducible repeat (first | apply Kd.V_alloc | apply Kd.V_drewN | apply Kd.V_drew)); exact Kd.V_mono HO_3.out (fun _ hk => trivial)⟩, ⟨by repeat (first | (with_reducible first | exact HB.out | apply below_alloc | apply pw_below_drewN | apply below_drew1) | exact HB.out)⟩⟩
              · rw [if_neg c11] at H
                exact absurd H (by simp)
            · rw [if_neg c10] at H
              exact absurd H (by simp)
          · rw [if_neg c9] at H
            exact absurd H (by simp)
        · rw [if_neg c8] at H
          have c8b0 : decide (0 ≤ x5_1) = false := decide_eq_false c8
          clear c8
          obtain rfl := Option.some.inj H
          go_wp2
          go_ret
          exact ⟨by first | rfl | (simp [errW_none, errW_some] <;> rfl) | (simp [*, errW_none, errW_some] <;> rfl), by repeat (first | (with_reducible first | exact HB.out | apply below_alloc | apply pw_below_drewN | apply below_drew1) | exact HB.out)⟩

end Go.Proofs.Ytcfliceeablckaa.PNr
