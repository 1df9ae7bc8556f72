/- The words and walks that the law QuotaPath is proved by, part 4: each text in a section of its own. -/
import Derived.Test.YtfldklimlcnnnaaQP3
import Derived.RowKit
import Derived.Laws.BitsAllLaws
import Derived.Laws.BitsLemmas
import Derived.RangeFuncNested
import Derived.RangeFuncCalls
import Derived.RangeFuncLeaves
import Derived.Below
import Derived.Maps.OwnIn
import Derived.Maps.RangeWalk
import Derived.Maps.OwnSet
import Derived.Sort.MapsRangeIn
import Derived.Test.YtfldklimlcnnnaaProg
import Derived.BigRegion
import Derived.WalkKit
import Derived.OwnWalkIn
import Derived.TacticsInMore
import Derived.LoopNIn
import Derived.LoopIn
import Derived.Laws.IdiomStrings
import Derived.RangeFuncFrom
import Derived.Shelf.Abstract
import Derived.RangeFuncBox
import Derived.RangeFuncWrites
import Derived.RangeFuncMany
import Derived.Deep.RegionHeld3
import Derived.Deep.RegionLaw
set_option linter.unusedVariables false
set_option linter.unusedSimpArgs false
section
namespace Go.Proofs.Ytfldklimlcnnnaa.PHq
open Go.RowKit Go.Proofs.YtfldklimlcnnnaaW.PrintWords Go.Proofs.YtfldklimlcnnnaaW.PrintLast Go.Proofs.YtfldklimlcnnnaaW.PrintMore Go.Proofs.Ytfldklimlcnnnaa.MWords
attribute [local go_sem] max2_int min2_int max_two min_two max_three min_three max_four min_four   -- for this text's walks alone
def window_Check.f (a0_0 : Int) (a0_1 : Int) : Option (Bool) := if a0_0 ≥ 1 then (if a0_0 ≤ a0_1 then (some (decide (a0_1 ≤ 1048576))) else (some false)) else (some false)
set_option maxHeartbeats 8000000 in
set_option maxRecDepth 100000 in
theorem window_Check.calls (a0_0 : Int) (a0_1 : Int) (r : Bool) (w : World) (h : window_Check.f a0_0 a0_1 = some r) :
  Calls Try.prog 66 #[.agg #[.int .i64 a0_0, .int .i64 a0_1]] w fun e w' => e = .returned (.bool r) ∧ Below w.heap.size w w' := by
 have hu34 := Try.underlying34
 have HB := Aside0.mk (Below.refl w.heap.size w)
 have H : (if a0_0 ≥ 1 then (if a0_0 ≤ a0_1 then (some (decide (a0_1 ≤ 1048576))) else (some false)) else (some false)) = some r := h
 clear h
 by_cases c2 : a0_0 ≥ 1
 ·rw [if_pos c2] at H
  have c2b0 : decide (1 ≤ a0_0) = true := decide_eq_true c2
  clear c2
  by_cases c3 : a0_0 ≤ a0_1
  ·rw [if_pos c3] at H
   have c3b0 : decide (a0_0 ≤ a0_1) = true := decide_eq_true c3
   clear c3
   obtain rfl := Option.some.inj H
   go_enter Try.func66, Try.ntmps66
   go_wp2_with (first | ((with_reducible refine gate_dst (N := 1) rfl ?_); refine box_event ?hg (N := 1) ?hd (cs := #[.int .i64 a0_0, .int .i64 a0_1]) (t := 34) ?hr ?_; (case hd => rfl); (case hg => rfl); (case hr => first | (go_simp; done) | (go_simp; rfl)); intro gb197 hg w4 hbox hb; have n0_ := Aside0.mk (below_step (by repeat (first | (with_reducible first | exact HB.out | apply below_alloc | apply pw_below_drewN | apply below_drew1) | exact HB.out)) hb); have n1_ := Aside0.mk (hbox); have n2_ := Aside0.mk ((by rw [hg]; exact (below_size (by repeat (first | (with_reducible first | exact HB.out | apply below_alloc | apply pw_below_drewN | apply below_drew1) | exact HB.out))) : w.heap.size ≤ gb197)); have n3_ := Aside0.mk ((by rw [hg]; exact (below_size (by repeat (first | (with_reducible first | exact HB.out | apply below_alloc | apply pw_below_drewN | apply below_drew1) | exact HB.out))) : w.heap.size ≤ gb197)); clear HB; have HB := n0_; have BK197 := n1_; have GW197 := n2_; have GE197 := n3_; clear n0_ n1_ n2_ n3_; clear hb hbox hg; have hcz5_0 : w4.cell? ⟨gb197, 0, none⟩ = some (.int .i64 a0_0) := (blk_cell BK197.out 0).trans rfl; have hcz5_1 : w4.cell? ⟨gb197, 1, none⟩ = some (.int .i64 a0_1) := (blk_cell BK197.out 1).trans rfl; have hfz5_0 := blk_frozen BK197.out 0; have hfz5_1 := blk_frozen BK197.out 1))
   go_ret
   exact ⟨by first | rfl | (simp [errW_none, errW_some] <;> rfl) | (simp [*, errW_none, errW_some] <;> rfl), by repeat (first | (with_reducible first | exact HB.out | apply below_alloc | apply pw_below_drewN | apply below_drew1 | refine below_set ?_ GE197.out) | exact HB.out)⟩
  ·rw [if_neg c3] at H
   have c3b0 : decide (a0_0 ≤ a0_1) = false := decide_eq_false c3
   clear c3
   obtain rfl := Option.some.inj H
   go_enter Try.func66, Try.ntmps66
   go_wp2_with (first | ((with_reducible refine gate_dst (N := 1) rfl ?_); refine box_event ?hg (N := 1) ?hd (cs := #[.int .i64 a0_0, .int .i64 a0_1]) (t := 34) ?hr ?_; (case hd => rfl); (case hg => rfl); (case hr => first | (go_simp; done) | (go_simp; rfl)); intro gb197 hg w6 hbox hb; have n0_ := Aside0.mk (below_step (by repeat (first | (with_reducible first | exact HB.out | apply below_alloc | apply pw_below_drewN | apply below_drew1) | exact HB.out)) hb); have n1_ := Aside0.mk (hbox); have n2_ := Aside0.mk ((by rw [hg]; exact (below_size (by repeat (first | (with_reducible first | exact HB.out | apply below_alloc | apply pw_below_drewN | apply below_drew1) | exact HB.out))) : w.heap.size ≤ gb197)); have n3_ := Aside0.mk ((by rw [hg]; exact (below_size (by repeat (first | (with_reducible first | exact HB.out | apply below_alloc | apply pw_below_drewN | apply below_drew1) | exact HB.out))) : w.heap.size ≤ gb197)); clear HB; have HB := n0_; have BK197 := n1_; have GW197 := n2_; have GE197 := n3_; clear n0_ n1_ n2_ n3_; clear hb hbox hg; have hcz7_0 : w6.cell? ⟨gb197, 0, none⟩ = some (.int .i64 a0_0) := (blk_cell BK197.out 0).trans rfl; have hcz7_1 : w6.cell? ⟨gb197, 1, none⟩ = some (.int .i64 a0_1) := (blk_cell BK197.out 1).trans rfl; have hfz7_0 := blk_frozen BK197.out 0; have hfz7_1 := blk_frozen BK197.out 1))
   go_ret
   exact ⟨by first | rfl | (simp [errW_none, errW_some] <;> rfl) | (simp [*, errW_none, errW_some] <;> rfl), by repeat (first | (with_reducible first | exact HB.out | apply below_alloc | apply pw_below_drewN | apply below_drew1 | refine below_set ?_ GE197.out) | exact HB.out)⟩
 ·rw [if_neg c2] at H
  have c2b0 : decide (1 ≤ a0_0) = false := decide_eq_false c2
  clear c2
  obtain rfl := Option.some.inj H
  go_enter Try.func66, Try.ntmps66
  go_wp2_with (first | ((with_reducible refine gate_dst (N := 1) rfl ?_); refine box_event ?hg (N := 1) ?hd (cs := #[.int .i64 a0_0, .int .i64 a0_1]) (t := 34) ?hr ?_; (case hd => rfl); (case hg => rfl); (case hr => first | (go_simp; done) | (go_simp; rfl)); intro gb197 hg w8 hbox hb; have n0_ := Aside0.mk (below_step (by repeat (first | (with_reducible first | exact HB.out | apply below_alloc | apply pw_below_drewN | apply below_drew1) | exact HB.out)) hb); have n1_ := Aside0.mk (hbox); have n2_ := Aside0.mk ((by rw [hg]; exact (below_size (by repeat (first | (with_reducible first | exact HB.out | apply below_alloc | apply pw_below_drewN | apply below_drew1) | exact HB.out))) : w.heap.size ≤ gb197)); have n3_ := Aside0.mk ((by rw [hg]; exact (below_size (by repeat (first | (with_reducible first | exact HB.out | apply below_alloc | apply pw_below_drewN | apply below_drew1) | exact HB.out))) : w.heap.size ≤ gb197)); clear HB; have HB := n0_; have BK197 := n1_; have GW197 := n2_; have GE197 := n3_; clear n0_ n1_ n2_ n3_; clear hb hbox hg; have hcz9_0 : w8.cell? ⟨gb197, 0, none⟩ = some (.int .i64 a0_0) := (blk_cell BK197.out 0).trans rfl; have hcz9_1 : w8.cell? ⟨gb197, 1, none⟩ = some (.int .i64 a0_1) := (blk_cell BK197.out 1).trans rfl; have hfz9_0 := blk_frozen BK197.out 0; have hfz9_1 := blk_frozen BK197.out 1))
  go_ret
  exact ⟨by first | rfl | (simp [errW_none, errW_some] <;> rfl) | (simp [*, errW_none, errW_some] <;> rfl), by repeat (first | (with_reducible first | exact HB.out | apply below_alloc | apply pw_below_drewN | apply below_drew1 | refine below_set ?_ GE197.out) | exact HB.out)⟩
end Go.Proofs.Ytfldklimlcnnnaa.PHq
end

section
namespace Go.Proofs.Ytfldklimlcnnnaa.PHq
open Go.RowKit Go.Proofs.YtfldklimlcnnnaaW.PrintWords Go.Proofs.YtfldklimlcnnnaaW.PrintLast Go.Proofs.YtfldklimlcnnnaaW.PrintMore Go.Proofs.Ytfldklimlcnnnaa.MWords
attribute [local go_sem] max2_int min2_int max_two min_two max_three min_three max_four min_four   -- for this text's walks alone
end Go.Proofs.Ytfldklimlcnnnaa.PHq
end

section
namespace Go.Proofs.Ytfldklimlcnnnaa.PHq
open Go.RowKit Go.Proofs.YtfldklimlcnnnaaW.PrintWords Go.Proofs.YtfldklimlcnnnaaW.PrintLast Go.Proofs.YtfldklimlcnnnaaW.PrintMore Go.Proofs.Ytfldklimlcnnnaa.MWords
attribute [local go_sem] max2_int min2_int max_two min_two max_three min_three max_four min_four   -- for this text's walks alone
def quota_Check.l0 : Nat → List (S71) → List (S71) → Int → Int → Option (Bool)
 | 0, _, _, _, _ => none
 | k + 1, x0, x5, x6, x7 => if x7 < x6 then (if 0 ≤ x7 then (if x7 < (x5.length : Int) then (if ((rd_T71 x5 x7).f0) < (-1) then (some false) else (if ((rd_T71 x5 x7).f0) ≥ x7 then (some false) else (if ((rd_T71 x5 x7).f1.f0) < 0 then (some false) else (if ((rd_T71 x5 x7).f1.f0) > 1073741824 then (some false) else (if ((rd_T71 x5 x7).f1.f1) < 1 then (some false) else (if ((rd_T71 x5 x7).f1.f1) > 1048576 then (some false) else (quota_Check.l0 k x0 x5 x6 (wrap64 (x7 + 1))))))))) else (none)) else (none)) else (some (decide ((x0.length : Int) ≤ 16)))
def quota_Check.f (k : Nat) (l0 : List (S71)) : Option (Bool) := quota_Check.l0 k l0 l0 (l0.length : Int) 0
set_option maxHeartbeats 8000000 in
set_option maxRecDepth 100000 in
theorem quota_Check.calls (k : Nat) (A0 : Option Addr) (c0 : Nat) (l0 : List (S71)) (r : Bool) (w : World) (hr0 : Kd.C k71 w A0 l0.length l0) (hc0 : l0.length ≤ c0) (h : quota_Check.f k l0 = some r) :
  Calls Try.prog 61 #[.slice A0 l0.length c0] w fun e w' => e = .returned (.bool r) ∧ Below w.heap.size w w' := by
 have hu71 := Try.underlying71
 have HR0 := Aside0.mk hr0
 have HC0 := Aside0.mk hc0
 clear hr0 hc0
 have HB := Aside0.mk (Below.refl w.heap.size w)
 have H : (quota_Check.l0 k l0 l0 (l0.length : Int) 0) = some r := h
 clear h
 have H' := Aside0.mk H
 clear H
 go_enter Try.func61, Try.ntmps61
 go_wp2
 go_loopg [7] k (fun kq v7 w' => ∃ (x7_1 : Int), v7 = .int .i64 x7_1 ∧ Aside0 (quota_Check.l0 kq l0 l0 (l0.length : Int) x7_1 = some r) ∧ Aside0 (kq ≤ k) ∧ Aside0 (Below w.heap.size w w'))
 case atStart => exact ⟨(0), (by first | rfl | (simp; done) | (simp [*]; done)), H', ⟨Nat.le_refl _⟩, ⟨by repeat (first | (with_reducible first | exact HB.out | apply below_alloc | apply pw_below_drewN | apply below_drew1) | exact HB.out)⟩⟩
 case round =>
  clear H'
  obtain ⟨x7_1, rfl, HA, HK1, HB⟩ := hrel
  cases gk with
  | zero => exact absurd HA.out (by simp [quota_Check.l0])
  | succ k1 =>
   have H := HA.out
   clear HA
   simp only [quota_Check.l0] at H
   by_cases c2 : x7_1 < (l0.length : Int)
   ·rw [if_pos c2] at H
    have c2b0 : decide (x7_1 < (l0.length : Int)) = true := decide_eq_true c2
    clear c2
    by_cases c3 : 0 ≤ x7_1
    ·rw [if_pos c3] at H
     have c3b0 : decide (0 ≤ x7_1) = true := decide_eq_true c3
     clear c3
     by_cases c4 : x7_1 < (l0.length : Int)
     ·rw [if_pos c4] at H
      have c4b0 : decide (x7_1 < (l0.length : Int)) = true := decide_eq_true c4
      clear c4
      by_cases c5 : ((rd_T71 l0 x7_1).f0) < (-1)
      ·rw [if_pos c5] at H
       have c5b0 : decide (((rd_T71 l0 x7_1).f0) < (-1)) = true := decide_eq_true c5
       clear c5
       obtain rfl := Option.some.inj H
       have p524 : 0 ≤ (x7_1 : Int) := of_decide_eq_true (by first | (with_reducible assumption) | assumption)
       have q524 : x7_1 < (l0.length : Int) := of_decide_eq_true (by first | (with_reducible assumption) | assumption)
       obtain ⟨ad524, e524, hx524_0, hx524_1, hx524_2⟩ := at_T71 HR0.out x7_1 p524 q524
       cases e524
       replace hx524_0 := (HB.out.cell (World.block_lt_of_cell? w _ hx524_0)).trans hx524_0
       replace hx524_1 := (HB.out.cell (World.block_lt_of_cell? w _ hx524_1)).trans hx524_1
       replace hx524_2 := (HB.out.cell (World.block_lt_of_cell? w _ hx524_2)).trans hx524_2
       replace p524 := eq_true p524
       replace q524 := eq_true q524
       go_wp2_with (first | ((with_reducible refine gate_dst (N := 4) rfl ?_); refine box_event ?hg (N := 4) ?hd (cs := #[.int .i64 0, .int .i64 0, .int .i64 0]) (t := 71) ?hr ?_; (case hd => rfl); (case hg => rfl); (case hr => first | (go_simp; done) | (go_simp; rfl)); intro gb525 hg w6 hbox hb; have n0_ := Aside0.mk (below_step (by repeat (first | (with_reducible first | exact HB.out | apply below_alloc | apply pw_below_drewN | apply below_drew1) | exact HB.out)) hb); have n1_ := Aside0.mk (hbox); have n2_ := Aside0.mk ((by rw [hg]; exact (below_size (by repeat (first | (with_reducible first | exact HB.out | apply below_alloc | apply pw_below_drewN | apply below_drew1) | exact HB.out))) : w.heap.size ≤ gb525)); have n3_ := Aside0.mk ((by rw [hg]; exact (below_size (by repeat (first | (with_reducible first | exact HB.out | apply below_alloc | apply pw_below_drewN | apply below_drew1) | exact HB.out))) : w.heap.size ≤ gb525)); clear HB; have HB := n0_; have BK525 := n1_; have GW525 := n2_; have GE525 := n3_; clear n0_ n1_ n2_ n3_; clear hb hbox hg; have hcz7_0 : w6.cell? ⟨gb525, 0, none⟩ = some (.int .i64 0) := (blk_cell BK525.out 0).trans rfl; have hcz7_1 : w6.cell? ⟨gb525, 1, none⟩ = some (.int .i64 0) := (blk_cell BK525.out 1).trans rfl; have hcz7_2 : w6.cell? ⟨gb525, 2, none⟩ = some (.int .i64 0) := (blk_cell BK525.out 2).trans rfl; have hfz7_0 := blk_frozen BK525.out 0; have hfz7_1 := blk_frozen BK525.out 1; have hfz7_2 := blk_frozen BK525.out 2))
       go_ret
       exact ⟨by first | rfl | (simp [errW_none, errW_some] <;> rfl) | (simp [*, errW_none, errW_some] <;> rfl), by repeat (first | (with_reducible first | exact HB.out | apply below_alloc | apply pw_below_drewN | apply below_drew1 | refine below_set ?_ GE525.out) | exact HB.out)⟩
      ·rw [if_neg c5] at H
       have c5b0 : decide (((rd_T71 l0 x7_1).f0) < (-1)) = false := decide_eq_false c5
       clear c5
       by_cases c8 : ((rd_T71 l0 x7_1).f0) ≥ x7_1
       ·rw [if_pos c8] at H
        have c8b0 : decide (x7_1 ≤ ((rd_T71 l0 x7_1).f0)) = true := decide_eq_true c8
        clear c8
        obtain rfl := Option.some.inj H
        have p524 : 0 ≤ (x7_1 : Int) := of_decide_eq_true (by first | (with_reducible assumption) | assumption)
        have q524 : x7_1 < (l0.length : Int) := of_decide_eq_true (by first | (with_reducible assumption) | assumption)
        obtain ⟨ad524, e524, hx524_0, hx524_1, hx524_2⟩ := at_T71 HR0.out x7_1 p524 q524
        cases e524
        replace hx524_0 := (HB.out.cell (World.block_lt_of_cell? w _ hx524_0)).trans hx524_0
        replace hx524_1 := (HB.out.cell (World.block_lt_of_cell? w _ hx524_1)).trans hx524_1
        replace hx524_2 := (HB.out.cell (World.block_lt_of_cell? w _ hx524_2)).trans hx524_2
        replace p524 := eq_true p524
        replace q524 := eq_true q524
        go_wp2_with (first | ((with_reducible refine gate_dst (N := 4) rfl ?_); refine box_event ?hg (N := 4) ?hd (cs := #[.int .i64 0, .int .i64 0, .int .i64 0]) (t := 71) ?hr ?_; (case hd => rfl); (case hg => rfl); (case hr => first | (go_simp; done) | (go_simp; rfl)); intro gb525 hg w9 hbox hb; have n0_ := Aside0.mk (below_step (by repeat (first | (with_reducible first | exact HB.out | apply below_alloc | apply pw_below_drewN | apply below_drew1) | exact HB.out)) hb); have n1_ := Aside0.mk (hbox); have n2_ := Aside0.mk ((by rw [hg]; exact (below_size (by repeat (first | (with_reducible first | exact HB.out | apply below_alloc | apply pw_below_drewN | apply below_drew1) | exact HB.out))) : w.heap.size ≤ gb525)); have n3_ := Aside0.mk ((by rw [hg]; exact (below_size (by repeat (first | (with_reducible first | exact HB.out | apply below_alloc | apply pw_below_drewN | apply below_drew1) | exact HB.out))) : w.heap.size ≤ gb525)); clear HB; have HB := n0_; have BK525 := n1_; have GW525 := n2_; have GE525 := n3_; clear n0_ n1_ n2_ n3_; clear hb hbox hg; have hcz10_0 : w9.cell? ⟨gb525, 0, none⟩ = some (.int .i64 0) := (blk_cell BK525.out 0).trans rfl; have hcz10_1 : w9.cell? ⟨gb525, 1, none⟩ = some (.int .i64 0) := (blk_cell BK525.out 1).trans rfl; have hcz10_2 : w9.cell? ⟨gb525, 2, none⟩ = some (.int .i64 0) := (blk_cell BK525.out 2).trans rfl; have hfz10_0 := blk_frozen BK525.out 0; have hfz10_1 := blk_frozen BK525.out 1; have hfz10_2 := blk_frozen BK525.out 2))
        go_ret
        exact ⟨by first | rfl | (simp [errW_none, errW_some] <;> rfl) | (simp [*, errW_none, errW_some] <;> rfl), by repeat (first | (with_reducible first | exact HB.out | apply below_alloc | apply pw_below_drewN | apply below_drew1 | refine below_set ?_ GE525.out) | exact HB.out)⟩
       ·rw [if_neg c8] at H
        have c8b0 : decide (x7_1 ≤ ((rd_T71 l0 x7_1).f0)) = false := decide_eq_false c8
        clear c8
        by_cases c11 : ((rd_T71 l0 x7_1).f1.f0) < 0
        ·rw [if_pos c11] at H
         have c11b0 : decide (((rd_T71 l0 x7_1).f1.f0) < 0) = true := decide_eq_true c11
         clear c11
         obtain rfl := Option.some.inj H
         have p524 : 0 ≤ (x7_1 : Int) := of_decide_eq_true (by first | (with_reducible assumption) | assumption)
         have q524 : x7_1 < (l0.length : Int) := of_decide_eq_true (by first | (with_reducible assumption) | assumption)
         obtain ⟨ad524, e524, hx524_0, hx524_1, hx524_2⟩ := at_T71 HR0.out x7_1 p524 q524
         cases e524
         replace hx524_0 := (HB.out.cell (World.block_lt_of_cell? w _ hx524_0)).trans hx524_0
         replace hx524_1 := (HB.out.cell (World.block_lt_of_cell? w _ hx524_1)).trans hx524_1
         replace hx524_2 := (HB.out.cell (World.block_lt_of_cell? w _ hx524_2)).trans hx524_2
         replace p524 := eq_true p524
         replace q524 := eq_true q524
         go_wp2_with (first | ((with_reducible refine gate_dst (N := 4) rfl ?_); refine box_event ?hg (N := 4) ?hd (cs := #[.int .i64 0, .int .i64 0, .int .i64 0]) (t := 71) ?hr ?_; (case hd => rfl); (case hg => rfl); (case hr => first | (go_simp; done) | (go_simp; rfl)); intro gb525 hg w12 hbox hb; have n0_ := Aside0.mk (below_step (by repeat (first | (with_reducible first | exact HB.out | apply below_alloc | apply pw_below_drewN | apply below_drew1) | exact HB.out)) hb); have n1_ := Aside0.mk (hbox); have n2_ := Aside0.mk ((by rw [hg]; exact (below_size (by repeat (first | (with_reducible first | exact HB.out | apply below_alloc | apply pw_below_drewN | apply below_drew1) | exact HB.out))) : w.heap.size ≤ gb525)); have n3_ := Aside0.mk ((by rw [hg]; exact (below_size (by repeat (first | (with_reducible first | exact HB.out | apply below_alloc | apply pw_below_drewN | apply below_drew1) | exact HB.out))) : w.heap.size ≤ gb525)); clear HB; have HB := n0_; have BK525 := n1_; have GW525 := n2_; have GE525 := n3_; clear n0_ n1_ n2_ n3_; clear hb hbox hg; have hcz13_0 : w12.cell? ⟨gb525, 0, none⟩ = some (.int .i64 0) := (blk_cell BK525.out 0).trans rfl; have hcz13_1 : w12.cell? ⟨gb525, 1, none⟩ = some (.int .i64 0) := (blk_cell BK525.out 1).trans rfl; have hcz13_2 : w12.cell? ⟨gb525, 2, none⟩ = some (.int .i64 0) := (blk_cell BK525.out 2).trans rfl; have hfz13_0 := blk_frozen BK525.out 0; have hfz13_1 := blk_frozen BK525.out 1; have hfz13_2 := blk_frozen BK525.out 2))
         go_ret
         exact ⟨by first | rfl | (simp [errW_none, errW_some] <;> rfl) | (simp [*, errW_none, errW_some] <;> rfl), by repeat (first | (with_reducible first | exact HB.out | apply below_alloc | apply pw_below_drewN | apply below_drew1 | refine below_set ?_ GE525.out) | exact HB.out)⟩
        ·rw [if_neg c11] at H
         have c11b0 : decide (((rd_T71 l0 x7_1).f1.f0) < 0) = false := decide_eq_false c11
         clear c11
         by_cases c14 : ((rd_T71 l0 x7_1).f1.f0) > 1073741824
         ·rw [if_pos c14] at H
          have c14b0 : decide (1073741824 < ((rd_T71 l0 x7_1).f1.f0)) = true := decide_eq_true c14
          clear c14
          obtain rfl := Option.some.inj H
          have p524 : 0 ≤ (x7_1 : Int) := of_decide_eq_true (by first | (with_reducible assumption) | assumption)
          have q524 : x7_1 < (l0.length : Int) := of_decide_eq_true (by first | (with_reducible assumption) | assumption)
          obtain ⟨ad524, e524, hx524_0, hx524_1, hx524_2⟩ := at_T71 HR0.out x7_1 p524 q524
          cases e524
          replace hx524_0 := (HB.out.cell (World.block_lt_of_cell? w _ hx524_0)).trans hx524_0
          replace hx524_1 := (HB.out.cell (World.block_lt_of_cell? w _ hx524_1)).trans hx524_1
          replace hx524_2 := (HB.out.cell (World.block_lt_of_cell? w _ hx524_2)).trans hx524_2
          replace p524 := eq_true p524
          replace q524 := eq_true q524
          go_wp2_with (first | ((with_reducible refine gate_dst (N := 4) rfl ?_); refine box_event ?hg (N := 4) ?hd (cs := #[.int .i64 0, .int .i64 0, .int .i64 0]) (t := 71) ?hr ?_; (case hd => rfl); (case hg => rfl); (case hr => first | (go_simp; done) | (go_simp; rfl)); intro gb525 hg w15 hbox hb; have n0_ := Aside0.mk (below_step (by repeat (first | (with_reducible first | exact HB.out | apply below_alloc | apply pw_below_drewN | apply below_drew1) | exact HB.out)) hb); have n1_ := Aside0.mk (hbox); have n2_ := Aside0.mk ((by rw [hg]; exact (below_size (by repeat (first | (with_reducible first | exact HB.out | apply below_alloc | apply pw_below_drewN | apply below_drew1) | exact HB.out))) : w.heap.size ≤ gb525)); have n3_ := Aside0.mk ((by rw [hg]; exact (below_size (by repeat (first | (with_reducible first | exact HB.out | apply below_alloc | apply pw_below_drewN | apply below_drew1) | exact HB.out))) : w.heap.size ≤ gb525)); clear HB; have HB := n0_; have BK525 := n1_; have GW525 := n2_; have GE525 := n3_; clear n0_ n1_ n2_ n3_; clear hb hbox hg; have hcz16_0 : w15.cell? ⟨gb525, 0, none⟩ = some (.int .i64 0) := (blk_cell BK525.out 0).trans rfl; have hcz16_1 : w15.cell? ⟨gb525, 1, none⟩ = some (.int .i64 0) := (blk_cell BK525.out 1).trans rfl; have hcz16_2 : w15.cell? ⟨gb525, 2, none⟩ = some (.int .i64 0) := (blk_cell BK525.out 2).trans rfl; have hfz16_0 := blk_frozen BK525.out 0; have hfz16_1 := blk_frozen BK525.out 1; have hfz16_2 := blk_frozen BK525.out 2))
          go_ret
          exact ⟨by first | rfl | (simp [errW_none, errW_some] <;> rfl) | (simp [*, errW_none, errW_some] <;> rfl), by repeat (first | (with_reducible first | exact HB.out | apply below_alloc | apply pw_below_drewN | apply below_drew1 | refine below_set ?_ GE525.out) | exact HB.out)⟩
         ·rw [if_neg c14] at H
          have c14b0 : decide (1073741824 < ((rd_T71 l0 x7_1).f1.f0)) = false := decide_eq_false c14
          clear c14
          by_cases c17 : ((rd_T71 l0 x7_1).f1.f1) < 1
          ·rw [if_pos c17] at H
           have c17b0 : decide (((rd_T71 l0 x7_1).f1.f1) < 1) = true := decide_eq_true c17
           clear c17
           obtain rfl := Option.some.inj H
           have p524 : 0 ≤ (x7_1 : Int) := of_decide_eq_true (by first | (with_reducible assumption) | assumption)
           have q524 : x7_1 < (l0.length : Int) := of_decide_eq_true (by first | (with_reducible assumption) | assumption)
           obtain ⟨ad524, e524, hx524_0, hx524_1, hx524_2⟩ := at_T71 HR0.out x7_1 p524 q524
           cases e524
           replace hx524_0 := (HB.out.cell (World.block_lt_of_cell? w _ hx524_0)).trans hx524_0
           replace hx524_1 := (HB.out.cell (World.block_lt_of_cell? w _ hx524_1)).trans hx524_1
           replace hx524_2 := (HB.out.cell (World.block_lt_of_cell? w _ hx524_2)).trans hx524_2
           replace p524 := eq_true p524
           replace q524 := eq_true q524
           go_wp2_with (first | ((with_reducible refine gate_dst (N := 4) rfl ?_); refine box_event ?hg (N := 4) ?hd (cs := #[.int .i64 0, .int .i64 0, .int .i64 0]) (t := 71) ?hr ?_; (case hd => rfl); (case hg => rfl); (case hr => first | (go_simp; done) | (go_simp; rfl)); intro gb525 hg w18 hbox hb; have n0_ := Aside0.mk (below_step (by repeat (first | (with_reducible first | exact HB.out | apply below_alloc | apply pw_below_drewN | apply below_drew1) | exact HB.out)) hb); have n1_ := Aside0.mk (hbox); have n2_ := Aside0.mk ((by rw [hg]; exact (below_size (by repeat (first | (with_reducible first | exact HB.out | apply below_alloc | apply pw_below_drewN | apply below_drew1) | exact HB.out))) : w.heap.size ≤ gb525)); have n3_ := Aside0.mk ((by rw [hg]; exact (below_size (by repeat (first | (with_reducible first | exact HB.out | apply below_alloc | apply pw_below_drewN | apply below_drew1) | exact HB.out))) : w.heap.size ≤ gb525)); clear HB; have HB := n0_; have BK525 := n1_; have GW525 := n2_; have GE525 := n3_; clear n0_ n1_ n2_ n3_; clear hb hbox hg; have hcz19_0 : w18.cell? ⟨gb525, 0, none⟩ = some (.int .i64 0) := (blk_cell BK525.out 0).trans rfl; have hcz19_1 : w18.cell? ⟨gb525, 1, none⟩ = some (.int .i64 0) := (blk_cell BK525.out 1).trans rfl; have hcz19_2 : w18.cell? ⟨gb525, 2, none⟩ = some (.int .i64 0) := (blk_cell BK525.out 2).trans rfl; have hfz19_0 := blk_frozen BK525.out 0; have hfz19_1 := blk_frozen BK525.out 1; have hfz19_2 := blk_frozen BK525.out 2))
           go_ret
           exact ⟨by first | rfl | (simp [errW_none, errW_some] <;> rfl) | (simp [*, errW_none, errW_some] <;> rfl), by repeat (first | (with_reducible first | exact HB.out | apply below_alloc | apply pw_below_drewN | apply below_drew1 | refine below_set ?_ GE525.out) | exact HB.out)⟩
          ·rw [if_neg c17] at H
           have c17b0 : decide (((rd_T71 l0 x7_1).f1.f1) < 1) = false := decide_eq_false c17
           clear c17
           by_cases c20 : ((rd_T71 l0 x7_1).f1.f1) > 1048576
           ·rw [if_pos c20] at H
            have c20b0 : decide (1048576 < ((rd_T71 l0 x7_1).f1.f1)) = true := decide_eq_true c20
            clear c20
            obtain rfl := Option.some.inj H
            have p524 : 0 ≤ (x7_1 : Int) := of_decide_eq_true (by first | (with_reducible assumption) | assumption)
            have q524 : x7_1 < (l0.length : Int) := of_decide_eq_true (by first | (with_reducible assumption) | assumption)
            obtain ⟨ad524, e524, hx524_0, hx524_1, hx524_2⟩ := at_T71 HR0.out x7_1 p524 q524
            cases e524
            replace hx524_0 := (HB.out.cell (World.block_lt_of_cell? w _ hx524_0)).trans hx524_0
            replace hx524_1 := (HB.out.cell (World.block_lt_of_cell? w _ hx524_1)).trans hx524_1
            replace hx524_2 := (HB.out.cell (World.block_lt_of_cell? w _ hx524_2)).trans hx524_2
            replace p524 := eq_true p524
            replace q524 := eq_true q524
            go_wp2_with (first | ((with_reducible refine gate_dst (N := 4) rfl ?_); refine box_event ?hg (N := 4) ?hd (cs := #[.int .i64 0, .int .i64 0, .int .i64 0]) (t := 71) ?hr ?_; (case hd => rfl); (case hg => rfl); (case hr => first | (go_simp; done) | (go_simp; rfl)); intro gb525 hg w21 hbox hb; have n0_ := Aside0.mk (below_step (by repeat (first | (with_reducible first | exact HB.out | apply below_alloc | apply pw_below_drewN | apply below_drew1) | exact HB.out)) hb); have n1_ := Aside0.mk (hbox); have n2_ := Aside0.mk ((by rw [hg]; exact (below_size (by repeat (first | (with_reducible first | exact HB.out | apply below_alloc | apply pw_below_drewN | apply below_drew1) | exact HB.out))) : w.heap.size ≤ gb525)); have n3_ := Aside0.mk ((by rw [hg]; exact (below_size (by repeat (first | (with_reducible first | exact HB.out | apply below_alloc | apply pw_below_drewN | apply below_drew1) | exact HB.out))) : w.heap.size ≤ gb525)); clear HB; have HB := n0_; have BK525 := n1_; have GW525 := n2_; have GE525 := n3_; clear n0_ n1_ n2_ n3_; clear hb hbox hg; have hcz22_0 : w21.cell? ⟨gb525, 0, none⟩ = some (.int .i64 0) := (blk_cell BK525.out 0).trans rfl; have hcz22_1 : w21.cell? ⟨gb525, 1, none⟩ = some (.int .i64 0) := (blk_cell BK525.out 1).trans rfl; have hcz22_2 : w21.cell? ⟨gb525, 2, none⟩ = some (.int .i64 0) := (blk_cell BK525.out 2).trans rfl; have hfz22_0 := blk_frozen BK525.out 0; have hfz22_1 := blk_frozen BK525.out 1; have hfz22_2 := blk_frozen BK525.out 2))
            go_ret
            exact ⟨by first | rfl | (simp [errW_none, errW_some] <;> rfl) | (simp [*, errW_none, errW_some] <;> rfl), by repeat (first | (with_reducible first | exact HB.out | apply below_alloc | apply pw_below_drewN | apply below_drew1 | refine below_set ?_ GE525.out) | exact HB.out)⟩
           ·rw [if_neg c20] at H
            have c20b0 : decide (1048576 < ((rd_T71 l0 x7_1).f1.f1)) = false := decide_eq_false c20
            clear c20
            have H' := Aside0.mk H
            clear H
            have p524 : 0 ≤ (x7_1 : Int) := of_decide_eq_true (by first | (with_reducible assumption) | assumption)
            have q524 : x7_1 < (l0.length : Int) := of_decide_eq_true (by first | (with_reducible assumption) | assumption)
            obtain ⟨ad524, e524, hx524_0, hx524_1, hx524_2⟩ := at_T71 HR0.out x7_1 p524 q524
            cases e524
            replace hx524_0 := (HB.out.cell (World.block_lt_of_cell? w _ hx524_0)).trans hx524_0
            replace hx524_1 := (HB.out.cell (World.block_lt_of_cell? w _ hx524_1)).trans hx524_1
            replace hx524_2 := (HB.out.cell (World.block_lt_of_cell? w _ hx524_2)).trans hx524_2
            replace p524 := eq_true p524
            replace q524 := eq_true q524
            go_wp2_with (first | ((with_reducible refine gate_dst (N := 4) rfl ?_); refine box_event ?hg (N := 4) ?hd (cs := #[.int .i64 0, .int .i64 0, .int .i64 0]) (t := 71) ?hr ?_; (case hd => rfl); (case hg => rfl); (case hr => first | (go_simp; done) | (go_simp; rfl)); intro gb525 hg w23 hbox hb; have n0_ := Aside0.mk (below_step (by repeat (first | (with_reducible first | exact HB.out | apply below_alloc | apply pw_below_drewN | apply below_drew1) | exact HB.out)) hb); have n1_ := Aside0.mk (hbox); have n2_ := Aside0.mk ((by rw [hg]; exact (below_size (by repeat (first | (with_reducible first | exact HB.out | apply below_alloc | apply pw_below_drewN | apply below_drew1) | exact HB.out))) : w.heap.size ≤ gb525)); have n3_ := Aside0.mk ((by rw [hg]; exact (below_size (by repeat (first | (with_reducible first | exact HB.out | apply below_alloc | apply pw_below_drewN | apply below_drew1) | exact HB.out))) : w.heap.size ≤ gb525)); clear HB; have HB := n0_; have BK525 := n1_; have GW525 := n2_; have GE525 := n3_; clear n0_ n1_ n2_ n3_; clear hb hbox hg; have hcz24_0 : w23.cell? ⟨gb525, 0, none⟩ = some (.int .i64 0) := (blk_cell BK525.out 0).trans rfl; have hcz24_1 : w23.cell? ⟨gb525, 1, none⟩ = some (.int .i64 0) := (blk_cell BK525.out 1).trans rfl; have hcz24_2 : w23.cell? ⟨gb525, 2, none⟩ = some (.int .i64 0) := (blk_cell BK525.out 2).trans rfl; have hfz24_0 := blk_frozen BK525.out 0; have hfz24_1 := blk_frozen BK525.out 1; have hfz24_2 := blk_frozen BK525.out 2))
            go_roundg k1
            case measure => have := HK1.out; omega
            case rel => exact ⟨(wrap64 (x7_1 + 1)), (by first | rfl | (simp; done) | (simp [*]; done)), H', ⟨by have := HK1.out; omega⟩, ⟨by repeat (first | (with_reducible first | exact HB.out | apply below_alloc | apply pw_below_drewN | apply below_drew1 | refine below_set ?_ GE525.out) | exact HB.out)⟩⟩
     ·rw [if_neg c4] at H
      exact absurd H (by simp)
    ·rw [if_neg c3] at H
     exact absurd H (by simp)
   ·rw [if_neg c2] at H
    have c2b0 : decide (x7_1 < (l0.length : Int)) = false := decide_eq_false c2
    clear c2
    obtain rfl := Option.some.inj H
    go_wp2
    go_ret
    exact ⟨by first | rfl | (simp [errW_none, errW_some] <;> rfl) | (simp [*, errW_none, errW_some] <;> rfl), by repeat (first | (with_reducible first | exact HB.out | apply below_alloc | apply pw_below_drewN | apply below_drew1) | exact HB.out)⟩
end Go.Proofs.Ytfldklimlcnnnaa.PHq
end

section
namespace Go.Proofs.Ytfldklimlcnnnaa.PHq
open Go.RowKit Go.Proofs.YtfldklimlcnnnaaW.PrintWords Go.Proofs.YtfldklimlcnnnaaW.PrintLast Go.Proofs.YtfldklimlcnnnaaW.PrintMore Go.Proofs.Ytfldklimlcnnnaa.MWords
attribute [local go_sem] max2_int min2_int max_two min_two max_three min_three max_four min_four   -- for this text's walks alone
def regattalaw13_one.f (k : Nat) (a0 : Int) (a1 : Int) : Option (List Int × List Int) := (regattaref02_Of.f k a0).bind fun t527 => ((regattaref02_Of.f k a1).bind fun t530 => (some (t527, t530)))
set_option maxHeartbeats 8000000 in
set_option maxRecDepth 100000 in
theorem regattalaw13_one.calls (k : Nat) (a0 : Int) (a1 : Int) (r1 : List Int) (r2 : List Int) (w : World) (h : regattalaw13_one.f k a0 a1 = some (r1, r2)) :
  Calls Try.prog 44 #[.int .u64 a0, .int .u64 a1] w fun e w' => ∃ v0_ v1_ : Value, e = .returned (.agg #[v0_, v1_]) ∧ Kd.R (Kd.int .u32) 89 w' w.heap.size (fun k_ => some k_ ≠ (v1_ : Value).ownBlock) v0_ r1 ∧ Kd.R (Kd.int .u32) 89 w' w.heap.size (fun k_ => some k_ ≠ (v0_ : Value).ownBlock) v1_ r2 ∧ Below w.heap.size w w' := by
 have hu28 := Try.underlying28
 have HB := Aside0.mk (Below.refl w.heap.size w)
 have H : ((regattaref02_Of.f k a0).bind fun t527 => ((regattaref02_Of.f k a1).bind fun t530 => (some (t527, t530)))) = some (r1, r2) := h
 clear h
 replace H := Option.bind_eq_some_iff.mp H
 obtain ⟨t527, A30, H⟩ := H
 replace H : ((regattaref02_Of.f k a1).bind fun t530 => (some (t527, t530))) = some (r1, r2) := H
 have A3 := Aside0.mk A30
 clear A30
 replace H := Option.bind_eq_some_iff.mp H
 obtain ⟨t530, A40, H⟩ := H
 replace H : (some (t527, t530)) = some (r1, r2) := H
 have A4 := Aside0.mk A40
 clear A40
 simp only [Option.some.injEq, Prod.mk.injEq] at H
 obtain ⟨rfl, rfl⟩ := H
 go_enter Try.func44, Try.ntmps44
 go_wp2_with (first | ((with_reducible refine gate_dst (N := 4) rfl ?_); refine box_event ?hg (N := 4) ?hd (cs := #[.slice none 0 0, .slice none 0 0]) (t := 28) ?hr ?_; (case hd => rfl); (case hg => rfl); (case hr => first | (go_simp; done) | (go_simp; rfl)); intro gb526 hg w5 hbox hb; have n0_ := Aside0.mk (below_step (by repeat (first | (with_reducible first | exact HB.out | apply below_alloc | apply pw_below_drewN | apply below_drew1) | exact HB.out)) hb); have n1_ := Aside0.mk (hbox); have n2_ := Aside0.mk ((by rw [hg]; exact (below_size (by repeat (first | (with_reducible first | exact HB.out | apply below_alloc | apply pw_below_drewN | apply below_drew1) | exact HB.out))) : w.heap.size ≤ gb526)); have n3_ := Aside0.mk ((by rw [hg]; exact (below_size (by repeat (first | (with_reducible first | exact HB.out | apply below_alloc | apply pw_below_drewN | apply below_drew1) | exact HB.out))) : w.heap.size ≤ gb526)); clear HB; have HB := n0_; have BK526 := n1_; have GW526 := n2_; have GE526 := n3_; clear n0_ n1_ n2_ n3_; clear hb hbox hg) | ((with_reducible refine gate_callee (f := 65) rfl ?_); refine goesL_ (some 6) rfl rfl Try.func65 (by kernel_rfl) rfl #[.int .u64 a0] rfl (by (try simp only [List.map_toArray, List.map_cons, List.map_nil]); first | done | rfl | (simp only [List.length_drop, List.length_take]; rfl)) ?_; (with_reducible refine (regattaref02_Of.calls k a0 t527 _ A3.out).mono ?_); rintro e w6 ⟨v528, rfl, ho0, hb⟩; refine ⟨_, rfl, ?_⟩; have n0_ := Aside0.mk (Kd.R_lower ho0 (below_size (by repeat (first | (with_reducible first | exact HB.out | apply below_alloc | apply pw_below_drewN | apply below_drew1 | refine below_set ?_ GE526.out) | exact HB.out)))); have n1_ := Aside0.mk (blk_below (g := gb526) (o := .cells #[.slice none 0 0, .slice none 0 0] 28 (0, 0)) (by (with_reducible repeat (first | refine blk_drewN ?_ _ | refine blk_drew ?_ | refine blk_alloc ?_ _)); exact BK526.out) hb); have n2_ := Aside0.mk (below_step (by repeat (first | (with_reducible first | exact HB.out | apply below_alloc | apply pw_below_drewN | apply below_drew1 | refine below_set ?_ GE526.out) | exact HB.out)) hb); clear BK526; clear HB; have HO529 := n0_; have BK526 := n1_; have HB := n2_; clear n0_ n1_ n2_; (try clear hb); (try clear hb2); (try clear hk); (try clear hi); (try clear ho0); (try clear A3)) | ((with_reducible refine gate_callee (f := 65) rfl ?_); refine goesL_ (some 8) rfl rfl Try.func65 (by kernel_rfl) rfl #[.int .u64 a1] rfl (by (try simp only [List.map_toArray, List.map_cons, List.map_nil]); first | done | rfl | (simp only [List.length_drop, List.length_take]; rfl)) ?_; (with_reducible refine (regattaref02_Of.calls k a1 t530 _ A4.out).mono ?_); rintro e w7 ⟨v531, rfl, ho0, hb⟩; refine ⟨_, rfl, ?_⟩; have n0_ := Aside0.mk (Kd.R_elder' (by (with_reducible repeat (first | apply Kd.R_alloc | apply Kd.R_drewN | apply Kd.R_drew)); exact HO529.out) (Kd.R_base ho0) hb); have n1_ := Aside0.mk (Kd.R_lower (Kd.R_new' ho0 (Kd.R_lt (by (with_reducible repeat (first | apply Kd.R_alloc | apply Kd.R_drewN | apply Kd.R_drew)); exact HO529.out))) (below_size (by repeat (first | (with_reducible first | exact HB.out | apply below_alloc | apply pw_below_drewN | apply below_drew1 | refine below_set ?_ GE526.out) | exact HB.out)))); have n2_ := Aside0.mk (blk_below (g := gb526) (o := .cells #[.slice none 0 0, .slice none 0 0] 28 (0, 0)) (by (with_reducible repeat (first | refine blk_drewN ?_ _ | refine blk_drew ?_ | refine blk_alloc ?_ _)); exact BK526.out) hb); have n3_ := Aside0.mk (below_step (by repeat (first | (with_reducible first | exact HB.out | apply below_alloc | apply pw_below_drewN | apply below_drew1 | refine below_set ?_ GE526.out) | exact HB.out)) hb); clear HO529; clear BK526; clear HB; have HO529 := n0_; have HO532 := n1_; have BK526 := n2_; have HB := n3_; clear n0_ n1_ n2_ n3_; (try clear hb); (try clear hb2); (try clear hk); (try clear hi); (try clear ho0); obtain ⟨Ao8, co8, eo8⟩ := Kd.R_slice HO532.out; subst eo8; obtain ⟨Ao9, co9, eo9⟩ := Kd.R_slice HO529.out; subst eo9; have hcz10_0 : w7.cell? ⟨gb526, 0, none⟩ = some (.slice none 0 0) := (blk_cell BK526.out 0).trans rfl; have hcz10_1 : w7.cell? ⟨gb526, 1, none⟩ = some (.slice none 0 0) := (blk_cell BK526.out 1).trans rfl; have hfz10_0 := blk_frozen BK526.out 0; have hfz10_1 := blk_frozen BK526.out 1; (try clear A4)))
 refine bodyPost_ret (results_cell_row rfl _ _ gb526 28 #[.slice Ao9 t527.length co9, .slice Ao8 t530.length co8] (0, 0) _ rfl (by (with_reducible repeat (first | refine blk_drewN ?_ _ | refine blk_drew ?_ | refine blk_alloc ?_ _)); refine blk_put (cs := #[.slice Ao9 t527.length co9, .slice none 0 0]) ?_ 1 _ rfl; (with_reducible repeat (first | refine blk_drewN ?_ _ | refine blk_drew ?_ | refine blk_alloc ?_ _)); refine blk_put (cs := #[.slice none 0 0, .slice none 0 0]) ?_ 0 _ rfl; (with_reducible repeat (first | refine blk_drewN ?_ _ | refine blk_drew ?_ | refine blk_alloc ?_ _)); exact BK526.out) Try.underlying28 rfl (by kernel_rfl)) rfl ?_
 exact ⟨_, _, by first | rfl | (simp [errW_none, errW_some] <;> rfl) | (simp [*, errW_none, errW_some] <;> rfl), by (with_reducible repeat (first | apply Kd.R_alloc | apply Kd.R_drewN | apply Kd.R_drew)); exact Kd.R_mono (Kd.R_far (p := ⟨gb526, 1, none⟩) (Kd.R_far (p := ⟨gb526, 0, none⟩) (Kd.R_types HO529.out BK526.out (by decide)) (fun _ hk => hk.2) (.slice Ao9 t527.length co9)) (fun _ hk => hk.2) (.slice Ao8 t530.length co8)) (fun _ hk => hk.1.2), by (with_reducible repeat (first | apply Kd.R_alloc | apply Kd.R_drewN | apply Kd.R_drew)); exact Kd.R_mono (Kd.R_far (p := ⟨gb526, 1, none⟩) (Kd.R_far (p := ⟨gb526, 0, none⟩) (Kd.R_types HO532.out BK526.out (by decide)) (fun _ hk => hk.2) (.slice Ao9 t527.length co9)) (fun _ hk => hk.2) (.slice Ao8 t530.length co8)) (fun _ hk => hk.1.2), by repeat (first | (with_reducible first | exact HB.out | apply below_alloc | apply pw_below_drewN | apply below_drew1 | refine below_set ?_ GE526.out) | exact HB.out)⟩
end Go.Proofs.Ytfldklimlcnnnaa.PHq
end

section
namespace Go.Proofs.Ytfldklimlcnnnaa.PHq
open Go.RowKit Go.Proofs.YtfldklimlcnnnaaW.PrintWords Go.Proofs.YtfldklimlcnnnaaW.PrintLast Go.Proofs.YtfldklimlcnnnaaW.PrintMore Go.Proofs.Ytfldklimlcnnnaa.MWords
attribute [local go_sem] max2_int min2_int max_two min_two max_three min_three max_four min_four   -- for this text's walks alone
mutual
def regattalaw13_Spec_servers.l0 : Nat → List (S71) → Int → List Int → List (S39) → Int → Int → Option ((List (S71)))
 | 0, _, _, _, _, _, _ => none
 | k + 1, x3, x4, x545000, x545001, x545002, x545003 => if x4 < (x545000.length : Int) then (regattalaw13_Spec_servers.j1 k x3 x4 (decide (x4 < 8)) x545000 x545001 x545002 x545003) else (regattalaw13_Spec_servers.j1 k x3 x4 false x545000 x545001 x545002 x545003)
def regattalaw13_Spec_servers.j1 : Nat → List (S71) → Int → Bool → List Int → List (S39) → Int → Int → Option ((List (S71)))
 | 0, _, _, _, _, _, _, _ => none
 | k + 1, x3, x4, x14, x545000, x545001, x545002, x545003 => if x14 = true then (if 0 ≤ x4 then (if x4 < (x545000.length : Int) then (if (wrap64 (x4 + 1)) = 0 then (none) else (if x4 < (x545001.length : Int) then (if x3.length < 5864062014805 then (regattalaw13_Spec_servers.l0 k (x3 ++ [(⟨wrap64 ((Int.tmod (wrap64 ((wrap64 ((Int.tmod (rd x545000 x4) (wrap64 (x4 + 1))) + x4)) + 1)) (wrap64 (x4 + 1))) - 1), (⟨Go.bits .and .i64 ((rd_T39 x545001 x4).f0) 31, wrap64 (1 + (Go.bits .and .i64 ((rd_T39 x545001 x4).f1) 15))⟩ : S34)⟩ : S71)]) (wrap64 (x4 + 1)) x545000 x545001 x545002 x545003) else (none)) else (if x3.length < 5864062014805 then (regattalaw13_Spec_servers.l0 k (x3 ++ [(⟨wrap64 ((Int.tmod (wrap64 ((wrap64 ((Int.tmod (rd x545000 x4) (wrap64 (x4 + 1))) + x4)) + 1)) (wrap64 (x4 + 1))) - 1), (⟨16, 16⟩ : S34)⟩ : S71)]) (wrap64 (x4 + 1)) x545000 x545001 x545002 x545003) else (none)))) else (none)) else (none)) else (some x3)
end
def regattalaw13_Spec_servers.f (k : Nat) (l0_0 : List Int) (l0_1 : List (S39)) (a0_2 : Int) (a0_3 : Int) : Option ((List (S71))) := regattalaw13_Spec_servers.l0 k ([] : List (S71)) 0 l0_0 l0_1 a0_2 a0_3
def regattalaw13_Spec_servers.T7 : Bool × List (List Nat × List Nat) := (true, [([], []), ([0], [0]), ([], []), ([1, 2], [1, 2]), ([3], [3]), ([4], [4]), ([5], [5]), ([], []), ([7], [7]), ([], []), ([8, 9], [8, 9]), ([10], [10]), ([11], [11]), ([12], [12]), ([13], [13]), ([6, 14], [6, 14]), ([0, 1, 2, 3, 4, 5, 6, 7, 8, 9, 10, 11, 12, 13, 14, 15], []), ([16, 15, 0, 1, 2, 3, 4, 5, 6, 7, 8, 9, 10, 11, 12, 13, 14, 15], [15, 16])])
def regattalaw13_Spec_servers.B7 : List Nat := [0, 1, 0, 7, 15, 31, 63, 0, 128, 0, 896, 1920, 3968, 8064, 16256, 32767, 65535, 131071]
theorem regattalaw13_Spec_servers.tab7 : rtab .any (opsOf Try.f40 7) = regattalaw13_Spec_servers.T7 := by kernel_rfl
theorem regattalaw13_Spec_servers.bits7 : waitsOk regattalaw13_Spec_servers.T7.2 regattalaw13_Spec_servers.B7 = true := by kernel_rfl
set_option maxHeartbeats 8000000 in
set_option maxRecDepth 100000 in
theorem regattalaw13_Spec_servers.calls (k : Nat) (A0_0 : Option Addr) (c0_0 : Nat) (l0_0 : List Int) (A0_1 : Option Addr) (c0_1 : Nat) (l0_1 : List (S39)) (a0_2 : Int) (a0_3 : Int) (r : List (S71)) (w : World) (hr0_0 : Kd.C (Kd.int .i64) w A0_0 l0_0.length l0_0) (hc0_0 : l0_0.length ≤ c0_0) (hr0_1 : Kd.C k39 w A0_1 l0_1.length l0_1) (hc0_1 : l0_1.length ≤ c0_1) (h : regattalaw13_Spec_servers.f k l0_0 l0_1 a0_2 a0_3 = some r) :
  Calls Try.prog 40 #[.agg #[.slice A0_0 l0_0.length c0_0, .slice A0_1 l0_1.length c0_1, .int .i64 a0_2, .int .i64 a0_3]] w fun e w' => ∃ v0_ : Value, e = .returned (v0_) ∧ Kd.R k71 71 w' w.heap.size (fun _ => True) v0_ r ∧ Below w.heap.size w w' := by
 have hu64 := Try.underlying64
 have hu34 := Try.underlying34
 have hu71 := Try.underlying71
 have HR0_0 := Aside0.mk hr0_0
 have HC0_0 := Aside0.mk hc0_0
 clear hr0_0 hc0_0
 have HR0_1 := Aside0.mk hr0_1
 have HC0_1 := Aside0.mk hc0_1
 clear hr0_1 hc0_1
 have HB := Aside0.mk (Below.refl w.heap.size w)
 have H : (regattalaw13_Spec_servers.l0 k ([] : List (S71)) 0 l0_0 l0_1 a0_2 a0_3) = some r := h
 clear h
 have H' := Aside0.mk H
 clear H
 go_enter Try.func40, Try.ntmps40
 go_wp2_with (first | ((with_reducible refine gate_dst (N := 1) rfl ?_); refine box_event ?hg (N := 1) ?hd (cs := #[.slice A0_0 l0_0.length c0_0, .slice A0_1 l0_1.length c0_1, .int .i64 a0_2, .int .i64 a0_3]) (t := 64) ?hr ?_; (case hd => rfl); (case hg => rfl); (case hr => first | (go_simp; done) | (go_simp; rfl)); intro gb544 hg w2 hbox hb; have n0_ := Aside0.mk (below_step (by repeat (first | (with_reducible first | exact HB.out | apply below_alloc | apply pw_below_drewN | apply below_drew1) | exact HB.out)) hb); have n1_ := Aside0.mk (hbox); have n2_ := Aside0.mk ((by rw [hg]; exact (below_size (by repeat (first | (with_reducible first | exact HB.out | apply below_alloc | apply pw_below_drewN | apply below_drew1) | exact HB.out))) : w.heap.size ≤ gb544)); have n3_ := Aside0.mk ((by rw [hg]; exact (below_size (by repeat (first | (with_reducible first | exact HB.out | apply below_alloc | apply pw_below_drewN | apply below_drew1) | exact HB.out))) : w.heap.size ≤ gb544)); clear HB; have HB := n0_; have BK544 := n1_; have GW544 := n2_; have GE544 := n3_; clear n0_ n1_ n2_ n3_; clear hb hbox hg))
 go_loopg [3, 4] k (fun kq v3 v4 w' => ∃ (x3_1 : List (S71)) (x4_1 : Int), v4 = .int .i64 x4_1 ∧ Aside0 (regattalaw13_Spec_servers.l0 kq x3_1 x4_1 l0_0 l0_1 a0_2 a0_3 = some r) ∧ Aside0 (kq ≤ k) ∧ Aside0 (Kd.R k71 71 w' w.heap.size (fun _ => True) v3 x3_1) ∧ Aside0 (w'.heap[gb544]? = some (.cells #[(.slice A0_0 l0_0.length c0_0), (.slice A0_1 l0_1.length c0_1), .int .i64 a0_2, .int .i64 a0_3] 64 (0, 0))) ∧ Aside0 (Below w.heap.size w w'))
 case atStart => exact ⟨(([] : List (S71))), (0), (by first | rfl | (simp; done) | (simp [*]; done)), H', ⟨Nat.le_refl _⟩, ⟨by first | exact Kd.R_nil _ _ _ _ _ | exact Kd.N_nil _ _ _ _ _ | exact Kd.V_nil _ _ _ _ _ | exact Kd.Q_nil _ _ _ _ _ | exact Kd.S_nil _ _ _ _ _⟩, ⟨by (with_reducible repeat (first | refine blk_drewN ?_ _ | refine blk_drew ?_ | refine blk_alloc ?_ _)); exact BK544.out⟩, ⟨by repeat (first | (with_reducible first | exact HB.out | apply below_alloc | apply pw_below_drewN | apply below_drew1 | refine below_set ?_ GE544.out) | exact HB.out)⟩⟩
 case round =>
  clear H'
  try clear p2
  obtain ⟨x3_1, x4_1, rfl, HA, HK1, HO_3, BK544, HB⟩ := hrel
  cases gk with
  | zero => exact absurd HA.out (by simp [regattalaw13_Spec_servers.l0])
  | succ k1 =>
   have H := HA.out
   clear HA
   simp only [regattalaw13_Spec_servers.l0] at H
   have HC3 := Aside0.mk H
   clear H
   go_upto_region 3 with (fail)
   go_cut [14] (fun v14 wc => ∃ (kq : Nat) (x14_2 : Bool), v14 = .bool x14_2 ∧ Aside0 (regattalaw13_Spec_servers.j1 kq x3_1 x4_1 x14_2 l0_0 l0_1 a0_2 a0_3 = some r) ∧ Aside0 (kq ≤ k1) ∧ Aside0 (Kd.R k71 71 wc w.heap.size (fun _ => True) u3 x3_1) ∧ Aside0 (wc.heap[gb544]? = some (.cells #[(.slice A0_0 l0_0.length c0_0), (.slice A0_1 l0_1.length c0_1), .int .i64 a0_2, .int .i64 a0_3] 64 (0, 0))) ∧ Aside0 (Below w.heap.size w wc))
   case first =>
    have H := HC3.out
    clear HC3
    by_cases c4 : x4_1 < (l0_0.length : Int)
    ·rw [if_pos c4] at H
     have c4b0 : decide (x4_1 < (l0_0.length : Int)) = true := decide_eq_true c4
     clear c4
     (first | rw [c4b0] | rw [c4b1] | (simp only [i64_w, i32_w]; rw [c4b0]) | skip)
     have H' := Aside0.mk H
     clear H
     have hcz5_0 : wr.cell? ⟨gb544, 0, none⟩ = some (.slice A0_0 l0_0.length c0_0) := (blk_cell BK544.out 0).trans rfl
     have hcz5_1 : wr.cell? ⟨gb544, 1, none⟩ = some (.slice A0_1 l0_1.length c0_1) := (blk_cell BK544.out 1).trans rfl
     have hcz5_2 : wr.cell? ⟨gb544, 2, none⟩ = some (.int .i64 a0_2) := (blk_cell BK544.out 2).trans rfl
     have hcz5_3 : wr.cell? ⟨gb544, 3, none⟩ = some (.int .i64 a0_3) := (blk_cell BK544.out 3).trans rfl
     have hfz5_0 := blk_frozen BK544.out 0
     have hfz5_1 := blk_frozen BK544.out 1
     have hfz5_2 := blk_frozen BK544.out 2
     have hfz5_3 := blk_frozen BK544.out 3
     go_wp2
     go_meet
     case rel => exact ⟨_, (decide (x4_1 < 8)), (by first | rfl | (simp; done) | (simp [*]; done)), H', ⟨by have := HK1.out; first | omega | exact Nat.le_refl _⟩, ⟨by (with_reducible repeat (first | apply Kd.R_alloc | apply Kd.R_drewN | apply Kd.R_drew)); exact HO_3.out⟩, ⟨by (with_reducible repeat (first | refine blk_drewN ?_ _ | refine blk_drew ?_ | refine blk_alloc ?_ _)); exact BK544.out⟩, ⟨by repeat (first | (with_reducible first | exact HB.out | apply below_alloc | apply pw_below_drewN | apply below_drew1 | refine below_set ?_ GE544.out) | exact HB.out)⟩⟩
    ·rw [if_neg c4] at H
     have c4b0 : decide (x4_1 < (l0_0.length : Int)) = false := decide_eq_false c4
     clear c4
     (first | rw [c4b0] | rw [c4b1] | (simp only [i64_w, i32_w]; rw [c4b0]) | skip)
     have H' := Aside0.mk H
     clear H
     have hcz6_0 : wr.cell? ⟨gb544, 0, none⟩ = some (.slice A0_0 l0_0.length c0_0) := (blk_cell BK544.out 0).trans rfl
     have hcz6_1 : wr.cell? ⟨gb544, 1, none⟩ = some (.slice A0_1 l0_1.length c0_1) := (blk_cell BK544.out 1).trans rfl
     have hcz6_2 : wr.cell? ⟨gb544, 2, none⟩ = some (.int .i64 a0_2) := (blk_cell BK544.out 2).trans rfl
     have hcz6_3 : wr.cell? ⟨gb544, 3, none⟩ = some (.int .i64 a0_3) := (blk_cell BK544.out 3).trans rfl
     have hfz6_0 := blk_frozen BK544.out 0
     have hfz6_1 := blk_frozen BK544.out 1
     have hfz6_2 := blk_frozen BK544.out 2
     have hfz6_3 := blk_frozen BK544.out 3
     go_wp2
     go_meet
     case rel => exact ⟨_, (false), (by first | rfl | (simp; done) | (simp [*]; done)), H', ⟨by have := HK1.out; first | omega | exact Nat.le_refl _⟩, ⟨by (with_reducible repeat (first | apply Kd.R_alloc | apply Kd.R_drewN | apply Kd.R_drew)); exact HO_3.out⟩, ⟨by (with_reducible repeat (first | refine blk_drewN ?_ _ | refine blk_drew ?_ | refine blk_alloc ?_ _)); exact BK544.out⟩, ⟨by repeat (first | (with_reducible first | exact HB.out | apply below_alloc | apply pw_below_drewN | apply below_drew1 | refine below_set ?_ GE544.out) | exact HB.out)⟩⟩
   case rest =>
    clear HC3
    try clear p2
    try clear c4
    try clear c4b0
    try clear hcz5_0
    try clear hcz5_1
    try clear hcz5_2
    try clear hcz5_3
    try clear hcz6_0
    try clear hcz6_1
    try clear hcz6_2
    try clear hcz6_3
    try clear hfz5_0
    try clear hfz5_1
    try clear hfz5_2
    try clear hfz5_3
    try clear hfz6_0
    try clear hfz6_1
    try clear hfz6_2
    try clear hfz6_3
    try clear p2
    obtain ⟨kq, x14_2, rfl, HA, HJ2, HO_3, BK544, HB⟩ := hcut
    cases kq with
    | zero => exact absurd HA.out (by simp [regattalaw13_Spec_servers.j1])
    | succ kj2 =>
     have H := HA.out
     clear HA
     simp only [regattalaw13_Spec_servers.j1] at H
     by_cases c7 : x14_2 = true
     ·subst c7
      have H1 : (if 0 ≤ x4_1 then (if x4_1 < (l0_0.length : Int) then (if (wrap64 (x4_1 + 1)) = 0 then (none) else (if x4_1 < (l0_1.length : Int) then (if x3_1.length < 5864062014805 then (regattalaw13_Spec_servers.l0 kj2 (x3_1 ++ [(⟨wrap64 ((Int.tmod (wrap64 ((wrap64 ((Int.tmod (rd l0_0 x4_1) (wrap64 (x4_1 + 1))) + x4_1)) + 1)) (wrap64 (x4_1 + 1))) - 1), (⟨Go.bits .and .i64 ((rd_T39 l0_1 x4_1).f0) 31, wrap64 (1 + (Go.bits .and .i64 ((rd_T39 l0_1 x4_1).f1) 15))⟩ : S34)⟩ : S71)]) (wrap64 (x4_1 + 1)) l0_0 l0_1 a0_2 a0_3) else (none)) else (if x3_1.length < 5864062014805 then (regattalaw13_Spec_servers.l0 kj2 (x3_1 ++ [(⟨wrap64 ((Int.tmod (wrap64 ((wrap64 ((Int.tmod (rd l0_0 x4_1) (wrap64 (x4_1 + 1))) + x4_1)) + 1)) (wrap64 (x4_1 + 1))) - 1), (⟨16, 16⟩ : S34)⟩ : S71)]) (wrap64 (x4_1 + 1)) l0_0 l0_1 a0_2 a0_3) else (none)))) else (none)) else (none)) = some r := by rw [if_pos rfl] at H; exact H
      clear H
      have H := H1
      clear H1
      by_cases c8 : 0 ≤ x4_1
      ·rw [if_pos c8] at H
       have c8b0 : decide (0 ≤ x4_1) = true := decide_eq_true c8
       clear c8
       by_cases c9 : x4_1 < (l0_0.length : Int)
       ·rw [if_pos c9] at H
        have c9b0 : decide (x4_1 < (l0_0.length : Int)) = true := decide_eq_true c9
        clear c9
        by_cases c10 : (wrap64 (x4_1 + 1)) = 0
        ·rw [if_pos c10] at H
         exact absurd H (by simp)
        ·rw [if_neg c10] at H
         have c10b0 : ((wrap64 (x4_1 + 1)) == 0) = false := beq_eq_false_iff_ne.mpr c10
         have c10b1 : ((wrap64 (x4_1 + 1)) != 0) = true := bne_iff_ne.mpr c10
         by_cases c11 : x4_1 < (l0_1.length : Int)
         ·rw [if_pos c11] at H
          have c11b0 : decide (x4_1 < (l0_1.length : Int)) = true := decide_eq_true c11
          clear c11
          by_cases c12 : x3_1.length < 5864062014805
          ·rw [if_pos c12] at H
           have LMc12 := Aside0.mk c12
           clear c12
           obtain ⟨y549, hy549⟩ : ∃ y_ : List (S71), y_ = (x3_1 ++ [(⟨wrap64 ((Int.tmod (wrap64 ((wrap64 ((Int.tmod (rd l0_0 x4_1) (wrap64 (x4_1 + 1))) + x4_1)) + 1)) (wrap64 (x4_1 + 1))) - 1), (⟨Go.bits .and .i64 ((rd_T39 l0_1 x4_1).f0) 31, wrap64 (1 + (Go.bits .and .i64 ((rd_T39 l0_1 x4_1).f1) 15))⟩ : S34)⟩ : S71)]) := ⟨_, rfl⟩
           replace H : (regattalaw13_Spec_servers.l0 kj2 y549 (wrap64 (x4_1 + 1)) l0_0 l0_1 a0_2 a0_3) = some r := by first | (rw [hy549]; with_reducible exact H) | (have H2_ := (Option.bind_some _ _).symm.trans H; rw [hy549]; with_reducible exact H2_) | (have H2_ := (Option.bind_some _ _).symm.trans H; with_reducible exact H2_) | with_reducible exact H | (rw [hy549]; exact H) | exact H
           have Ny549 := Aside0.mk hy549
           clear hy549
           have H' := Aside0.mk H
           clear H
           have hcz13_0 : wc.cell? ⟨gb544, 0, none⟩ = some (.slice A0_0 l0_0.length c0_0) := (blk_cell BK544.out 0).trans rfl
           have hcz13_1 : wc.cell? ⟨gb544, 1, none⟩ = some (.slice A0_1 l0_1.length c0_1) := (blk_cell BK544.out 1).trans rfl
           have hcz13_2 : wc.cell? ⟨gb544, 2, none⟩ = some (.int .i64 a0_2) := (blk_cell BK544.out 2).trans rfl
           have hcz13_3 : wc.cell? ⟨gb544, 3, none⟩ = some (.int .i64 a0_3) := (blk_cell BK544.out 3).trans rfl
           have hfz13_0 := blk_frozen BK544.out 0
           have hfz13_1 := blk_frozen BK544.out 1
           have hfz13_2 := blk_frozen BK544.out 2
           have hfz13_3 := blk_frozen BK544.out 3
           have p545 : 0 ≤ (x4_1 : Int) := of_decide_eq_true (by first | (with_reducible assumption) | assumption)
           have q545 : x4_1 < (l0_0.length : Int) := of_decide_eq_true (by first | (with_reducible assumption) | assumption)
           obtain ⟨ad545, e545, hx545_0⟩ := Kd.at_int HR0_0.out x4_1 p545 q545
           cases e545
           replace hx545_0 := (HB.out.cell (World.block_lt_of_cell? w _ hx545_0)).trans hx545_0
           replace p545 := eq_true p545
           replace q545 := eq_true q545
           try go_wp2_with (first | ((with_reducible refine gate_dst (N := 5) rfl ?_); refine box_event ?hg (N := 5) ?hd (cs := #[.int .i64 0, .int .i64 0, .int .i64 0]) (t := 71) ?hr ?_; (case hd => rfl); (case hg => rfl); (case hr => first | (go_simp; done) | (go_simp; rfl)); intro gb546 hg w14 hbox hb; have n0_ := Aside0.mk (Kd.R_below (Kd.R_elderB (by (with_reducible repeat (first | apply Kd.R_alloc | apply Kd.R_drewN | apply Kd.R_drew)); exact HO_3.out) gb546 (Nat.le_of_eq hg.symm)) hb); have n1_ := Aside0.mk (blk_below (g := gb544) (o := .cells #[.slice (some ad545) l0_0.length c0_0, .slice A0_1 l0_1.length c0_1, .int .i64 a0_2, .int .i64 a0_3] 64 (0, 0)) (by (with_reducible repeat (first | refine blk_drewN ?_ _ | refine blk_drew ?_ | refine blk_alloc ?_ _)); exact BK544.out) hb); have n2_ := Aside0.mk (below_step (by repeat (first | (with_reducible first | exact HB.out | apply below_alloc | apply pw_below_drewN | apply below_drew1 | refine below_set ?_ GE544.out) | exact HB.out)) hb); have n3_ := Aside0.mk (hbox); have n4_ := Aside0.mk ((by rw [hg]; exact (below_size (by repeat (first | (with_reducible first | exact HB.out | apply below_alloc | apply pw_below_drewN | apply below_drew1 | refine below_set ?_ GE544.out) | exact HB.out))) : w.heap.size ≤ gb546)); have n5_ := Aside0.mk ((by rw [hg]; exact (below_size (by repeat (first | (with_reducible first | exact HB.out | apply below_alloc | apply pw_below_drewN | apply below_drew1 | refine below_set ?_ GE544.out) | exact HB.out))) : w.heap.size ≤ gb546)); have n6_ := Aside0.mk ((by rw [hg]; exact Nat.ne_of_lt (blk_lt (g := gb544) (o := .cells #[.slice (some ad545) l0_0.length c0_0, .slice A0_1 l0_1.length c0_1, .int .i64 a0_2, .int .i64 a0_3] 64 (0, 0)) (by (with_reducible repeat (first | refine blk_drewN ?_ _ | refine blk_drew ?_ | refine blk_alloc ?_ _)); exact BK544.out)) : gb544 ≠ gb546)); have n7_ := Aside0.mk ((by rw [hg]; exact Nat.ne_of_gt (blk_lt (g := gb544) (o := .cells #[.slice (some ad545) l0_0.length c0_0, .slice A0_1 l0_1.length c0_1, .int .i64 a0_2, .int .i64 a0_3] 64 (0, 0)) (by (with_reducible repeat (first | refine blk_drewN ?_ _ | refine blk_drew ?_ | refine blk_alloc ?_ _)); exact BK544.out)) : gb546 ≠ gb544)); clear HO_3; clear BK544; clear HB; have HO_3 := n0_; have BK544 := n1_; have HB := n2_; have BK546 := n3_; have GW546 := n4_; have GE546 := n5_; have NB544_546 := n6_; have NB546_544 := n7_; clear n0_ n1_ n2_ n3_ n4_ n5_ n6_ n7_; clear hb hbox hg; have hnb15 := NB546_544.out; have hnc15 := NB544_546.out; have hcz16_0 : w14.cell? ⟨gb546, 0, none⟩ = some (.int .i64 0) := (blk_cell BK546.out 0).trans rfl; have hcz16_1 : w14.cell? ⟨gb546, 1, none⟩ = some (.int .i64 0) := (blk_cell BK546.out 1).trans rfl; have hcz16_2 : w14.cell? ⟨gb546, 2, none⟩ = some (.int .i64 0) := (blk_cell BK546.out 2).trans rfl; have hfz16_0 := blk_frozen BK546.out 0; have hfz16_1 := blk_frozen BK546.out 1; have hfz16_2 := blk_frozen BK546.out 2; have hcz17_0 : w14.cell? ⟨gb544, 0, none⟩ = some (.slice (some ad545) l0_0.length c0_0) := (blk_cell BK544.out 0).trans rfl; have hcz17_1 : w14.cell? ⟨gb544, 1, none⟩ = some (.slice A0_1 l0_1.length c0_1) := (blk_cell BK544.out 1).trans rfl; have hcz17_2 : w14.cell? ⟨gb544, 2, none⟩ = some (.int .i64 a0_2) := (blk_cell BK544.out 2).trans rfl; have hcz17_3 : w14.cell? ⟨gb544, 3, none⟩ = some (.int .i64 a0_3) := (blk_cell BK544.out 3).trans rfl; have hfz17_0 := blk_frozen BK544.out 0; have hfz17_1 := blk_frozen BK544.out 1; have hfz17_2 := blk_frozen BK544.out 2; have hfz17_3 := blk_frozen BK544.out 3))
           have n0_ : Aside0 (Kd.R k71 71 (((w14.setCell ⟨gb546, 0, none⟩ (.int .i64 (wrap64 ((Int.tmod (wrap64 ((wrap64 ((Int.tmod (rd l0_0 x4_1) (wrap64 (x4_1 + 1))) + x4_1)) + 1)) (wrap64 (x4_1 + 1))) - 1)))).setCell ⟨gb546, 1, none⟩ (.int .i64 16)).setCell ⟨gb546, 2, none⟩ (.int .i64 16)) w.heap.size (fun k_ => k_ ≠ gb546) u3 x3_1) := ⟨by (with_reducible repeat (first | apply Kd.R_alloc | apply Kd.R_drewN | apply Kd.R_drew)); exact Kd.R_mono (Kd.R_far (p := ⟨gb546, 2, none⟩) (Kd.R_far (p := ⟨gb546, 1, none⟩) (Kd.R_far (p := ⟨gb546, 0, none⟩) (Kd.R_mono HO_3.out (fun k_ hk => (⟨hk, hk.2⟩ : _ ∧ k_ ≠ gb546))) (fun _ hk => hk.2) (.int .i64 (wrap64 ((Int.tmod (wrap64 ((wrap64 ((Int.tmod (rd l0_0 x4_1) (wrap64 (x4_1 + 1))) + x4_1)) + 1)) (wrap64 (x4_1 + 1))) - 1)))) (fun _ hk => hk.2) (.int .i64 16)) (fun _ hk => hk.2) (.int .i64 16)) (fun _ hk => hk.1.2)⟩
           have n1_ : Aside0 ((((w14.setCell ⟨gb546, 0, none⟩ (.int .i64 (wrap64 ((Int.tmod (wrap64 ((wrap64 ((Int.tmod (rd l0_0 x4_1) (wrap64 (x4_1 + 1))) + x4_1)) + 1)) (wrap64 (x4_1 + 1))) - 1)))).setCell ⟨gb546, 1, none⟩ (.int .i64 16)).setCell ⟨gb546, 2, none⟩ (.int .i64 16)).heap[gb544]? = some (.cells #[.slice (some ad545) l0_0.length c0_0, .slice A0_1 l0_1.length c0_1, .int .i64 a0_2, .int .i64 a0_3] 64 (0, 0))) := ⟨by (with_reducible repeat (first | refine blk_drewN ?_ _ | refine blk_drew ?_ | refine blk_alloc ?_ _)); refine blk_far ?_ NB544_546.out _; (with_reducible repeat (first | refine blk_drewN ?_ _ | refine blk_drew ?_ | refine blk_alloc ?_ _)); refine blk_far ?_ NB544_546.out _; (with_reducible repeat (first | refine blk_drewN ?_ _ | refine blk_drew ?_ | refine blk_alloc ?_ _)); refine blk_far ?_ NB544_546.out _; (with_reducible repeat (first | refine blk_drewN ?_ _ | refine blk_drew ?_ | refine blk_alloc ?_ _)); exact BK544.out⟩
           have n2_ : Aside0 ((((w14.setCell ⟨gb546, 0, none⟩ (.int .i64 (wrap64 ((Int.tmod (wrap64 ((wrap64 ((Int.tmod (rd l0_0 x4_1) (wrap64 (x4_1 + 1))) + x4_1)) + 1)) (wrap64 (x4_1 + 1))) - 1)))).setCell ⟨gb546, 1, none⟩ (.int .i64 16)).setCell ⟨gb546, 2, none⟩ (.int .i64 16)).heap[gb546]? = some (.cells #[.int .i64 (wrap64 ((Int.tmod (wrap64 ((wrap64 ((Int.tmod (rd l0_0 x4_1) (wrap64 (x4_1 + 1))) + x4_1)) + 1)) (wrap64 (x4_1 + 1))) - 1)), .int .i64 16, .int .i64 16] 71 (0, 0))) := ⟨by (with_reducible repeat (first | refine blk_drewN ?_ _ | refine blk_drew ?_ | refine blk_alloc ?_ _)); refine blk_put (cs := #[.int .i64 (wrap64 ((Int.tmod (wrap64 ((wrap64 ((Int.tmod (rd l0_0 x4_1) (wrap64 (x4_1 + 1))) + x4_1)) + 1)) (wrap64 (x4_1 + 1))) - 1)), .int .i64 16, .int .i64 0]) ?_ 2 _ rfl; (with_reducible repeat (first | refine blk_drewN ?_ _ | refine blk_drew ?_ | refine blk_alloc ?_ _)); refine blk_put (cs := #[.int .i64 (wrap64 ((Int.tmod (wrap64 ((wrap64 ((Int.tmod (rd l0_0 x4_1) (wrap64 (x4_1 + 1))) + x4_1)) + 1)) (wrap64 (x4_1 + 1))) - 1)), .int .i64 0, .int .i64 0]) ?_ 1 _ rfl; (with_reducible repeat (first | refine blk_drewN ?_ _ | refine blk_drew ?_ | refine blk_alloc ?_ _)); refine blk_put (cs := #[.int .i64 0, .int .i64 0, .int .i64 0]) ?_ 0 _ rfl; (with_reducible repeat (first | refine blk_drewN ?_ _ | refine blk_drew ?_ | refine blk_alloc ?_ _)); exact BK546.out⟩
           have n3_ : Aside0 (Below w.heap.size w (((w14.setCell ⟨gb546, 0, none⟩ (.int .i64 (wrap64 ((Int.tmod (wrap64 ((wrap64 ((Int.tmod (rd l0_0 x4_1) (wrap64 (x4_1 + 1))) + x4_1)) + 1)) (wrap64 (x4_1 + 1))) - 1)))).setCell ⟨gb546, 1, none⟩ (.int .i64 16)).setCell ⟨gb546, 2, none⟩ (.int .i64 16))) := ⟨by repeat (first | (with_reducible first | exact HB.out | apply below_alloc | apply pw_below_drewN | apply below_drew1 | refine below_set ?_ GE544.out | refine below_set ?_ GE546.out) | exact HB.out)⟩
           (try clear HO_3)
           (try clear BK544)
           (try clear BK546)
           (try clear HB)
           generalize (((w14.setCell ⟨gb546, 0, none⟩ (.int .i64 (wrap64 ((Int.tmod (wrap64 ((wrap64 ((Int.tmod (rd l0_0 x4_1) (wrap64 (x4_1 + 1))) + x4_1)) + 1)) (wrap64 (x4_1 + 1))) - 1)))).setCell ⟨gb546, 1, none⟩ (.int .i64 16)).setCell ⟨gb546, 2, none⟩ (.int .i64 16)) = w18 at n0_ n1_ n2_ n3_ ⊢
           have HO_3 := n0_
           have BK544 := n1_
           have BK546 := n2_
           have HB := n3_
           clear n0_ n1_ n2_ n3_
           have n0_ := Aside0.mk (Kd.R_drew HO_3.out)
           have n1_ := Aside0.mk (blk_drew BK544.out)
           have n2_ := Aside0.mk (blk_drew BK546.out)
           have n3_ := Aside0.mk (below_drew1 HB.out)
           clear HO_3
           clear BK544
           clear BK546
           clear HB
           have HO_3 := n0_
           have BK544 := n1_
           have BK546 := n2_
           have HB := n3_
           clear n0_ n1_ n2_ n3_
           have p547 : 0 ≤ (x4_1 : Int) := of_decide_eq_true (by first | (with_reducible assumption) | assumption)
           have q547 : x4_1 < (l0_1.length : Int) := of_decide_eq_true (by first | (with_reducible assumption) | assumption)
           obtain ⟨ad547, e547, hx547_0, hx547_1⟩ := at_T39 HR0_1.out x4_1 p547 q547
           have hw547_1 := hx547_1
           have hw547_0 := hx547_0
           cases e547
           replace hx547_0 := (HB.out.cell (World.block_lt_of_cell? w _ hx547_0)).trans hx547_0
           replace hx547_1 := (HB.out.cell (World.block_lt_of_cell? w _ hx547_1)).trans hx547_1
           replace p547 := eq_true p547
           replace q547 := eq_true q547
           have p548 : 0 ≤ (x4_1 : Int) := of_decide_eq_true (by first | (with_reducible assumption) | assumption)
           have q548 : x4_1 < (l0_1.length : Int) := of_decide_eq_true (by first | (with_reducible assumption) | assumption)
           obtain ⟨ad548, e548, hx548_0, hx548_1⟩ := at_T39 HR0_1.out x4_1 p548 q548
           have hw548_1 := hx548_1
           have hw548_0 := hx548_0
           obtain rfl : ad547 = ad548 := (by injection e548)
           replace hx548_0 := (HB.out.cell (World.block_lt_of_cell? w _ hx548_0)).trans hx548_0
           replace hx548_1 := (HB.out.cell (World.block_lt_of_cell? w _ hx548_1)).trans hx548_1
           replace p548 := eq_true p548
           replace q548 := eq_true q548
           refine start_ (n := 18) (S := fun w' => w'.cell? ⟨gb544, 0, none⟩ = some (.slice (some ad545) l0_0.length c0_0) ∧ w'.cell? ⟨gb544, 1, none⟩ = some (.slice (some ad547) l0_1.length c0_1) ∧ w'.cell? ⟨gb544, 2, none⟩ = some (.int .i64 a0_2) ∧ w'.cell? ⟨gb544, 3, none⟩ = some (.int .i64 a0_3) ∧ w'.cell? (ad547.add ((x4_1).toNat * 2)) = some (.int .i64 ((rd_T39 l0_1 x4_1).f0)) ∧ w'.cell? ⟨(ad547.add ((x4_1).toNat * 2)).block, (ad547.add ((x4_1).toNat * 2)).off + 1, none⟩ = some (.int .i64 ((rd_T39 l0_1 x4_1).f1)) ∧ w'.cell? (ad547.add ((x4_1).toNat * 2)) = some (.int .i64 ((rd_T39 l0_1 x4_1).f0)) ∧ w'.cell? ⟨(ad547.add ((x4_1).toNat * 2)).block, (ad547.add ((x4_1).toNat * 2)).off + 1, none⟩ = some (.int .i64 ((rd_T39 l0_1 x4_1).f1))) (ds := []) #[false, false, false, false, false, false, false, false, false, false, false, false, false, false, false, false, false, false] (by kernel_rfl) rfl rfl ⟨(blk_cell BK544.out 0).trans rfl, (blk_cell BK544.out 1).trans rfl, (blk_cell BK544.out 2).trans rfl, (blk_cell BK544.out 3).trans rfl, ((HB.out.cell (World.block_lt_of_cell? w _ hw547_0)).trans hw547_0), ((HB.out.cell (World.block_lt_of_cell? w _ hw547_1)).trans hw547_1), ((HB.out.cell (World.block_lt_of_cell? w _ hw548_0)).trans hw548_0), ((HB.out.cell (World.block_lt_of_cell? w _ hw548_1)).trans hw548_1)⟩ (fun hHeld => ?_); refine with_tabW regattalaw13_Spec_servers.tab7 regattalaw13_Spec_servers.bits7 (fun HT_ HW_ => ?_)
           generalize w18.drew = w19 at HO_3 BK544 BK546 HB hx547_0 hx547_1 hx548_0 hx548_1 hHeld ⊢
           refine pure_ (i := 0) (N := some 39) (v := ?_) (a' := ?_) #[true, false, false, false, false, false, false, false, false, false, false, false, false, false, false, false, false, false] rfl rfl (any_of HT_.out (by kernel_rfl)) (fun _ _ _ h => h) (Or.inl ⟨by rfl, ?_⟩) ?_ ?_
           rotate_left
           ·intro w'
            go_simp
            with_reducible rfl
           rotate_left
           ·simp only [Act.put, List.setIfInBounds_toArray, List.set_cons_zero, List.set_cons_succ, i64_w, i32_w]
            rfl
           refine pure_ (i := 2) (N := some 41) (v := ?_) (a' := ?_) #[true, false, true, false, false, false, false, false, false, false, false, false, false, false, false, false, false, false] rfl rfl (any_of HT_.out (by kernel_rfl)) (fun _ _ _ h => h) (Or.inl ⟨by rfl, ?_⟩) ?_ ?_
           rotate_left
           ·intro w'
            go_simp
            with_reducible rfl
           rotate_left
           ·simp only [Act.put, List.setIfInBounds_toArray, List.set_cons_zero, List.set_cons_succ, i64_w, i32_w]
            rfl
           refine pure_ (i := 7) (N := some 46) (v := ?_) (a' := ?_) #[true, false, true, false, false, false, false, true, false, false, false, false, false, false, false, false, false, false] rfl rfl (any_of HT_.out (by kernel_rfl)) (fun _ _ _ h => h) (Or.inl ⟨by rfl, ?_⟩) ?_ ?_
           rotate_left
           ·intro w'
            go_simp
            with_reducible rfl
           rotate_left
           ·simp only [Act.put, List.setIfInBounds_toArray, List.set_cons_zero, List.set_cons_succ, i64_w, i32_w]
            rfl
           refine pure_ (i := 9) (N := some 48) (v := ?_) (a' := ?_) #[true, false, true, false, false, false, false, true, false, true, false, false, false, false, false, false, false, false] rfl rfl (any_of HT_.out (by kernel_rfl)) (fun _ _ _ h => h) (Or.inl ⟨by rfl, ?_⟩) ?_ ?_
           rotate_left
           ·intro w'
            go_simp
            with_reducible rfl
           rotate_left
           ·simp only [Act.put, List.setIfInBounds_toArray, List.set_cons_zero, List.set_cons_succ, i64_w, i32_w]
            rfl
           refine take_ (i := 1) (N := some 40) (v := ?_) (a' := ?_) #[true, true, true, false, false, false, false, true, false, true, false, false, false, false, false, false, false, false] rfl rfl (take_ofW HT_.out HW_.out (by kernel_rfl)) (fun _ _ _ h => h) (Or.inl ⟨by rfl, ?_⟩) hHeld ?_ ?_
           rotate_left
           ·rintro w' ⟨s0, s1, s2, s3, s4, s5, s6, s7⟩
            go_simp
            with_reducible rfl
           rotate_left
           ·simp only [Act.put, List.setIfInBounds_toArray, List.set_cons_zero, List.set_cons_succ, i64_w, i32_w]
            rfl
           refine pure_ (i := 3) (N := some 42) (v := ?_) (a' := ?_) #[true, true, true, true, false, false, false, true, false, true, false, false, false, false, false, false, false, false] rfl rfl (any_of HT_.out (by kernel_rfl)) (fun _ _ _ h => h) (Or.inl ⟨by rfl, ?_⟩) ?_ ?_
           rotate_left
           ·intro w'
            go_simp
            with_reducible rfl
           rotate_left
           ·simp only [Act.put, List.setIfInBounds_toArray, List.set_cons_zero, List.set_cons_succ, i64_w, i32_w]
            rfl
           refine pure_ (i := 4) (N := some 43) (v := ?_) (a' := ?_) #[true, true, true, true, true, false, false, true, false, true, false, false, false, false, false, false, false, false] rfl rfl (any_of HT_.out (by kernel_rfl)) (fun _ _ _ h => h) (Or.inl ⟨by rfl, ?_⟩) ?_ ?_
           rotate_left
           ·intro w'
            go_simp
            with_reducible rfl
           rotate_left
           ·simp only [Act.put, List.setIfInBounds_toArray, List.set_cons_zero, List.set_cons_succ, i64_w, i32_w]
            rfl
           refine take_ (i := 5) (N := some 44) (v := ?_) (a' := ?_) #[true, true, true, true, true, true, false, true, false, true, false, false, false, false, false, false, false, false] rfl rfl (take_ofW HT_.out HW_.out (by kernel_rfl)) (fun _ _ _ h => h) (Or.inl ⟨by rfl, ?_⟩) hHeld ?_ ?_
           rotate_left
           ·rintro w' ⟨s0, s1, s2, s3, s4, s5, s6, s7⟩
            go_simp
            with_reducible rfl
           rotate_left
           ·simp only [Act.put, List.setIfInBounds_toArray, List.set_cons_zero, List.set_cons_succ, i64_w, i32_w]
            rfl
           refine pure_ (i := 6) (N := some 45) (v := ?_) (a' := ?_) #[true, true, true, true, true, true, true, true, false, true, false, false, false, false, false, false, false, false] rfl rfl (any_of HT_.out (by kernel_rfl)) (fun _ _ _ h => h) (Or.inl ⟨by rfl, ?_⟩) ?_ ?_
           rotate_left
           ·intro w'
            go_simp
            with_reducible rfl
           rotate_left
           ·simp only [Act.put, List.setIfInBounds_toArray, List.set_cons_zero, List.set_cons_succ, i64_w, i32_w]
            rfl
           refine take_ (i := 8) (N := some 47) (v := ?_) (a' := ?_) #[true, true, true, true, true, true, true, true, true, true, false, false, false, false, false, false, false, false] rfl rfl (take_ofW HT_.out HW_.out (by kernel_rfl)) (fun _ _ _ h => h) (Or.inl ⟨by rfl, ?_⟩) hHeld ?_ ?_
           rotate_left
           ·rintro w' ⟨s0, s1, s2, s3, s4, s5, s6, s7⟩
            go_simp
            with_reducible rfl
           rotate_left
           ·simp only [Act.put, List.setIfInBounds_toArray, List.set_cons_zero, List.set_cons_succ, i64_w, i32_w]
            rfl
           refine pure_ (i := 10) (N := some 49) (v := ?_) (a' := ?_) #[true, true, true, true, true, true, true, true, true, true, true, false, false, false, false, false, false, false] rfl rfl (any_of HT_.out (by kernel_rfl)) (fun _ _ _ h => h) (Or.inl ⟨by rfl, ?_⟩) ?_ ?_
           rotate_left
           ·intro w'
            go_simp
            with_reducible rfl
           rotate_left
           ·simp only [Act.put, List.setIfInBounds_toArray, List.set_cons_zero, List.set_cons_succ, i64_w, i32_w]
            rfl
           refine pure_ (i := 11) (N := some 50) (v := ?_) (a' := ?_) #[true, true, true, true, true, true, true, true, true, true, true, true, false, false, false, false, false, false] rfl rfl (any_of HT_.out (by kernel_rfl)) (fun _ _ _ h => h) (Or.inl ⟨by rfl, ?_⟩) ?_ ?_
           rotate_left
           ·intro w'
            go_simp
            with_reducible rfl
           rotate_left
           ·simp only [Act.put, List.setIfInBounds_toArray, List.set_cons_zero, List.set_cons_succ, i64_w, i32_w]
            rfl
           refine take_ (i := 12) (N := some 51) (v := ?_) (a' := ?_) #[true, true, true, true, true, true, true, true, true, true, true, true, true, false, false, false, false, false] rfl rfl (take_ofW HT_.out HW_.out (by kernel_rfl)) (fun _ _ _ h => h) (Or.inl ⟨by rfl, ?_⟩) hHeld ?_ ?_
           rotate_left
           ·rintro w' ⟨s0, s1, s2, s3, s4, s5, s6, s7⟩
            go_simp
            with_reducible rfl
           rotate_left
           ·simp only [Act.put, List.setIfInBounds_toArray, List.set_cons_zero, List.set_cons_succ, i64_w, i32_w]
            rfl
           refine pure_ (i := 13) (N := some 52) (v := ?_) (a' := ?_) #[true, true, true, true, true, true, true, true, true, true, true, true, true, true, false, false, false, false] rfl rfl (any_of HT_.out (by kernel_rfl)) (fun _ _ _ h => h) (Or.inl ⟨by rfl, ?_⟩) ?_ ?_
           rotate_left
           ·intro w'
            go_simp
            with_reducible rfl
           rotate_left
           ·simp only [Act.put, List.setIfInBounds_toArray, List.set_cons_zero, List.set_cons_succ, i64_w, i32_w]
            rfl
           refine pure_ (i := 14) (N := some 53) (v := ?_) (a' := ?_) #[true, true, true, true, true, true, true, true, true, true, true, true, true, true, true, false, false, false] rfl rfl (any_of HT_.out (by kernel_rfl)) (fun _ _ _ h => h) (Or.inl ⟨by rfl, ?_⟩) ?_ ?_
           rotate_left
           ·intro w'
            go_simp
            with_reducible rfl
           rotate_left
           ·simp only [Act.put, List.setIfInBounds_toArray, List.set_cons_zero, List.set_cons_succ, i64_w, i32_w]
            rfl
           refine pure_ (i := 15) (N := some 54) (v := ?_) (a' := ?_) #[true, true, true, true, true, true, true, true, true, true, true, true, true, true, true, true, false, false] rfl rfl (any_of HT_.out (by kernel_rfl)) (fun _ _ _ h => h) (Or.inl ⟨by rfl, ?_⟩) ?_ ?_
           rotate_left
           ·intro w'
            go_simp
            with_reducible rfl
           rotate_left
           ·simp only [Act.put, List.setIfInBounds_toArray, List.set_cons_zero, List.set_cons_succ, i64_w, i32_w]
            rfl
           refine pure_ (i := 16) (N := some 55) (v := ?_) (a' := ?_) #[true, true, true, true, true, true, true, true, true, true, true, true, true, true, true, true, true, false] rfl rfl (any_of HT_.out (by kernel_rfl)) (fun _ _ _ h => h) (Or.inl ⟨by rfl, ?_⟩) ?_ ?_
           rotate_left
           ·intro w'
            go_simp
            with_reducible rfl
           rotate_left
           ·simp only [Act.put, List.setIfInBounds_toArray, List.set_cons_zero, List.set_cons_succ, i64_w, i32_w]
            rfl
           refine one_ (i := 17) (N := none) #[true, true, true, true, true, true, true, true, true, true, true, true, true, true, true, true, true, true] rfl rfl (one_of HT_.out (by kernel_rfl)) (by decide) (fun K hK => ?_)
           have hs20 : w19.cell? ⟨gb546, 1, none⟩ = some (.int .i64 16) := (blk_cell BK546.out 1).trans rfl
           have hfs20 := blk_frozen BK546.out 1
           have hns20_0 := NB544_546.out
           have hms20_0 := NB546_544.out
           have hs21 : w19.cell? ⟨gb546, 2, none⟩ = some (.int .i64 16) := (blk_cell BK546.out 2).trans rfl
           have hfs21 := blk_frozen BK546.out 2
           have hns21_0 := NB544_546.out
           have hms21_0 := NB546_544.out
           refine skip_ (w1 := ?_) (by rfl) rfl ?_ ?_
           rotate_left
           ·go_simp
            rfl
           refine hK.out _ _ ⟨((cell_far (p := ⟨gb546, _, none⟩) NB544_546.out _).trans (((cell_far (p := ⟨gb546, _, none⟩) NB544_546.out _).trans (hHeld.1)))), ((cell_far (p := ⟨gb546, _, none⟩) NB544_546.out _).trans (((cell_far (p := ⟨gb546, _, none⟩) NB544_546.out _).trans (hHeld.2.1)))), ((cell_far (p := ⟨gb546, _, none⟩) NB544_546.out _).trans (((cell_far (p := ⟨gb546, _, none⟩) NB544_546.out _).trans (hHeld.2.2.1)))), ((cell_far (p := ⟨gb546, _, none⟩) NB544_546.out _).trans (((cell_far (p := ⟨gb546, _, none⟩) NB544_546.out _).trans (hHeld.2.2.2.1)))), ((cell_far (p := ⟨gb546, _, none⟩) (by first | exact Nat.ne_of_lt (Nat.lt_of_lt_of_le (by have := World.block_lt_of_cell? _ _ hw547_0; first | rwa [add_block] at this | exact this) GW546.out) | (rw [add_block]; exact Nat.ne_of_lt (Nat.lt_of_lt_of_le (by have := World.block_lt_of_cell? _ _ hw547_0; first | rwa [add_block] at this | exact this) GW546.out)) | (show (Addr.add _ _).block ≠ _; rw [add_block]; exact Nat.ne_of_lt (Nat.lt_of_lt_of_le (by have := World.block_lt_of_cell? _ _ hw547_0; first | rwa [add_block] at this | exact this) GW546.out)) | (dsimp only; exact Nat.ne_of_lt (Nat.lt_of_lt_of_le (by have := World.block_lt_of_cell? _ _ hw547_0; first | rwa [add_block] at this | exact this) GW546.out))) _).trans (((cell_far (p := ⟨gb546, _, none⟩) (by first | exact Nat.ne_of_lt (Nat.lt_of_lt_of_le (by have := World.block_lt_of_cell? _ _ hw547_0; first | rwa [add_block] at this | exact this) GW546.out) | (rw [add_block]; exact Nat.ne_of_lt (Nat.lt_of_lt_of_le (by have := World.block_lt_of_cell? _ _ hw547_0; first | rwa [add_block] at this | exact this) GW546.out)) | (show (Addr.add _ _).block ≠ _; rw [add_block]; exact Nat.ne_of_lt (Nat.lt_of_lt_of_le (by have := World.block_lt_of_cell? _ _ hw547_0; first | rwa [add_block] at this | exact this) GW546.out)) | (dsimp only; exact Nat.ne_of_lt (Nat.lt_of_lt_of_le (by have := World.block_lt_of_cell? _ _ hw547_0; first | rwa [add_block] at this | exact this) GW546.out))) _).trans (hHeld.2.2.2.2.1)))), ((cell_far (p := ⟨gb546, _, none⟩) (by first | exact Nat.ne_of_lt (Nat.lt_of_lt_of_le (by have := World.block_lt_of_cell? _ _ hw547_1; first | rwa [add_block] at this | exact this) GW546.out) | (rw [add_block]; exact Nat.ne_of_lt (Nat.lt_of_lt_of_le (by have := World.block_lt_of_cell? _ _ hw547_1; first | rwa [add_block] at this | exact this) GW546.out)) | (show (Addr.add _ _).block ≠ _; rw [add_block]; exact Nat.ne_of_lt (Nat.lt_of_lt_of_le (by have := World.block_lt_of_cell? _ _ hw547_1; first | rwa [add_block] at this | exact this) GW546.out)) | (dsimp only; exact Nat.ne_of_lt (Nat.lt_of_lt_of_le (by have := World.block_lt_of_cell? _ _ hw547_1; first | rwa [add_block] at this | exact this) GW546.out))) _).trans (((cell_far (p := ⟨gb546, _, none⟩) (by first | exact Nat.ne_of_lt (Nat.lt_of_lt_of_le (by have := World.block_lt_of_cell? _ _ hw547_1; first | rwa [add_block] at this | exact this) GW546.out) | (rw [add_block]; exact Nat.ne_of_lt (Nat.lt_of_lt_of_le (by have := World.block_lt_of_cell? _ _ hw547_1; first | rwa [add_block] at this | exact this) GW546.out)) | (show (Addr.add _ _).block ≠ _; rw [add_block]; exact Nat.ne_of_lt (Nat.lt_of_lt_of_le (by have := World.block_lt_of_cell? _ _ hw547_1; first | rwa [add_block] at this | exact this) GW546.out)) | (dsimp only; exact Nat.ne_of_lt (Nat.lt_of_lt_of_le (by have := World.block_lt_of_cell? _ _ hw547_1; first | rwa [add_block] at this | exact this) GW546.out))) _).trans (hHeld.2.2.2.2.2.1)))), ((cell_far (p := ⟨gb546, _, none⟩) (by first | exact Nat.ne_of_lt (Nat.lt_of_lt_of_le (by have := World.block_lt_of_cell? _ _ hw548_0; first | rwa [add_block] at this | exact this) GW546.out) | (rw [add_block]; exact Nat.ne_of_lt (Nat.lt_of_lt_of_le (by have := World.block_lt_of_cell? _ _ hw548_0; first | rwa [add_block] at this | exact this) GW546.out)) | (show (Addr.add _ _).block ≠ _; rw [add_block]; exact Nat.ne_of_lt (Nat.lt_of_lt_of_le (by have := World.block_lt_of_cell? _ _ hw548_0; first | rwa [add_block] at this | exact this) GW546.out)) | (dsimp only; exact Nat.ne_of_lt (Nat.lt_of_lt_of_le (by have := World.block_lt_of_cell? _ _ hw548_0; first | rwa [add_block] at this | exact this) GW546.out))) _).trans (((cell_far (p := ⟨gb546, _, none⟩) (by first | exact Nat.ne_of_lt (Nat.lt_of_lt_of_le (by have := World.block_lt_of_cell? _ _ hw548_0; first | rwa [add_block] at this | exact this) GW546.out) | (rw [add_block]; exact Nat.ne_of_lt (Nat.lt_of_lt_of_le (by have := World.block_lt_of_cell? _ _ hw548_0; first | rwa [add_block] at this | exact this) GW546.out)) | (show (Addr.add _ _).block ≠ _; rw [add_block]; exact Nat.ne_of_lt (Nat.lt_of_lt_of_le (by have := World.block_lt_of_cell? _ _ hw548_0; first | rwa [add_block] at this | exact this) GW546.out)) | (dsimp only; exact Nat.ne_of_lt (Nat.lt_of_lt_of_le (by have := World.block_lt_of_cell? _ _ hw548_0; first | rwa [add_block] at this | exact this) GW546.out))) _).trans (hHeld.2.2.2.2.2.2.1)))), ((cell_far (p := ⟨gb546, _, none⟩) (by first | exact Nat.ne_of_lt (Nat.lt_of_lt_of_le (by have := World.block_lt_of_cell? _ _ hw548_1; first | rwa [add_block] at this | exact this) GW546.out) | (rw [add_block]; exact Nat.ne_of_lt (Nat.lt_of_lt_of_le (by have := World.block_lt_of_cell? _ _ hw548_1; first | rwa [add_block] at this | exact this) GW546.out)) | (show (Addr.add _ _).block ≠ _; rw [add_block]; exact Nat.ne_of_lt (Nat.lt_of_lt_of_le (by have := World.block_lt_of_cell? _ _ hw548_1; first | rwa [add_block] at this | exact this) GW546.out)) | (dsimp only; exact Nat.ne_of_lt (Nat.lt_of_lt_of_le (by have := World.block_lt_of_cell? _ _ hw548_1; first | rwa [add_block] at this | exact this) GW546.out))) _).trans (((cell_far (p := ⟨gb546, _, none⟩) (by first | exact Nat.ne_of_lt (Nat.lt_of_lt_of_le (by have := World.block_lt_of_cell? _ _ hw548_1; first | rwa [add_block] at this | exact this) GW546.out) | (rw [add_block]; exact Nat.ne_of_lt (Nat.lt_of_lt_of_le (by have := World.block_lt_of_cell? _ _ hw548_1; first | rwa [add_block] at this | exact this) GW546.out)) | (show (Addr.add _ _).block ≠ _; rw [add_block]; exact Nat.ne_of_lt (Nat.lt_of_lt_of_le (by have := World.block_lt_of_cell? _ _ hw548_1; first | rwa [add_block] at this | exact this) GW546.out)) | (dsimp only; exact Nat.ne_of_lt (Nat.lt_of_lt_of_le (by have := World.block_lt_of_cell? _ _ hw548_1; first | rwa [add_block] at this | exact this) GW546.out))) _).trans (hHeld.2.2.2.2.2.2.2))))⟩ (fun hHeld => ?_)
           clear hK K
           refine done_ (done_of HT_.out (by kernel_rfl)) ?_
           have hcz22_0 : w19.cell? ⟨gb546, 0, none⟩ = some (.int .i64 (wrap64 ((Int.tmod (wrap64 ((wrap64 ((Int.tmod (rd l0_0 x4_1) (wrap64 (x4_1 + 1))) + x4_1)) + 1)) (wrap64 (x4_1 + 1))) - 1))) := (blk_cell BK546.out 0).trans rfl
           have hcz22_1 : w19.cell? ⟨gb546, 1, none⟩ = some (.int .i64 16) := (blk_cell BK546.out 1).trans rfl
           have hcz22_2 : w19.cell? ⟨gb546, 2, none⟩ = some (.int .i64 16) := (blk_cell BK546.out 2).trans rfl
           have hfz22_0 := blk_frozen BK546.out 0
           have hfz22_1 := blk_frozen BK546.out 1
           have hfz22_2 := blk_frozen BK546.out 2
           try go_wp2_with (first | ((with_reducible refine gate_builtin (b := .append) (xs := #[.tmp 56, .tmp 58]) rfl ?_); at_builtin; refine Kd.R_append k71 (w0 := w) w.heap.size rfl (.tmp 56) (.tmp 58) 65 71 (.agg #[(.int .i64 0), (.int .i64 0), (.int .i64 0)]) 24 rfl Try.underlying65 info71 rfl (by decide) (by omega) u3 x3_1 (⟨wrap64 ((Int.tmod (wrap64 ((wrap64 ((Int.tmod (rd l0_0 x4_1) (wrap64 (x4_1 + 1))) + x4_1)) + 1)) (wrap64 (x4_1 + 1))) - 1), (⟨Go.bits .and .i64 ((rd_T39 l0_1 x4_1).f0) 31, wrap64 (1 + (Go.bits .and .i64 ((rd_T39 l0_1 x4_1).f1) 15))⟩ : S34)⟩ : S71) [.int .i64 (wrap64 ((Int.tmod (wrap64 ((wrap64 ((Int.tmod (rd l0_0 x4_1) (wrap64 (x4_1 + 1))) + x4_1)) + 1)) (wrap64 (x4_1 + 1))) - 1)), .int .i64 (Go.bits .and .i64 ((rd_T39 l0_1 x4_1).f0) 31), .int .i64 (wrap64 (1 + (Go.bits .and .i64 ((rd_T39 l0_1 x4_1).f1) 15)))] (fun k_ => k_ ≠ gb546) (fun _ => False) rfl (by first | (go_simp; done) | (go_simp; rfl)) ?aP (fun _ hk => hk.elim) ?aF ?aO ?aB ?aS ?aL ?_; (case aP => exact k71_mkM _ _ _ (⟨wrap64 ((Int.tmod (wrap64 ((wrap64 ((Int.tmod (rd l0_0 x4_1) (wrap64 (x4_1 + 1))) + x4_1)) + 1)) (wrap64 (x4_1 + 1))) - 1), (⟨Go.bits .and .i64 ((rd_T39 l0_1 x4_1).f0) 31, wrap64 (1 + (Go.bits .and .i64 ((rd_T39 l0_1 x4_1).f1) 15))⟩ : S34)⟩ : S71)); (case aB => exact (by repeat (first | (with_reducible first | exact HB.out | apply below_alloc | apply pw_below_drewN | apply below_drew1 | refine below_set ?_ GE544.out | refine below_set ?_ GE546.out) | exact HB.out))); (case aF => exact (fun k_ hk => Kd.freshB (g := gb546) (o := .cells #[.int .i64 (wrap64 ((Int.tmod (wrap64 ((wrap64 ((Int.tmod (rd l0_0 x4_1) (wrap64 (x4_1 + 1))) + x4_1)) + 1)) (wrap64 (x4_1 + 1))) - 1)), .int .i64 (Go.bits .and .i64 ((rd_T39 l0_1 x4_1).f0) 31), .int .i64 (wrap64 (1 + (Go.bits .and .i64 ((rd_T39 l0_1 x4_1).f1) 15)))] 71 (0, 0)) (by (with_reducible repeat (first | refine blk_drewN ?_ _ | refine blk_drew ?_ | refine blk_alloc ?_ _)); refine blk_put (cs := #[.int .i64 (wrap64 ((Int.tmod (wrap64 ((wrap64 ((Int.tmod (rd l0_0 x4_1) (wrap64 (x4_1 + 1))) + x4_1)) + 1)) (wrap64 (x4_1 + 1))) - 1)), .int .i64 (Go.bits .and .i64 ((rd_T39 l0_1 x4_1).f0) 31), .int .i64 16]) ?_ 2 _ rfl; (with_reducible repeat (first | refine blk_drewN ?_ _ | refine blk_drew ?_ | refine blk_alloc ?_ _)); refine blk_put (cs := #[.int .i64 (wrap64 ((Int.tmod (wrap64 ((wrap64 ((Int.tmod (rd l0_0 x4_1) (wrap64 (x4_1 + 1))) + x4_1)) + 1)) (wrap64 (x4_1 + 1))) - 1)), .int .i64 16, .int .i64 16]) ?_ 1 _ rfl; (with_reducible repeat (first | refine blk_drewN ?_ _ | refine blk_drew ?_ | refine blk_alloc ?_ _)); exact BK546.out) k_ hk)); (case aO => exact (by (with_reducible repeat (first | apply Kd.R_alloc | apply Kd.R_drewN | apply Kd.R_drew)); exact Kd.R_mono (Kd.R_far (p := ⟨gb546, 2, none⟩) (Kd.R_far (p := ⟨gb546, 1, none⟩) (Kd.R_mono HO_3.out (fun k_ hk => (⟨hk, hk⟩ : _ ∧ k_ ≠ gb546))) (fun _ hk => hk.2) (.int .i64 (Go.bits .and .i64 ((rd_T39 l0_1 x4_1).f0) 31))) (fun _ hk => hk.2) (.int .i64 (wrap64 (1 + (Go.bits .and .i64 ((rd_T39 l0_1 x4_1).f1) 15))))) (fun _ hk => hk.1))); (case aS => exact (below_size (by repeat (first | (with_reducible first | exact HB.out | apply below_alloc | apply pw_below_drewN | apply below_drew1 | refine below_set ?_ GE544.out | refine below_set ?_ GE546.out) | exact HB.out)))); (case aL => have := LMc12.out; omega); intro v550 w23 ho hb hg hat; rw [← Ny549.out] at ho; have n0_ := Aside0.mk (blk_grown (g := gb544) (o := .cells #[.slice (some ad545) l0_0.length c0_0, .slice (some ad547) l0_1.length c0_1, .int .i64 a0_2, .int .i64 a0_3] 64 (0, 0)) (by (with_reducible repeat (first | refine blk_drewN ?_ _ | refine blk_drew ?_ | refine blk_alloc ?_ _)); refine blk_far ?_ NB544_546.out _; (with_reducible repeat (first | refine blk_drewN ?_ _ | refine blk_drew ?_ | refine blk_alloc ?_ _)); refine blk_far ?_ NB544_546.out _; (with_reducible repeat (first | refine blk_drewN ?_ _ | refine blk_drew ?_ | refine blk_alloc ?_ _)); exact BK544.out) hg (Kd.R_ne HO_3.out BK544.out (by decide))); have n1_ := Aside0.mk (blk_grown (g := gb546) (o := .cells #[.int .i64 (wrap64 ((Int.tmod (wrap64 ((wrap64 ((Int.tmod (rd l0_0 x4_1) (wrap64 (x4_1 + 1))) + x4_1)) + 1)) (wrap64 (x4_1 + 1))) - 1)), .int .i64 (Go.bits .and .i64 ((rd_T39 l0_1 x4_1).f0) 31), .int .i64 (wrap64 (1 + (Go.bits .and .i64 ((rd_T39 l0_1 x4_1).f1) 15)))] 71 (0, 0)) (by (with_reducible repeat (first | refine blk_drewN ?_ _ | refine blk_drew ?_ | refine blk_alloc ?_ _)); refine blk_put (cs := #[.int .i64 (wrap64 ((Int.tmod (wrap64 ((wrap64 ((Int.tmod (rd l0_0 x4_1) (wrap64 (x4_1 + 1))) + x4_1)) + 1)) (wrap64 (x4_1 + 1))) - 1)), .int .i64 (Go.bits .and .i64 ((rd_T39 l0_1 x4_1).f0) 31), .int .i64 16]) ?_ 2 _ rfl; (with_reducible repeat (first | refine blk_drewN ?_ _ | refine blk_drew ?_ | refine blk_alloc ?_ _)); refine blk_put (cs := #[.int .i64 (wrap64 ((Int.tmod (wrap64 ((wrap64 ((Int.tmod (rd l0_0 x4_1) (wrap64 (x4_1 + 1))) + x4_1)) + 1)) (wrap64 (x4_1 + 1))) - 1)), .int .i64 16, .int .i64 16]) ?_ 1 _ rfl; (with_reducible repeat (first | refine blk_drewN ?_ _ | refine blk_drew ?_ | refine blk_alloc ?_ _)); exact BK546.out) hg (Kd.R_away HO_3.out (fun _ hk => hk))); have n2_ := Aside0.mk (hb); have n3_ := Aside0.mk (ho); clear BK544; clear BK546; clear HB; clear HO_3; have BK544 := n0_; have BK546 := n1_; have HB := n2_; have HO551 := n3_; clear n0_ n1_ n2_ n3_; clear ho hb hg hat))
           go_roundg kj2
           case measure => have := HK1.out; have := HJ2.out; omega
           case rel => exact ⟨(y549), (wrap64 (x4_1 + 1)), (by first | rfl | (simp; done) | (simp [*]; done)), H', ⟨by have := HK1.out; have := HJ2.out; omega⟩, ⟨by (with_reducible repeat (first | apply Kd.R_alloc | apply Kd.R_drewN | apply Kd.R_drew)); exact Kd.R_mono HO551.out (fun _ hk => trivial)⟩, ⟨by (with_reducible repeat (first | refine blk_drewN ?_ _ | refine blk_drew ?_ | refine blk_alloc ?_ _)); exact BK544.out⟩, ⟨by repeat (first | (with_reducible first | exact HB.out | apply below_alloc | apply pw_below_drewN | apply below_drew1 | refine below_set ?_ GE544.out | refine below_set ?_ GE546.out) | exact HB.out)⟩⟩
          ·rw [if_neg c12] at H
           exact absurd H (by simp)
         ·rw [if_neg c11] at H
          have c11b0 : decide (x4_1 < (l0_1.length : Int)) = false := decide_eq_false c11
          clear c11
          by_cases c24 : x3_1.length < 5864062014805
          ·rw [if_pos c24] at H
           have LMc24 := Aside0.mk c24
           clear c24
           obtain ⟨y552, hy552⟩ : ∃ y_ : List (S71), y_ = (x3_1 ++ [(⟨wrap64 ((Int.tmod (wrap64 ((wrap64 ((Int.tmod (rd l0_0 x4_1) (wrap64 (x4_1 + 1))) + x4_1)) + 1)) (wrap64 (x4_1 + 1))) - 1), (⟨16, 16⟩ : S34)⟩ : S71)]) := ⟨_, rfl⟩
           replace H : (regattalaw13_Spec_servers.l0 kj2 y552 (wrap64 (x4_1 + 1)) l0_0 l0_1 a0_2 a0_3) = some r := by first | (rw [hy552]; with_reducible exact H) | (have H2_ := (Option.bind_some _ _).symm.trans H; rw [hy552]; with_reducible exact H2_) | (have H2_ := (Option.bind_some _ _).symm.trans H; with_reducible exact H2_) | with_reducible exact H | (rw [hy552]; exact H) | exact H
           have Ny552 := Aside0.mk hy552
           clear hy552
           have H' := Aside0.mk H
           clear H
           have hcz25_0 : wc.cell? ⟨gb544, 0, none⟩ = some (.slice A0_0 l0_0.length c0_0) := (blk_cell BK544.out 0).trans rfl
           have hcz25_1 : wc.cell? ⟨gb544, 1, none⟩ = some (.slice A0_1 l0_1.length c0_1) := (blk_cell BK544.out 1).trans rfl
           have hcz25_2 : wc.cell? ⟨gb544, 2, none⟩ = some (.int .i64 a0_2) := (blk_cell BK544.out 2).trans rfl
           have hcz25_3 : wc.cell? ⟨gb544, 3, none⟩ = some (.int .i64 a0_3) := (blk_cell BK544.out 3).trans rfl
           have hfz25_0 := blk_frozen BK544.out 0
           have hfz25_1 := blk_frozen BK544.out 1
           have hfz25_2 := blk_frozen BK544.out 2
           have hfz25_3 := blk_frozen BK544.out 3
           have p545 : 0 ≤ (x4_1 : Int) := of_decide_eq_true (by first | (with_reducible assumption) | assumption)
           have q545 : x4_1 < (l0_0.length : Int) := of_decide_eq_true (by first | (with_reducible assumption) | assumption)
           obtain ⟨ad545, e545, hx545_0⟩ := Kd.at_int HR0_0.out x4_1 p545 q545
           cases e545
           replace hx545_0 := (HB.out.cell (World.block_lt_of_cell? w _ hx545_0)).trans hx545_0
           replace p545 := eq_true p545
           replace q545 := eq_true q545
           go_wp2_with (first | ((with_reducible refine gate_dst (N := 5) rfl ?_); refine box_event ?hg (N := 5) ?hd (cs := #[.int .i64 0, .int .i64 0, .int .i64 0]) (t := 71) ?hr ?_; (case hd => rfl); (case hg => rfl); (case hr => first | (go_simp; done) | (go_simp; rfl)); intro gb546 hg w26 hbox hb; have n0_ := Aside0.mk (Kd.R_below (Kd.R_elderB (by (with_reducible repeat (first | apply Kd.R_alloc | apply Kd.R_drewN | apply Kd.R_drew)); exact HO_3.out) gb546 (Nat.le_of_eq hg.symm)) hb); have n1_ := Aside0.mk (blk_below (g := gb544) (o := .cells #[.slice (some ad545) l0_0.length c0_0, .slice A0_1 l0_1.length c0_1, .int .i64 a0_2, .int .i64 a0_3] 64 (0, 0)) (by (with_reducible repeat (first | refine blk_drewN ?_ _ | refine blk_drew ?_ | refine blk_alloc ?_ _)); exact BK544.out) hb); have n2_ := Aside0.mk (below_step (by repeat (first | (with_reducible first | exact HB.out | apply below_alloc | apply pw_below_drewN | apply below_drew1 | refine below_set ?_ GE544.out) | exact HB.out)) hb); have n3_ := Aside0.mk (hbox); have n4_ := Aside0.mk ((by rw [hg]; exact (below_size (by repeat (first | (with_reducible first | exact HB.out | apply below_alloc | apply pw_below_drewN | apply below_drew1 | refine below_set ?_ GE544.out) | exact HB.out))) : w.heap.size ≤ gb546)); have n5_ := Aside0.mk ((by rw [hg]; exact (below_size (by repeat (first | (with_reducible first | exact HB.out | apply below_alloc | apply pw_below_drewN | apply below_drew1 | refine below_set ?_ GE544.out) | exact HB.out))) : w.heap.size ≤ gb546)); have n6_ := Aside0.mk ((by rw [hg]; exact Nat.ne_of_lt (blk_lt (g := gb544) (o := .cells #[.slice (some ad545) l0_0.length c0_0, .slice A0_1 l0_1.length c0_1, .int .i64 a0_2, .int .i64 a0_3] 64 (0, 0)) (by (with_reducible repeat (first | refine blk_drewN ?_ _ | refine blk_drew ?_ | refine blk_alloc ?_ _)); exact BK544.out)) : gb544 ≠ gb546)); have n7_ := Aside0.mk ((by rw [hg]; exact Nat.ne_of_gt (blk_lt (g := gb544) (o := .cells #[.slice (some ad545) l0_0.length c0_0, .slice A0_1 l0_1.length c0_1, .int .i64 a0_2, .int .i64 a0_3] 64 (0, 0)) (by (with_reducible repeat (first | refine blk_drewN ?_ _ | refine blk_drew ?_ | refine blk_alloc ?_ _)); exact BK544.out)) : gb546 ≠ gb544)); clear HO_3; clear BK544; clear HB; have HO_3 := n0_; have BK544 := n1_; have HB := n2_; have BK546 := n3_; have GW546 := n4_; have GE546 := n5_; have NB544_546 := n6_; have NB546_544 := n7_; clear n0_ n1_ n2_ n3_ n4_ n5_ n6_ n7_; clear hb hbox hg; have hnb27 := NB546_544.out; have hnc27 := NB544_546.out; have hcz28_0 : w26.cell? ⟨gb546, 0, none⟩ = some (.int .i64 0) := (blk_cell BK546.out 0).trans rfl; have hcz28_1 : w26.cell? ⟨gb546, 1, none⟩ = some (.int .i64 0) := (blk_cell BK546.out 1).trans rfl; have hcz28_2 : w26.cell? ⟨gb546, 2, none⟩ = some (.int .i64 0) := (blk_cell BK546.out 2).trans rfl; have hfz28_0 := blk_frozen BK546.out 0; have hfz28_1 := blk_frozen BK546.out 1; have hfz28_2 := blk_frozen BK546.out 2; have hcz29_0 : w26.cell? ⟨gb544, 0, none⟩ = some (.slice (some ad545) l0_0.length c0_0) := (blk_cell BK544.out 0).trans rfl; have hcz29_1 : w26.cell? ⟨gb544, 1, none⟩ = some (.slice A0_1 l0_1.length c0_1) := (blk_cell BK544.out 1).trans rfl; have hcz29_2 : w26.cell? ⟨gb544, 2, none⟩ = some (.int .i64 a0_2) := (blk_cell BK544.out 2).trans rfl; have hcz29_3 : w26.cell? ⟨gb544, 3, none⟩ = some (.int .i64 a0_3) := (blk_cell BK544.out 3).trans rfl; have hfz29_0 := blk_frozen BK544.out 0; have hfz29_1 := blk_frozen BK544.out 1; have hfz29_2 := blk_frozen BK544.out 2; have hfz29_3 := blk_frozen BK544.out 3) | ((with_reducible refine gate_builtin (b := .append) (xs := #[.tmp 56, .tmp 58]) rfl ?_); at_builtin; refine Kd.R_append k71 (w0 := w) w.heap.size rfl (.tmp 56) (.tmp 58) 65 71 (.agg #[(.int .i64 0), (.int .i64 0), (.int .i64 0)]) 24 rfl Try.underlying65 info71 rfl (by decide) (by omega) u3 x3_1 (⟨wrap64 ((Int.tmod (wrap64 ((wrap64 ((Int.tmod (rd l0_0 x4_1) (wrap64 (x4_1 + 1))) + x4_1)) + 1)) (wrap64 (x4_1 + 1))) - 1), (⟨16, 16⟩ : S34)⟩ : S71) [.int .i64 (wrap64 ((Int.tmod (wrap64 ((wrap64 ((Int.tmod (rd l0_0 x4_1) (wrap64 (x4_1 + 1))) + x4_1)) + 1)) (wrap64 (x4_1 + 1))) - 1)), .int .i64 16, .int .i64 16] (fun k_ => k_ ≠ gb546) (fun _ => False) rfl (by first | (go_simp; done) | (go_simp; rfl)) ?aP (fun _ hk => hk.elim) ?aF ?aO ?aB ?aS ?aL ?_; (case aP => exact k71_mkM _ _ _ (⟨wrap64 ((Int.tmod (wrap64 ((wrap64 ((Int.tmod (rd l0_0 x4_1) (wrap64 (x4_1 + 1))) + x4_1)) + 1)) (wrap64 (x4_1 + 1))) - 1), (⟨16, 16⟩ : S34)⟩ : S71)); (case aB => exact (by repeat (first | (with_reducible first | exact HB.out | apply below_alloc | apply pw_below_drewN | apply below_drew1 | refine below_set ?_ GE544.out | refine below_set ?_ GE546.out) | exact HB.out))); (case aF => exact (fun k_ hk => Kd.freshB (g := gb546) (o := .cells #[.int .i64 (wrap64 ((Int.tmod (wrap64 ((wrap64 ((Int.tmod (rd l0_0 x4_1) (wrap64 (x4_1 + 1))) + x4_1)) + 1)) (wrap64 (x4_1 + 1))) - 1)), .int .i64 16, .int .i64 16] 71 (0, 0)) (by (with_reducible repeat (first | refine blk_drewN ?_ _ | refine blk_drew ?_ | refine blk_alloc ?_ _)); refine blk_put (cs := #[.int .i64 (wrap64 ((Int.tmod (wrap64 ((wrap64 ((Int.tmod (rd l0_0 x4_1) (wrap64 (x4_1 + 1))) + x4_1)) + 1)) (wrap64 (x4_1 + 1))) - 1)), .int .i64 16, .int .i64 0]) ?_ 2 _ rfl; (with_reducible repeat (first | refine blk_drewN ?_ _ | refine blk_drew ?_ | refine blk_alloc ?_ _)); refine blk_put (cs := #[.int .i64 (wrap64 ((Int.tmod (wrap64 ((wrap64 ((Int.tmod (rd l0_0 x4_1) (wrap64 (x4_1 + 1))) + x4_1)) + 1)) (wrap64 (x4_1 + 1))) - 1)), .int .i64 0, .int .i64 0]) ?_ 1 _ rfl; (with_reducible repeat (first | refine blk_drewN ?_ _ | refine blk_drew ?_ | refine blk_alloc ?_ _)); refine blk_put (cs := #[.int .i64 0, .int .i64 0, .int .i64 0]) ?_ 0 _ rfl; (with_reducible repeat (first | refine blk_drewN ?_ _ | refine blk_drew ?_ | refine blk_alloc ?_ _)); exact BK546.out) k_ hk)); (case aO => exact (by (with_reducible repeat (first | apply Kd.R_alloc | apply Kd.R_drewN | apply Kd.R_drew)); exact Kd.R_mono (Kd.R_far (p := ⟨gb546, 2, none⟩) (Kd.R_far (p := ⟨gb546, 1, none⟩) (Kd.R_far (p := ⟨gb546, 0, none⟩) (Kd.R_mono HO_3.out (fun k_ hk => (⟨hk, hk.2⟩ : _ ∧ k_ ≠ gb546))) (fun _ hk => hk.2) (.int .i64 (wrap64 ((Int.tmod (wrap64 ((wrap64 ((Int.tmod (rd l0_0 x4_1) (wrap64 (x4_1 + 1))) + x4_1)) + 1)) (wrap64 (x4_1 + 1))) - 1)))) (fun _ hk => hk.2) (.int .i64 16)) (fun _ hk => hk.2) (.int .i64 16)) (fun _ hk => hk.1.2))); (case aS => exact (below_size (by repeat (first | (with_reducible first | exact HB.out | apply below_alloc | apply pw_below_drewN | apply below_drew1 | refine below_set ?_ GE544.out | refine below_set ?_ GE546.out) | exact HB.out)))); (case aL => have := LMc24.out; omega); intro v553 w30 ho hb hg hat; rw [← Ny552.out] at ho; have n0_ := Aside0.mk (blk_grown (g := gb544) (o := .cells #[.slice (some ad545) l0_0.length c0_0, .slice A0_1 l0_1.length c0_1, .int .i64 a0_2, .int .i64 a0_3] 64 (0, 0)) (by (with_reducible repeat (first | refine blk_drewN ?_ _ | refine blk_drew ?_ | refine blk_alloc ?_ _)); refine blk_far ?_ NB544_546.out _; (with_reducible repeat (first | refine blk_drewN ?_ _ | refine blk_drew ?_ | refine blk_alloc ?_ _)); refine blk_far ?_ NB544_546.out _; (with_reducible repeat (first | refine blk_drewN ?_ _ | refine blk_drew ?_ | refine blk_alloc ?_ _)); refine blk_far ?_ NB544_546.out _; (with_reducible repeat (first | refine blk_drewN ?_ _ | refine blk_drew ?_ | refine blk_alloc ?_ _)); exact BK544.out) hg (Kd.R_ne HO_3.out BK544.out (by decide))); have n1_ := Aside0.mk (blk_grown (g := gb546) (o := .cells #[.int .i64 (wrap64 ((Int.tmod (wrap64 ((wrap64 ((Int.tmod (rd l0_0 x4_1) (wrap64 (x4_1 + 1))) + x4_1)) + 1)) (wrap64 (x4_1 + 1))) - 1)), .int .i64 16, .int .i64 16] 71 (0, 0)) (by (with_reducible repeat (first | refine blk_drewN ?_ _ | refine blk_drew ?_ | refine blk_alloc ?_ _)); refine blk_put (cs := #[.int .i64 (wrap64 ((Int.tmod (wrap64 ((wrap64 ((Int.tmod (rd l0_0 x4_1) (wrap64 (x4_1 + 1))) + x4_1)) + 1)) (wrap64 (x4_1 + 1))) - 1)), .int .i64 16, .int .i64 0]) ?_ 2 _ rfl; (with_reducible repeat (first | refine blk_drewN ?_ _ | refine blk_drew ?_ | refine blk_alloc ?_ _)); refine blk_put (cs := #[.int .i64 (wrap64 ((Int.tmod (wrap64 ((wrap64 ((Int.tmod (rd l0_0 x4_1) (wrap64 (x4_1 + 1))) + x4_1)) + 1)) (wrap64 (x4_1 + 1))) - 1)), .int .i64 0, .int .i64 0]) ?_ 1 _ rfl; (with_reducible repeat (first | refine blk_drewN ?_ _ | refine blk_drew ?_ | refine blk_alloc ?_ _)); refine blk_put (cs := #[.int .i64 0, .int .i64 0, .int .i64 0]) ?_ 0 _ rfl; (with_reducible repeat (first | refine blk_drewN ?_ _ | refine blk_drew ?_ | refine blk_alloc ?_ _)); exact BK546.out) hg (Kd.R_away HO_3.out (fun _ hk => hk.2))); have n2_ := Aside0.mk (hb); have n3_ := Aside0.mk (ho); clear BK544; clear BK546; clear HB; clear HO_3; have BK544 := n0_; have BK546 := n1_; have HB := n2_; have HO554 := n3_; clear n0_ n1_ n2_ n3_; clear ho hb hg hat))
           go_roundg kj2
           case measure => have := HK1.out; have := HJ2.out; omega
           case rel => exact ⟨(y552), (wrap64 (x4_1 + 1)), (by first | rfl | (simp; done) | (simp [*]; done)), H', ⟨by have := HK1.out; have := HJ2.out; omega⟩, ⟨by (with_reducible repeat (first | apply Kd.R_alloc | apply Kd.R_drewN | apply Kd.R_drew)); exact Kd.R_mono HO554.out (fun _ hk => trivial)⟩, ⟨by (with_reducible repeat (first | refine blk_drewN ?_ _ | refine blk_drew ?_ | refine blk_alloc ?_ _)); exact BK544.out⟩, ⟨by repeat (first | (with_reducible first | exact HB.out | apply below_alloc | apply pw_below_drewN | apply below_drew1 | refine below_set ?_ GE544.out | refine below_set ?_ GE546.out) | exact HB.out)⟩⟩
          ·rw [if_neg c24] at H
           exact absurd H (by simp)
       ·rw [if_neg c9] at H
        exact absurd H (by simp)
      ·rw [if_neg c8] at H
       exact absurd H (by simp)
     ·replace c7 := Bool.eq_false_iff.mpr c7
      subst c7
      have H1 : (some x3_1) = some r := by rw [if_neg (show ¬ (false = true) by decide)] at H; exact H
      clear H
      have H := H1
      clear H1
      obtain rfl := Option.some.inj H
      go_wp2
      go_ret
      exact ⟨_, by first | rfl | (simp [errW_none, errW_some] <;> rfl) | (simp [*, errW_none, errW_some] <;> rfl), by (with_reducible repeat (first | apply Kd.R_alloc | apply Kd.R_drewN | apply Kd.R_drew)); exact HO_3.out, by repeat (first | (with_reducible first | exact HB.out | apply below_alloc | apply pw_below_drewN | apply below_drew1 | refine below_set ?_ GE544.out) | exact HB.out)⟩
end Go.Proofs.Ytfldklimlcnnnaa.PHq
end

section
namespace Go.Proofs.Ytfldklimlcnnnaa.PHq
open Go.RowKit Go.Proofs.YtfldklimlcnnnaaW.PrintWords Go.Proofs.YtfldklimlcnnnaaW.PrintLast Go.Proofs.YtfldklimlcnnnaaW.PrintMore Go.Proofs.Ytfldklimlcnnnaa.MWords
attribute [local go_sem] max2_int min2_int max_two min_two max_three min_three max_four min_four   -- for this text's walks alone
def regattalaw13_Spec_all.f (k : Nat) (l0_0 : List Int) (l0_1 : List (S39)) (a0_2 : Int) (a0_3 : Int) : Option (List Int × List Int) := (regattalaw13_one.f k (IntKind.u64.wrap (Go.bits .and .i64 a0_2 7)) (IntKind.u64.wrap (wrap64 (1 + (Go.bits .and .i64 a0_3 3))))).bind fun bt557 => (some (bt557.1, bt557.2))
set_option maxHeartbeats 8000000 in
set_option maxRecDepth 100000 in
theorem regattalaw13_Spec_all.calls (k : Nat) (A0_0 : Option Addr) (c0_0 : Nat) (l0_0 : List Int) (A0_1 : Option Addr) (c0_1 : Nat) (l0_1 : List (S39)) (a0_2 : Int) (a0_3 : Int) (r1 : List Int) (r2 : List Int) (w : World) (hr0_0 : Kd.C (Kd.int .i64) w A0_0 l0_0.length l0_0) (hc0_0 : l0_0.length ≤ c0_0) (hr0_1 : Kd.C k39 w A0_1 l0_1.length l0_1) (hc0_1 : l0_1.length ≤ c0_1) (h : regattalaw13_Spec_all.f k l0_0 l0_1 a0_2 a0_3 = some (r1, r2)) :
  Calls Try.prog 42 #[.agg #[.slice A0_0 l0_0.length c0_0, .slice A0_1 l0_1.length c0_1, .int .i64 a0_2, .int .i64 a0_3]] w fun e w' => ∃ v0_ v1_ : Value, e = .returned (.agg #[v0_, v1_]) ∧ Kd.R (Kd.int .u32) 89 w' w.heap.size (fun k_ => some k_ ≠ (v1_ : Value).ownBlock) v0_ r1 ∧ Kd.R (Kd.int .u32) 89 w' w.heap.size (fun k_ => some k_ ≠ (v0_ : Value).ownBlock) v1_ r2 ∧ Below w.heap.size w w' := by
 have hu64 := Try.underlying64
 have hu28 := Try.underlying28
 have HR0_0 := Aside0.mk hr0_0
 have HC0_0 := Aside0.mk hc0_0
 clear hr0_0 hc0_0
 have HR0_1 := Aside0.mk hr0_1
 have HC0_1 := Aside0.mk hc0_1
 clear hr0_1 hc0_1
 have HB := Aside0.mk (Below.refl w.heap.size w)
 have H : ((regattalaw13_one.f k (IntKind.u64.wrap (Go.bits .and .i64 a0_2 7)) (IntKind.u64.wrap (wrap64 (1 + (Go.bits .and .i64 a0_3 3))))).bind fun bt557 => (some (bt557.1, bt557.2))) = some (r1, r2) := h
 clear h
 replace H := Option.bind_eq_some_iff.mp H
 obtain ⟨⟨t557, t560⟩, A20, H⟩ := H
 replace H : (some (t557, t560)) = some (r1, r2) := H
 have A2 := Aside0.mk A20
 clear A20
 simp only [Option.some.injEq, Prod.mk.injEq] at H
 obtain ⟨rfl, rfl⟩ := H
 go_enter Try.func42, Try.ntmps42
 go_wp2_with (first | ((with_reducible refine gate_dst (N := 1) rfl ?_); refine box_event ?hg (N := 1) ?hd (cs := #[.slice A0_0 l0_0.length c0_0, .slice A0_1 l0_1.length c0_1, .int .i64 a0_2, .int .i64 a0_3]) (t := 64) ?hr ?_; (case hd => rfl); (case hg => rfl); (case hr => first | (go_simp; done) | (go_simp; rfl)); intro gb555 hg w3 hbox hb; have n0_ := Aside0.mk (below_step (by repeat (first | (with_reducible first | exact HB.out | apply below_alloc | apply pw_below_drewN | apply below_drew1) | exact HB.out)) hb); have n1_ := Aside0.mk (hbox); have n2_ := Aside0.mk ((by rw [hg]; exact (below_size (by repeat (first | (with_reducible first | exact HB.out | apply below_alloc | apply pw_below_drewN | apply below_drew1) | exact HB.out))) : w.heap.size ≤ gb555)); have n3_ := Aside0.mk ((by rw [hg]; exact (below_size (by repeat (first | (with_reducible first | exact HB.out | apply below_alloc | apply pw_below_drewN | apply below_drew1) | exact HB.out))) : w.heap.size ≤ gb555)); clear HB; have HB := n0_; have BK555 := n1_; have GW555 := n2_; have GE555 := n3_; clear n0_ n1_ n2_ n3_; clear hb hbox hg) | ((with_reducible refine gate_dst (N := 2) rfl ?_); refine box_event ?hg (N := 2) ?hd (cs := #[.slice none 0 0, .slice none 0 0]) (t := 28) ?hr ?_; (case hd => rfl); (case hg => rfl); (case hr => first | (go_simp; done) | (go_simp; rfl)); intro gb556 hg w4 hbox hb; have n0_ := Aside0.mk (blk_below (g := gb555) (o := .cells #[.slice A0_0 l0_0.length c0_0, .slice A0_1 l0_1.length c0_1, .int .i64 a0_2, .int .i64 a0_3] 64 (0, 0)) (by (with_reducible repeat (first | refine blk_drewN ?_ _ | refine blk_drew ?_ | refine blk_alloc ?_ _)); exact BK555.out) hb); have n1_ := Aside0.mk (below_step (by repeat (first | (with_reducible first | exact HB.out | apply below_alloc | apply pw_below_drewN | apply below_drew1 | refine below_set ?_ GE555.out) | exact HB.out)) hb); have n2_ := Aside0.mk (hbox); have n3_ := Aside0.mk ((by rw [hg]; exact (below_size (by repeat (first | (with_reducible first | exact HB.out | apply below_alloc | apply pw_below_drewN | apply below_drew1 | refine below_set ?_ GE555.out) | exact HB.out))) : w.heap.size ≤ gb556)); have n4_ := Aside0.mk ((by rw [hg]; exact (below_size (by repeat (first | (with_reducible first | exact HB.out | apply below_alloc | apply pw_below_drewN | apply below_drew1 | refine below_set ?_ GE555.out) | exact HB.out))) : w.heap.size ≤ gb556)); have n5_ := Aside0.mk ((by rw [hg]; exact Nat.ne_of_lt (blk_lt (g := gb555) (o := .cells #[.slice A0_0 l0_0.length c0_0, .slice A0_1 l0_1.length c0_1, .int .i64 a0_2, .int .i64 a0_3] 64 (0, 0)) (by (with_reducible repeat (first | refine blk_drewN ?_ _ | refine blk_drew ?_ | refine blk_alloc ?_ _)); exact BK555.out)) : gb555 ≠ gb556)); have n6_ := Aside0.mk ((by rw [hg]; exact Nat.ne_of_gt (blk_lt (g := gb555) (o := .cells #[.slice A0_0 l0_0.length c0_0, .slice A0_1 l0_1.length c0_1, .int .i64 a0_2, .int .i64 a0_3] 64 (0, 0)) (by (with_reducible repeat (first | refine blk_drewN ?_ _ | refine blk_drew ?_ | refine blk_alloc ?_ _)); exact BK555.out)) : gb556 ≠ gb555)); clear BK555; clear HB; have BK555 := n0_; have HB := n1_; have BK556 := n2_; have GW556 := n3_; have GE556 := n4_; have NB555_556 := n5_; have NB556_555 := n6_; clear n0_ n1_ n2_ n3_ n4_ n5_ n6_; clear hb hbox hg; have hnb5 := NB555_556.out; have hnc5 := NB556_555.out; have hcz6_0 : w4.cell? ⟨gb555, 0, none⟩ = some (.slice A0_0 l0_0.length c0_0) := (blk_cell BK555.out 0).trans rfl; have hcz6_1 : w4.cell? ⟨gb555, 1, none⟩ = some (.slice A0_1 l0_1.length c0_1) := (blk_cell BK555.out 1).trans rfl; have hcz6_2 : w4.cell? ⟨gb555, 2, none⟩ = some (.int .i64 a0_2) := (blk_cell BK555.out 2).trans rfl; have hcz6_3 : w4.cell? ⟨gb555, 3, none⟩ = some (.int .i64 a0_3) := (blk_cell BK555.out 3).trans rfl; have hfz6_0 := blk_frozen BK555.out 0; have hfz6_1 := blk_frozen BK555.out 1; have hfz6_2 := blk_frozen BK555.out 2; have hfz6_3 := blk_frozen BK555.out 3) | ((with_reducible refine gate_callee (f := 44) rfl ?_); refine goesL_ (some 14) rfl rfl Try.func44 (by kernel_rfl) rfl #[.int .u64 (IntKind.u64.wrap (Go.bits .and .i64 a0_2 7)), .int .u64 (IntKind.u64.wrap (wrap64 (1 + (Go.bits .and .i64 a0_3 3))))] rfl (by (try simp only [List.map_toArray, List.map_cons, List.map_nil]); first | done | rfl | (simp only [List.length_drop, List.length_take]; rfl)) ?_; (with_reducible refine (regattalaw13_one.calls k (IntKind.u64.wrap (Go.bits .and .i64 a0_2 7)) (IntKind.u64.wrap (wrap64 (1 + (Go.bits .and .i64 a0_3 3)))) t557 t560 _ A2.out).mono ?_); rintro e w7 ⟨v558, v561, rfl, ho0, ho1, hb⟩; refine ⟨_, rfl, ?_⟩; have n0_ := Aside0.mk (Kd.R_lower ho0 (below_size (by repeat (first | (with_reducible first | exact HB.out | apply below_alloc | apply pw_below_drewN | apply below_drew1 | refine below_set ?_ GE555.out | refine below_set ?_ GE556.out) | exact HB.out)))); have n1_ := Aside0.mk (Kd.R_lower ho1 (below_size (by repeat (first | (with_reducible first | exact HB.out | apply below_alloc | apply pw_below_drewN | apply below_drew1 | refine below_set ?_ GE555.out | refine below_set ?_ GE556.out) | exact HB.out)))); have n2_ := Aside0.mk (blk_below (g := gb555) (o := .cells #[.slice A0_0 l0_0.length c0_0, .slice A0_1 l0_1.length c0_1, .int .i64 a0_2, .int .i64 a0_3] 64 (0, 0)) (by (with_reducible repeat (first | refine blk_drewN ?_ _ | refine blk_drew ?_ | refine blk_alloc ?_ _)); exact BK555.out) hb); have n3_ := Aside0.mk (blk_below (g := gb556) (o := .cells #[.slice none 0 0, .slice none 0 0] 28 (0, 0)) (by (with_reducible repeat (first | refine blk_drewN ?_ _ | refine blk_drew ?_ | refine blk_alloc ?_ _)); exact BK556.out) hb); have n4_ := Aside0.mk (below_step (by repeat (first | (with_reducible first | exact HB.out | apply below_alloc | apply pw_below_drewN | apply below_drew1 | refine below_set ?_ GE555.out | refine below_set ?_ GE556.out) | exact HB.out)) hb); clear BK555; clear BK556; clear HB; have HO559 := n0_; have HO562 := n1_; have BK555 := n2_; have BK556 := n3_; have HB := n4_; clear n0_ n1_ n2_ n3_ n4_; (try clear hb); (try clear hb2); (try clear hk); (try clear hi); (try clear ho0); (try clear ho1); obtain ⟨Ao8, co8, eo8⟩ := Kd.R_slice HO559.out; subst eo8; have hcz9_0 : w7.cell? ⟨gb556, 0, none⟩ = some (.slice none 0 0) := (blk_cell BK556.out 0).trans rfl; have hcz9_1 : w7.cell? ⟨gb556, 1, none⟩ = some (.slice none 0 0) := (blk_cell BK556.out 1).trans rfl; have hfz9_0 := blk_frozen BK556.out 0; have hfz9_1 := blk_frozen BK556.out 1; obtain ⟨Ao10, co10, eo10⟩ := Kd.R_slice HO562.out; subst eo10))
 refine bodyPost_ret (results_cell_row rfl _ _ gb556 28 #[.slice Ao8 t557.length co8, .slice Ao10 t560.length co10] (0, 0) _ rfl (by (with_reducible repeat (first | refine blk_drewN ?_ _ | refine blk_drew ?_ | refine blk_alloc ?_ _)); refine blk_put (cs := #[.slice Ao8 t557.length co8, .slice none 0 0]) ?_ 1 _ rfl; (with_reducible repeat (first | refine blk_drewN ?_ _ | refine blk_drew ?_ | refine blk_alloc ?_ _)); refine blk_put (cs := #[.slice none 0 0, .slice none 0 0]) ?_ 0 _ rfl; (with_reducible repeat (first | refine blk_drewN ?_ _ | refine blk_drew ?_ | refine blk_alloc ?_ _)); exact BK556.out) Try.underlying28 rfl (by kernel_rfl)) rfl ?_
 exact ⟨_, _, by first | rfl | (simp [errW_none, errW_some] <;> rfl) | (simp [*, errW_none, errW_some] <;> rfl), by (with_reducible repeat (first | apply Kd.R_alloc | apply Kd.R_drewN | apply Kd.R_drew)); exact Kd.R_mono (Kd.R_far (p := ⟨gb556, 1, none⟩) (Kd.R_far (p := ⟨gb556, 0, none⟩) (Kd.R_types HO559.out BK556.out (by decide)) (fun _ hk => hk.2) (.slice Ao8 t557.length co8)) (fun _ hk => hk.2) (.slice Ao10 t560.length co10)) (fun _ hk => hk.1), by (with_reducible repeat (first | apply Kd.R_alloc | apply Kd.R_drewN | apply Kd.R_drew)); exact Kd.R_mono (Kd.R_far (p := ⟨gb556, 1, none⟩) (Kd.R_far (p := ⟨gb556, 0, none⟩) (Kd.R_types HO562.out BK556.out (by decide)) (fun _ hk => hk.2) (.slice Ao8 t557.length co8)) (fun _ hk => hk.2) (.slice Ao10 t560.length co10)) (fun _ hk => hk.1), by repeat (first | (with_reducible first | exact HB.out | apply below_alloc | apply pw_below_drewN | apply below_drew1 | refine below_set ?_ GE555.out | refine below_set ?_ GE556.out) | exact HB.out)⟩
end Go.Proofs.Ytfldklimlcnnnaa.PHq
end

section
namespace Go.Proofs.Ytfldklimlcnnnaa.PHq
open Go.RowKit Go.Proofs.YtfldklimlcnnnaaW.PrintWords Go.Proofs.YtfldklimlcnnnaaW.PrintLast Go.Proofs.YtfldklimlcnnnaaW.PrintMore Go.Proofs.Ytfldklimlcnnnaa.MWords
attribute [local go_sem] max2_int min2_int max_two min_two max_three min_three max_four min_four   -- for this text's walks alone
def regattaref07_Same.l0 : Nat → List Int → List Int → Int → Option (Bool)
 | 0, _, _, _ => none
 | k + 1, x0, x1, x5 => if x5 < (x0.length : Int) then (if 0 ≤ x5 then (if x5 < (x1.length : Int) then (if (rd x0 x5) = (rd x1 x5) then (regattaref07_Same.l0 k x0 x1 (wrap64 (x5 + 1))) else (some false)) else (none)) else (none)) else (some true)
def regattaref07_Same.f (k : Nat) (l0 : List Int) (l1 : List Int) : Option (Bool) := if (l0.length : Int) = (l1.length : Int) then (regattaref07_Same.l0 k l0 l1 0) else (some false)
set_option maxHeartbeats 8000000 in
set_option maxRecDepth 100000 in
theorem regattaref07_Same.calls (k : Nat) (A0 : Option Addr) (c0 : Nat) (l0 : List Int) (A1 : Option Addr) (c1 : Nat) (l1 : List Int) (r : Bool) (w : World) (hr0 : Kd.C (Kd.int .i64) w A0 l0.length l0) (hc0 : l0.length ≤ c0) (hr1 : Kd.C (Kd.int .i64) w A1 l1.length l1) (hc1 : l1.length ≤ c1) (h : regattaref07_Same.f k l0 l1 = some r) :
  Calls Try.prog 54 #[.slice A0 l0.length c0, .slice A1 l1.length c1] w fun e w' => e = .returned (.bool r) ∧ Drawn0 w w' := by
 have HR0 := Aside0.mk hr0
 have HC0 := Aside0.mk hc0
 clear hr0 hc0
 have HR1 := Aside0.mk hr1
 have HC1 := Aside0.mk hc1
 clear hr1 hc1
 have H : (if (l0.length : Int) = (l1.length : Int) then (regattaref07_Same.l0 k l0 l1 0) else (some false)) = some r := h
 clear h
 by_cases c3 : (l0.length : Int) = (l1.length : Int)
 ·rw [if_pos c3] at H
  have c3b0 : ((l0.length : Int) == (l1.length : Int)) = true := beq_iff_eq.mpr c3
  have c3b1 : ((l0.length : Int) != (l1.length : Int)) = false := bne_eq_false_iff_eq.mpr c3
  have c3b2 : (l0.length == l1.length) = true := by first | simpa using c3 | (simp at c3 ⊢; omega)
  clear c3
  have H' := Aside0.mk H
  clear H
  go_enter Try.func54, Try.ntmps54
  go_wp2
  repeat (go_quiet (fail); try go_wp2)
  go_loopg [5] k (fun kq v5 w' => ∃ (x5_1 : Int), v5 = .int .i64 x5_1 ∧ Aside0 (regattaref07_Same.l0 kq l0 l1 x5_1 = some r) ∧ Aside0 (kq ≤ k) ∧ Drawn0 w w')
  case atStart => exact ⟨(0), (by first | rfl | (simp; done) | (simp [*]; done)), H', ⟨Nat.le_refl _⟩, by repeat (first | exact Drawn0.refl _ | apply Drawn0.step)⟩
  case round =>
   clear H'
   try clear c1
   try clear p2
   try clear c3
   try clear c3b0
   try clear c3b1
   try clear c3b2
   obtain ⟨x5_1, rfl, HA, HK1, ⟨m1, rfl⟩⟩ := hrel
   cases gk with
   | zero => exact absurd HA.out (by simp [regattaref07_Same.l0])
   | succ k1 =>
    have H := HA.out
    clear HA
    simp only [regattaref07_Same.l0] at H
    by_cases c4 : x5_1 < (l0.length : Int)
    ·rw [if_pos c4] at H
     have c4b0 : decide (x5_1 < (l0.length : Int)) = true := decide_eq_true c4
     clear c4
     by_cases c5 : 0 ≤ x5_1
     ·rw [if_pos c5] at H
      have c5b0 : decide (0 ≤ x5_1) = true := decide_eq_true c5
      clear c5
      by_cases c6 : x5_1 < (l1.length : Int)
      ·rw [if_pos c6] at H
       have c6b0 : decide (x5_1 < (l1.length : Int)) = true := decide_eq_true c6
       clear c6
       by_cases c7 : (rd l0 x5_1) = (rd l1 x5_1)
       ·rw [if_pos c7] at H
        have c7b0 : ((rd l0 x5_1) == (rd l1 x5_1)) = true := beq_iff_eq.mpr c7
        have c7b1 : ((rd l0 x5_1) != (rd l1 x5_1)) = false := bne_eq_false_iff_eq.mpr c7
        clear c7
        have H' := Aside0.mk H
        clear H
        have p533 : 0 ≤ (x5_1 : Int) := of_decide_eq_true (by first | (with_reducible assumption) | assumption)
        have q533 : x5_1 < (l0.length : Int) := of_decide_eq_true (by first | (with_reducible assumption) | assumption)
        obtain ⟨ad533, e533, hx533_0⟩ := Kd.at_int HR0.out x5_1 p533 q533
        cases e533
        replace p533 := eq_true p533
        replace q533 := eq_true q533
        have p534 : 0 ≤ (x5_1 : Int) := of_decide_eq_true (by first | (with_reducible assumption) | assumption)
        have q534 : x5_1 < (l1.length : Int) := of_decide_eq_true (by first | (with_reducible assumption) | assumption)
        obtain ⟨ad534, e534, hx534_0⟩ := Kd.at_int HR1.out x5_1 p534 q534
        cases e534
        replace p534 := eq_true p534
        replace q534 := eq_true q534
        go_wp2
        repeat (go_quiet (fail); try go_wp2)
        go_roundg k1
        case measure => have := HK1.out; omega
        case rel => exact ⟨(wrap64 (x5_1 + 1)), (by first | rfl | (simp; done) | (simp [*]; done)), H', ⟨by have := HK1.out; omega⟩, by repeat (first | exact Drawn0.refl _ | apply Drawn0.step)⟩
       ·rw [if_neg c7] at H
        have c7b0 : ((rd l0 x5_1) == (rd l1 x5_1)) = false := beq_eq_false_iff_ne.mpr c7
        have c7b1 : ((rd l0 x5_1) != (rd l1 x5_1)) = true := bne_iff_ne.mpr c7
        obtain rfl := Option.some.inj H
        have p533 : 0 ≤ (x5_1 : Int) := of_decide_eq_true (by first | (with_reducible assumption) | assumption)
        have q533 : x5_1 < (l0.length : Int) := of_decide_eq_true (by first | (with_reducible assumption) | assumption)
        obtain ⟨ad533, e533, hx533_0⟩ := Kd.at_int HR0.out x5_1 p533 q533
        cases e533
        replace p533 := eq_true p533
        replace q533 := eq_true q533
        have p534 : 0 ≤ (x5_1 : Int) := of_decide_eq_true (by first | (with_reducible assumption) | assumption)
        have q534 : x5_1 < (l1.length : Int) := of_decide_eq_true (by first | (with_reducible assumption) | assumption)
        obtain ⟨ad534, e534, hx534_0⟩ := Kd.at_int HR1.out x5_1 p534 q534
        cases e534
        replace p534 := eq_true p534
        replace q534 := eq_true q534
        go_wp2
        repeat (go_quiet (fail); try go_wp2)
        go_ret
        exact ⟨by first | rfl | (simp; done) | (simp [*]; done), by repeat (first | exact Drawn0.refl _ | apply Drawn0.step)⟩
      ·rw [if_neg c6] at H
       exact absurd H (by simp)
     ·rw [if_neg c5] at H
      exact absurd H (by simp)
    ·rw [if_neg c4] at H
     have c4b0 : decide (x5_1 < (l0.length : Int)) = false := decide_eq_false c4
     clear c4
     obtain rfl := Option.some.inj H
     go_wp2
     repeat (go_quiet (fail); try go_wp2)
     go_ret
     exact ⟨by first | rfl | (simp; done) | (simp [*]; done), by repeat (first | exact Drawn0.refl _ | apply Drawn0.step)⟩
 ·rw [if_neg c3] at H
  have c3b0 : ((l0.length : Int) == (l1.length : Int)) = false := beq_eq_false_iff_ne.mpr c3
  have c3b1 : ((l0.length : Int) != (l1.length : Int)) = true := bne_iff_ne.mpr c3
  have c3b2 : (l0.length == l1.length) = false := by first | simpa using c3 | (simp at c3 ⊢; omega)
  obtain rfl := Option.some.inj H
  go_enter Try.func54, Try.ntmps54
  go_wp2
  repeat (go_quiet (fail); try go_wp2)
  go_ret
  exact ⟨by first | rfl | (simp; done) | (simp [*]; done), by repeat (first | exact Drawn0.refl _ | apply Drawn0.step)⟩
end Go.Proofs.Ytfldklimlcnnnaa.PHq
end

section
namespace Go.Proofs.Ytfldklimlcnnnaa.PHq
open Go.RowKit Go.Proofs.YtfldklimlcnnnaaW.PrintWords Go.Proofs.YtfldklimlcnnnaaW.PrintLast Go.Proofs.YtfldklimlcnnnaaW.PrintMore Go.Proofs.Ytfldklimlcnnnaa.MWords
attribute [local go_sem] max2_int min2_int max_two min_two max_three min_three max_four min_four   -- for this text's walks alone
end Go.Proofs.Ytfldklimlcnnnaa.PHq
end

section
namespace Go.Proofs.Ytfldklimlcnnnaa.QEv
def Tell {α : Type} (f : Nat → Option α) (r : α) : Prop := ∃ k0, ∀ k, k0 ≤ k → f k = some r
theorem Tell.const {α : Type} (r : α) : Tell (fun _ => some r) r := ⟨0, fun _ _ => rfl⟩
theorem Tell.bind {α β : Type} {f : Nat → Option α} {g : Nat → α → Option β} {a : α} {b : β} (h : Tell f a) (h2 : Tell (fun k => g k a) b) : Tell (fun k => (f k).bind (g k)) b := by
 obtain ⟨k0, h0⟩ := h
 obtain ⟨k1, h1⟩ := h2
 exact ⟨max k0 k1, fun k hk => by show (f k).bind (g k) = some b; rw [h0 k (by omega)]; exact h1 k (by omega)⟩
theorem Tell.step {α : Type} {f g : Nat → Option α} {r : α} (h : ∀ k, f (k + 1) = g k) (hg : Tell g r) : Tell f r := by
 obtain ⟨k0, h0⟩ := hg
 refine ⟨k0 + 1, fun k hk => ?_⟩
 obtain ⟨j, rfl⟩ : ∃ j, k = j + 1 := ⟨k - 1, by omega⟩
 rw [h j]; exact h0 j (by omega)
theorem Tell.of {α : Type} {f g : Nat → Option α} {r : α} (h : ∀ k, f k = g k) (hg : Tell g r) : Tell f r := by
 obtain ⟨k0, h0⟩ := hg
 exact ⟨k0, fun k hk => by rw [h k]; exact h0 k hk⟩
theorem Tell.get {α : Type} {f : Nat → Option α} {r : α} (h : Tell f r) : ∃ k, f k = some r := ⟨_, h.choose_spec _ (Nat.le_refl _)⟩
end Go.Proofs.Ytfldklimlcnnnaa.QEv
end

section
namespace Go.Proofs.Ytfldklimlcnnnaa.QNat
open Go.RowKit Go.Proofs.YtfldklimlcnnnaaW.PrintWords Go.Proofs.YtfldklimlcnnnaaW.PrintLast Go.Proofs.YtfldklimlcnnnaaW.PrintMore
open Go.Proofs.Ytfldklimlcnnnaa.MNat Go.Proofs.Ytfldklimlcnnnaa.PHq
theorem w64 {x : Int} (h0 : -9223372036854775808 ≤ x) (h1 : x ≤ 9223372036854775807) : wrap64 x = x := by unfold wrap64; omega
theorem rd_nat (l : List Int) (i : Nat) : rd l (i : Int) = l.getD i 0 := by simp [rd]
theorem check_f (l : List Int) (h : isN l) : nat_Check.f l = some true := by
 have hl := h.2
 unfold nat_Check.f
 rcases limbs_last (nval l) with h0 | ⟨ys, x, h0, hx⟩
 ·rw [← h.1] at h0; subst h0; rfl
 ·rw [← h.1] at h0
  rw [h0] at hl ⊢
  have e : wrap64 (((ys ++ [x]).length : Int) - 1) = (ys.length : Int) := by simp only [List.length_append, List.length_singleton] at hl ⊢; rw [w64 (by omega) (by omega)]; omega
  have r : rd (ys ++ [x]) (ys.length : Int) = x := by rw [rd_nat]; simp [List.getD]
  rw [if_neg (by simp; omega), e, r, if_pos (by omega), if_pos (by simp; omega)]
  simp [hx]
def cmpI (a b : Nat) : Int := if a < b then -1 else if a = b then 0 else 1
theorem cmpi (a b : Nat) : cmp_Compare_int.f (a : Int) (b : Int) = some (cmpI a b) := by
 unfold cmp_Compare_int.f cmp_isNaN_int.f cmpI
 simp only [Option.bind_some, bne_self_eq_false, Bool.false_eq_true, if_false]
 by_cases h : a < b
 ·rw [if_pos (by omega), if_pos h]
 ·rw [if_neg (by omega), if_neg h]
  by_cases h2 : a = b
  ·rw [if_neg (by omega), if_pos h2]
  ·rw [if_pos (by omega), if_neg h2]
theorem cmpu (a b : Int) : cmp_Compare_uint32.f a b = some (if a < b then -1 else if a = b then 0 else 1) := by
 unfold cmp_Compare_uint32.f cmp_isNaN_uint32.f
 simp only [Option.bind_some, bne_self_eq_false, Bool.false_eq_true, if_false]
 by_cases h : a < b
 ·rw [if_pos h, if_pos h]
 ·rw [if_neg h, if_neg h]
  by_cases h2 : a = b
  ·rw [if_neg (by omega), if_pos h2]
  ·rw [if_pos (by omega), if_neg h2]
theorem nval_cmp_last {xs ys : List Int} {x y : Int} (hx : Lim (xs ++ [x])) (hy : Lim (ys ++ [y])) (hl : xs.length = ys.length) (h : x < y) (zs : List Int) (hz : Lim zs) : nval (xs ++ [x] ++ zs) < nval (ys ++ [y] ++ zs) := by
 have h1 := nval_lt (lim_append.1 hx).1
 have h2 := (lim_append.1 hx).2 x (by simp)
 have h3 := (lim_append.1 hy).2 y (by simp)
 rw [nval_append, nval_append (ys ++ [y]), nval_snoc, nval_snoc]
 simp only [List.length_append, List.length_singleton, ← hl]
 have h4 : 4294967296 ^ xs.length * (x.toNat + 1) ≤ 4294967296 ^ xs.length * y.toNat := Nat.mul_le_mul_left _ (by omega)
 rw [Nat.mul_add, Nat.mul_one] at h4
 omega
theorem drop_cons (l : List Int) (i : Nat) (h : i < l.length) : l.drop i = l.getD i 0 :: l.drop (i + 1) := by
 rw [List.drop_eq_getElem_cons h]; simp [List.getD, h]
theorem parts_at (l : List Int) (i : Nat) (h : i < l.length) : l = (l.take i ++ [l.getD i 0]) ++ l.drop (i + 1) := by
 rw [List.append_assoc, List.singleton_append, ← drop_cons l i h, List.take_append_drop]
theorem cmp_l (a b : List Int) (ha : Lim a) (hb : Lim b) (hab : a.length = b.length) (hl : a.length ≤ 1000000000) (d : Nat) : ∀ (k i : Nat), i ≤ a.length → a.length - i = d → d < k → a.drop (a.length - i) = b.drop (a.length - i) →
  nat_Cmp.l0 k a b (a.length : Int) (i : Int) = some (cmpI (nval a) (nval b)) := by
 induction d with
 | zero =>
  intro k i hi hd hk he
  obtain ⟨k, rfl⟩ : ∃ m, k = m + 1 := ⟨k - 1, by omega⟩
  simp only [nat_Cmp.l0]
  rw [if_neg (by omega)]
  rw [hd] at he
  simp at he
  simp [he, cmpI]
 | succ d ih =>
  intro k i hi hd hk he
  obtain ⟨k, rfl⟩ : ∃ m, k = m + 1 := ⟨k - 1, by omega⟩
  have e : wrap64 (wrap64 ((a.length : Int) - 1) - (i : Int)) = (d : Int) := by rw [w64 (by rw [w64 (by omega) (by omega)]; omega) (by rw [w64 (by omega) (by omega)]; omega), w64 (by omega) (by omega)]; omega
  simp only [nat_Cmp.l0, e]
  rw [if_pos (by omega), if_pos (by omega), if_pos (by omega), if_pos (by omega), rd_nat, rd_nat]
  rw [hd] at he
  by_cases h : a.getD d 0 = b.getD d 0
  ·rw [if_pos h, w64 (by omega) (by omega)]
   exact ih k (i + 1) (by omega) (by omega) (by omega) (by rw [show a.length - (i + 1) = d by omega, drop_cons a d (by omega), drop_cons b d (by omega), he, h])
  ·rw [if_neg h, cmpu]
   simp only [Option.bind_some]
   have pa := parts_at a d (by omega)
   have pb := parts_at b d (by omega)
   rw [← he] at pb
   have hz : Lim (a.drop (d + 1)) := lim_drop ha _
   have la : Lim (a.take d ++ [a.getD d 0]) := lim_append.2 ⟨lim_take ha _, fun y hy => by simp at hy; subst hy; have := lim_getD ha d; simpa [List.getD] using this⟩
   have lb : Lim (b.take d ++ [b.getD d 0]) := lim_append.2 ⟨lim_take hb _, fun y hy => by simp at hy; subst hy; have := lim_getD hb d; simpa [List.getD] using this⟩
   by_cases hlt : a.getD d 0 < b.getD d 0
   ·rw [if_pos hlt]
    have := nval_cmp_last la lb (by simp; omega) hlt _ hz
    rw [← pa, ← pb] at this
    simp [cmpI, this]
   ·rw [if_neg hlt, if_neg h]
    have := nval_cmp_last lb la (by simp; omega) (by omega) _ hz
    rw [← pa, ← pb] at this
    have h1 : ¬ nval a < nval b := by omega
    have h2 : ¬ nval a = nval b := by omega
    simp [cmpI, h1, h2]
theorem limbs_len_lt {n m : Nat} (h : (limbs n).length < (limbs m).length) : n < m := by
 rcases Nat.lt_or_ge n m with h1 | h1
 ·exact h1
 ·have := limbs_length_le h1; omega
theorem cmp_f (k : Nat) (a b : List Int) (ha : isN a) (hb : isN b) (hk : a.length < k) : nat_Cmp.f k a b = some (cmpI (nval a) (nval b)) := by
 have hl := ha.2
 unfold nat_Cmp.f
 by_cases h : a.length = b.length
 ·rw [if_pos (by omega)]
  exact cmp_l a b ha.lim hb.lim h (by omega) a.length k 0 (by omega) (by omega) hk (by simp [h])
 ·rw [if_neg (by omega), cmpi]
  simp only [Option.bind_some]
  congr 1
  unfold cmpI
  have h1 := ha.1
  have h2 := hb.1
  rcases Nat.lt_or_gt_of_ne h with h3 | h3
  ·have : nval a < nval b := limbs_len_lt (by rw [← h1, ← h2]; exact h3)
   rw [if_pos h3, if_pos this]
  ·have : nval b < nval a := limbs_len_lt (by rw [← h1, ← h2]; exact h3)
   rw [if_neg (by omega), if_neg (by omega), if_neg (by omega), if_neg (by omega)]
theorem of_f (n : Int) (h0 : 0 ≤ n) (h1 : n < 18446744073709551616) : nat_Of.f n = some (limbs n.toNat) := by
 unfold nat_Of.f nat_cut.f
 simp only [Option.bind_some]
 have hL : Lim [n % 4294967296, n / 4294967296 % 4294967296] := by
  intro x hx
  simp at hx
  omega
 rw [trim_eq hL]
 congr 2
 simp [nval]
 omega
theorem add_f (a b : List Int) (ha : isN a) (hb : isN b) : nat_Add.f a b = some (limbs (nval a + nval b)) := by unfold nat_Add.f; rw [if_pos ⟨ha, hb⟩]
theorem mul_f (a b : List Int) (ha : isN a) (hb : isN b) : nat_Mul.f a b = some (limbs (nval a * nval b)) := by unfold nat_Mul.f; rw [if_pos ⟨ha, hb⟩]
end Go.Proofs.Ytfldklimlcnnnaa.QNat
end

section
namespace Go.Proofs.Ytfldklimlcnnnaa.QText
open Go.RowKit Go.Proofs.YtfldklimlcnnnaaW.PrintWords Go.Proofs.YtfldklimlcnnnaaW.PrintLast Go.Proofs.YtfldklimlcnnnaaW.PrintMore
open Go.Proofs.Ytfldklimlcnnnaa.MNat Go.Proofs.Ytfldklimlcnnnaa.PHq Go.Proofs.Ytfldklimlcnnnaa.QNat
theorem wu64 {x : Int} (h0 : 0 ≤ x) (h1 : x < 18446744073709551616) : IntKind.u64.wrap x = x := by rw [IntKind.wrap_u64]; omega
end Go.Proofs.Ytfldklimlcnnnaa.QText
end

section
namespace Go.Proofs.Ytfldklimlcnnnaa.QText
open Go.RowKit Go.Proofs.YtfldklimlcnnnaaW.PrintWords Go.Proofs.YtfldklimlcnnnaaW.PrintLast Go.Proofs.YtfldklimlcnnnaaW.PrintMore
open Go.Proofs.Ytfldklimlcnnnaa.MNat Go.Proofs.Ytfldklimlcnnnaa.PHq Go.Proofs.Ytfldklimlcnnnaa.QNat
theorem limb_at {l : List Int} (h : Lim l) (i : Nat) : ∃ d : Nat, l.getD i 0 = (d : Int) ∧ d < 4294967296 := ⟨(l.getD i 0).toNat, by have := lim_getD h i; omega, by have := lim_getD h i; omega⟩
theorem take_nval {l : List Int} (i d : Nat) (h : l.getD i 0 = (d : Int)) : nval (l.take (i + 1)) = nval (l.take i) + 4294967296 ^ i * d := by
 by_cases hi : i < l.length
 ·rw [take_succ_rd _ _ hi, nval_snoc, h, List.length_take, Nat.min_eq_left (by omega), Int.toNat_natCast]
 ·have : d = 0 := by simp [List.getD, List.getElem?_eq_none (Nat.le_of_not_lt hi)] at h; omega
  subst this
  rw [List.take_of_length_le (by omega), List.take_of_length_le (by omega)]; simp
theorem nat_at_f (l : List Int) (k : Nat) (h : Lim l) : nat_at.f l (k : Int) = some (l.getD k 0) := by
 have hb := lim_getD h k
 unfold nat_at.f
 by_cases hk : k < l.length
 ·rw [if_pos (by omega), if_pos (by omega), rd_nat, wu64 (by omega) (by omega)]
 ·rw [if_neg (by omega)]
  simp [List.getD, List.getElem?_eq_none (Nat.le_of_not_lt hk)]
theorem nsub_l (x y : List Int) (hx : Lim x) (hy : Lim y) (hyx : nval y ≤ nval x) (hxN : x.length ≤ 1000000) (hyl : y.length ≤ x.length) (d : Nat) : ∀ (k i c : Nat) (out : List Int), i ≤ x.length → x.length - i = d → d < k → out.length = x.length → Lim (out.take i) → c ≤ 1 →
  nval (out.take i) + nval (y.take i) = nval (x.take i) + c * 4294967296 ^ i → nat_Sub.l0 k x y out (c : Int) (x.length : Int) (i : Int) = some (limbs (nval x - nval y), 0) := by
 induction d with
 | zero =>
  intro k i c out hi hd hk ho hO hc he
  obtain ⟨k, rfl⟩ : ∃ m, k = m + 1 := ⟨k - 1, by omega⟩
  simp only [nat_Sub.l0, nat_cut.f, Option.bind_some]
  rw [if_neg (by omega)]
  rw [List.take_of_length_le (by omega)] at hO
  rw [List.take_of_length_le (by omega), List.take_of_length_le (by omega), List.take_of_length_le (by omega)] at he
  have hb := nval_lt hO
  have hii : i = x.length := by omega
  rw [ho, ← hii] at hb
  have hc0 : c = 0 := by
   rcases Nat.eq_zero_or_pos c with h | h
   ·exact h
   ·have : 1 * 4294967296 ^ i ≤ c * 4294967296 ^ i := Nat.mul_le_mul_right _ h
    omega
  subst hc0
  rw [trim_eq hO]
  congr 3; omega
 | succ d ih =>
  intro k i c out hi hd hk ho hO hc he
  obtain ⟨k, rfl⟩ : ∃ m, k = m + 1 := ⟨k - 1, by omega⟩
  obtain ⟨X, hX, hX32⟩ := limb_at hx i
  obtain ⟨Y, hY, hY32⟩ := limb_at hy i
  have tx := take_nval i X hX
  have ty := take_nval i Y hY
  have key : ∀ (r c' : Nat), r < 4294967296 → c' ≤ 1 → r + c + Y = X + 4294967296 * c' → nat_Sub.l0 k x y (out.set i (r : Int)) (c' : Int) (x.length : Int) ((i + 1 : Nat) : Int) = some (limbs (nval x - nval y), 0) := by
   intro r c' hr hc' hrel
   have e1 : (out.set i (r : Int)).take (i + 1) = out.take i ++ [(r : Int)] := by
    rw [take_succ_rd _ _ (by simp; omega), List.take_set_of_le (by omega)]
    simp [List.getD, show i < out.length by omega]
   refine ih k (i + 1) c' _ (by omega) (by omega) (by omega) (by simp [ho]) (by rw [e1]; exact lim_append.2 ⟨hO, lim_cons.2 ⟨by omega, lim_nil⟩⟩) hc' ?_
   rw [e1, nval_snoc, List.length_take, Nat.min_eq_left (by omega), tx, ty, Int.toNat_natCast, Nat.pow_succ]
   have h1 := congrArg (4294967296 ^ i * ·) hrel
   simp only [Nat.mul_add] at h1
   have h2 : 4294967296 ^ i * (4294967296 * c') = c' * (4294967296 ^ i * 4294967296) := by rw [Nat.mul_comm c', Nat.mul_assoc]
   have h3 : c * 4294967296 ^ i = 4294967296 ^ i * c := Nat.mul_comm _ _
   omega
  simp only [nat_Sub.l0]
  rw [if_pos (by omega), nat_at_f x i hx, nat_at_f y i hy]
  simp only [Option.bind_some]
  rw [if_pos (by omega), if_pos (by omega), w64 (x := (i : Int) + 1) (by omega) (by omega), show (i : Int) + 1 = ((i + 1 : Nat) : Int) by omega, Int.toNat_natCast, hX, hY]
  by_cases hneg : X < Y + c
  ·have e1 : IntKind.u64.wrap (IntKind.u64.wrap ((X : Int) - (Y : Int)) - (c : Int)) = (18446744073709551616 + X - Y - c : Int) := by simp only [IntKind.wrap_u64]; omega
   rw [e1, show (18446744073709551616 + (X : Int) - (Y : Int) - (c : Int)) % 4294967296 = ((4294967296 + X - Y - c : Nat) : Int) by omega, show (18446744073709551616 + (X : Int) - (Y : Int) - (c : Int)) / 9223372036854775808 = ((1 : Nat) : Int) by omega]
   exact key (4294967296 + X - Y - c) 1 (by omega) (by omega) (by omega)
  ·have e1 : IntKind.u64.wrap (IntKind.u64.wrap ((X : Int) - (Y : Int)) - (c : Int)) = ((X - Y - c : Nat) : Int) := by simp only [IntKind.wrap_u64]; omega
   rw [e1, show ((X - Y - c : Nat) : Int) % 4294967296 = ((X - Y - c : Nat) : Int) by omega, show ((X - Y - c : Nat) : Int) / 9223372036854775808 = ((0 : Nat) : Int) by omega]
   exact key (X - Y - c) 0 (by omega) (by omega) (by omega)
theorem nsub_f (k a b : Nat) (ha : isN (limbs a)) (hb : isN (limbs b)) (hk : (limbs a).length < k) : nat_Sub.f k (limbs a) (limbs b) = some (if a < b then ([], 16) else (limbs (a - b), 0)) := by
 have hl := ha.2
 unfold nat_Sub.f
 rw [cmp_f k _ _ ha hb hk, nval_limbs, nval_limbs]
 simp only [Option.bind_some]
 by_cases h : a < b
 ·rw [if_pos h, if_pos (by unfold cmpI; rw [if_pos h]; omega)]
 ·rw [if_neg h, if_neg (by unfold cmpI; rw [if_neg h]; split <;> omega), if_pos (by omega), if_pos (by omega), Int.toNat_natCast]
  have := nsub_l (limbs a) (limbs b) (lim_limbs a) (lim_limbs b) (by rw [nval_limbs, nval_limbs]; omega) hl (limbs_length_le (by omega)) (limbs a).length k 0 0 (List.replicate (limbs a).length 0) (by omega) (by omega) hk (by simp) lim_nil (by omega) (by simp [nval])
  rw [nval_limbs, nval_limbs] at this
  exact this
end Go.Proofs.Ytfldklimlcnnnaa.QText
end

section
namespace Go.Proofs.Ytfldklimlcnnnaa.QRatio
open Go.RowKit Go.Proofs.YtfldklimlcnnnaaW.PrintWords Go.Proofs.YtfldklimlcnnnaaW.PrintLast Go.Proofs.YtfldklimlcnnnaaW.PrintMore
open Go.Proofs.Ytfldklimlcnnnaa.MNat Go.Proofs.Ytfldklimlcnnnaa.QNat Go.Proofs.Ytfldklimlcnnnaa.QText Go.Proofs.Ytfldklimlcnnnaa.QEv Go.Proofs.Ytfldklimlcnnnaa.PHq
def F (j n : Nat) : Prop := n < 4294967296 ^ j
theorem F.mono {i j n : Nat} (h : F i n) (hij : i ≤ j) : F j n := Nat.lt_of_lt_of_le h (Nat.pow_le_pow_right (by decide) hij)
theorem F.le {j n m : Nat} (h : F j n) (hm : m ≤ n) : F j m := Nat.lt_of_le_of_lt hm h
theorem F.mul {i j a b : Nat} (h : F i a) (k : F j b) : F (i + j) (a * b) := by
 unfold F at *
 rw [Nat.pow_add]
 exact Nat.mul_lt_mul'' h k
theorem F.add {j a b : Nat} (h : F j a) (k : F j b) : F (j + 1) (a + b) := by
 unfold F at *
 rw [Nat.pow_succ]
 omega
theorem F.isN {j n : Nat} (h : F j n) (hj : j ≤ 1000000) : isN (limbs n) := isN_limbs h hj
theorem F.one {n : Nat} (h : n < 4294967296) : F 1 n := by unfold F; simpa using h
theorem cmp_t (j a b : Nat) (ha : F j a) (hb : F j b) (hj : j ≤ 1000000) : Tell (fun k => nat_Cmp.f k (limbs a) (limbs b)) (cmpI a b) :=
 ⟨(limbs a).length + 1, fun k hk => by show nat_Cmp.f k _ _ = _; rw [cmp_f k _ _ (ha.isN hj) (hb.isN hj) (by omega), nval_limbs, nval_limbs]⟩
theorem add_n (j a b : Nat) (ha : F j a) (hb : F j b) (hj : j ≤ 1000000) : nat_Add.f (limbs a) (limbs b) = some (limbs (a + b)) := by
 rw [add_f _ _ (ha.isN hj) (hb.isN hj), nval_limbs, nval_limbs]
theorem mul_n (i j a b : Nat) (ha : F i a) (hb : F j b) (hi : i ≤ 1000000) (hj : j ≤ 1000000) : nat_Mul.f (limbs a) (limbs b) = some (limbs (a * b)) := by
 rw [mul_f _ _ (ha.isN hi) (hb.isN hj), nval_limbs, nval_limbs]
theorem sub_t (j a b : Nat) (ha : F j a) (hb : F j b) (hj : j ≤ 1000000) : Tell (fun k => nat_Sub.f k (limbs a) (limbs b)) (if a < b then ([], 16) else (limbs (a - b), 0)) :=
 ⟨(limbs a).length + 1, fun k hk => nsub_f k a b (ha.isN hj) (hb.isN hj) (by omega)⟩
theorem of_n (n : Nat) (h : n < 18446744073709551616) : nat_Of.f (n : Int) = some (limbs n) := by
 rw [of_f _ (by omega) (by omega), Int.toNat_natCast]
theorem cmpI_neg {a b : Nat} : cmpI a b < 0 ↔ a < b := by
 unfold cmpI
 by_cases h : a < b
 ·simp [h]
 ·by_cases h2 : a = b <;> simp [h, h2]
theorem quo_t (j a : Nat) (ha : F j a) (hj : j + 2 ≤ 1000000) (d : Nat) : ∀ b, 0 < b → F (j + 1) b → a < b * 2 ^ d → Tell (fun k => ratio_quo.f k (limbs a) (limbs b)) (limbs (a / b), limbs (a % b)) := by
 induction d with
 | zero =>
  intro b hb hF hlt
  have hlt : a < b := by simpa using hlt
  refine Tell.step (fun k => by rw [ratio_quo.f]) (Tell.bind (cmp_t (j + 1) a b (ha.mono (by omega)) hF (by omega)) ?_)
  refine Tell.of (fun k => ?_) (Tell.const (limbs (a / b), limbs (a % b)))
  rw [if_pos (cmpI_neg.2 hlt), Nat.div_eq_of_lt hlt, Nat.mod_eq_of_lt hlt, limbs_zero]
 | succ d ih =>
  intro b hb hF hlt
  refine Tell.step (fun k => by rw [ratio_quo.f]) (Tell.bind (cmp_t (j + 1) a b (ha.mono (by omega)) hF (by omega)) ?_)
  by_cases h : a < b
  ·refine Tell.of (fun k => ?_) (Tell.const (limbs (a / b), limbs (a % b)))
   rw [if_pos (cmpI_neg.2 h), Nat.div_eq_of_lt h, Nat.mod_eq_of_lt h, limbs_zero]
  ·have hbF : F j b := ha.le (by omega)
   have hbb : F (j + 1) (b + b) := hbF.add hbF
   have hlt2 : a < (b + b) * 2 ^ d := by
    have e : b * 2 ^ (d + 1) = (b + b) * 2 ^ d := by rw [Nat.pow_succ, Nat.add_mul, Nat.mul_comm (2 ^ d) 2, ← Nat.mul_assoc, Nat.mul_comm b 2, Nat.mul_assoc, Nat.two_mul]
    omega
   have hrec := ih (b + b) (by omega) hbb hlt2
   have hq : a / (b + b) ≤ a := Nat.div_le_self _ _
   have hr : a % (b + b) ≤ a := Nat.mod_le _ _
   have hqF : F j (a / (b + b)) := ha.le hq
   have hrF : F j (a % (b + b)) := ha.le hr
   have hdm := Nat.div_add_mod a (b + b)
   have hrl := Nat.mod_lt a (show 0 < b + b by omega)
   generalize hQ : a / (b + b) = Q at *
   generalize hR : a % (b + b) = R at *
   refine Tell.of (fun k => by rw [if_neg (fun h' => h (cmpI_neg.1 h')), add_n j b b hbF hbF (by omega), Option.bind_some]) ?_
   refine Tell.bind hrec ?_
   refine Tell.of (fun k => by rw [add_n j Q Q hqF hqF (by omega), Option.bind_some]) ?_
   refine Tell.bind (cmp_t j R b hrF hbF (by omega)) ?_
   have h2 : (b + b) * Q = b * (Q + Q) := by rw [Nat.add_mul, Nat.mul_add]
   by_cases hlt2 : R < b
   ·refine Tell.of (fun k => ?_) (Tell.const (limbs (a / b), limbs (a % b)))
    have e1 : a / b = Q + Q := by
     rw [← hdm, h2, Nat.mul_add_div hb, Nat.div_eq_of_lt hlt2, Nat.add_zero]
    have e2 : a % b = R := by
     rw [← hdm, h2, Nat.mul_add_mod, Nat.mod_eq_of_lt hlt2]
    rw [if_pos (cmpI_neg.2 hlt2), e1, e2]
   ·have e1 : a / b = Q + Q + 1 := by
     rw [← hdm, h2, Nat.mul_add_div hb, show R = b * 1 + (R - b) by omega, Nat.mul_add_div hb, Nat.div_eq_of_lt (show R - b < b by omega), Nat.add_zero]
    have e2 : a % b = R - b := by
     rw [← hdm, h2, Nat.mul_add_mod, show R = b * 1 + (R - b) by omega, Nat.mul_add_mod, Nat.mod_eq_of_lt (show R - b < b by omega)]
     omega
    refine Tell.of (fun k => by rw [if_neg (fun h' => hlt2 (cmpI_neg.1 h'))]) ?_
    refine Tell.bind (sub_t j R b hrF hbF (by omega)) ?_
    refine Tell.of (fun k => ?_) (Tell.const (limbs (a / b), limbs (a % b)))
    rw [if_neg hlt2, show nat_Of.f 1 = some (limbs 1) from of_n 1 (by omega), Option.bind_some, add_n (j + 1) (Q + Q) 1 (hqF.add hqF) (F.mono (F.one (by omega)) (by omega)) (by omega), Option.bind_some, e1, e2]
theorem quo_f (j a b : Nat) (ha : F j a) (hb : F (j + 1) b) (hj : j + 2 ≤ 1000000) (h0 : 0 < b) : Tell (fun k => ratio_quo.f k (limbs a) (limbs b)) (limbs (a / b), limbs (a % b)) :=
 quo_t j a ha hj a b h0 hb (by
  have h1 : a < 2 ^ a := Nat.lt_two_pow_self
  have h2 : 1 * 2 ^ a ≤ b * 2 ^ a := Nat.mul_le_mul_right _ h0
  omega)
theorem limbs_nil {n : Nat} (h : ((limbs n).length : Int) = 0) : n = 0 := by
 by_cases h0 : n = 0
 ·exact h0
 ·exfalso
  have := List.eq_nil_of_length_eq_zero (by omega : (limbs n).length = 0)
  exact limbs_ne n h0 this
theorem limbs_pos_len {n : Nat} (h : 0 < n) : ((limbs n).length : Int) > 0 := by
 have : ((limbs n).length : Int) ≠ 0 := fun e => by have := limbs_nil e; omega
 omega
theorem gcd_t (j : Nat) (hj : j + 2 ≤ 1000000) (b : Nat) : ∀ a, F j a → F j b → Tell (fun k => ratio_gcd.l0 k (limbs a) (limbs b)) (limbs (Nat.gcd a b)) := by
 induction b using Nat.strongRecOn with
 | _ b ih =>
  intro a ha hb
  by_cases h0 : b = 0
  ·subst h0
   exact Tell.step (g := fun _ => some (limbs a)) (fun k => by rw [ratio_gcd.l0, limbs_zero]; simp) (by rw [Nat.gcd_zero_right]; exact Tell.const _)
  ·have hb0 : 0 < b := by omega
   refine Tell.step (fun k => by rw [ratio_gcd.l0, if_neg (fun e => h0 (limbs_nil e))]) (Tell.bind (quo_f j a b ha (hb.mono (by omega)) hj hb0) ?_)
   have hm := Nat.mod_lt a hb0
   have h := ih (a % b) hm b hb (hb.le (by omega))
   rwa [show Nat.gcd b (a % b) = Nat.gcd a b by rw [Nat.gcd_comm a b, Nat.gcd_rec b a, Nat.gcd_comm]] at h
theorem check_n (j n d : Nat) (hn : F j n) (hd : F j d) (hj : j ≤ 1000000) (h0 : 0 < d) : ratio_Check.f (limbs n) (limbs d) = some true := by
 unfold ratio_Check.f
 rw [check_f _ (hn.isN hj)]
 simp only [Option.bind_some, if_true]
 rw [check_f _ (hd.isN hj)]
 simp only [Option.bind_some, if_true]
 rw [decide_eq_true (limbs_pos_len h0)]
def L (q : Rat) : List Int × List Int := (limbs q.num.natAbs, limbs q.den)
theorem mk_num (n d : Nat) (h0 : 0 < d) : (mkRat (n : Int) d).num.natAbs = n / Nat.gcd n d ∧ (mkRat (n : Int) d).den = d / Nat.gcd n d := by
 rw [← Rat.normalize_eq_mkRat (show d ≠ 0 by omega), Rat.normalize_eq]
 constructor
 ·show ((n : Int) / ((Nat.gcd (n : Int).natAbs d : Nat) : Int)).natAbs = _
  rw [Int.natAbs_natCast, ← Int.natCast_ediv, Int.natAbs_natCast]
 ·show d / Nat.gcd (n : Int).natAbs d = _
  rw [Int.natAbs_natCast]
theorem least_t (j n d : Nat) (hn : F j n) (hd : F j d) (hj : j + 2 ≤ 1000000) (h0 : 0 < d) : Tell (fun k => ratio_Least.f k (limbs n) (limbs d)) (L (mkRat (n : Int) d)) := by
 obtain ⟨e1, e2⟩ := mk_num n d h0
 unfold ratio_Least.f L
 rw [e1, e2]
 have hg : 0 < Nat.gcd n d := Nat.gcd_pos_of_pos_right _ h0
 have hgd : Nat.gcd n d ≤ d := Nat.gcd_le_right _ h0
 have hgF : F (j + 1) (Nat.gcd n d) := (hd.le hgd).mono (by omega)
 refine Tell.of (fun k => by rw [check_n j n d hn hd (by omega) h0, Option.bind_some, if_pos rfl]) ?_
 refine Tell.bind (gcd_t j hj d n hn hd) (Tell.bind (quo_f j n _ hn hgF hj hg) (Tell.bind (quo_f j d _ hd hgF hj hg) ?_))
 exact Tell.const _
def Sz (j : Nat) (q : Rat) : Prop := 0 ≤ q ∧ F j q.num.natAbs ∧ F j q.den
theorem mk_nonneg (n d : Nat) : 0 ≤ mkRat (n : Int) d := by
 by_cases h0 : d = 0
 ·subst h0; simp
 ·rw [← Rat.num_nonneg, ← Rat.normalize_eq_mkRat h0, Rat.normalize_eq]
  exact Int.ediv_nonneg (by omega) (by omega)
theorem mk_sz (j n d : Nat) (hn : F j n) (hd : F j d) (h0 : 0 < d) : Sz j (mkRat (n : Int) d) := by
 obtain ⟨e1, e2⟩ := mk_num n d h0
 refine ⟨mk_nonneg n d, ?_, ?_⟩
 ·rw [e1]; exact hn.le (Nat.div_le_self _ _)
 ·rw [e2]; exact hd.le (Nat.div_le_self _ _)
theorem mk_add (n d m e : Nat) (h0 : 0 < d) (h1 : 0 < e) : mkRat (n : Int) d + mkRat (m : Int) e = mkRat ((n * e + m * d : Nat) : Int) (d * e) := by
 rw [Rat.mkRat_add_mkRat _ _ (by omega) (by omega)]
 simp
theorem self_mk (q : Rat) (h : 0 ≤ q) : mkRat (q.num.natAbs : Int) q.den = q := by
 have h2 := Rat.num_nonneg.2 h
 rw [Int.natAbs_of_nonneg h2, Rat.mkRat_self]
theorem F_cross {i j n d m e : Nat} (hn : F i n) (hd : F i d) (hm : F j m) (he : F j e) : F (i + j + 1) (n * e + m * d) := by
 have h2 := hm.mul hd
 rw [Nat.add_comm j i] at h2
 exact (hn.mul he).add h2
theorem radd_t (i j n d m e : Nat) (hn : F i n) (hd : F i d) (hm : F j m) (he : F j e) (hij : i + j + 3 ≤ 1000000) (h0 : 0 < d) (h1 : 0 < e) :
  Tell (fun k => ratio_Add.f k (limbs n) (limbs d) (limbs m) (limbs e)) (L (mkRat (n : Int) d + mkRat (m : Int) e)) := by
 unfold ratio_Add.f
 rw [mul_n i j n e hn he (by omega) (by omega), mul_n j i m d hm hd (by omega) (by omega), mul_n i j d e hd he (by omega) (by omega)]
 simp only [Option.bind_some]
 have h2 := hm.mul hd
 rw [Nat.add_comm j i] at h2
 rw [add_n (i + j) (n * e) (m * d) (hn.mul he) h2 (by omega)]
 simp only [Option.bind_some]
 have h3 := least_t (i + j + 1) (n * e + m * d) (d * e) (F_cross hn hd hm he) ((hd.mul he).mono (by omega)) (by omega) (Nat.mul_pos h0 h1)
 rw [mk_add n d m e h0 h1]
 exact Tell.bind h3 (Tell.const _)
theorem sz_add (i j n d m e : Nat) (hn : F i n) (hd : F i d) (hm : F j m) (he : F j e) (h0 : 0 < d) (h1 : 0 < e) : Sz (i + j + 1) (mkRat (n : Int) d + mkRat (m : Int) e) := by
 rw [mk_add n d m e h0 h1]
 exact mk_sz _ _ _ (F_cross hn hd hm he) ((hd.mul he).mono (by omega)) (Nat.mul_pos h0 h1)
theorem lt_cross (p q : Rat) (hp : 0 ≤ p) (hq : 0 ≤ q) : p < q ↔ p.num.natAbs * q.den < q.num.natAbs * p.den := by
 rw [Rat.lt_iff]
 have h1 := Int.natAbs_of_nonneg (Rat.num_nonneg.2 hp)
 have h2 := Int.natAbs_of_nonneg (Rat.num_nonneg.2 hq)
 rw [← h1, ← h2]
 simp only [Int.natAbs_natCast]
 exact_mod_cast Iff.rfl
theorem mk_lt (n d m e : Nat) (h0 : 0 < d) (h1 : 0 < e) : mkRat (n : Int) d < mkRat (m : Int) e ↔ n * e < m * d := by
 obtain ⟨a1, a2⟩ := mk_num n d h0
 obtain ⟨b1, b2⟩ := mk_num m e h1
 rw [lt_cross _ _ (mk_nonneg n d) (mk_nonneg m e), a1, a2, b1, b2]
 have g : 0 < Nat.gcd n d := Nat.gcd_pos_of_pos_right _ h0
 have g' : 0 < Nat.gcd m e := Nat.gcd_pos_of_pos_right _ h1
 obtain ⟨x, hx⟩ := Nat.gcd_dvd_left n d
 obtain ⟨y, hy⟩ := Nat.gcd_dvd_right n d
 obtain ⟨z, hz⟩ := Nat.gcd_dvd_left m e
 obtain ⟨v, hv⟩ := Nat.gcd_dvd_right m e
 generalize Nat.gcd n d = G at *
 generalize Nat.gcd m e = H at *
 subst hx hy hz hv
 rw [Nat.mul_div_cancel_left _ g, Nat.mul_div_cancel_left _ g, Nat.mul_div_cancel_left _ g', Nat.mul_div_cancel_left _ g']
 have e1 : G * x * (H * v) = G * H * (x * v) := by rw [Nat.mul_mul_mul_comm]
 have e2 : H * z * (G * y) = G * H * (z * y) := by rw [Nat.mul_mul_mul_comm, Nat.mul_comm H G]
 rw [e1, e2]
 exact (Nat.mul_lt_mul_left (Nat.mul_pos g g')).symm
theorem mk_eq (n d m e : Nat) (h0 : 0 < d) (h1 : 0 < e) : mkRat (n : Int) d = mkRat (m : Int) e ↔ n * e = m * d := by
 rw [Rat.mkRat_eq_iff (by omega) (by omega)]
 exact_mod_cast Iff.rfl
def cmpR (p q : Rat) : Int := if p < q then -1 else if p = q then 0 else 1
theorem cmp_cross (n d m e : Nat) (h0 : 0 < d) (h1 : 0 < e) : cmpI (n * e) (m * d) = cmpR (mkRat (n : Int) d) (mkRat (m : Int) e) := by
 unfold cmpI cmpR
 by_cases h : n * e < m * d
 ·rw [if_pos h, if_pos ((mk_lt n d m e h0 h1).2 h)]
 ·rw [if_neg h, if_neg (fun h' => h ((mk_lt n d m e h0 h1).1 h'))]
  by_cases h2 : n * e = m * d
  ·rw [if_pos h2, if_pos ((mk_eq n d m e h0 h1).2 h2)]
  ·rw [if_neg h2, if_neg (fun h' => h2 ((mk_eq n d m e h0 h1).1 h'))]
theorem rcmp_t (i j n d m e : Nat) (hn : F i n) (hd : F i d) (hm : F j m) (he : F j e) (hij : i + j ≤ 1000000) (h0 : 0 < d) (h1 : 0 < e) :
  Tell (fun k => ratio_Cmp.f k (limbs n) (limbs d) (limbs m) (limbs e)) (cmpR (mkRat (n : Int) d) (mkRat (m : Int) e)) := by
 unfold ratio_Cmp.f
 rw [mul_n i j n e hn he (by omega) (by omega), mul_n j i m d hm hd (by omega) (by omega)]
 simp only [Option.bind_some]
 have h2 := hm.mul hd
 rw [Nat.add_comm j i] at h2
 rw [← cmp_cross n d m e h0 h1]
 exact Tell.bind (cmp_t (i + j) _ _ (hn.mul he) h2 hij) (Tell.const _)
theorem cmpL (i j : Nat) (p q : Rat) (hp : Sz i p) (hq : Sz j q) (hij : i + j ≤ 1000000) : Tell (fun k => ratio_Cmp.f k (L p).1 (L p).2 (L q).1 (L q).2) (cmpR p q) := by
 have h := rcmp_t i j _ _ _ _ hp.2.1 hp.2.2 hq.2.1 hq.2.2 hij p.den_pos q.den_pos
 rw [self_mk p hp.1, self_mk q hq.1] at h
 exact h
theorem mk_sub (n d m e : Nat) (h0 : 0 < d) (h1 : 0 < e) (h : m * d ≤ n * e) : mkRat (n : Int) d - mkRat (m : Int) e = mkRat ((n * e - m * d : Nat) : Int) (d * e) := by
 have h2 : mkRat ((n * e - m * d : Nat) : Int) (d * e) + mkRat (m : Int) e = mkRat (n : Int) d := by
  rw [mk_add _ _ _ _ (Nat.mul_pos h0 h1) h1, mk_eq _ _ _ _ (Nat.mul_pos (Nat.mul_pos h0 h1) h1) h0]
  have e1 : (n * e - m * d) * e + m * (d * e) = n * e * e := by
   rw [← Nat.mul_assoc, ← Nat.add_mul]
   congr 1; omega
  rw [e1, Nat.mul_comm (n * e * e) d, Nat.mul_assoc n e e, ← Nat.mul_assoc d n, Nat.mul_comm d n, Nat.mul_assoc n d, Nat.mul_assoc d e e]
 rw [← h2, Rat.add_sub_cancel]
theorem rsub_t (i j n d m e : Nat) (hn : F i n) (hd : F i d) (hm : F j m) (he : F j e) (hij : i + j + 3 ≤ 1000000) (h0 : 0 < d) (h1 : 0 < e) :
  Tell (fun k => ratio_Sub.f k (limbs n) (limbs d) (limbs m) (limbs e)) (if mkRat (n : Int) d < mkRat (m : Int) e then ([], [], 16) else ((L (mkRat (n : Int) d - mkRat (m : Int) e)).1, (L (mkRat (n : Int) d - mkRat (m : Int) e)).2, 0)) := by
 unfold ratio_Sub.f
 rw [mul_n i j n e hn he (by omega) (by omega), mul_n j i m d hm hd (by omega) (by omega), mul_n i j d e hd he (by omega) (by omega)]
 simp only [Option.bind_some]
 have h2 := hm.mul hd
 rw [Nat.add_comm j i] at h2
 refine Tell.bind (sub_t (i + j) _ _ (hn.mul he) h2 (by omega)) ?_
 by_cases h : n * e < m * d
 ·rw [if_pos ((mk_lt n d m e h0 h1).2 h)]
  refine Tell.of (fun k => ?_) (Tell.const _)
  rw [if_pos h, if_neg (by decide)]
 ·rw [if_neg (fun h' => h ((mk_lt n d m e h0 h1).1 h')), mk_sub n d m e h0 h1 (by omega)]
  refine Tell.of (fun k => by rw [if_neg h, if_pos rfl]) ?_
  have h3 := least_t (i + j) (n * e - m * d) (d * e) ((hn.mul he).le (Nat.sub_le _ _)) (hd.mul he) (by omega) (Nat.mul_pos h0 h1)
  exact Tell.bind h3 (Tell.const _)
end Go.Proofs.Ytfldklimlcnnnaa.QRatio
end

section
namespace Go.Proofs.Ytfldklimlcnnnaa.QBits
open Go Go.RowKit
theorem w64 {x : Int} (h0 : -9223372036854775808 ≤ x) (h1 : x ≤ 9223372036854775807) : wrap64 x = x := by unfold wrap64; omega
theorem and_mask (i : Nat) (hi : i ≤ 62) (x m : Int) (hm : m = 2 ^ i - 1) : Go.bits .and .i64 x m = x % 2 ^ i := by
 have hp : (2 : Nat) ^ i ≤ 2 ^ 62 := Nat.pow_le_pow_right (by decide) hi
 have hpos : 0 < (2 : Nat) ^ i := Nat.two_pow_pos i
 have h62 : (2 : Nat) ^ 62 = 4611686018427387904 := by decide
 have hm' : m = (((2 ^ i - 1 : Nat)) : Int) := by rw [hm, Int.natCast_sub hpos]; simp
 have hz : (2 : Int) ^ i = ((2 ^ i : Nat) : Int) := by simp
 have e1 : (BitVec.ofInt 64 m).toNat = 2 ^ i - 1 := by
  rw [hm', BitVec.ofInt_natCast, BitVec.toNat_ofNat, Nat.mod_eq_of_lt]
  have : (2 : Nat) ^ 64 = 18446744073709551616 := by decide
  omega
 show IntKind.i64.wrap (((BitVec.ofInt 64 x &&& BitVec.ofInt 64 m).toNat : Nat) : Int) = _
 rw [BitVec.toNat_and, e1, Nat.and_two_pow_sub_one_eq_mod, BitVec.toNat_ofInt, IntKind.wrap_i64, hz]
 have hx : 0 ≤ x % ((2 ^ 64 : Nat) : Int) := Int.emod_nonneg _ (by decide)
 have h3 : (((x % ((2 ^ 64 : Nat) : Int)).toNat % 2 ^ i : Nat) : Int) = x % ((2 ^ i : Nat) : Int) := by
  rw [Int.natCast_emod, Int.toNat_of_nonneg hx]
  exact Int.emod_emod_of_dvd x (by exact_mod_cast Nat.pow_dvd_pow 2 (by omega : i ≤ 64))
 rw [h3]
 have h4 := Int.emod_nonneg x (show ((2 ^ i : Nat) : Int) ≠ 0 by omega)
 have h5 := Int.emod_lt_of_pos x (show (0 : Int) < ((2 ^ i : Nat) : Int) by omega)
 generalize x % ((2 ^ i : Nat) : Int) = y at *
 omega
theorem and7 (x : Int) : Go.bits .and .i64 x 7 = x % 8 := and_mask 3 (by omega) x 7 rfl
theorem and15 (x : Int) : Go.bits .and .i64 x 15 = x % 16 := and_mask 4 (by omega) x 15 rfl
theorem and31 (x : Int) : Go.bits .and .i64 x 31 = x % 32 := and_mask 5 (by omega) x 31 rfl
end Go.Proofs.Ytfldklimlcnnnaa.QBits
end

section
namespace Go.Proofs.Ytfldklimlcnnnaa.QRatio
open Go.RowKit Go.Proofs.YtfldklimlcnnnaaW.PrintWords Go.Proofs.YtfldklimlcnnnaaW.PrintLast Go.Proofs.YtfldklimlcnnnaaW.PrintMore
open Go.Proofs.Ytfldklimlcnnnaa.MNat Go.Proofs.Ytfldklimlcnnnaa.QNat Go.Proofs.Ytfldklimlcnnnaa.QText Go.Proofs.Ytfldklimlcnnnaa.QEv Go.Proofs.Ytfldklimlcnnnaa.PHq
theorem rdW (l : List S34) (i : Nat) (h : i < l.length) : rd_T34 l (i : Int) = l[i] := by simp [rd_T34, List.getD, List.getElem?_eq_getElem h]
def okW (x : S34) : Prop := 0 ≤ x.f0 ∧ x.f0 < 4294967296 ∧ 1 ≤ x.f1 ∧ x.f1 < 4294967296
def wt (x : S34) : Rat := mkRat (x.f0.toNat : Int) x.f1.toNat
def sumR : List S34 → Rat
 | [] => 0
 | x :: xs => wt x + sumR xs
theorem of_w (x : S34) (h : okW x) : ratio_Of.f x.f0 x.f1 = some (limbs x.f0.toNat, limbs x.f1.toNat) := by
 obtain ⟨h0, h1, h2, h3⟩ := h
 unfold ratio_Of.f
 have e0 : IntKind.u64.wrap (mx x.f0 0) = (x.f0.toNat : Int) := by rw [IntKind.wrap_u64]; unfold mx; omega
 have e1 : IntKind.u64.wrap (mx x.f1 1) = (x.f1.toNat : Int) := by rw [IntKind.wrap_u64]; unfold mx; omega
 rw [e0, e1, of_n _ (by omega), Option.bind_some, of_n _ (by omega), Option.bind_some]
theorem natL (n : Nat) : L (n : Rat) = (limbs n, limbs 1) := by
 show (limbs ((n : Int)).natAbs, limbs 1) = _
 rw [Int.natAbs_natCast]
theorem whole_n (n : Nat) (h : n < 18446744073709551616) : ratio_Whole.f (n : Int) = some (L (n : Rat)) := by
 unfold ratio_Whole.f
 rw [of_n _ h, Option.bind_some, show nat_Of.f 1 = some (limbs 1) from of_n 1 (by omega), Option.bind_some, natL]
theorem zeroSz : Sz 1 0 := ⟨Rat.le_refl, by show F 1 0; unfold F; decide, by show F 1 1; unfold F; decide⟩
theorem okW_pos {x : S34} (h : okW x) : 0 < x.f1.toNat := by have := h.2.2.1; omega
theorem okW_F {x : S34} (h : okW x) : F 1 x.f0.toNat ∧ F 1 x.f1.toNat := by
 obtain ⟨h0, h1, h2, h3⟩ := h
 exact ⟨F.one (by omega), F.one (by omega)⟩
theorem addW (i : Nat) (p : Rat) (x : S34) (hp : Sz i p) (h : okW x) (hi : i + 4 ≤ 1000000) :
  Tell (fun k => ratio_Add.f k (L p).1 (L p).2 (limbs x.f0.toNat) (limbs x.f1.toNat)) (L (p + wt x)) ∧ Sz (i + 2) (p + wt x) := by
 have h1 := radd_t i 1 _ _ _ _ hp.2.1 hp.2.2 (okW_F h).1 (okW_F h).2 (by omega) p.den_pos (okW_pos h)
 have h2 := sz_add i 1 _ _ _ _ hp.2.1 hp.2.2 (okW_F h).1 (okW_F h).2 p.den_pos (okW_pos h)
 rw [self_mk p hp.1] at h1 h2
 exact ⟨h1, h2⟩
theorem sum_l (l : List S34) (hl : l.length ≤ 1000) (ho : ∀ x ∈ l, okW x) (d : Nat) : ∀ (i j : Nat) (s : Rat), i + d = l.length → Sz j s → j + 2 * d + 4 ≤ 1000000 →
  Tell (fun k => ratio_Sum.l0 k l (l.length : Int) (i : Int) (L s).1 (L s).2) (L (s + sumR (l.drop i))) ∧ Sz (j + 2 * d) (s + sumR (l.drop i)) := by
 induction d with
 | zero =>
  intro i j s hi hs _
  rw [List.drop_of_length_le (by omega)]
  have e : s + sumR [] = s := Rat.add_zero s
  rw [e]
  exact ⟨Tell.step (g := fun _ => some (L s)) (fun k => by rw [ratio_Sum.l0, if_neg (by omega)]) (Tell.const _), hs⟩
 | succ d ih =>
  intro i j s hi hs hj
  have hlt : i < l.length := by omega
  have hx := ho l[i] (List.getElem_mem hlt)
  obtain ⟨h1, h2⟩ := addW j s l[i] hs hx (by omega)
  obtain ⟨h3, h4⟩ := ih (i + 1) (j + 2) (s + wt l[i]) (by omega) h2 (by omega)
  rw [List.drop_eq_getElem_cons hlt]
  have e : s + sumR (l[i] :: l.drop (i + 1)) = s + wt l[i] + sumR (l.drop (i + 1)) := (Rat.add_assoc _ _ _).symm
  rw [e]
  refine ⟨?_, by rw [show j + 2 * (d + 1) = j + 2 + 2 * d by omega]; exact h4⟩
  refine Tell.step (fun k => by rw [ratio_Sum.l0, if_pos (by omega), if_pos (by omega), if_pos (by omega), rdW l i hlt, of_w _ hx, Option.bind_some, w64 (by omega) (by omega)]) ?_
  exact Tell.bind h1 h3
theorem sum_t (l : List S34) (hl : l.length ≤ 1000) (ho : ∀ x ∈ l, okW x) : Tell (fun k => ratio_Sum.f k l) (L (sumR l)) ∧ Sz (1 + 2 * l.length) (sumR l) := by
 obtain ⟨h1, h2⟩ := sum_l l hl ho l.length 0 1 0 (by omega) zeroSz (by omega)
 rw [Rat.zero_add, List.drop_zero] at h1 h2
 refine ⟨?_, h2⟩
 unfold ratio_Sum.f
 refine Tell.of (fun k => ?_) h1
 rw [show ratio_Whole.f 0 = some (L ((0 : Nat) : Rat)) from whole_n 0 (by omega), Option.bind_some]
 rfl
theorem sumR_append (a b : List S34) : sumR (a ++ b) = sumR a + sumR b := by
 induction a with
 | nil => exact (Rat.zero_add _).symm
 | cons x a ih => show wt x + sumR (a ++ b) = wt x + sumR a + sumR b; rw [ih, Rat.add_assoc]
end Go.Proofs.Ytfldklimlcnnnaa.QRatio
end

section
namespace Go.Proofs.Ytfldklimlcnnnaa.QRef
open Go.RowKit Go.Proofs.YtfldklimlcnnnaaW.PrintWords Go.Proofs.YtfldklimlcnnnaaW.PrintLast Go.Proofs.YtfldklimlcnnnaaW.PrintMore
open Go.Proofs.Ytfldklimlcnnnaa.MNat Go.Proofs.Ytfldklimlcnnnaa.MDec Go.Proofs.Ytfldklimlcnnnaa.QNat Go.Proofs.Ytfldklimlcnnnaa.PHq
theorem tdiv_nat (a b : Nat) : Int.tdiv (a : Int) (b : Int) = ((a / b : Nat) : Int) := by rw [Int.tdiv_eq_ediv_of_nonneg (by omega), ← Int.natCast_ediv]
theorem tmod_nat (a b : Nat) : Int.tmod (a : Int) (b : Int) = ((a % b : Nat) : Int) := by rw [Int.tmod_eq_emod_of_nonneg (by omega), ← Int.natCast_emod]
theorem of_l (j : Nat) : ∀ (k n : Nat) (acc : List Int), n < 4294967296 ^ j → n < 18446744073709551616 → j < k → acc.length + j ≤ 1000000 → regattaref02_Of.l0 k (n : Int) acc = some (acc ++ limbs n) := by
 induction j with
 | zero =>
  intro k n acc hn _ hk _
  obtain ⟨k, rfl⟩ : ∃ m, k = m + 1 := ⟨k - 1, by omega⟩
  obtain rfl : n = 0 := by simpa using hn
  simp only [regattaref02_Of.l0, limbs_zero]
  rw [if_neg (by omega)]; simp
 | succ j ih =>
  intro k n acc hn h64 hk ha
  by_cases h0 : n = 0
  ·subst h0; exact ih k 0 acc (Nat.pow_pos (by omega)) (by omega) (by omega) (by omega)
  ·obtain ⟨k, rfl⟩ : ∃ m, k = m + 1 := ⟨k - 1, by omega⟩
   simp only [regattaref02_Of.l0]
   have e1 : Int.tdiv (n : Int) 4294967296 = ((n / 4294967296 : Nat) : Int) := tdiv_nat n 4294967296
   have e2 : Int.tmod (n : Int) 4294967296 = ((n % 4294967296 : Nat) : Int) := tmod_nat n 4294967296
   have e3 : IntKind.u64.wrap ((n / 4294967296 : Nat) : Int) = ((n / 4294967296 : Nat) : Int) := by rw [IntKind.wrap_u64]; omega
   have e4 : (((n % 4294967296 : Nat) : Int)) % 4294967296 = ((n % 4294967296 : Nat) : Int) := by omega
   rw [if_pos (by omega), if_pos (by omega), e1, e2, e3, e4, ih k (n / 4294967296) _ (by rw [Nat.pow_succ] at hn; omega) (by omega) (by omega) (by simp; omega), limbs_pos n h0]
   simp
theorem rof_f (k n : Nat) (h : n < 18446744073709551616) (hk : 5 ≤ k) : regattaref02_Of.f k (n : Int) = some (limbs n) := by
 unfold regattaref02_Of.f
 rw [of_l 2 k n [] (by omega) h (by omega) (by simp)]; simp
end Go.Proofs.Ytfldklimlcnnnaa.QRef
end

section
namespace Go.Proofs.Ytfldklimlcnnnaa.QRef
open Go.RowKit Go.Proofs.YtfldklimlcnnnaaW.PrintWords Go.Proofs.YtfldklimlcnnnaaW.PrintLast Go.Proofs.YtfldklimlcnnnaaW.PrintMore
open Go.Proofs.Ytfldklimlcnnnaa.MNat Go.Proofs.Ytfldklimlcnnnaa.MDec Go.Proofs.Ytfldklimlcnnnaa.QNat Go.Proofs.Ytfldklimlcnnnaa.PHq
end Go.Proofs.Ytfldklimlcnnnaa.QRef
end

section
namespace Go.Proofs.Ytfldklimlcnnnaa.QRatio
open Go.RowKit Go.Proofs.YtfldklimlcnnnaaW.PrintWords Go.Proofs.YtfldklimlcnnnaaW.PrintLast Go.Proofs.YtfldklimlcnnnaaW.PrintMore
open Go.Proofs.Ytfldklimlcnnnaa.MNat Go.Proofs.Ytfldklimlcnnnaa.QNat Go.Proofs.Ytfldklimlcnnnaa.QText Go.Proofs.Ytfldklimlcnnnaa.QRef Go.Proofs.Ytfldklimlcnnnaa.QEv Go.Proofs.Ytfldklimlcnnnaa.PHq
end Go.Proofs.Ytfldklimlcnnnaa.QRatio
end

section
namespace Go.Proofs.Ytfldklimlcnnnaa.XBy
open Go.RowKit
variable {F : Fence} {n : Nat} {P : Program} {α : Type}
structure Book (D : Nat) (r : Loop) (W : World) : Prop where
 defs : W.heap[D]? = some (.deferred (some []))
 loop : W.heap[D + 1]? = some (.loop r)
theorem Book.lt {D : Nat} {r : Loop} {W : World} (h : Book D r W) : D + 1 < W.heap.size := (Array.getElem?_eq_some_iff.1 h.loop).1
theorem Book.grown {D : Nat} {r : Loop} {W W' : World} {row : Option Nat} (h : Book D r W) (hg : W.grownBy W' row) (hr : ∀ k, row = some k → D + 1 < k) : Book D r W' :=
 ⟨(hg.block D (by have := h.lt; omega) (fun e => by have := hr D e.symm; omega)).trans h.defs, (hg.block (D + 1) h.lt (fun e => by have := hr (D + 1) e.symm; omega)).trans h.loop⟩
theorem Book.kept {D : Nat} {r : Loop} {W W' : World} (h : Book D r W) (hk : KeepsFrom D W W') : Book D r W' :=
 ⟨hk.same _ _ (Nat.le_refl _) h.defs rfl, hk.same _ _ (by omega) h.loop rfl⟩
theorem Book.below {D : Nat} {r : Loop} {W W' : World} (h : Book D r W) (hb : Below W.heap.size W W') : Book D r W' :=
 ⟨(hb.block _ (by have := h.lt; omega)).trans h.defs, (hb.block _ h.lt).trans h.loop⟩
theorem Book.turned {D : Nat} {r : Loop} {W : World} (h : Book D r W) (r' : Loop) : Book D r' (W.putObj (D + 1) (.loop r')) :=
 ⟨(World.putObj_heap_other (by omega)).trans h.defs, World.putObj_heap_same h.lt⟩
def SeqBy (F : Fence) (n : Nat) (P : Program) (gf : Nat) (lb : Array Value) (encs : α → Array Value) (Kr : World → World → Prop) (S : List α → Prop) (N : Nat) (w : World) : Prop :=
 ∀ (l : Nat) (J Jx : List α → World → Prop) (W : World), Below w.heap.size w W →
  AbidesFrom W.heap.size J → (∀ s X Y, J s X → Below X.heap.size X Y → J s Y) →
  (∀ pre x X, J pre X → pre.length < N → W.heap.size ≤ X.heap.size → YieldAt F (n - 1) P l (encs x) X fun e X' =>
   (e = .returned (.bool true) ∧ J (pre ++ [x]) X' ∧ Kr X X' ∧ X.heap.size ≤ X'.heap.size) ∨ (e = .returned (.bool false) ∧ Jx (pre ++ [x]) X')) →
  J [] W →
  CallsIn F n P gf (#[.func (.yield l) #[] #[]] ++ lb) W fun e W' => (∃ v, e = .returned v) ∧ ((∃ xs, S xs ∧ J xs W') ∨ ∃ pre, Jx pre W')
def roundOut (D : Nat) (Kr : World → World → Prop) (I Ix : List α → World → Prop) (xs : List α) (W : World) : Exit → Act → World → Prop
 | .normal, _, W' => KeepsFrom D W W' ∧ Kr W W' ∧ I xs W'
 | .ret, _, W' => KeepsFrom D W W' ∧ Ix xs W'
 | _, _, _ => False
theorem range_by {g : Operand} {ps : Array Tmp} {assign body : Code} {Q : Exit → Act → World → Prop} {a : Act} {w w0 : World} {gf : Nat} {lb : Array Value}
  (hro : F.round = none) (hn : 1 ≤ n) (hg : a.eval g = .func (.func gf) #[] lb) (hF : F.fn gf) (heg : ∀ args w, (callFunc gf args).run P w = .ok (.enter gf args) w)
  {encs : α → Array Value} {Kr : World → World → Prop} {S : List α → Prop} {N : Nat} (hseq : SeqBy F (n - 1) P gf lb encs Kr S N w0) (hw0 : Below w0.heap.size w0 w) (hps : ∀ x, (encs x).size = ps.size)
  (hKt : ∀ {A B C : World}, Kr A B → Kr B C → Kr A C) (hKb : ∀ (W : World) (l : Nat) (o o' : Obj), W.heap[l]? = some o → o.isCells = false → o.isWalk = false → Kr W (W.putObj l o'))
  (I Ix : List α → World → Prop) (hI : OwnFrom w.heap.size I) (hIx : OwnFrom w.heap.size Ix) (hIB : ∀ s X Y, I s X → Below X.heap.size X Y → I s Y) (h0 : I [] w)
  (Ax : α → Act → World → Prop) (hAx : ∀ x a', OwnFrom w.heap.size (fun (_ : Unit) W => Ax x a' W))
  (hassign : ∀ (l : Nat) (pre : List α) (x : α) (W : World) (K : Act → World → Prop), I pre W → w.heap.size + 1 < W.heap.size → (∀ a' W', KeepsFrom w.heap.size W W' → Kr W W' → I pre W' → Ax x a' W' → K a' W') →
   assign.wpIn (F.inRound l) (n - 1 - 1) P (Exit.then K (fun _ _ _ => False)) { tmps := (ps.zip (encs x)).foldl (fun t (p, v) => t.setIfInBounds p v) a.tmps, defers := [] } W)
  (hbody : ∀ (l : Nat) (pre : List α) (x : α) (a' : Act) (W : World), I pre W → Ax x a' W → pre.length < N → w.heap.size + 1 < W.heap.size → body.wpIn (F.inRound l) (n - 1 - 1) P (roundOut w.heap.size Kr I Ix (pre ++ [x]) W) a' W)
  (hdone : ∀ (xs : List α) (W : World), S xs → I xs W → W.heap[w.heap.size]? = some (.deferred (some [])) → Q .normal { a with defers := { target := .collected w.heap.size, args := #[] } :: a.defers } W)
  (hstop : ∀ (pre : List α) (W : World), Ix pre W → W.heap[w.heap.size]? = some (.deferred (some [])) → Code.ret.wpIn F n P Q { a with defers := { target := .collected w.heap.size, args := #[] } :: a.defers } W) :
  (Code.rangeFunc g ps assign body).wpIn F n P Q a w := by
 refine wpIn_rangeFunc fun fn hfn => ?_
 rw [hro]
 obtain ⟨r, hr⟩ : ∃ r : LoopState → Option Code → Loop, r = fun st pe => { state := st, pending := pe, fn, tmps := a.tmps, params := ps, assign, body, defers := w.heap.size } := ⟨_, rfl⟩
 obtain ⟨V, hV⟩ : ∃ V, V = (w.alloc (.deferred (some []))).alloc (.loop (r .ready none)) := ⟨_, rfl⟩
 have bV : Book w.heap.size (r .ready none) V := by
  rw [hV]
  refine ⟨(Below.heap_alloc _ _ _ (by simp)).trans (World.alloc_heap_new w _), ?_⟩
  have := World.alloc_heap_new (w.alloc (.deferred (some []))) (.loop (r .ready none))
  rwa [World.size_alloc] at this
 have iV : I [] V := by rw [hV]; exact hI.alloc _ (hI.alloc _ h0)
 have wV : Below w0.heap.size w0 V := by
  rw [hV]
  exact hw0.trans ((((Below.refl _ w).alloc (Nat.le_refl _) _).alloc (by simp) _).mono hw0.size)
 have hVs : V.heap.size = w.heap.size + 2 := by rw [hV]; simp
 refine ⟨w.heap.size + 1, [{ target := .collected w.heap.size, args := #[] }], V, { target := .fn (.func gf) lb, args := #[.func (.yield (w.heap.size + 1)) #[] #[]] }, V, gf,
  #[.func (.yield (w.heap.size + 1)) #[] #[]] ++ lb, V, by rw [hV, hr]; exact run_enterLoop_outer _ _ _ _ _, by simp only [resolve, hg]; simp [go_sem], fun f' h => by simp [Target.leads] at h; subst h; exact hF, by simp [invoke, go_sem, heg], fun _ => hn, ?_⟩
 refine (hseq (w.heap.size + 1) (fun pre W => I pre W ∧ Book w.heap.size (r .ready none) W) (fun pre W => Ix pre W ∧ Book w.heap.size (r .done (some .ret)) W) V wV ?_ (fun s X Y h hb => ⟨hIB s X Y h.1 hb, h.2.below hb⟩) ?_ ⟨iV, bV⟩).mono ?_
 ·intro s X X' row h hg' hrow
  exact ⟨hI s X X' row h.1 hg' (fun k e => ⟨by have := (hrow k e).1; omega, (hrow k e).2.imp fun o ho => ⟨ho.1, Obj.not_cells_of_walk ho.2⟩⟩), h.2.grown hg' (fun k e => by have := (hrow k e).1; omega)⟩
 ·-- a round
  rintro pre x X ⟨hi, hb⟩ hlen hX
  have hy := run_yield (P := P) (args := encs x) hb.loop (by rw [hr]; exact hps x)
  rw [hr] at hy
  refine ⟨fn, _, assign, body, hy, roundIn_of_wpIn hfn (hassign _ pre x X _ hi hb.lt ?_)⟩
  clear hy
  intro a' Xa hka hra hia hax
  have hba := hb.kept hka
  have hb2 := hba.turned { r .ready none with state := .busy }
  have hturn : Kr Xa (Xa.putObj (w.heap.size + 1) (.loop { r .ready none with state := .busy })) := hKb _ _ _ _ hba.loop rfl rfl
  refine ⟨_, run_beginRound hba.loop (by rw [hr]), wpIn_mono (hbody _ pre x a' _ (hI.putObj _ hia (by omega) hba.loop rfl) ((hAx x a').putObj (s := ()) _ hax (by omega) hba.loop rfl) hlen (by simp [World.putObj]; have := hba.lt; omega)) ?_⟩
  have hend : ∀ (jump : Option Code) (Y : World), KeepsFrom w.heap.size (Xa.putObj (w.heap.size + 1) (.loop { r .ready none with state := .busy })) Y →
    Book w.heap.size { r .ready none with state := .busy } Y ∧ (Instr.endRound (w.heap.size + 1) jump).run P Y = .ok (.bool jump.isNone) (Y.putObj (w.heap.size + 1) (.loop (r (if jump.isNone then .ready else .done) jump))) := fun jump Y hk => by
   have hbY := hb2.kept hk
   have := run_endRound (P := P) jump hbY.loop
   rw [hr] at this ⊢
   exact ⟨by rw [hr] at hbY; exact hbY, this⟩
  rintro e a3 Y hp
  cases e with
  | normal =>
   obtain ⟨hk, hrY, hiY⟩ := hp
   obtain ⟨hbY, hrun⟩ := hend none Y hk
   refine ⟨_, _, hrun, .inl ⟨rfl, ⟨hI.putObj _ hiY (by omega) hbY.loop rfl, hbY.turned _⟩, hKt hra (hKt (hKt hturn hrY) (hKb _ _ _ _ hbY.loop rfl rfl)), ?_⟩⟩
   have h1 := hka.size
   have h2 := hk.size
   simp [World.putObj] at h2 ⊢
   omega
  | ret =>
   obtain ⟨hk, hiY⟩ := hp
   obtain ⟨hbY, hrun⟩ := hend (some .ret) Y hk
   exact ⟨_, _, hrun, .inr ⟨rfl, hIx.putObj _ hiY (by omega) hbY.loop rfl, hbY.turned _⟩⟩
  | exit id => exact hp.elim
  | goto t => exact hp.elim
  | panic ch => exact hp.elim
  | outgrown => exact hp.elim
 ·rintro e Y ⟨⟨v, rfl⟩, (⟨xs, hS, hi, hb⟩ | ⟨pre, hi, hb⟩)⟩
  ·exact ⟨none, _, by have := run_endLoop (P := P) hb.loop (by rw [hr]; simp); rw [hr] at this; exact this, hdone xs _ hS (hI.putObj _ hi (by omega) hb.loop rfl) ((World.putObj_heap_other (by omega)).trans hb.defs)⟩
  ·exact ⟨some .ret, _, by have := run_endLoop (P := P) hb.loop (by rw [hr]; simp); rw [hr] at this; exact this, hstop pre _ (hIx.putObj _ hi (by omega) hb.loop rfl) ((World.putObj_heap_other (by omega)).trans hb.defs)⟩
end Go.Proofs.Ytfldklimlcnnnaa.XBy
end

section
namespace Go.Proofs.Ytfldklimlcnnnaa.XRV
open Go.RowKit Go.Proofs.Ytfldklimlcnnnaa.PHq Go.Proofs.YtfldklimlcnnnaaW.PrintWords Go.Proofs.YtfldklimlcnnnaaW.PrintLast Go.Proofs.YtfldklimlcnnnaaW.PrintMore Go.Proofs.Ytfldklimlcnnnaa.MWords
open Go.Proofs.Ytfldklimlcnnnaa.MNat Go.Proofs.Ytfldklimlcnnnaa.QNat Go.Proofs.Ytfldklimlcnnnaa.QText Go.Proofs.Ytfldklimlcnnnaa.QEv Go.Proofs.Ytfldklimlcnnnaa.QRatio
def RV (W : World) (x y : Value) (a b : List Int) : Prop :=
 (∃ A c, x = .slice A a.length c ∧ a.length ≤ c ∧ Kd.C (Kd.int .u32) W A a.length a) ∧ ∃ A c, y = .slice A b.length c ∧ b.length ≤ c ∧ Kd.C (Kd.int .u32) W A b.length b
theorem RV.below {W W' : World} {x y : Value} {a b : List Int} (h : RV W x y a b) (hb : Below W.heap.size W W') : RV W' x y a b := by
 obtain ⟨⟨A, c, e1, h1, h2⟩, A', c', e3, h3, h4⟩ := h
 exact ⟨⟨A, c, e1, h1, Kd.C_below h2 hb⟩, A', c', e3, h3, Kd.C_below h4 hb⟩
theorem RV.shape {W : World} {x y : Value} {a b : List Int} (h : RV W x y a b) : ∃ A c A' c', x = .slice A a.length c ∧ y = .slice A' b.length c' := by
 obtain ⟨⟨A, c, e1, _⟩, A', c', e3, _⟩ := h
 exact ⟨A, c, A', c', e1, e3⟩
theorem RV.ofV {W : World} {x y : Value} {a b : List Int} {e e' base base' : Nat} {ok ok' : Nat → Prop} (h1 : Kd.V (Kd.int .u32) e W base ok x a) (h2 : Kd.V (Kd.int .u32) e' W base' ok' y b) : RV W x y a b := by
 obtain ⟨A, c, rfl⟩ := Kd.V_slice h1
 obtain ⟨A', c', rfl⟩ := Kd.V_slice h2
 exact ⟨⟨A, c, rfl, (Kd.V_reads' h1).2.1, (Kd.V_reads' h1).2.2⟩, A', c', rfl, (Kd.V_reads' h2).2.1, (Kd.V_reads' h2).2.2⟩
theorem RV.ofR {W : World} {x y : Value} {a b : List Int} {e e' base base' : Nat} {ok ok' : Nat → Prop} (h1 : Kd.R (Kd.int .u32) e W base ok x a) (h2 : Kd.R (Kd.int .u32) e' W base' ok' y b) : RV W x y a b := by
 obtain ⟨A, c, rfl⟩ := Kd.R_slice h1
 obtain ⟨A', c', rfl⟩ := Kd.R_slice h2
 exact ⟨⟨A, c, rfl, (Kd.R_reads' h1).2.1, (Kd.R_reads' h1).2.2⟩, A', c', rfl, (Kd.R_reads' h2).2.1, (Kd.R_reads' h2).2.2⟩
theorem check_rv {W : World} {x y : Value} {a b : List Int} {r : Bool} (h : RV W x y a b) (hf : ratio_Check.f a b = some r) :
  Calls Try.prog 62 #[.agg #[x, y]] W fun e w' => e = .returned (.bool r) ∧ Below W.heap.size W w' := by
 obtain ⟨⟨A, c, rfl, h1, h2⟩, A', c', rfl, h3, h4⟩ := h
 exact ratio_Check.calls A c a A' c' b r W h2 h1 h4 h3 hf
theorem cmp_rv {k : Nat} {W : World} {x y u v : Value} {a b c d : List Int} {r : Int} (h : RV W x y a b) (g : RV W u v c d) (hf : ratio_Cmp.f k a b c d = some r) :
  Calls Try.prog 106 #[.agg #[x, y], .agg #[u, v]] W fun e w' => e = .returned (.int .i64 r) ∧ Below W.heap.size W w' := by
 obtain ⟨⟨A1, c1, rfl, p1, q1⟩, A2, c2, rfl, p2, q2⟩ := h
 obtain ⟨⟨A3, c3, rfl, p3, q3⟩, A4, c4, rfl, p4, q4⟩ := g
 exact ratio_Cmp.calls k A1 c1 a A2 c2 b A3 c3 c A4 c4 d r W q1 p1 q2 p2 q3 p3 q4 p4 hf
theorem add_rv {k : Nat} {W : World} {x y u v : Value} {a b c d r1 r2 : List Int} (h : RV W x y a b) (g : RV W u v c d) (hf : ratio_Add.f k a b c d = some (r1, r2)) :
  Calls Try.prog 105 #[.agg #[x, y], .agg #[u, v]] W fun e w' => ∃ p q : Value, e = .returned (.agg #[p, q]) ∧ RV w' p q r1 r2 ∧ Below W.heap.size W w' := by
 obtain ⟨⟨A1, c1, rfl, p1, q1⟩, A2, c2, rfl, p2, q2⟩ := h
 obtain ⟨⟨A3, c3, rfl, p3, q3⟩, A4, c4, rfl, p4, q4⟩ := g
 exact (ratio_Add.calls k A1 c1 a A2 c2 b A3 c3 c A4 c4 d r1 r2 W q1 p1 q2 p2 q3 p3 q4 p4 hf).mono fun e w' ⟨p, q, he, h1, h2, hb⟩ => ⟨p, q, he, RV.ofV h1 h2, hb⟩
theorem sub_rv {k : Nat} {W : World} {x y u v : Value} {a b c d r1 r2 : List Int} {r3 : Int} (h : RV W x y a b) (g : RV W u v c d) (hf : ratio_Sub.f k a b c d = some (r1, r2, r3)) :
  Calls Try.prog 73 #[.agg #[x, y], .agg #[u, v]] W fun e w' => ∃ p q : Value, e = .returned (.tuple #[.agg #[p, q], .int .i64 r3]) ∧ RV w' p q r1 r2 ∧ Below W.heap.size W w' := by
 obtain ⟨⟨A1, c1, rfl, p1, q1⟩, A2, c2, rfl, p2, q2⟩ := h
 obtain ⟨⟨A3, c3, rfl, p3, q3⟩, A4, c4, rfl, p4, q4⟩ := g
 exact (ratio_Sub.calls k A1 c1 a A2 c2 b A3 c3 c A4 c4 d r1 r2 r3 W q1 p1 q2 p2 q3 p3 q4 p4 hf).mono fun e w' ⟨p, q, he, h1, h2, hb⟩ => ⟨p, q, he, RV.ofV h1 h2, hb⟩
theorem sum_rv {k : Nat} {W : World} {A : Option Addr} {c : Nat} {l : List S34} {r1 r2 : List Int} (h : l.length ≤ c ∧ Kd.C k34 W A l.length l) (hf : ratio_Sum.f k l = some (r1, r2)) :
  Calls Try.prog 110 #[.slice A l.length c] W fun e w' => ∃ p q : Value, e = .returned (.agg #[p, q]) ∧ RV w' p q r1 r2 ∧ Below W.heap.size W w' :=
 (ratio_Sum.calls k A c l r1 r2 W h.2 h.1 hf).mono fun e w' ⟨p, q, he, h1, h2, hb⟩ => ⟨p, q, he, RV.ofV h1 h2, hb⟩
theorem F_heap {α : Type} {d : Kd α} (hd : Kd.Heap d) {W : World} {A : Option Addr} {n : Nat} {xs : List α} (h : d.C W A n xs) : Kd.F d W (fun _ => True) A n xs := fun W' hW => hd.C (fun k hk => hW k trivial hk) h
theorem least_rv {k : Nat} {W : World} {x y : Value} {a b r1 r2 : List Int} (h : RV W x y a b) (hf : ratio_Least.f k a b = some (r1, r2)) :
  Calls Try.prog 63 #[.agg #[x, y]] W fun e w' => ∃ p q : Value, e = .returned (.agg #[p, q]) ∧ RV w' p q r1 r2 ∧ Below W.heap.size W w' := by
 obtain ⟨⟨A1, c1, rfl, p1, q1⟩, A2, c2, rfl, p2, q2⟩ := h
 exact (ratio_Least.calls k (fun _ => True) A1 c1 a (fun _ => True) A2 c2 b r1 r2 W (Kd.V_mk p1 (F_heap (Kd.heap_int .u32) q1)) (Kd.V_mk p2 (F_heap (Kd.heap_int .u32) q2)) hf).mono fun e w' ⟨p, q, he, h1, h2, hb⟩ => ⟨p, q, he, RV.ofV h1 h2, hb⟩
theorem of_rv {W : World} {e p : Int} {r1 r2 : List Int} (hf : ratio_Of.f e p = some (r1, r2)) :
  Calls Try.prog 71 #[.agg #[.int .i64 e, .int .i64 p]] W fun e w' => ∃ p q : Value, e = .returned (.agg #[p, q]) ∧ RV w' p q r1 r2 ∧ Below W.heap.size W w' :=
 (ratio_Of.calls e p r1 r2 W hf).mono fun e w' ⟨p, q, he, h1, h2, hb⟩ => ⟨p, q, he, RV.ofV h1 h2, hb⟩
theorem whole_rv {W : World} {n : Int} {r1 r2 : List Int} (hf : ratio_Whole.f n = some (r1, r2)) :
  Calls Try.prog 64 #[.int .u64 n] W fun e w' => ∃ p q : Value, e = .returned (.agg #[p, q]) ∧ RV w' p q r1 r2 ∧ Below W.heap.size W w' :=
 (ratio_Whole.calls n r1 r2 W hf).mono fun e w' ⟨p, q, he, h1, h2, hb⟩ => ⟨p, q, he, RV.ofV h1 h2, hb⟩
def NoLimb (W : World) (k : Nat) : Prop := ∀ p : Addr, p.block = k → ∀ n : Int, W.cell? p ≠ some (.int .u32 n)
theorem C_near {W W' : World} {A : Option Addr} {n : Nat} {xs : List Int} (h : Kd.C (Kd.int .u32) W A n xs) (hk : ∀ k, k < W.heap.size → ¬ NoLimb W k → W'.heap[k]? = W.heap[k]?) : Kd.C (Kd.int .u32) W' A n xs :=
 ⟨h.1, h.2.1, fun hp => by
  obtain ⟨ad, e, hc⟩ := h.2.2 hp
  refine ⟨ad, e, fun j p hj => ?_⟩
  obtain ⟨c, hl, hK, hcell⟩ := hc j p hj
  refine ⟨c, hl, hK, fun i u hi => ?_⟩
  have h1 := hcell i u hi
  have hu : u = .int .u32 p := by
   rw [show c = [.int .u32 p] from hK] at hi
   match i, hi with
   | 0, hi => exact (Option.some.inj hi).symm
   | i + 1, hi => simp at hi
  have hb := hk _ (World.block_lt_of_cell? W _ h1) (fun hn => hn _ rfl p (by rw [h1, hu]))
  unfold World.cell? at h1 ⊢
  rw [hb]
  exact h1⟩
theorem RV.near {W W' : World} {x y : Value} {a b : List Int} (h : RV W x y a b) (hk : ∀ k, k < W.heap.size → ¬ NoLimb W k → W'.heap[k]? = W.heap[k]?) : RV W' x y a b := by
 obtain ⟨⟨A, c, e1, h1, h2⟩, A', c', e3, h3, h4⟩ := h
 exact ⟨⟨A, c, e1, h1, C_near h2 hk⟩, A', c', e3, h3, C_near h4 hk⟩
end Go.Proofs.Ytfldklimlcnnnaa.XRV
end

section
namespace Go.Proofs.Ytfldklimlcnnnaa.XHold
open Go.RowKit Go.Proofs.Ytfldklimlcnnnaa.PHq Go.Proofs.YtfldklimlcnnnaaW.PrintWords Go.Proofs.YtfldklimlcnnnaaW.PrintLast Go.Proofs.YtfldklimlcnnnaaW.PrintMore Go.Proofs.Ytfldklimlcnnnaa.MWords
open Go.Proofs.Ytfldklimlcnnnaa.MNat Go.Proofs.Ytfldklimlcnnnaa.QNat Go.Proofs.Ytfldklimlcnnnaa.QText Go.Proofs.Ytfldklimlcnnnaa.QEv Go.Proofs.Ytfldklimlcnnnaa.QRatio Go.Proofs.Ytfldklimlcnnnaa.XRV
open Go.Maps (Keyed int_keyed keyOf_int_mk)
structure Hd where
 e : Int
 p : Int
 e2 : Int
 p2 : Int
 a : Bool
def hdV (h : Hd) : Value := .agg #[.int .i64 h.e, .int .i64 h.p, .int .i64 h.e2, .int .i64 h.p2, .bool h.a]
def hdD (h : Hd) : DataW Unit := .agg [.lit (.int .i64 h.e), .lit (.int .i64 h.p), .lit (.int .i64 h.e2), .lit (.int .i64 h.p2), .lit (.bool h.a)]
def hdL : List Value → Option (DataW Unit × List MemPlace)
 | [.int .i64 e, .int .i64 p, .int .i64 e2, .int .i64 p2, .bool a] => some (hdD ⟨e, p, e2, p2, a⟩, [])
 | _ => none
def hdR (v : Value) : Option (DataW Unit × List MemPlace) := match v with
 | .agg cs => hdL cs.toList
 | _ => none
theorem hdR_mk (h : Hd) : hdR (hdV h) = some (hdD h, []) := rfl
theorem hdR_inv {v : Value} {y : DataW Unit × List MemPlace} (h : hdR v = some y) : ∃ x, v = hdV x ∧ y = (hdD x, []) := by
 unfold hdR at h
 split at h
 ·rename_i cs
  unfold hdL at h
  split at h
  ·rename_i e p e2 p2 a hc
   refine ⟨⟨e, p, e2, p2, a⟩, ?_, (Option.some.inj h).symm⟩
   show Value.agg cs = Value.agg #[.int .i64 e, .int .i64 p, .int .i64 e2, .int .i64 p2, .bool a]
   congr 1
   rw [← Array.toList_inj, hc]
  ·cases h
 ·cases h
theorem hdD_inj {h k : Hd} (e : hdD h = hdD k) : h = k := by
 cases h; cases k
 simp [hdD] at e
 obtain ⟨rfl, rfl, rfl, rfl, rfl⟩ := e
 rfl
theorem keyed : Keyed Try.prog 3 := int_keyed Try.underlying3
def wfI (x : Int) : Prop := (Lit.int .i64 x).wf = true
theorem wfI_of {x : Int} (h0 : -9223372036854775808 ≤ x) (h1 : x ≤ 9223372036854775807) : wfI x := by
 unfold wfI
 simp [Lit.wf, IntKind.min, IntKind.max, IntKind.signed, IntKind.bits]
 omega
theorem key_of {x : Int} (h : wfI x) : keyOf Try.prog 3 (.int .i64 x) = some (.int .i64 x) := keyOf_int_mk Try.underlying3 h
theorem key_lit (x : Int) : WideAt.IsKeyLit (.int .i64 x : Lit) := trivial
structure View (D : DataW Unit) (l : List (Int × Hd)) : Prop where
 has : ∀ x : Int, Maps.has D (.int .i64 x) = l.any fun y => decide (y.1 = x)
 at_ : ∀ y ∈ l, ∀ z, D.atKey (.int .i64 y.1) z = hdD y.2
 nodup : (l.map (·.1)).Nodup
 size : Maps.size D = l.length
 wf : ∀ y ∈ l, wfI y.1
def MapIs (W : World) (b : Nat) (l : List (Int × Hd)) : Prop := ∃ D : DataW Unit, W.ownsMap Try.prog 3 hdR b l.length D ∧ View D l
theorem MapIs.kept {W W' : World} {b : Nat} {l : List (Int × Hd)} (h : MapIs W b l) (hb : W'.heap[b]? = W.heap[b]?) : MapIs W' b l := by
 obtain ⟨D, ⟨es, clock, h1, h2⟩, hv⟩ := h
 exact ⟨D, ⟨es, clock, hb.trans h1, h2⟩, hv⟩
theorem MapIs.lt {W : World} {b : Nat} {l : List (Int × Hd)} (h : MapIs W b l) : b < W.heap.size := by
 obtain ⟨D, ho, _⟩ := h
 exact ho.lt
theorem MapIs.obj {W : World} {b : Nat} {l : List (Int × Hd)} (h : MapIs W b l) : ∃ es clock, W.heap[b]? = some (.map es clock) := by
 obtain ⟨D, ⟨es, clock, h1, _⟩, _⟩ := h
 exact ⟨es, clock, h1⟩
theorem own_size {W : World} {b n : Nat} {D : DataW Unit} (h : W.ownsMap Try.prog 3 hdR b n D) : W.ownsMap Try.prog 3 hdR b (Maps.size D) D := by
 obtain ⟨es, clock, h1, F, hn, hD⟩ := h
 refine ⟨es, clock, h1, F, ?_, hD⟩
 rw [hD, Maps.size_eq]
 have := length_read (P := Try.prog) (k := 3) (R0 := hdR) es
 omega
def getL (l : List (Int × Hd)) (x : Int) : Option Hd := (l.find? fun y => decide (y.1 = x)).map (·.2)
def hasL (l : List (Int × Hd)) (x : Int) : Bool := l.any fun y => decide (y.1 = x)
def setL (l : List (Int × Hd)) (x : Int) (h : Hd) : List (Int × Hd) := if hasL l x = true then l.map (fun y => if y.1 = x then (x, h) else y) else l ++ [(x, h)]
def delL (l : List (Int × Hd)) (x : Int) : List (Int × Hd) := l.filter fun y => decide (y.1 ≠ x)
def zeroH : Hd := ⟨0, 0, 0, 0, false⟩
theorem getL_mem {l : List (Int × Hd)} {x : Int} {h : Hd} (e : getL l x = some h) : (x, h) ∈ l := by
 unfold getL at e
 obtain ⟨y, hy, rfl⟩ := Option.map_eq_some_iff.1 e
 have h1 := List.mem_of_find?_eq_some hy
 have h2 := List.find?_some hy
 have h3 : y.1 = x := by simpa using h2
 rw [← h3]
 exact h1
theorem getL_none {l : List (Int × Hd)} {x : Int} (e : getL l x = none) : hasL l x = false := by
 unfold getL at e
 rw [Option.map_eq_none_iff, List.find?_eq_none] at e
 unfold hasL
 rw [List.any_eq_false]
 exact e
theorem lit_ne {x y : Int} (h : x ≠ y) : (Lit.int .i64 x) ≠ (Lit.int .i64 y) := fun e => h (by injection e)
theorem View.nil : View (.map []) [] := ⟨fun _ => rfl, by simp, by simp, rfl, by simp⟩
theorem View.get {D : DataW Unit} {l : List (Int × Hd)} (h : View D l) (x : Int) : D.atKey (.int .i64 x) (hdD zeroH) = hdD ((getL l x).getD zeroH) := by
 cases e : getL l x with
 | none =>
  refine Maps.atKey_of_not_has ?_ _
  rw [h.has]
  exact getL_none e
 | some y => exact h.at_ _ (getL_mem e) _
theorem set_keys (l : List (Int × Hd)) (x : Int) (h : Hd) : (setL l x h).map (·.1) = if hasL l x = true then l.map (·.1) else l.map (·.1) ++ [x] := by
 unfold setL
 split
 ·rw [List.map_map]
  refine List.map_congr_left fun y _ => ?_
  show (if y.1 = x then (x, h) else y).1 = y.1
  split
  ·rename_i e; exact e.symm
  ·rfl
 ·rw [List.map_append]
  rfl
theorem set_len (l : List (Int × Hd)) (x : Int) (h : Hd) : (setL l x h).length = if hasL l x = true then l.length else l.length + 1 := by
 have := congrArg List.length (set_keys l x h)
 rw [List.length_map] at this
 rw [this]
 split <;> simp
theorem set_mem {l : List (Int × Hd)} {x : Int} {h : Hd} {y : Int × Hd} (hy : y ∈ setL l x h) : y = (x, h) ∨ (y ∈ l ∧ y.1 ≠ x) := by
 unfold setL at hy
 split at hy
 ·obtain ⟨z, hz, e⟩ := List.mem_map.1 hy
  split at e
  ·exact .inl e.symm
  ·rename_i hne
   exact .inr (e ▸ ⟨hz, hne⟩)
 ·rename_i hn
  rcases List.mem_append.1 hy with hy | hy
  ·refine .inr ⟨hy, fun e => hn ?_⟩
   unfold hasL
   rw [List.any_eq_true]
   exact ⟨y, hy, by simpa using e⟩
  ·exact .inl (List.mem_singleton.1 hy)
theorem set_has (l : List (Int × Hd)) (x y : Int) (h : Hd) : hasL (setL l x h) y = (decide (x = y) || hasL l y) := by
 have e : ∀ l : List (Int × Hd), hasL l y = (l.map (·.1)).any fun z => decide (z = y) := fun l => by unfold hasL; rw [List.any_map]; rfl
 rw [e, set_keys]
 split
 ·rename_i hx
  rw [← e]
  by_cases hxy : x = y
  ·subst hxy; rw [hx]; simp
  ·simp [hxy]
 ·rw [List.any_append, ← e, Bool.or_comm]
  simp
theorem View.put {D : DataW Unit} {l : List (Int × Hd)} (v : View D l) (ht : Maps.Tidy D) {x : Int} (hx : wfI x) (h : Hd) : View (D.put (.int .i64 x) (hdD h)) (setL l x h) := by
 refine ⟨fun y => ?_, fun y hy z => ?_, ?_, ?_, fun y hy => ?_⟩
 ·show _ = hasL (setL l x h) y
  rw [set_has]
  by_cases hxy : x = y
  ·subst hxy
   rw [Maps.has_put_same ht.isMap (key_lit x)]
   simp
  ·rw [Maps.has_put_other (lit_ne (fun e => hxy e.symm)), v.has y]
   simp [hxy, hasL]
 ·rcases set_mem hy with rfl | ⟨hm, hne⟩
  ·exact Maps.atKey_put_same ht.isMap (key_lit x) _ _
  ·rw [Maps.atKey_put_other (lit_ne hne)]
   exact v.at_ y hm z
 ·rw [set_keys]
  split
  ·exact v.nodup
  ·rename_i hn
   rw [List.nodup_append]
   refine ⟨v.nodup, by simp, fun a ha b hb e => hn ?_⟩
   obtain ⟨y, hy, rfl⟩ := List.mem_map.1 ha
   rw [List.mem_singleton.1 hb] at e
   unfold hasL
   rw [List.any_eq_true]
   exact ⟨y, hy, by simpa using e⟩
 ·rw [Maps.size_put ht, v.has x, v.size, set_len]
  rfl
 ·rcases set_mem hy with rfl | ⟨hm, _⟩
  ·exact hx
  ·exact v.wf y hm
theorem View.del {D : DataW Unit} {l : List (Int × Hd)} (v : View D l) (ht : Maps.Tidy D) (x : Int) : View (D.del (.int .i64 x)) (delL l x) := by
 have hd : ∀ y ∈ delL l x, y ∈ l ∧ y.1 ≠ x := fun y hy => by
  unfold delL at hy
  rw [List.mem_filter] at hy
  exact ⟨hy.1, by simpa using hy.2⟩
 refine ⟨fun y => ?_, fun y hy z => ?_, ?_, ?_, fun y hy => v.wf y (hd y hy).1⟩
 ·show _ = hasL (delL l x) y
  by_cases hxy : x = y
  ·subst hxy
   rw [Maps.has_del_same]
   symm
   unfold hasL
   rw [List.any_eq_false]
   intro z hz
   simpa using (hd z hz).2
  ·rw [Maps.has_del_other (lit_ne (fun e => hxy e.symm)), v.has y]
   unfold delL hasL
   rw [List.any_filter]
   congr 1
   funext z
   by_cases hz : z.1 = y
   ·have : z.1 ≠ x := fun e => hxy (e.symm.trans hz)
    rw [decide_eq_true hz, decide_eq_true this]
    rfl
   ·simp [hz]
 ·rw [Maps.atKey_del_other (lit_ne (hd y hy).2)]
  exact v.at_ y (hd y hy).1 z
 ·exact (v.nodup).sublist (List.Sublist.map _ List.filter_sublist)
 ·have h1 := Maps.size_del (k := .int .i64 x) ht
  rw [v.has x, v.size] at h1
  have h2 : ∀ l : List (Int × Hd), (l.map (·.1)).Nodup → (delL l x).length + (if (l.any fun y => decide (y.1 = x)) = true then 1 else 0) = l.length := by
   intro l
   induction l with
   | nil => intro _; rfl
   | cons y l ih =>
    intro hn
    rw [List.map_cons, List.nodup_cons] at hn
    have ih := ih hn.2
    unfold delL at ih ⊢
    rw [List.any_cons, List.filter_cons]
    by_cases hy : y.1 = x
    ·have hno : (l.any fun y => decide (y.1 = x)) = false := by
      rw [List.any_eq_false]
      intro z hz e
      exact hn.1 (List.mem_map.2 ⟨z, hz, by rw [hy]; simpa using e⟩)
     rw [hno] at ih
     rw [if_neg (by simpa using hy), decide_eq_true hy, List.length_cons]
     simp at ih ⊢
     exact ih
    ·rw [if_pos (by simpa using hy), decide_eq_false hy, Bool.false_or]
     simp only [List.length_cons]
     omega
  have := h2 l v.nodup
  omega
theorem zeroE (w : World) : (zeroValue 102).run Try.prog w = .ok (hdV zeroH) w := by kernel_rfl
end Go.Proofs.Ytfldklimlcnnnaa.XHold
end

section
namespace Go.Proofs.Ytfldklimlcnnnaa.XWts
open Go.RowKit Go.Proofs.Ytfldklimlcnnnaa.PHq Go.Proofs.YtfldklimlcnnnaaW.PrintWords Go.Proofs.YtfldklimlcnnnaaW.PrintLast Go.Proofs.YtfldklimlcnnnaaW.PrintMore Go.Proofs.Ytfldklimlcnnnaa.MWords
open Go.Proofs.Ytfldklimlcnnnaa.MNat Go.Proofs.Ytfldklimlcnnnaa.QNat Go.Proofs.Ytfldklimlcnnnaa.QText Go.Proofs.Ytfldklimlcnnnaa.QEv Go.Proofs.Ytfldklimlcnnnaa.QRatio Go.Proofs.Ytfldklimlcnnnaa.XRV Go.Proofs.Ytfldklimlcnnnaa.XHold Go.Proofs.Ytfldklimlcnnnaa.XBy
attribute [local go_sem] Oper.semAt_some
def wN (h : Hd) : S34 := ⟨h.e, h.p⟩
def wX (h : Hd) : S34 := ⟨h.e2, h.p2⟩
def hv (h : Hd) : S34 := if h.a = true ∧ wt (wN h) < wt (wX h) then wX h else wN h
def okH (h : Hd) : Prop := okW (wN h) ∧ (h.a = true → okW (wX h))
theorem hv_ok {h : Hd} (k : okH h) : okW (hv h) := by
 unfold hv
 split
 ·rename_i c; exact k.2 c.1
 ·exact k.1
theorem hv_t (h : Hd) (k : okH h) : Tell (fun f => hold_holder_holds.f f h.e h.p h.e2 h.p2 h.a) ((hv h).f0, (hv h).f1) := by
 by_cases ha : h.a = true
 ·have k2 := k.2 ha
  have o1 := of_w (wX h) k2
  have o2 := of_w (wN h) k.1
  have c := rcmp_t 1 1 _ _ _ _ (okW_F k2).1 (okW_F k2).2 (okW_F k.1).1 (okW_F k.1).2 (by omega) (okW_pos k2) (okW_pos k.1)
  have o1' : ratio_Of.f h.e2 h.p2 = some (limbs (wX h).f0.toNat, limbs (wX h).f1.toNat) := o1
  have o2' : ratio_Of.f h.e h.p = some (limbs (wN h).f0.toNat, limbs (wN h).f1.toNat) := o2
  refine Tell.of (g := fun f => (ratio_Cmp.f f (limbs (wX h).f0.toNat) (limbs (wX h).f1.toNat) (limbs (wN h).f0.toNat) (limbs (wN h).f1.toNat)).bind fun t => if t > 0 then some (h.e2, h.p2) else some (h.e, h.p)) (fun f => by
   unfold hold_holder_holds.f
   rw [if_pos ha, o1', Option.bind_some, o2', Option.bind_some]) ?_
  refine Tell.bind c ?_
  unfold hv
  show Tell (fun _ => if cmpR (wt (wX h)) (wt (wN h)) > 0 then some (h.e2, h.p2) else some (h.e, h.p)) _
  by_cases hlt : wt (wN h) < wt (wX h)
  ·have : cmpR (wt (wX h)) (wt (wN h)) > 0 := by
    unfold cmpR
    rw [if_neg (fun h2 => (Rat.lt_iff_le_and_not_ge.1 hlt).2 (Rat.lt_iff_le_and_not_ge.1 h2).1), if_neg (fun e => by rw [e] at hlt; exact Rat.lt_irrefl hlt)]
    decide
   rw [show (if h.a = true ∧ wt (wN h) < wt (wX h) then wX h else wN h) = wX h from if_pos ⟨ha, hlt⟩]
   exact Tell.of (g := fun _ => some (h.e2, h.p2)) (fun _ => if_pos this) (Tell.const _)
  ·have : ¬ cmpR (wt (wX h)) (wt (wN h)) > 0 := by
    unfold cmpR
    split
    ·decide
    split
    ·decide
    ·rename_i h1 h2
     exact absurd (Rat.lt_of_le_of_ne (Rat.not_lt.1 h1) (fun e => h2 e.symm)) hlt
   rw [show (if h.a = true ∧ wt (wN h) < wt (wX h) then wX h else wN h) = wN h from if_neg (fun c => hlt c.2)]
   exact Tell.of (g := fun _ => some (h.e, h.p)) (fun _ => if_neg this) (Tell.const _)
 ·unfold hv
  rw [if_neg (fun c => ha c.1)]
  exact Tell.of (g := fun _ => some (h.e, h.p)) (fun f => by unfold hold_holder_holds.f; rw [if_neg ha]) (Tell.const _)
theorem walks_below {W W' : World} (hb : Below W.heap.size W W') : KeepsWalks W W' := ⟨hb.size, fun k o hk _ => (hb.block k (Array.getElem?_eq_some_iff.1 hk).1).trans hk⟩
theorem left_step (l : List (Int × Hd)) (hn : (l.map (·.1)).Nodup) (left : Lit → Bool) {x : Int} {c : Hd} (hm : (x, c) ∈ l) (hl : left (.int .i64 x) = true) :
  ((l.filter fun y => left (.int .i64 y.1)).map (·.2)).Perm (c :: (l.filter fun y => (left (.int .i64 y.1) && !(Lit.int .i64 y.1).sameKey (.int .i64 x))).map (·.2)) := by
 have hs : ∀ a b : Int, (Lit.int .i64 a).sameKey (.int .i64 b) = decide (a = b) := fun a b => by
  by_cases h : a = b
  ·subst h; simp [Lit.sameKey]
  ·rw [decide_eq_false h]; exact Maps.sameKey_ne (lit_ne h)
 induction l with
 | nil => simp at hm
 | cons y l ih =>
  rw [List.map_cons, List.nodup_cons] at hn
  rcases List.mem_cons.1 hm with e | hm'
  ·subst e
   have hrest : (l.filter fun y => (left (.int .i64 y.1) && !(Lit.int .i64 y.1).sameKey (.int .i64 x))) = l.filter fun y => left (.int .i64 y.1) := by
    refine List.filter_congr fun z hz => ?_
    have : z.1 ≠ x := fun e => hn.1 (List.mem_map.2 ⟨z, hz, e⟩)
    rw [hs, decide_eq_false this]
    simp
   rw [List.filter_cons, List.filter_cons, if_pos hl, hs, decide_eq_true rfl, if_neg (by simp), hrest]
   exact List.Perm.refl _
  ·have hne : y.1 ≠ x := fun e => hn.1 (List.mem_map.2 ⟨_, hm', e.symm⟩)
   have ih := ih hn.2 hm'
   rw [List.filter_cons, List.filter_cons, hs, decide_eq_false hne]
   by_cases hly : left (.int .i64 y.1) = true
   ·rw [if_pos hly, if_pos (by simp [hly]), List.map_cons, List.map_cons]
    exact (ih.cons y.2).trans (List.Perm.swap _ _ _)
   ·rw [if_neg hly, if_neg (by simp [hly])]
    exact ih
set_option maxRecDepth 100000 in
set_option maxHeartbeats 4000000 in
theorem weights_seq (Bs g b : Nat) (x y u v : Value) (l : List (Int × Hd)) (w : World) (hBs : MBlk w Bs 24 #[.pointer (some ⟨g, 0, none⟩)]) (hg : MBlk w g 97 #[x, y, .map (some b), u, v]) (hm : MapIs w b l) (hl : l.length ≤ 1000000) (hok : ∀ z ∈ l, okH z.2) :
  SeqBy Fence.wide 5 Try.prog 126 #[.pointer (some ⟨Bs, 0, none⟩)] (fun s : S34 => #[.agg #[.int .i64 s.f0, .int .i64 s.f1]]) KeepsWalks (fun xs => xs.Perm (l.map fun z => hv z.2)) l.length w := by
 intro lo J Jx W hW hJ hJb hY h0
 obtain ⟨D, hD, hV⟩ := hm
 have HD := Aside0.mk (show W.ownsMap Try.prog 3 hdR b l.length D by
  obtain ⟨es, clock, h1, h2⟩ := hD
  exact ⟨es, clock, (hW.block b (Array.getElem?_eq_some_iff.1 h1).1).trans h1, h2⟩)
 have HV := Aside0.mk hV
 have k0 : W.cell? ⟨Bs, 0, none⟩ = some (.pointer (some ⟨g, 0, none⟩)) := (mblk_cell ((hW.block _ (mblk_lt hBs)).trans hBs) 0).trans rfl
 have k1 : W.cell? ⟨g, 1 + 1, none⟩ = some (.map (some b)) := (mblk_cell ((hW.block _ (mblk_lt hg)).trans hg) 2).trans rfl
 have HJ := Aside0.mk hJ
 have HJB := Aside0.mk hJb
 have HY := Aside0.mk hY
 have HOK := Aside0.mk hok
 clear hJ hJb hY hD hV hok hBs hg hW
 refine callsIn_of_wp Try.func126 rfl trivial ?_ rfl
 simp only [Try.ntmps126, List.size_toArray, List.length_cons, List.length_nil, Nat.reduceAdd, Nat.reduceSub, Array.replicate_succ, Array.replicate_zero, List.push_toArray, List.append_toArray, List.nil_append, List.cons_append]
 gi_wp2_with (gi_at_range; refine wpListIn_range_own _ rfl (.tmp 8) 94 rfl 3 102 keyed Try.underlying94 hdR b l.length D rfl HD.out ?_; intro w0 hrg0 hg0 hs0)
 have hJ0 := HJ.out _ _ _ none h0 hg0 (fun r e => by cases e)
 have HS0 := Aside0.mk hs0
 have hr0 : W.heap.size = W.heap.size := rfl
 gi_loopw [10] (fun _ wr => ∃ (left : Lit → Bool) (cnt : Nat) (pre : List Hd), wr.ranges Try.prog 3 hdR b W.heap.size l.length D left cnt ∧ Aside0 (J (pre.map hv) wr) ∧ Aside0 ((pre ++ (l.filter fun z => left (.int .i64 z.1)).map (·.2)).Perm (l.map (·.2))) ∧ Aside0 (W.heap.size ≤ wr.heap.size)) (fun _ wr => wr.rangeLeft b W.heap.size)
 case atStart =>
  refine ⟨Maps.has D, Maps.size D, [], hrg0, ⟨hJ0⟩, ⟨?_⟩, ⟨by rw [HS0.out]; omega⟩⟩
  rw [List.nil_append, List.filter_eq_self.2]
  ·intro z hz
   rw [HV.out.has z.1, List.any_eq_true]
   exact ⟨z, hz, by simp⟩
 case round =>
  clear hJ0 hrg0 hg0 HS0 hr0 h0
  obtain ⟨left, cnt, pre, hrg, HJp, HP, HW⟩ := hrel
  have HRG := Aside0.mk hrg
  rw [hrg.left_eq]
  clear hrg
  gi_wp2_with (gi_at_next; refine wpListIn_next_ranges _ rfl (.tmp 9) rfl 3 keyed hdR (Value.int .i64) hdV (fun key kl hk => by obtain ⟨z, e, _⟩ := Maps.keyOf_int_inv Try.underlying3 hk; exact ⟨z, e⟩) (fun z y hz => by obtain ⟨c, e, _⟩ := hdR_inv hz; exact ⟨c, e⟩) b W.heap.size l.length D left cnt rfl HRG.out ?_ ?_)
  ·intro _ hno
   have HX := Aside0.mk (show (pre.map hv).Perm (l.map fun z => hv z.2) by
    have h1 := HP.out
    have h2 : (l.filter fun z => left (.int .i64 z.1)) = [] := List.filter_eq_nil_iff.2 fun z _ => by simp [hno]
    rw [h2, List.map_nil, List.append_nil] at h1
    have h3 := h1.map hv
    rwa [List.map_map] at h3)
   gi_wp2
   go_end0
   exact ⟨⟨_, rfl⟩, .inl ⟨_, HX.out, HJp.out⟩⟩
  ·intro z c kl y1 y2 w1 cnt1 hkey hlk hy hat hrg1 hlt hg1 hs1 hen
   have HLT := Aside0.mk hlt
   obtain ⟨z', ez, rfl, hwz⟩ := Maps.keyOf_int_inv Try.underlying3 hkey
   obtain rfl : z = z' := by injection ez
   obtain rfl : y1 = hdD c := by rw [hdR_mk] at hy; exact (congrArg (fun o => (o.getD (default, [])).1) hy).symm
   have hmem : (z, c) ∈ l := by
    have h1 := Maps.has_true_of_atKey hat
    rw [HV.out.has] at h1
    obtain ⟨q, hq, hqz⟩ := List.any_eq_true.1 h1
    have hqz' : q.1 = z := by simpa using hqz
    have h2 := HV.out.at_ q hq (hdD zeroH)
    rw [hqz', hat] at h2
    have h3 := hdD_inj h2
    rw [← hqz', h3]
    exact hq
   have HP2 := Aside0.mk (show ((pre ++ [c]) ++ (l.filter fun q => (left (.int .i64 q.1) && !(Lit.int .i64 q.1).sameKey (.int .i64 z))).map (·.2)).Perm (l.map (·.2)) by
    refine List.Perm.trans ?_ HP.out
    rw [List.append_assoc]
    exact (left_step l HV.out.nodup left hmem hlk).symm.append_left pre)
   have hpl : pre.length < l.length := by
    have h1 := HP2.out.length_eq
    simp only [List.length_append, List.length_map, List.length_cons, List.length_nil] at h1
    omega
   have hokc := HOK.out (z, c) hmem
   have hj1 := HJ.out _ _ _ (some W.heap.size) HJp.out hg1 (fun r e => by
    cases e
    exact ⟨Nat.le_refl _, HRG.out.iter_walk⟩)
   obtain ⟨f, hf⟩ := (hv_t c hokc).get
   have HF := Aside0.mk hf
   have HJ1 := Aside0.mk hj1
   have HR1 := Aside0.mk hrg1
   have HW1 := Aside0.mk (show W.heap.size ≤ w1.heap.size by rw [hs1]; exact HW.out)
   have HPL := Aside0.mk hpl
   simp only [hdV] at hen ⊢
   clear hkey hlk hy hat hrg1 hg1 hs1 hmem hj1 hf hwz ez hlt hpl hokc HJp HP HRG HW
   have h11 : 1 ≤ 5 := by omega
   gi_wp2
   refine ⟨trivial, (callsIn_wide.2 (hold_holder_holds.calls f c.e c.p c.e2 c.p2 c.a _ _ _ HF.out)).mono ?_⟩
   rintro e w2 ⟨rfl, hb⟩
   have hb1 : Below w1.heap.size w1 w2 := below_step (below_alloc (Below.refl _ _) _) hb
   have HJ2 := Aside0.mk (HJB.out _ _ _ HJ1.out hb1)
   have HR2 := Aside0.mk (World.ranges.of_walks HR1.out (walks_below hb1))
   have HW2 := Aside0.mk (Nat.le_trans HW1.out hb1.size)
   obtain ⟨fn, tmps, assign, body, hy, hR⟩ := HY.out (pre.map hv) (hv c) w2 HJ2.out (by rw [List.length_map]; exact HPL.out) HW2.out
   clear hb hb1 hen HJ1 HR1 HW1
   gi_wp2
   refine hR.mono ?_
   rintro e W3 (⟨rfl, hJ3, hk3, hs3⟩ | ⟨rfl, hJx3⟩)
   ·have HJ3 := Aside0.mk (show J ((pre ++ [c]).map hv) W3 by rw [List.map_append]; exact hJ3)
    have HR3 := Aside0.mk (World.ranges.of_walks HR2.out hk3)
    have HW3 := Aside0.mk (Nat.le_trans HW2.out hs3)
    clear hJ3 hk3 hs3 hy hR
    gi_wp2
    go_roundw
    case rel => exact ⟨_, cnt1, pre ++ [c], HR3.out, HJ3, HP2, HW3⟩
    case measure => rw [HR3.out.left_eq]; exact HLT.out
   ·have HJx := Aside0.mk hJx3
    clear hJx3 hy hR
    gi_wp2
    refine bodyPost_ret (results_none rfl _ _ _) rfl ?_
    exact ⟨⟨_, rfl⟩, .inr ⟨_, HJx.out⟩⟩
theorem weights_calls (g : Nat) (w : World) :
  Calls Try.prog 109 #[.pointer (some ⟨g, 0, none⟩)] w fun e w' => e = .returned (.func (.func 126) #[] #[.pointer (some ⟨w.heap.size, 0, none⟩)]) ∧ w' = w.alloc (.cells #[.pointer (some ⟨g, 0, none⟩)] 24) := by
 go_enter Try.func109, Try.ntmps109
 go_wp2_with fail
 go_ret
 exact ⟨rfl, rfl⟩
end Go.Proofs.Ytfldklimlcnnnaa.XWts
end

section
namespace Go.Proofs.Ytfldklimlcnnnaa.XLed
open Go.RowKit Go.Shelf Go.Proofs.Ytfldklimlcnnnaa.PHq Go.Proofs.YtfldklimlcnnnaaW.PrintWords Go.Proofs.YtfldklimlcnnnaaW.PrintLast Go.Proofs.YtfldklimlcnnnaaW.PrintMore Go.Proofs.Ytfldklimlcnnnaa.MWords
open Go.Proofs.Ytfldklimlcnnnaa.MNat Go.Proofs.Ytfldklimlcnnnaa.QNat Go.Proofs.Ytfldklimlcnnnaa.QText Go.Proofs.Ytfldklimlcnnnaa.QEv Go.Proofs.Ytfldklimlcnnnaa.QRatio Go.Proofs.Ytfldklimlcnnnaa.XRV Go.Proofs.Ytfldklimlcnnnaa.XHold Go.Proofs.Ytfldklimlcnnnaa.XBy Go.Proofs.Ytfldklimlcnnnaa.XWts
attribute [local go_sem] Oper.semAt_some
structure Led (W : World) (g b : Nat) (all q : Rat) (l : List (Int × Hd)) : Prop where
 cells : ∃ x y u v : Value, MBlk W g 97 #[x, y, .map (some b), u, v] ∧ RV W x y (L all).1 (L all).2 ∧ RV W u v (L q).1 (L q).2
 map : MapIs W b l
structure Kp (g b : Nat) (W W' : World) : Prop where
 os : W'.os = W.os
 tape : W'.tape = W.tape
 output : W'.output = W.output
 size : W.heap.size ≤ W'.heap.size
 same : ∀ k, k < W.heap.size → k ≠ g → k ≠ b → W'.heap[k]? = W.heap[k]?
theorem Kp.trans {g b : Nat} {X Y Z : World} (h : Kp g b X Y) (k : Kp g b Y Z) : Kp g b X Z := ⟨k.os.trans h.os, k.tape.trans h.tape, k.output.trans h.output, Nat.le_trans h.size k.size, fun i hi h1 h2 => (k.same i (Nat.lt_of_lt_of_le hi h.size) h1 h2).trans (h.same i hi h1 h2)⟩
theorem Kp.of {g b : Nat} {W W' : World} (h : Below W.heap.size W W') : Kp g b W W' := ⟨h.os, h.tape, h.output, h.size, fun k hk _ _ => h.block k hk⟩
theorem Led.below {W W' : World} {g b : Nat} {all q : Rat} {l : List (Int × Hd)} (h : Led W g b all q l) (hb : Below W.heap.size W W') : Led W' g b all q l := by
 obtain ⟨x, y, u, v, h1, h2, h3⟩ := h.cells
 exact ⟨⟨x, y, u, v, (hb.block _ (mblk_lt h1)).trans h1, h2.below hb, h3.below hb⟩, h.map.kept (hb.block _ h.map.lt)⟩
theorem noLimb_map {W : World} {b : Nat} {es : Array MapEntry} {c : Nat} (h : W.heap[b]? = some (.map es c)) : NoLimb W b := by
 intro p hp n hc
 unfold World.cell? at hc
 rw [hp, h] at hc
 simp at hc
theorem noLimb_def {W : World} {b : Nat} {d : Option (List Deferred)} (h : W.heap[b]? = some (.deferred d)) : NoLimb W b := by
 intro p hp n hc
 unfold World.cell? at hc
 rw [hp, h] at hc
 simp at hc
theorem noLimb_led {W : World} {g b : Nat} {x y u v : Value} {xa ya ua va : List Int} (h : MBlk W g 97 #[x, y, .map (some b), u, v]) (h2 : RV W x y xa ya) (h3 : RV W u v ua va) : NoLimb W g := by
 obtain ⟨A, c, A', c', rfl, rfl⟩ := h2.shape
 obtain ⟨B, d, B', d', rfl, rfl⟩ := h3.shape
 intro p hp n hc
 unfold World.cell? at hc
 rw [hp, show W.heap[g]? = _ from h] at hc
 simp only at hc
 split at hc
 ·cases hc
 ·match ho : p.off, hc with
  | 0, hc => simp at hc
  | 1, hc => simp at hc
  | 2, hc => simp at hc
  | 3, hc => simp at hc
  | 4, hc => simp at hc
  | k + 5, hc => simp at hc
theorem Led.near {W W' : World} {g b : Nat} {all q : Rat} {l : List (Int × Hd)} (h : Led W g b all q l) (hg : W'.heap[g]? = W.heap[g]?) (hb : W'.heap[b]? = W.heap[b]?) (hk : ∀ k, k < W.heap.size → ¬ NoLimb W k → W'.heap[k]? = W.heap[k]?) : Led W' g b all q l := by
 obtain ⟨x, y, u, v, h1, h2, h3⟩ := h.cells
 exact ⟨⟨x, y, u, v, hg.trans h1, h2.near hk, h3.near hk⟩, h.map.kept hb⟩
theorem Led.store {W : World} {g b : Nat} {all q q' : Rat} {l : List (Int × Hd)} {p p' : Value} (h : Led W g b all q l) (hp : RV W p p' (L q').1 (L q').2) : Led ((W.setCell ⟨g, 3, none⟩ p).setCell ⟨g, 4, none⟩ p') g b all q' l := by
 obtain ⟨x, y, u, v, h1, h2, h3⟩ := h.cells
 have hn := noLimb_led h1 h2 h3
 have hs : ∀ k, k ≠ g → ((W.setCell ⟨g, 3, none⟩ p).setCell ⟨g, 4, none⟩ p').heap[k]? = W.heap[k]? := fun k hk => (Below.heap_setCell _ ⟨g, 4, none⟩ _ k hk).trans (Below.heap_setCell _ ⟨g, 3, none⟩ _ k hk)
 have hk : ∀ k, k < W.heap.size → ¬ NoLimb W k → ((W.setCell ⟨g, 3, none⟩ p).setCell ⟨g, 4, none⟩ p').heap[k]? = W.heap[k]? := fun k _ hk => hs k (fun e => hk (by rw [e]; exact hn))
 have hb : b ≠ g := by
  rintro rfl
  obtain ⟨es, c, h4⟩ := h.map.obj
  rw [show W.heap[b]? = _ from h1] at h4
  cases h4
 exact ⟨⟨x, y, p, p', mblk_set (mblk_set h1 3 p) 4 p', h2.near hk, hp.near hk⟩, h.map.kept (hs b hb)⟩
theorem Kp.store (W : World) (g b : Nat) (p p' : Value) : Kp g b W ((W.setCell ⟨g, 3, none⟩ p).setCell ⟨g, 4, none⟩ p') :=
 ⟨by simp [World.setCell], by simp [World.setCell], by simp [World.setCell], by simp [World.setCell], fun k _ hk _ => (Below.heap_setCell _ ⟨g, 4, none⟩ _ k hk).trans (Below.heap_setCell _ ⟨g, 3, none⟩ _ k hk)⟩
theorem Led.ne {W : World} {g b : Nat} {all q : Rat} {l : List (Int × Hd)} (h : Led W g b all q l) : g ≠ b := by
 rintro rfl
 obtain ⟨x, y, u, v, h1, _⟩ := h.cells
 obtain ⟨es, c, h2⟩ := h.map.obj
 rw [show W.heap[g]? = _ from h1] at h2
 cases h2
theorem perm_sum {a b : List S34} (h : a.Perm b) : sumR a = sumR b := by
 induction h with
 | nil => rfl
 | cons x _ ih => show wt x + sumR _ = wt x + sumR _; rw [ih]
 | swap x y l => show wt y + (wt x + sumR l) = wt x + (wt y + sumR l); rw [← Rat.add_assoc, ← Rat.add_assoc, Rat.add_comm (wt y)]
 | trans _ _ ih1 ih2 => exact ih1.trans ih2
def heldL (l : List (Int × Hd)) : Rat := sumR (l.map fun z => hv z.2)
structure GoodL (l : List (Int × Hd)) : Prop where
 len : l.length ≤ 500
 ok : ∀ z ∈ l, okH z.2
structure CInv (B0 : Nat) (w : World) (pre : List S34) (W : World) : Prop where
 out : ∃ A c, MBlk W B0 112 #[.slice A pre.length c] ∧ Kd.R k34 34 W (B0 + 2) (fun _ => True) (.slice A pre.length c) pre
 keep : Below B0 w W
theorem mblk_walk {W W' : World} {row : Option Nat} {g : Nat} {t : TypeId} {cs : Array Value} (h : MBlk W g t cs) (hg : W.grownBy W' row) (hr : ∀ r, row = some r → ∃ o : Obj, W.heap[r]? = some o ∧ o.isCells = false) : MBlk W' g t cs :=
 (hg.block g (mblk_lt h) (fun e => by
  obtain ⟨o, ho, hc⟩ := hr g e.symm
  unfold MBlk at h
  rw [h] at ho
  obtain rfl := Option.some.inj ho
  simp [Obj.isCells] at hc)).trans h
theorem R_walk {α : Type} {d : Kd α} {e : Nat} {W W' : World} {base : Nat} {v : Value} {xs : List α} {row : Option Nat} (h : Kd.R d e W base (fun _ => True) v xs) (hg : W.grownBy W' row) (hr : ∀ r, row = some r → ∃ o : Obj, W.heap[r]? = some o ∧ o.isCells = false) : Kd.R d e W' base (fun _ => True) v xs :=
 Kd.R_mono (Kd.R_grown (Kd.R_bound h) hg (fun k hk e => by
  obtain ⟨_, _, _, q, _, cells, hc⟩ := hk
  obtain ⟨o, ho, hn⟩ := hr k e.symm
  rw [hc] at ho
  obtain rfl := Option.some.inj ho
  simp [Obj.isCells] at hn)) (fun _ _ => trivial)
theorem keeps_append {α : Type} {d : Kd α} {e base : Nat} {ok : Nat → Prop} {W W' : World} {v : Value} {xs : List α} (h : Kd.R d e W base ok v xs) (hg : W.grownBy W' v.ownBlock) : KeepsOthers W W' :=
 KeepsOthers.of_grownBy hg fun k o e hk => by
  obtain ⟨cells, hc⟩ := Kd.R_typed h k e
  rw [hc] at hk
  obtain rfl := Option.some.inj hk
  rfl
theorem CInv.own (B0 n : Nat) (w : World) (hw : B0 ≤ w.heap.size) (hn : B0 ≤ n) : OwnFrom n (CInv B0 w) := fun s X Y row h hg hr => by
 have hr' : ∀ r, row = some r → ∃ o : Obj, X.heap[r]? = some o ∧ o.isCells = false := fun r e => (hr r e).2
 obtain ⟨A, c, h1, h2⟩ := h.out
 exact ⟨⟨A, c, mblk_walk h1 hg hr', R_walk h2 hg hr'⟩, h.keep.grown hg (Nat.le_trans hw h.keep.size) (fun k e => by have := (hr k e).1; omega)⟩
theorem CInv.below (B0 : Nat) (w : World) (hw : B0 ≤ w.heap.size) (s : List S34) (X Y : World) (h : CInv B0 w s X) (hb : Below X.heap.size X Y) : CInv B0 w s Y := by
 obtain ⟨A, c, h1, h2⟩ := h.out
 exact ⟨⟨A, c, (hb.block _ (mblk_lt h1)).trans h1, Kd.R_below h2 hb⟩, h.keep.trans (hb.mono (Nat.le_trans hw h.keep.size))⟩
section
variable {F : Fence} {n : Nat} {P : Program} {ops : Array Oper} {rest : List Oper} {o : Oper} {a : Act} {Q : Exit → Act → World → Prop} {α : Type}
theorem appendIn (d : Kd α) {W : World} (base : Nat) (hgd : o.guard = none) (s x : Operand) (t e : TypeId) (z : Value) (bytes : Nat)
  (ho : o.op = .call { callee := .builtin .append, args := #[s, x], argTypes := #[t, t] }) (ht : P.underlying t = some (.slice e))
  (hinfo : (P.info? e).map (fun i => (i.zero, i.size, i.bytes)) = some (some z, d.sz, bytes)) (hz : z.cells.size = d.sz) (hs0 : 0 < d.sz) (hb0 : 0 < bytes)
  (v : Value) (xs : List α) (p : α) (cs : List Value) (ok okp : Nat → Prop) (hs : a.eval s = v) (hx : a.eval x = .slice (some ⟨W.heap.size, 0, none⟩) 1 1) (hp : d.M W base okp p cs) (hokp : ∀ k, okp k → ok k ∧ some k ≠ v.ownBlock) (hfresh : ∀ k, W.heap.size ≤ k → ok k)
  (HO : d.R e W base ok v xs) (hbase : base ≤ W.heap.size) (hl : (xs.length + 1) * bytes ≤ 140737488355328)
  (h : ∀ v1 w1, d.R e w1 base ok v1 (xs ++ [p]) → W.grownBy w1 v.ownBlock → wpListIn F n P ops Q rest (a.put o.dst v1) w1) :
  wpListIn F n P ops Q (o :: rest) a (W.alloc (.cells cs.toArray e)) := by
 obtain ⟨h0, inner, hown, hr⟩ := HO
 obtain ⟨i, hi, hi'⟩ := Option.map_eq_some_iff.1 hinfo
 obtain ⟨i1, i2⟩ := Prod.mk.inj hi'
 obtain ⟨i2, i3⟩ := Prod.mk.inj i2
 have hlen := d.K_len (d.K_of_M hp)
 have hmax : xs.length + 1 ≤ 140737488355328 := Nat.le_trans (Nat.le_mul_of_pos_right _ hb0) hl
 refine wpListIn_append_own_at (W.alloc (.cells cs.toArray e)) hgd s x t ho base e i z d.sz bytes ht hi i1 i2 i3 hz hs0 v xs.length inner hs (hown.alloc _) ⟨W.heap.size, 0, none⟩ 1 1 cs hx (by rw [hlen, Nat.one_mul])
  (by simpa using World.news_of_block (cs := cs.toArray) (t := e) (fr := (0, 0)) (heap_alloc_new W (.cells cs.toArray e))) (d.K_one (d.K_of_M hp)) (by simp only [maxLen]; omega) hl (by simp; omega) ?_
 intro v1 w1 hown1 hg _ hat
 have hg1 := World.grownBy.trans (World.grownBy_alloc W (.cells cs.toArray e) v.ownBlock) hg
 refine h v1 w1 (Kd.R_appended h0 hr hp hokp hfresh hown1 hg1 ?_) hg1
 rcases hat with hat | hat
 ·exact .inl hat
 ·exact .inr ⟨_, hat, by simp⟩
end
set_option maxRecDepth 100000 in
set_option maxHeartbeats 4000000 in
theorem counts_calls (g b : Nat) (all q : Rat) (l : List (Int × Hd)) (w : World) (hL : Led w g b all q l) (hG : GoodL l) :
  Calls Try.prog 74 #[.pointer (some ⟨g, 0, none⟩)] w fun e w' => (∃ v, e = .returned v) ∧ Led w' g b all (heldL l) l ∧ Kp g b w w' := by
 have HL := Aside0.mk hL
 have HG := Aside0.mk hG
 obtain ⟨x, y, u, v, hM, hXY, hUV⟩ := hL.cells
 have HM := Aside0.mk hM
 clear hL hG
 refine (callsIn_wide (n := 6)).1 (callsIn_of_wp_marks Try.func74 rfl trivial (wpIn_wide.2 ?_) rfl)
 simp only [Try.ntmps74, List.size_toArray, List.length_cons, List.length_nil, Nat.reduceAdd, Nat.reduceSub, Array.replicate_succ, Array.replicate_zero, List.push_toArray, List.append_toArray, List.nil_append, List.cons_append]
 go_wp2_with fail
 refine (weights_calls g _).mono ?_
 rintro e w1 ⟨rfl, hw1⟩
 have ha : (w.alloc (.cells #[.slice none 0 0] 112)).heap.size = w.heap.size + 1 := by simp
 rw [ha]
 have HS1 := Aside0.mk (show w1.heap.size = w.heap.size + 2 by rw [hw1]; simp)
 have HB1 := Aside0.mk (show Below w.heap.size w w1 by rw [hw1]; exact below_alloc (below_alloc (Below.refl _ _) _) _)
 have HO1 := Aside0.mk (show MBlk w1 w.heap.size 112 #[.slice none 0 0] by rw [hw1]; exact mblk_alloc (mblk_new _ _ _) _)
 have HP1 := Aside0.mk (show MBlk w1 (w.heap.size + 1) 24 #[.pointer (some ⟨g, 0, none⟩)] by rw [hw1, ← ha]; exact mblk_new _ _ _)
 have HM1 := Aside0.mk ((HB1.out.block _ (mblk_lt HM.out)).trans HM.out)
 have HMP := Aside0.mk ((HL.out.below HB1.out).map)
 clear hw1 ha
 go_wp2_with fail
 have HN := Aside0.mk HG.out.len
 refine (wpIn_wide (n := 6)).1 ?_
 refine range_by (F := Fence.wide) (n := 6) rfl (by omega) (gf := 126) (lb := #[.pointer (some ⟨w.heap.size + 1, 0, none⟩)]) rfl trivial (enters_of Try.func126 (by kernel_rfl) rfl)
  (w0 := w1) (weights_seq (w.heap.size + 1) g b x y u v l w1 HP1.out HM1.out HMP.out (by have := HN.out; omega) HG.out.ok) (Below.refl _ _) (fun _ => rfl)
  (fun h k => h.trans k) (fun W k o o' hk ho hw => ⟨by simp [World.putObj], fun j ob hj hob => by
   by_cases e : j = k
   ·subst e; rw [hk] at hj; cases hj; rw [hw] at hob; cases hob
   ·exact (World.putObj_heap_other e).trans hj⟩)
  (CInv w.heap.size w) (fun _ _ => False) (CInv.own _ _ w (Nat.le_refl _) (by rw [HS1.out]; omega)) (fun _ _ _ _ h _ _ => h) (CInv.below _ w (Nat.le_refl _))
  ⟨⟨none, 0, HO1.out, Kd.R_nil _ _ _ _ _⟩, HB1.out⟩
  (fun s a' W => ∃ Bx, w1.heap.size ≤ Bx ∧ MBlk W Bx 34 #[.int .i64 s.f0, .int .i64 s.f1] ∧ a' = { tmps := #[.pointer (some ⟨g, 0, none⟩), undef, .pointer (some ⟨w.heap.size, 0, none⟩), .pointer (some ⟨Bx, 0, none⟩), .pointer (some ⟨g, 0, none⟩), .func (.func 126) #[] #[.pointer (some ⟨w.heap.size + 1, 0, none⟩)], .agg #[.int .i64 s.f0, .int .i64 s.f1], undef, undef, undef, undef, undef, undef, undef, undef, undef], defers := [] })
  (fun s a' _ X Y row hs hg hr => by obtain ⟨Bx, h1, h2, h3⟩ := hs; exact ⟨Bx, h1, mblk_walk h2 hg (fun r e => (hr r e).2), h3⟩)
  ?assign ?body ?done ?stop
 case assign =>
  rintro lo pre s W K hI hW hK
  gi_wp2
  obtain ⟨A, c, h1, h2⟩ := hI.out
  exact hK _ _ ((KeepsOthers.alloc _ _).from _) (walks_below (below_alloc (Below.refl _ _) _)) (CInv.below _ w (Nat.le_refl _) _ _ _ hI (below_alloc (Below.refl _ _) _)) ⟨W.heap.size, by omega, mblk_new _ _ _, rfl⟩
 case body =>
  rintro lo pre s a' W hI ⟨Bx, hBx, bX, rfl⟩ hlen hW
  obtain ⟨A, c, hO, hOR⟩ := hI.out
  have hwz := HS1.out
  have HI := Aside0.mk hI
  have HO := Aside0.mk hO
  have HOR := Aside0.mk hOR
  have hn := HN.out
  have k2 : W.cell? ⟨w.heap.size, 0, none⟩ = some (.slice A pre.length c) := (mblk_cell hO 0).trans rfl
  have x0 : W.cell? ⟨Bx, 0, none⟩ = some (.int .i64 s.f0) := (mblk_cell bX 0).trans rfl
  have x1 : W.cell? ⟨Bx, 1, none⟩ = some (.int .i64 s.f1) := (mblk_cell bX 1).trans rfl
  have HOB := Aside0.mk (show ∀ k, (Value.slice A pre.length c).ownBlock = some k → w.heap.size + 2 ≤ k from Kd.R_base hOR)
  have HWS := Aside0.mk (show w.heap.size + 2 ≤ W.heap.size by omega)
  have HLEN := Aside0.mk (show pre.length < 500 by omega)
  clear hI hO hOR bX
  gi_wp2_with (gi_at_builtin; refine appendIn k34 (w.heap.size + 2) rfl (.tmp 7) (.tmp 9) 112 34 (.agg #[.int .i64 0, .int .i64 0]) 16 rfl Try.underlying112 info34 rfl (by decide) (by omega) (.slice A pre.length c) pre s [.int .i64 s.f0, .int .i64 s.f1] (fun _ => True) (fun _ => False) rfl rfl (k34_mkM W _ _ s) (fun _ h => h.elim) (fun _ _ => trivial) HOR.out HWS.out (by have := HLEN.out; omega) ?_; intro v1 w2 hR1 hg1; obtain ⟨A2, c2, e2⟩ := Kd.R_slice hR1; subst e2; have HR2 := Aside0.mk hR1; have HG2 := Aside0.mk hg1; have HO3 := Aside0.mk (show MBlk w2 w.heap.size 112 #[.slice A pre.length c] from (hg1.block w.heap.size (mblk_lt HO.out) (fun e => by have := HOB.out _ e.symm; omega)).trans HO.out); have k9 : w2.cell? ⟨w.heap.size, 0, none⟩ = some (.slice A pre.length c) := (mblk_cell HO3.out 0).trans rfl; have kf9 : w2.frozen? ⟨w.heap.size, 0, none⟩ = false := mblk_frozen HO3.out 0; clear hR1 hg1)
  have hK := (keeps_append HOR.out HG2.out).trans (KeepsOthers.setCell w2 ⟨w.heap.size, 0, none⟩ (.slice A2 (pre ++ [s]).length c2))
  have hb2 : Below w.heap.size w w2 := HI.out.keep.grown HG2.out (Nat.le_trans (Nat.le_add_right _ _) HWS.out) (fun k e => by have := HOB.out k e; omega)
  have hh : CInv w.heap.size w (pre ++ [s]) (w2.setCell ⟨w.heap.size, 0, none⟩ (.slice A2 (pre ++ [s]).length c2)) :=
   ⟨⟨A2, c2, mblk_set HO3.out 0 _, Kd.R_mono (Kd.R_step (Kd.R_bound HR2.out) (fun k hk _ => Below.heap_setCell w2 ⟨w.heap.size, 0, none⟩ _ k (by have := hk.2.1; show k ≠ w.heap.size; omega))) (fun _ _ => trivial)⟩, hb2.setCell (p := ⟨w.heap.size, 0, none⟩) (Nat.le_refl _) _⟩
  simp only [List.length_append, List.length_cons, List.length_nil, Nat.zero_add] at hh hK
  exact ⟨hK.from _, hK.walks, hh⟩
 case done =>
  rintro xs W hp hI hD
  obtain ⟨A, c, hO, hOR⟩ := hI.out
  have k2 : W.cell? ⟨w.heap.size, 0, none⟩ = some (.slice A xs.length c) := (mblk_cell hO 0).trans rfl
  have hxl := hp.length_eq
  rw [List.length_map] at hxl
  have hok : ∀ z ∈ xs, okW z := fun z hz => by
   obtain ⟨y, hy, rfl⟩ := List.mem_map.1 (hp.mem_iff.1 hz)
   exact hv_ok (HG.out.ok y hy)
  obtain ⟨f, hf⟩ := (sum_t xs (by have := HN.out; omega) hok).1.get
  rw [show sumR xs = heldL l from perm_sum hp] at hf
  have HF := Aside0.mk hf
  have HR := Aside0.mk (Kd.R_reads' hOR)
  have HI := Aside0.mk hI
  have HD := Aside0.mk hD
  clear hf hOR hO hI hD hp hxl hok
  go_wp2_with fail
  refine (sum_rv (A := A) (c := c) ⟨HR.out.2.1, HR.out.2.2⟩ HF.out).mono ?_
  rintro e w5 ⟨p, q', rfl, hpq, hb⟩
  obtain ⟨A1, c1, A3, c3, rfl, rfl⟩ := hpq.shape
  have hbw : Below w.heap.size w w5 := below_step HI.out.keep hb
  have HM5 := Aside0.mk ((hbw.block _ (mblk_lt HM.out)).trans HM.out)
  have k3 : w5.cell? ⟨g, 3, none⟩ = some u := (mblk_cell HM5.out 3).trans rfl
  have k4 : w5.cell? ⟨g, 4, none⟩ = some v := (mblk_cell HM5.out 4).trans rfl
  have f3 : w5.frozen? ⟨g, 3, none⟩ = false := mblk_frozen HM5.out 3
  have f4 : w5.frozen? ⟨g, 4, none⟩ = false := mblk_frozen HM5.out 4
  have HB5 := Aside0.mk hbw
  have HD5 := Aside0.mk ((hb.block _ (Array.getElem?_eq_some_iff.1 HD.out).1).trans HD.out)
  have HPQ := Aside0.mk hpq
  clear hb hbw hpq
  go_wp2_with fail
  have hL5 : Led w5 g b all q l := HL.out.below HB5.out
  have hL6 := hL5.store HPQ.out
  have hK6 : Kp g b w ((w5.setCell ⟨g, 3, none⟩ (.slice A1 (L (heldL l)).1.length c1)).setCell ⟨g, 4, none⟩ (.slice A3 (L (heldL l)).2.length c3)) := (Kp.of HB5.out).trans (Kp.store _ _ _ _ _)
  have hne : w1.heap.size ≠ g := by have := mblk_lt HM.out; have := HS1.out; omega
  have hD6 : ((w5.setCell ⟨g, 3, none⟩ (.slice A1 (L (heldL l)).1.length c1)).setCell ⟨g, 4, none⟩ (.slice A3 (L (heldL l)).2.length c3)).heap[w1.heap.size]? = some (.deferred (some [])) :=
   ((Below.heap_setCell _ ⟨g, 4, none⟩ _ _ hne).trans (Below.heap_setCell _ ⟨g, 3, none⟩ _ _ hne)).trans HD5.out
  have hneb : w1.heap.size ≠ b := by have := HL.out.map.lt; have := HS1.out; omega
  refine ⟨by simp, .inl ⟨_, _, rfl, run_takeDeferred hD6, ?_⟩⟩
  have ho : ∀ k, k ≠ w1.heap.size → (World.putObj ((w5.setCell ⟨g, 3, none⟩ (.slice A1 (L (heldL l)).1.length c1)).setCell ⟨g, 4, none⟩ (.slice A3 (L (heldL l)).2.length c3)) w1.heap.size (.deferred none)).heap[k]? = ((w5.setCell ⟨g, 3, none⟩ (.slice A1 (L (heldL l)).1.length c1)).setCell ⟨g, 4, none⟩ (.slice A3 (L (heldL l)).2.length c3)).heap[k]? := fun k hk => World.putObj_heap_other hk
  refine ⟨_, results_none rfl _ _ _, ⟨_, rfl⟩, hL6.near (ho _ hne.symm) (ho _ hneb.symm) (fun k _ hk => ho k (fun e => hk (by rw [e]; exact noLimb_def hD6))), ⟨hK6.os, hK6.tape, hK6.output, Nat.le_trans hK6.size (by simp [World.putObj]), fun k hlt h1 h2 => (ho k (by have := HS1.out; omega)).trans (hK6.same k hlt h1 h2)⟩⟩
 case stop =>
  rintro pre W h _
  exact h.elim
end Go.Proofs.Ytfldklimlcnnnaa.XLed
end

section
namespace Go.Proofs.Ytfldklimlcnnnaa.XAt
open Go.RowKit Go.Proofs.Ytfldklimlcnnnaa.PHq Go.Proofs.YtfldklimlcnnnaaW.PrintWords Go.Proofs.YtfldklimlcnnnaaW.PrintLast Go.Proofs.YtfldklimlcnnnaaW.PrintMore Go.Proofs.Ytfldklimlcnnnaa.MWords
open Go.Proofs.Ytfldklimlcnnnaa.MNat Go.Proofs.Ytfldklimlcnnnaa.QNat Go.Proofs.Ytfldklimlcnnnaa.QText Go.Proofs.Ytfldklimlcnnnaa.QEv Go.Proofs.Ytfldklimlcnnnaa.QRatio Go.Proofs.Ytfldklimlcnnnaa.XRV
open Go.Proofs.Ytfldklimlcnnnaa.XHold (wfI wfI_of key_of key_lit keyed lit_ne)
open Go.Maps (Keyed int_keyed keyOf_int_mk)
def atD (x : Int) : DataW Unit := .lit (.int .i64 x)
def atR (v : Value) : Option (DataW Unit × List MemPlace) := match v with
 | .int .i64 x => some (atD x, [])
 | _ => none
theorem atR_mk (h : Int) : atR (.int .i64 h) = some (atD h, []) := rfl
theorem atR_inv {v : Value} {y : DataW Unit × List MemPlace} (h : atR v = some y) : ∃ x, v = .int .i64 x ∧ y = (atD x, []) := by
 unfold atR at h
 split at h
 ·rename_i x
  exact ⟨x, rfl, (Option.some.inj h).symm⟩
 ·cases h
theorem atD_inj {h k : Int} (e : atD h = atD k) : h = k := by
 unfold atD at e
 injection e with e
 injection e
structure View (D : DataW Unit) (l : List (Int × Int)) : Prop where
 has : ∀ x : Int, Maps.has D (.int .i64 x) = l.any fun y => decide (y.1 = x)
 at_ : ∀ y ∈ l, ∀ z, D.atKey (.int .i64 y.1) z = atD y.2
 nodup : (l.map (·.1)).Nodup
 size : Maps.size D = l.length
 wf : ∀ y ∈ l, wfI y.1
def MapIs (W : World) (b : Nat) (l : List (Int × Int)) : Prop := ∃ D : DataW Unit, W.ownsMap Try.prog 3 atR b l.length D ∧ View D l
theorem MapIs.kept {W W' : World} {b : Nat} {l : List (Int × Int)} (h : MapIs W b l) (hb : W'.heap[b]? = W.heap[b]?) : MapIs W' b l := by
 obtain ⟨D, ⟨es, clock, h1, h2⟩, hv⟩ := h
 exact ⟨D, ⟨es, clock, hb.trans h1, h2⟩, hv⟩
theorem MapIs.lt {W : World} {b : Nat} {l : List (Int × Int)} (h : MapIs W b l) : b < W.heap.size := by
 obtain ⟨D, ho, _⟩ := h
 exact ho.lt
theorem MapIs.obj {W : World} {b : Nat} {l : List (Int × Int)} (h : MapIs W b l) : ∃ es clock, W.heap[b]? = some (.map es clock) := by
 obtain ⟨D, ⟨es, clock, h1, _⟩, _⟩ := h
 exact ⟨es, clock, h1⟩
theorem own_size {W : World} {b n : Nat} {D : DataW Unit} (h : W.ownsMap Try.prog 3 atR b n D) : W.ownsMap Try.prog 3 atR b (Maps.size D) D := by
 obtain ⟨es, clock, h1, F, hn, hD⟩ := h
 refine ⟨es, clock, h1, F, ?_, hD⟩
 rw [hD, Maps.size_eq]
 have := length_read (P := Try.prog) (k := 3) (R0 := atR) es
 omega
def getL (l : List (Int × Int)) (x : Int) : Option Int := (l.find? fun y => decide (y.1 = x)).map (·.2)
def hasL (l : List (Int × Int)) (x : Int) : Bool := l.any fun y => decide (y.1 = x)
def setL (l : List (Int × Int)) (x : Int) (h : Int) : List (Int × Int) := if hasL l x = true then l.map (fun y => if y.1 = x then (x, h) else y) else l ++ [(x, h)]
theorem getL_mem {l : List (Int × Int)} {x : Int} {h : Int} (e : getL l x = some h) : (x, h) ∈ l := by
 unfold getL at e
 obtain ⟨y, hy, rfl⟩ := Option.map_eq_some_iff.1 e
 have h1 := List.mem_of_find?_eq_some hy
 have h2 := List.find?_some hy
 have h3 : y.1 = x := by simpa using h2
 rw [← h3]
 exact h1
theorem getL_none {l : List (Int × Int)} {x : Int} (e : getL l x = none) : hasL l x = false := by
 unfold getL at e
 rw [Option.map_eq_none_iff, List.find?_eq_none] at e
 unfold hasL
 rw [List.any_eq_false]
 exact e
theorem View.nil : View (.map []) [] := ⟨fun _ => rfl, by simp, by simp, rfl, by simp⟩
theorem View.get {D : DataW Unit} {l : List (Int × Int)} (h : View D l) (x : Int) : D.atKey (.int .i64 x) (atD (0 : Int)) = atD ((getL l x).getD (0 : Int)) := by
 cases e : getL l x with
 | none =>
  refine Maps.atKey_of_not_has ?_ _
  rw [h.has]
  exact getL_none e
 | some y => exact h.at_ _ (getL_mem e) _
theorem set_keys (l : List (Int × Int)) (x : Int) (h : Int) : (setL l x h).map (·.1) = if hasL l x = true then l.map (·.1) else l.map (·.1) ++ [x] := by
 unfold setL
 split
 ·rw [List.map_map]
  refine List.map_congr_left fun y _ => ?_
  show (if y.1 = x then (x, h) else y).1 = y.1
  split
  ·rename_i e; exact e.symm
  ·rfl
 ·rw [List.map_append]
  rfl
theorem set_len (l : List (Int × Int)) (x : Int) (h : Int) : (setL l x h).length = if hasL l x = true then l.length else l.length + 1 := by
 have := congrArg List.length (set_keys l x h)
 rw [List.length_map] at this
 rw [this]
 split <;> simp
theorem set_mem {l : List (Int × Int)} {x : Int} {h : Int} {y : Int × Int} (hy : y ∈ setL l x h) : y = (x, h) ∨ (y ∈ l ∧ y.1 ≠ x) := by
 unfold setL at hy
 split at hy
 ·obtain ⟨z, hz, e⟩ := List.mem_map.1 hy
  split at e
  ·exact .inl e.symm
  ·rename_i hne
   exact .inr (e ▸ ⟨hz, hne⟩)
 ·rename_i hn
  rcases List.mem_append.1 hy with hy | hy
  ·refine .inr ⟨hy, fun e => hn ?_⟩
   unfold hasL
   rw [List.any_eq_true]
   exact ⟨y, hy, by simpa using e⟩
  ·exact .inl (List.mem_singleton.1 hy)
theorem set_has (l : List (Int × Int)) (x y : Int) (h : Int) : hasL (setL l x h) y = (decide (x = y) || hasL l y) := by
 have e : ∀ l : List (Int × Int), hasL l y = (l.map (·.1)).any fun z => decide (z = y) := fun l => by unfold hasL; rw [List.any_map]; rfl
 rw [e, set_keys]
 split
 ·rename_i hx
  rw [← e]
  by_cases hxy : x = y
  ·subst hxy; rw [hx]; simp
  ·simp [hxy]
 ·rw [List.any_append, ← e, Bool.or_comm]
  simp
theorem View.put {D : DataW Unit} {l : List (Int × Int)} (v : View D l) (ht : Maps.Tidy D) {x : Int} (hx : wfI x) (h : Int) : View (D.put (.int .i64 x) (atD h)) (setL l x h) := by
 refine ⟨fun y => ?_, fun y hy z => ?_, ?_, ?_, fun y hy => ?_⟩
 ·show _ = hasL (setL l x h) y
  rw [set_has]
  by_cases hxy : x = y
  ·subst hxy
   rw [Maps.has_put_same ht.isMap (key_lit x)]
   simp
  ·rw [Maps.has_put_other (lit_ne (fun e => hxy e.symm)), v.has y]
   simp [hxy, hasL]
 ·rcases set_mem hy with rfl | ⟨hm, hne⟩
  ·exact Maps.atKey_put_same ht.isMap (key_lit x) _ _
  ·rw [Maps.atKey_put_other (lit_ne hne)]
   exact v.at_ y hm z
 ·rw [set_keys]
  split
  ·exact v.nodup
  ·rename_i hn
   rw [List.nodup_append]
   refine ⟨v.nodup, by simp, fun a ha b hb e => hn ?_⟩
   obtain ⟨y, hy, rfl⟩ := List.mem_map.1 ha
   rw [List.mem_singleton.1 hb] at e
   unfold hasL
   rw [List.any_eq_true]
   exact ⟨y, hy, by simpa using e⟩
 ·rw [Maps.size_put ht, v.has x, v.size, set_len]
  rfl
 ·rcases set_mem hy with rfl | ⟨hm, _⟩
  ·exact hx
  ·exact v.wf y hm
theorem zeroE (w : World) : (zeroValue 3).run Try.prog w = .ok ((.int .i64 0)) w := by kernel_rfl
theorem map_put {W : World} {b : Nat} {l : List (Int × Int)} (h : MapIs W b l) (hl : l.length ≤ 1000000) {x : Int} (hx : wfI x) (k : Int) :
  ∃ w', (Instr.mapUpdate 116 (.map (some b)) (.int .i64 x) (.int .i64 k)).run Try.prog W = .ok () w' ∧ MapIs w' b (setL l x k) ∧ W.mapTurned w' b := by
 obtain ⟨D, hD, hV⟩ := h
 obtain ⟨w', hrun, h1, h2⟩ := hD.store keyed Try.underlying116 (by unfold maxLen; omega) (key_of hx) (atR_mk k)
 have hv := hV.put (hD.tidy keyed) hx k
 have h3 := own_size h1
 rw [hv.size] at h3
 exact ⟨w', hrun, ⟨_, h3, hv⟩, h2⟩
theorem map_get {W : World} {b : Nat} {l : List (Int × Int)} (h : MapIs W b l) {z : Int} (hz : wfI z) :
  (Instr.lookup 116 (.map (some b)) (.int .i64 z) true).run Try.prog W = .ok (.tuple #[.int .i64 ((getL l z).getD 0), .bool (hasL l z)]) W := by
 obtain ⟨D, hD, hV⟩ := h
 obtain ⟨v, ps, hrun, hv⟩ := hD.look_ok keyed Try.underlying116 (zeroE W) (atR_mk 0) (key_of hz)
 rw [hV.get z] at hv
 obtain ⟨c, rfl, hc⟩ := atR_inv hv
 rw [atD_inj (congrArg Prod.fst hc)]
 rw [hrun, show Maps.has D (.int .i64 z) = hasL l z from hV.has z]
end Go.Proofs.Ytfldklimlcnnnaa.XAt
end

section
namespace Go.Proofs.Ytfldklimlcnnnaa.XTree
open Go.RowKit Go.Proofs.Ytfldklimlcnnnaa.PHq Go.Proofs.YtfldklimlcnnnaaW.PrintWords Go.Proofs.YtfldklimlcnnnaaW.PrintLast Go.Proofs.YtfldklimlcnnnaaW.PrintMore Go.Proofs.Ytfldklimlcnnnaa.MWords
open Go.Proofs.Ytfldklimlcnnnaa.MNat Go.Proofs.Ytfldklimlcnnnaa.QRatio Go.Proofs.Ytfldklimlcnnnaa.XRV Go.Proofs.Ytfldklimlcnnnaa.XHold Go.Proofs.Ytfldklimlcnnnaa.XLed
structure Tm where
 t : Nat
 A : Option Addr
 c : Nat
 Al : Nat
 cl : Nat
 m : Nat
 g : Int → Nat
 b : Int → Nat
def inR (n : Nat) (s : Int) : Prop := -1 ≤ s ∧ s < n
def Tm.own (M : Tm) (n : Nat) (k : Nat) : Prop := k = M.t ∨ (0 < n ∧ ∃ ad, M.A = some ad ∧ k = ad.block) ∨ k = M.Al
def Tm.wr (M : Tm) (n : Nat) (k : Nat) : Prop := k = M.m ∨ ∃ s, inR n s ∧ (k = M.g s ∨ k = M.b s)
def ix (n : Nat) (s : Int) : Nat := if s = -1 then n else s.toNat
def upd {β : Type} (f : Int → β) (s : Int) (x : β) : Int → β := fun y => if y = s then x else f y
theorem upd_same {β : Type} (f : Int → β) (s : Int) (x : β) : upd f s x s = x := if_pos rfl
theorem upd_other {β : Type} (f : Int → β) {s y : Int} (x : β) (h : y ≠ s) : upd f s x y = f y := if_neg h
structure Tre (W : World) (M : Tm) (sv : List S71) (at_ : List (Int × Int)) (al : Int → Rat) (ls : Int → List (Int × Hd)) : Prop where
 cells : MBlk W M.t 119 #[.slice M.A sv.length M.c, .slice (some ⟨M.Al, 0, none⟩) (sv.length + 1) M.cl, .map (some M.m)]
 cap : sv.length + 1 ≤ M.cl
 row : Kd.C k71 W M.A sv.length sv
 rowt : 0 < sv.length → ∀ ad, M.A = some ad → ∃ cs fr, W.heap[ad.block]? = some (.cells cs 71 fr)
 ptr : ∃ cs fr, W.heap[M.Al]? = some (.cells cs 24 fr) ∧ ∀ s, inR sv.length s → cs[ix sv.length s]? = some (.pointer (some ⟨M.g s, 0, none⟩))
 map : XAt.MapIs W M.m at_
 led : ∀ s, inR sv.length s → Led W (M.g s) (M.b s) (al s) (heldL (ls s)) (ls s)
 ne : ∀ s s', inR sv.length s → inR sv.length s' → s ≠ s' → M.g s ≠ M.g s' ∧ M.b s ≠ M.b s'
 mb : ∀ s, inR sv.length s → M.b s ≠ M.m
 small : sv.length ≤ 1000
structure Kt (M : Tm) (n : Nat) (W W' : World) : Prop where
 os : W'.os = W.os
 tape : W'.tape = W.tape
 output : W'.output = W.output
 size : W.heap.size ≤ W'.heap.size
 same : ∀ k, k < W.heap.size → ¬ M.wr n k → W'.heap[k]? = W.heap[k]?
theorem Kt.trans {M : Tm} {n : Nat} {X Y Z : World} (h : Kt M n X Y) (k : Kt M n Y Z) : Kt M n X Z := ⟨k.os.trans h.os, k.tape.trans h.tape, k.output.trans h.output, Nat.le_trans h.size k.size, fun i hi h1 => (k.same i (Nat.lt_of_lt_of_le hi h.size) h1).trans (h.same i hi h1)⟩
theorem Kt.of {M : Tm} {n : Nat} {W W' : World} (h : Below W.heap.size W W') : Kt M n W W' := ⟨h.os, h.tape, h.output, h.size, fun k hk _ => h.block k hk⟩
theorem Kt.kp {M : Tm} {n : Nat} {W W' : World} {s : Int} (hs : inR n s) (h : Kp (M.g s) (M.b s) W W') : Kt M n W W' := ⟨h.os, h.tape, h.output, h.size, fun k hk hn => h.same k hk (fun e => hn (.inr ⟨s, hs, .inl e⟩)) (fun e => hn (.inr ⟨s, hs, .inr e⟩))⟩
theorem Kt.turn {M : Tm} {n : Nat} {W W' : World} (ht : W.mapTurned W' M.m) : Kt M n W W' := ⟨ht.grown.os, ht.grown.tape, ht.grown.output, ht.grown.size, fun k hk hn => ht.grown.block k hk (fun e => hn (.inl (Option.some.inj e)))⟩
theorem Kt.below {M : Tm} {n N : Nat} {W W' : World} (h : Kt M n W W') (hN : ∀ k, M.wr n k → N ≤ k) (hW : N ≤ W.heap.size) : Below N W W' :=
 ⟨h.os, h.tape, h.output, h.size, fun k hk => h.same k (Nat.lt_of_lt_of_le hk hW) (fun c => by have := hN k c; omega)⟩
theorem cell_blk {W W' : World} {a : Addr} (h : W'.heap[a.block]? = W.heap[a.block]?) : W'.cell? a = W.cell? a := by
 unfold World.cell?
 rw [h]
theorem add_blk (a : Addr) (i : Nat) : (a.add i).block = a.block := by
 unfold Addr.add
 split <;> rfl
theorem C_blk {W W' : World} {A : Option Addr} {n : Nat} {xs : List S71} (h : Kd.C k71 W A n xs) (hb : 0 < n → ∀ ad, A = some ad → W'.heap[ad.block]? = W.heap[ad.block]?) : Kd.C k71 W' A n xs :=
 ⟨h.1, h.2.1, fun hn => by
  obtain ⟨ad, e, hc⟩ := h.2.2 hn
  refine ⟨ad, e, fun j p hj => ?_⟩
  obtain ⟨c, hs, hr, hcell⟩ := hc j p hj
  obtain rfl := k71_open hr
  exact ⟨_, hs, k71_mk W' p, fun i u hu => (cell_blk (a := ad.add (j * k71.sz + i)) (by rw [add_blk]; exact hb hn ad e)).trans (hcell i u hu)⟩⟩
section
variable {W W' : World} {M : Tm} {sv : List S71} {at_ : List (Int × Int)} {al : Int → Rat} {ls : Int → List (Int × Hd)}
theorem Led.blk {W : World} {g b : Nat} {all q : Rat} {l : List (Int × Hd)} (h : Led W g b all q l) : (∃ cs, W.heap[g]? = some (.cells cs 97 (0, 0))) ∧ ∃ es c, W.heap[b]? = some (.map es c) := by
 obtain ⟨x, y, u, v, h1, _, _⟩ := h.cells
 exact ⟨⟨_, h1⟩, h.map.obj⟩
theorem Tre.not_wr (h : Tre W M sv at_ al ls) {k : Nat} {cs : Array Value} {T : TypeId} {fr : Nat × Nat} (hk : W.heap[k]? = some (.cells cs T fr)) (hT : T ≠ 97) : ¬ M.wr sv.length k := by
 rintro (rfl | ⟨s, hs, rfl | rfl⟩)
 ·obtain ⟨es, c, h1⟩ := h.map.obj
  rw [h1] at hk
  cases hk
 ·obtain ⟨⟨cs', h1⟩, _⟩ := Led.blk (h.led s hs)
  rw [h1] at hk
  cases hk
  exact hT rfl
 ·obtain ⟨_, es, c, h1⟩ := Led.blk (h.led s hs)
  rw [h1] at hk
  cases hk
theorem Tre.stay (h : Tre W M sv at_ al ls) (hk : Kt M sv.length W W') {k : Nat} {cs : Array Value} {T : TypeId} {fr : Nat × Nat} (hb : W.heap[k]? = some (.cells cs T fr)) (hT : T ≠ 97) : W'.heap[k]? = some (.cells cs T fr) :=
 (hk.same k (Array.getElem?_eq_some_iff.1 hb).1 (h.not_wr hb hT)).trans hb
theorem Tre.wr_noLimb (h : Tre W M sv at_ al ls) {k : Nat} (hk : M.wr sv.length k) : NoLimb W k := by
 rcases hk with rfl | ⟨s, hs, rfl | rfl⟩
 ·obtain ⟨es, c, h1⟩ := h.map.obj
  exact noLimb_map h1
 ·obtain ⟨x, y, u, v, h1, h2, h3⟩ := (h.led s hs).cells
  exact noLimb_led h1 h2 h3
 ·obtain ⟨es, c, h1⟩ := (h.led s hs).map.obj
  exact noLimb_map h1
theorem Tre.wr_lt (h : Tre W M sv at_ al ls) {k : Nat} (hk : M.wr sv.length k) : k < W.heap.size := by
 rcases hk with rfl | ⟨s, hs, rfl | rfl⟩
 ·exact h.map.lt
 ·obtain ⟨⟨cs, h1⟩, _⟩ := Led.blk (h.led s hs)
  exact (Array.getElem?_eq_some_iff.1 h1).1
 ·exact (h.led s hs).map.lt
theorem Tre.own_lt (h : Tre W M sv at_ al ls) {k : Nat} (hk : M.own sv.length k) : k < W.heap.size := by
 rcases hk with rfl | ⟨h0, ad, e, rfl⟩ | rfl
 ·exact mblk_lt h.cells
 ·obtain ⟨cs, fr, h1⟩ := h.rowt h0 ad e
  exact (Array.getElem?_eq_some_iff.1 h1).1
 ·obtain ⟨cs, fr, h1, _⟩ := h.ptr
  exact (Array.getElem?_eq_some_iff.1 h1).1
theorem Tre.mk' {at2 : List (Int × Int)} {ls2 : Int → List (Int × Hd)} (h : Tre W M sv at_ al ls) (ho : ∀ k, M.own sv.length k → W'.heap[k]? = W.heap[k]?) (hm : XAt.MapIs W' M.m at2)
  (hl : ∀ s, inR sv.length s → Led W' (M.g s) (M.b s) (al s) (heldL (ls2 s)) (ls2 s)) : Tre W' M sv at2 al ls2 where
 cells := (ho _ (.inl rfl)).trans h.cells
 cap := h.cap
 row := C_blk h.row fun h0 ad e => ho _ (.inr (.inl ⟨h0, ad, e, rfl⟩))
 rowt := fun h0 ad e => by
  obtain ⟨cs, fr, h1⟩ := h.rowt h0 ad e
  exact ⟨cs, fr, (ho _ (.inr (.inl ⟨h0, ad, e, rfl⟩))).trans h1⟩
 ptr := by
  obtain ⟨cs, fr, h1, h2⟩ := h.ptr
  exact ⟨cs, fr, (ho _ (.inr (.inr rfl))).trans h1, h2⟩
 map := hm
 led := hl
 ne := h.ne
 mb := h.mb
 small := h.small
theorem Tre.own_cells (h : Tre W M sv at_ al ls) {k : Nat} (hk : M.own sv.length k) : ∃ cs T fr, W.heap[k]? = some (.cells cs T fr) ∧ T ≠ 97 := by
 rcases hk with rfl | ⟨h0, ad, e, rfl⟩ | rfl
 ·exact ⟨_, _, _, h.cells, by decide⟩
 ·obtain ⟨cs, fr, h1⟩ := h.rowt h0 ad e
  exact ⟨_, _, _, h1, by decide⟩
 ·obtain ⟨cs, fr, h1, _⟩ := h.ptr
  exact ⟨_, _, _, h1, by decide⟩
theorem Tre.own_same (h : Tre W M sv at_ al ls) (hk : Kt M sv.length W W') {k : Nat} (ho : M.own sv.length k) : W'.heap[k]? = W.heap[k]? := by
 obtain ⟨cs, T, fr, h1, h2⟩ := h.own_cells ho
 rw [h1]
 exact h.stay hk h1 h2
theorem Tre.near (h : Tre W M sv at_ al ls) (ho : ∀ k, k < W.heap.size → M.own sv.length k ∨ M.wr sv.length k ∨ ¬ NoLimb W k → W'.heap[k]? = W.heap[k]?) : Tre W' M sv at_ al ls :=
 h.mk' (fun k hk => ho k (h.own_lt hk) (.inl hk)) (h.map.kept (ho _ (h.wr_lt (.inl rfl)) (.inr (.inl (.inl rfl)))))
  (fun s hs => (h.led s hs).near (ho _ (h.wr_lt (.inr ⟨s, hs, .inl rfl⟩)) (.inr (.inl (.inr ⟨s, hs, .inl rfl⟩)))) (ho _ (h.wr_lt (.inr ⟨s, hs, .inr rfl⟩)) (.inr (.inl (.inr ⟨s, hs, .inr rfl⟩)))) (fun k hk hn => ho k hk (.inr (.inr hn))))
theorem Tre.below (h : Tre W M sv at_ al ls) (hb : Below W.heap.size W W') : Tre W' M sv at_ al ls := h.near fun k hk _ => hb.block k hk
theorem Tre.kp (h : Tre W M sv at_ al ls) {s : Int} {l' : List (Int × Hd)} (hs : inR sv.length s) (hk : Kp (M.g s) (M.b s) W W') (hl : Led W' (M.g s) (M.b s) (al s) (heldL l') l') : Tre W' M sv at_ al (upd ls s l') := by
 have gk := Led.blk (h.led s hs)
 obtain ⟨⟨cg, hg⟩, em, cm, hb⟩ := gk
 refine h.mk' (fun k hk' => h.own_same (Kt.kp hs hk) hk') (h.map.kept (hk.same _ h.map.lt (fun e => ?_) (fun e => h.mb s hs e.symm))) (fun y hy => ?_)
 ·obtain ⟨es, c, h1⟩ := h.map.obj
  rw [e, hg] at h1
  cases h1
 ·by_cases e : y = s
  ·subst e
   rw [upd_same]
   exact hl
  ·rw [upd_other _ _ e]
   obtain ⟨⟨cy, hy1⟩, ey, cy', hy2⟩ := Led.blk (h.led y hy)
   have n := h.ne y s hy hs e
   refine (h.led y hy).near (hk.same _ (Array.getElem?_eq_some_iff.1 hy1).1 n.1 (fun c => ?_)) (hk.same _ (Array.getElem?_eq_some_iff.1 hy2).1 (fun c => ?_) n.2) (fun k hlt hn => hk.same k hlt (fun c => hn ?_) (fun c => hn ?_))
   ·rw [c, hb] at hy1; cases hy1
   ·rw [c, hg] at hy2; cases hy2
   ·rw [c]; exact h.wr_noLimb (.inr ⟨s, hs, .inl rfl⟩)
   ·rw [c]; exact noLimb_map hb
theorem Tre.turn (h : Tre W M sv at_ al ls) {at2 : List (Int × Int)} (ht : W.mapTurned W' M.m) (hm : XAt.MapIs W' M.m at2) : Tre W' M sv at2 al ls := by
 have hs : ∀ k, k < W.heap.size → k ≠ M.m → W'.heap[k]? = W.heap[k]? := fun k hk hne => ht.grown.block k hk (fun e => hne (Option.some.inj e))
 obtain ⟨es, c, h1⟩ := h.map.obj
 refine h.mk' (fun k hk => h.own_same (Kt.turn ht) hk) hm (fun y hy => ?_)
 obtain ⟨⟨cy, hy1⟩, ey, cy', hy2⟩ := Led.blk (h.led y hy)
 refine (h.led y hy).near (hs _ (Array.getElem?_eq_some_iff.1 hy1).1 (fun e => ?_)) (hs _ (Array.getElem?_eq_some_iff.1 hy2).1 (h.mb y hy)) (fun k hlt hn => hs k hlt (fun e => hn (by rw [e]; exact noLimb_map h1)))
 rw [e, h1] at hy1
 cases hy1
theorem Tre.box (h : Tre W M sv at_ al ls) {k i : Nat} {v : Value} (h1 : ¬ M.own sv.length k) (h2 : ¬ M.wr sv.length k) (h3 : NoLimb W k) : Tre (W.setCell ⟨k, i, none⟩ v) M sv at_ al ls :=
 h.near fun j _ hj => Below.heap_setCell _ ⟨k, i, none⟩ _ j (fun e => by
  subst e
  rcases hj with c | c | c
  ·exact h1 c
  ·exact h2 c
  ·exact c h3)
theorem Tre.ptr_at (h : Tre W M sv at_ al ls) {s : Int} (hs : inR sv.length s) : W.cell? ⟨M.Al, ix sv.length s, none⟩ = some (.pointer (some ⟨M.g s, 0, none⟩)) := by
 obtain ⟨cs, fr, h1, h2⟩ := h.ptr
 have := h2 s hs
 simp [World.cell?, h1, this]
theorem Tre.cell0 (h : Tre W M sv at_ al ls) : W.cell? ⟨M.t, 0, none⟩ = some (.slice M.A sv.length M.c) := (mblk_cell h.cells 0).trans rfl
theorem Tre.cell1 (h : Tre W M sv at_ al ls) : W.cell? ⟨M.t, 1, none⟩ = some (.slice (some ⟨M.Al, 0, none⟩) (sv.length + 1) M.cl) := (mblk_cell h.cells 1).trans rfl
theorem Tre.cell2 (h : Tre W M sv at_ al ls) : W.cell? ⟨M.t, 2, none⟩ = some (.map (some M.m)) := (mblk_cell h.cells 2).trans rfl
end
end Go.Proofs.Ytfldklimlcnnnaa.XTree
end

section
namespace Go.Proofs.Ytfldklimlcnnnaa.QTree
open Go.RowKit Go.Proofs.Ytfldklimlcnnnaa.PHq Go.Proofs.YtfldklimlcnnnaaW.PrintWords Go.Proofs.YtfldklimlcnnnaaW.PrintLast Go.Proofs.YtfldklimlcnnnaaW.PrintMore Go.Proofs.Ytfldklimlcnnnaa.MWords
open Go.Proofs.Ytfldklimlcnnnaa.XTree
def par (sv : List S71) (s : Int) : Int := (rd_T71 sv s).f0
def GoodSv (sv : List S71) : Prop := ∀ s : Int, 0 ≤ s → s < sv.length → -1 ≤ par sv s ∧ par sv s < s
def pathF (sv : List S71) : Nat → Int → List Int
 | 0, _ => [-1]
 | k + 1, s => if s = -1 then [-1] else s :: pathF sv k (par sv s)
def pathS (sv : List S71) (s : Int) : List Int := pathF sv (s + 1).toNat s
theorem path_fuel {sv : List S71} (hG : GoodSv sv) : ∀ (k k' : Nat) (s : Int), inR sv.length s → (s + 1).toNat ≤ k → (s + 1).toNat ≤ k' → pathF sv k s = pathF sv k' s := by
 intro k
 induction k with
 | zero =>
  intro k' s hs h1 h2
  have : s = -1 := by have := hs.1; omega
  subst this
  cases k' <;> simp [pathF]
 | succ k ih =>
  intro k' s hs h1 h2
  by_cases e : s = -1
  ·subst e
   cases k' <;> simp [pathF]
  ·have h0 : 0 ≤ s := by have := hs.1; omega
   obtain ⟨k', rfl⟩ : ∃ j, k' = j + 1 := ⟨k' - 1, by omega⟩
   have hp := hG s h0 hs.2
   simp only [pathF]
   rw [if_neg e, if_neg e, ih k' (par sv s) ⟨hp.1, by have := hs.2; omega⟩ (by omega) (by omega)]
theorem path_root (sv : List S71) : pathS sv (-1) = [-1] := rfl
theorem path_step {sv : List S71} (hG : GoodSv sv) {s : Int} (h0 : 0 ≤ s) (h1 : s < sv.length) : pathS sv s = s :: pathS sv (par sv s) := by
 have hp := hG s h0 h1
 have e : (s + 1).toNat = s.toNat + 1 := by omega
 unfold pathS
 rw [e]
 simp only [pathF]
 rw [if_neg (by omega), path_fuel hG s.toNat (par sv s + 1).toNat (par sv s) ⟨hp.1, by omega⟩ (by omega) (by omega)]
theorem path_ind {sv : List S71} (hG : GoodSv sv) {P : Int → Prop} (h0 : P (-1)) (h1 : ∀ s : Int, 0 ≤ s → s < sv.length → P (par sv s) → P s) : ∀ s, inR sv.length s → P s := by
 have : ∀ (k : Nat) (s : Int), (s + 1).toNat ≤ k → inR sv.length s → P s := by
  intro k
  induction k with
  | zero =>
   intro s hk hs
   have : s = -1 := by have := hs.1; omega
   rw [this]; exact h0
  | succ k ih =>
   intro s hk hs
   by_cases e : s = -1
   ·rw [e]; exact h0
   ·have hp := hG s (by have := hs.1; omega) hs.2
    exact h1 s (by have := hs.1; omega) hs.2 (ih _ (by omega) ⟨hp.1, by have := hs.2; omega⟩)
 intro s hs
 exact this _ s (Nat.le_refl _) hs
theorem path_in {sv : List S71} (hG : GoodSv sv) (s : Int) (hs : inR sv.length s) : ∀ x ∈ pathS sv s, inR sv.length x ∧ x ≤ s := by
 refine path_ind hG (P := fun s => inR sv.length s → ∀ x ∈ pathS sv s, inR sv.length x ∧ x ≤ s) ?_ ?_ s hs hs
 ·intro h x hx
  rw [path_root] at hx
  rw [List.mem_singleton.1 hx]
  exact ⟨h, by omega⟩
 ·intro s h0 h1 ih h x hx
  have hp := hG s h0 h1
  rw [path_step hG h0 h1] at hx
  rcases List.mem_cons.1 hx with rfl | hx
  ·exact ⟨h, by omega⟩
  ·have := ih ⟨hp.1, by omega⟩ x hx
   exact ⟨this.1, by omega⟩
theorem path_nodup {sv : List S71} (hG : GoodSv sv) (s : Int) (hs : inR sv.length s) : (pathS sv s).Nodup := by
 refine path_ind hG (P := fun s => (pathS sv s).Nodup) ?_ ?_ s hs
 ·rw [path_root]; simp
 ·intro s h0 h1 ih
  have hp := hG s h0 h1
  rw [path_step hG h0 h1, List.nodup_cons]
  refine ⟨fun hx => ?_, ih⟩
  have := (path_in hG _ ⟨hp.1, by omega⟩ s hx).2
  omega
theorem path_len {sv : List S71} (hG : GoodSv sv) (s : Int) (hs : inR sv.length s) : (pathS sv s).length ≤ sv.length + 1 := by
 have h : ∀ s, inR sv.length s → ((pathS sv s).length : Int) ≤ s + 2 := path_ind hG (P := fun s => ((pathS sv s).length : Int) ≤ s + 2) (by rw [path_root]; simp) (fun s h0 h1 ih => by
  have hp := hG s h0 h1
  rw [path_step hG h0 h1, List.length_cons]
  omega)
 have := h s hs
 have := hs.2
 omega
theorem path_head {sv : List S71} (hG : GoodSv sv) (s : Int) (hs : inR sv.length s) : ∃ r, pathS sv s = s :: r := by
 by_cases e : s = -1
 ·subst e; exact ⟨[], path_root sv⟩
 ·exact ⟨_, path_step hG (by have := hs.1; omega) hs.2⟩
theorem path_last {sv : List S71} (hG : GoodSv sv) (s : Int) (hs : inR sv.length s) : ∃ r, pathS sv s = r ++ [-1] := by
 refine path_ind hG (P := fun s => ∃ r, pathS sv s = r ++ [-1]) ⟨[], path_root sv⟩ (fun s h0 h1 ih => ?_) s hs
 obtain ⟨r, hr⟩ := ih
 exact ⟨s :: r, by rw [path_step hG h0 h1, hr]; rfl⟩
end Go.Proofs.Ytfldklimlcnnnaa.QTree
end

section
namespace Go.Proofs.Ytfldklimlcnnnaa.XGo
open Go.RowKit Go.Proofs.Ytfldklimlcnnnaa.XBy
variable {F : Fence} {n : Nat} {P : Program} {α : Type}
def SeqG (F : Fence) (n : Nat) (P : Program) (gf : Nat) (lb : Array Value) (encs : α → Array Value) (Kr : World → World → Prop) (G : List α → α → Prop) (S Sp : List α → Prop) (w : World) : Prop :=
 ∀ (l : Nat) (J Jx : List α → World → Prop) (W : World), Below w.heap.size w W → AbidesFrom W.heap.size J → AbidesFrom W.heap.size Jx →
  (∀ pre x X, J pre X → G pre x → YieldAt F (n - 1) P l (encs x) X fun e X' =>
   (e = .returned (.bool true) ∧ J (pre ++ [x]) X' ∧ Kr X X') ∨ (e = .returned (.bool false) ∧ Jx (pre ++ [x]) X')) →
  J [] W →
  CallsIn F n P gf (#[.func (.yield l) #[] #[]] ++ lb) W fun e W' => (∃ v, e = .returned v) ∧ ((∃ xs, S xs ∧ J xs W') ∨ ∃ pre, Sp pre ∧ Jx pre W')
def roundG (D : Nat) (Kr : World → World → Prop) (I : List α → World → Prop) (Ix : Code → List α → World → Prop) (xs : List α) (W : World) : Exit → Act → World → Prop
 | .normal, _, W' => KeepsFrom D W W' ∧ Kr W W' ∧ I xs W'
 | .ret, _, W' => KeepsFrom D W W' ∧ Ix .ret xs W'
 | .exit id, _, W' => KeepsFrom D W W' ∧ Ix (.exit id) xs W'
 | _, _, _ => False
theorem range_g {g : Operand} {ps : Array Tmp} {assign body : Code} {Q : Exit → Act → World → Prop} {a : Act} {w w0 : World} {gf : Nat} {lb : Array Value}
  (hro : F.round = none) (hn : 1 ≤ n) (hg : a.eval g = .func (.func gf) #[] lb) (hF : F.fn gf) (heg : ∀ args w, (callFunc gf args).run P w = .ok (.enter gf args) w)
  {encs : α → Array Value} {Kr : World → World → Prop} {G : List α → α → Prop} {S Sp : List α → Prop} (hseq : SeqG F (n - 1) P gf lb encs Kr G S Sp w0) (hw0 : Below w0.heap.size w0 w) (hps : ∀ x, (encs x).size = ps.size)
  (hKt : ∀ {A B C : World}, Kr A B → Kr B C → Kr A C) (hKb : ∀ (W : World) (l : Nat) (o o' : Obj), w.heap.size ≤ l → W.heap[l]? = some o → o.isCells = false → o.isWalk = false → Kr W (W.putObj l o'))
  (I : List α → World → Prop) (Ix : Code → List α → World → Prop) (hI : OwnFrom w.heap.size I) (hIx : ∀ c, OwnFrom w.heap.size (Ix c)) (h0 : I [] w) (a₁ : α → Act)
  (hassign : ∀ (l : Nat) (x : α) (W : World) (K : Act → World → Prop), K (a₁ x) W →
   assign.wpIn (F.inRound l) (n - 1 - 1) P (Exit.then K (fun _ _ _ => False)) { tmps := (ps.zip (encs x)).foldl (fun t (p, v) => t.setIfInBounds p v) a.tmps, defers := [] } W)
  (hbody : ∀ (l : Nat) (pre : List α) (x : α) (W : World), I pre W → G pre x → w.heap.size + 1 < W.heap.size → body.wpIn (F.inRound l) (n - 1 - 1) P (roundG w.heap.size Kr I Ix (pre ++ [x]) W) (a₁ x) W)
  (hdone : ∀ (xs : List α) (W : World), S xs → I xs W → W.heap[w.heap.size]? = some (.deferred (some [])) → Q .normal { a with defers := { target := .collected w.heap.size, args := #[] } :: a.defers } W)
  (hstop : ∀ (c : Code) (pre : List α) (W : World), Sp pre → Ix c pre W → W.heap[w.heap.size]? = some (.deferred (some [])) → c.wpIn F n P Q { a with defers := { target := .collected w.heap.size, args := #[] } :: a.defers } W) :
  (Code.rangeFunc g ps assign body).wpIn F n P Q a w := by
 refine wpIn_rangeFunc fun fn hfn => ?_
 rw [hro]
 obtain ⟨r, hr⟩ : ∃ r : LoopState → Option Code → Loop, r = fun st pe => { state := st, pending := pe, fn, tmps := a.tmps, params := ps, assign, body, defers := w.heap.size } := ⟨_, rfl⟩
 obtain ⟨V, hV⟩ : ∃ V, V = (w.alloc (.deferred (some []))).alloc (.loop (r .ready none)) := ⟨_, rfl⟩
 have bV : Book w.heap.size (r .ready none) V := by
  rw [hV]
  refine ⟨(Below.heap_alloc _ _ _ (by simp)).trans (World.alloc_heap_new w _), ?_⟩
  have := World.alloc_heap_new (w.alloc (.deferred (some []))) (.loop (r .ready none))
  rwa [World.size_alloc] at this
 have iV : I [] V := by rw [hV]; exact hI.alloc _ (hI.alloc _ h0)
 have wV : Below w0.heap.size w0 V := by
  rw [hV]
  exact hw0.trans ((((Below.refl _ w).alloc (Nat.le_refl _) _).alloc (by simp) _).mono hw0.size)
 have hVs : V.heap.size = w.heap.size + 2 := by rw [hV]; simp
 refine ⟨w.heap.size + 1, [{ target := .collected w.heap.size, args := #[] }], V, { target := .fn (.func gf) lb, args := #[.func (.yield (w.heap.size + 1)) #[] #[]] }, V, gf,
  #[.func (.yield (w.heap.size + 1)) #[] #[]] ++ lb, V, by rw [hV, hr]; exact run_enterLoop_outer _ _ _ _ _, by simp only [resolve, hg]; simp [go_sem], fun f' h => by simp [Target.leads] at h; subst h; exact hF, by simp [invoke, go_sem, heg], fun _ => hn, ?_⟩
 refine (hseq (w.heap.size + 1) (fun pre W => I pre W ∧ Book w.heap.size (r .ready none) W) (fun pre W => ∃ c, Ix c pre W ∧ Book w.heap.size (r .done (some c)) W) V wV ?_ ?_ ?_ ⟨iV, bV⟩).mono ?_
 ·intro s X X' row h hg' hrow
  exact ⟨hI s X X' row h.1 hg' (fun k e => ⟨by have := (hrow k e).1; omega, (hrow k e).2.imp fun o ho => ⟨ho.1, Obj.not_cells_of_walk ho.2⟩⟩), h.2.grown hg' (fun k e => by have := (hrow k e).1; omega)⟩
 ·rintro s X X' row ⟨c, h1, h2⟩ hg' hrow
  exact ⟨c, hIx c s X X' row h1 hg' (fun k e => ⟨by have := (hrow k e).1; omega, (hrow k e).2.imp fun o ho => ⟨ho.1, Obj.not_cells_of_walk ho.2⟩⟩), h2.grown hg' (fun k e => by have := (hrow k e).1; omega)⟩
 ·-- a round
  rintro pre x X ⟨hi, hb⟩ hG
  have hy := run_yield (P := P) (args := encs x) hb.loop (by rw [hr]; exact hps x)
  rw [hr] at hy
  have hb2 := hb.turned { r .ready none with state := .busy }
  have hturn : Kr X (X.putObj (w.heap.size + 1) (.loop { r .ready none with state := .busy })) := hKb _ _ _ _ (by omega) hb.loop rfl rfl
  refine ⟨fn, _, assign, body, hy, roundIn_of_wpIn hfn (hassign _ x X _ ⟨_, run_beginRound hb.loop (by rw [hr]), ?_⟩)⟩
  clear hy
  refine wpIn_mono (hbody _ pre x _ (hI.putObj _ hi (by omega) hb.loop rfl) hG (by simp [World.putObj]; have := hb.lt; omega)) ?_
  have hend : ∀ (jump : Option Code) (Y : World), KeepsFrom w.heap.size (X.putObj (w.heap.size + 1) (.loop { r .ready none with state := .busy })) Y →
    Book w.heap.size { r .ready none with state := .busy } Y ∧ (Instr.endRound (w.heap.size + 1) jump).run P Y = .ok (.bool jump.isNone) (Y.putObj (w.heap.size + 1) (.loop (r (if jump.isNone then .ready else .done) jump))) := fun jump Y hk => by
   have hbY := hb2.kept hk
   have := run_endRound (P := P) jump hbY.loop
   rw [hr] at this ⊢
   exact ⟨by rw [hr] at hbY; exact hbY, this⟩
  rintro e a3 Y hp
  cases e with
  | normal =>
   obtain ⟨hk, hrY, hiY⟩ := hp
   obtain ⟨hbY, hrun⟩ := hend none Y hk
   refine ⟨_, _, hrun, .inl ⟨rfl, ⟨hI.putObj _ hiY (by omega) hbY.loop rfl, hbY.turned _⟩, hKt (hKt hturn hrY) (hKb _ _ _ _ (by omega) hbY.loop rfl rfl)⟩⟩
  | ret =>
   obtain ⟨hk, hiY⟩ := hp
   obtain ⟨hbY, hrun⟩ := hend (some .ret) Y hk
   exact ⟨_, _, hrun, .inr ⟨rfl, .ret, (hIx _).putObj _ hiY (by omega) hbY.loop rfl, hbY.turned _⟩⟩
  | exit id =>
   obtain ⟨hk, hiY⟩ := hp
   obtain ⟨hbY, hrun⟩ := hend (some (.exit id)) Y hk
   exact ⟨_, _, hrun, .inr ⟨rfl, .exit id, (hIx _).putObj _ hiY (by omega) hbY.loop rfl, hbY.turned _⟩⟩
  | goto t => exact hp.elim
  | panic ch => exact hp.elim
  | outgrown => exact hp.elim
 ·rintro e Y ⟨⟨v, rfl⟩, (⟨xs, hS, hi, hb⟩ | ⟨pre, hSp, c, hi, hb⟩)⟩
  ·exact ⟨none, _, by have := run_endLoop (P := P) hb.loop (by rw [hr]; simp); rw [hr] at this; exact this, hdone xs _ hS (hI.putObj _ hi (by omega) hb.loop rfl) ((World.putObj_heap_other (by omega)).trans hb.defs)⟩
  ·exact ⟨some c, _, by have := run_endLoop (P := P) hb.loop (by rw [hr]; simp); rw [hr] at this; exact this, hstop c pre _ hSp ((hIx c).putObj _ hi (by omega) hb.loop rfl) ((World.putObj_heap_other (by omega)).trans hb.defs)⟩
end Go.Proofs.Ytfldklimlcnnnaa.XGo
end

section
namespace Go.Proofs.Ytfldklimlcnnnaa.XPath
open Go.RowKit Go.Proofs.Ytfldklimlcnnnaa.PHq Go.Proofs.YtfldklimlcnnnaaW.PrintWords Go.Proofs.YtfldklimlcnnnaaW.PrintLast Go.Proofs.YtfldklimlcnnnaaW.PrintMore Go.Proofs.Ytfldklimlcnnnaa.MWords
open Go.Proofs.Ytfldklimlcnnnaa.XHold Go.Proofs.Ytfldklimlcnnnaa.XLed Go.Proofs.Ytfldklimlcnnnaa.XTree Go.Proofs.Ytfldklimlcnnnaa.QTree Go.Proofs.Ytfldklimlcnnnaa.XWts Go.Proofs.Ytfldklimlcnnnaa.XGo
attribute [local go_sem] Oper.semAt_some
def Tm.rd (M : Tm) (n : Nat) (k : Nat) : Prop := k = M.t ∨ (0 < n ∧ ∃ ad, M.A = some ad ∧ k = ad.block)
structure Kq (M : Tm) (n B1 : Nat) (X Y : World) : Prop where
 size : X.heap.size ≤ Y.heap.size
 same : ∀ k, k = B1 ∨ Tm.rd M n k → k < X.heap.size → Y.heap[k]? = X.heap[k]?
theorem Kq.trans {M : Tm} {n B1 : Nat} {X Y Z : World} (h : Kq M n B1 X Y) (k : Kq M n B1 Y Z) : Kq M n B1 X Z := ⟨Nat.le_trans h.size k.size, fun j hj hl => (k.same j hj (Nat.lt_of_lt_of_le hl h.size)).trans (h.same j hj hl)⟩
structure Rd (M : Tm) (sv : List S71) (B1 : Nat) (W : World) : Prop where
 box : MBlk W B1 67 #[.pointer (some ⟨M.t, 0, none⟩)]
 cells : MBlk W M.t 119 #[.slice M.A sv.length M.c, .slice (some ⟨M.Al, 0, none⟩) (sv.length + 1) M.cl, .map (some M.m)]
 row : Kd.C k71 W M.A sv.length sv
 rowt : 0 < sv.length → ∀ ad, M.A = some ad → ∃ cs fr, W.heap[ad.block]? = some (.cells cs 71 fr)
theorem Rd.kept {M : Tm} {sv : List S71} {B1 : Nat} {W W' : World} (h : Rd M sv B1 W) (hk : Kq M sv.length B1 W W') : Rd M sv B1 W' where
 box := (hk.same _ (.inl rfl) (mblk_lt h.box)).trans h.box
 cells := (hk.same _ (.inr (.inl rfl)) (mblk_lt h.cells)).trans h.cells
 row := C_blk h.row fun h0 ad e => by
  obtain ⟨cs, fr, h1⟩ := h.rowt h0 ad e
  exact hk.same _ (.inr (.inr ⟨h0, ad, e, rfl⟩)) (Array.getElem?_eq_some_iff.1 h1).1
 rowt := fun h0 ad e => by
  obtain ⟨cs, fr, h1⟩ := h.rowt h0 ad e
  exact ⟨cs, fr, (hk.same _ (.inr (.inr ⟨h0, ad, e, rfl⟩)) (Array.getElem?_eq_some_iff.1 h1).1).trans h1⟩
theorem Rd.below {M : Tm} {sv : List S71} {B1 : Nat} {W W' : World} (h : Rd M sv B1 W) (hb : Below W.heap.size W W') : Rd M sv B1 W' := h.kept ⟨hb.size, fun k _ hk => hb.block k hk⟩
theorem Rd.of {M : Tm} {sv : List S71} {at_ : List (Int × Int)} {al : Int → Rat} {ls : Int → List (Int × Hd)} {B1 : Nat} {W : World} (h : Tre W M sv at_ al ls) (hb : MBlk W B1 67 #[.pointer (some ⟨M.t, 0, none⟩)]) : Rd M sv B1 W := ⟨hb, h.cells, h.row, h.rowt⟩
set_option maxRecDepth 100000 in
set_option maxHeartbeats 4000000 in
theorem path_seq (M : Tm) (sv : List S71) (B1 B2 : Nat) (s0 : Int) (w : World) (hG : GoodSv sv) (hn : sv.length ≤ 1000) (hs : inR sv.length s0) (hR : Rd M sv B1 w) (h2 : MBlk w B2 3 #[.int .i64 s0]) :
  SeqG Fence.wide 5 Try.prog 114 #[.pointer (some ⟨B2, 0, none⟩), .pointer (some ⟨B1, 0, none⟩)] (fun s : Int => #[.int .i64 s]) (Kq M sv.length B1) (fun pre x => ∃ r, pathS sv s0 = pre ++ x :: r) (fun xs => xs = pathS sv s0) (fun pre => ∃ r, pathS sv s0 = pre ++ r) w := by
 intro lo J Jx W hW hJ hJx hY h0
 have HR := Aside0.mk (hR.below hW)
 have k0 : W.cell? ⟨B2, 0, none⟩ = some (.int .i64 s0) := (mblk_cell ((hW.block _ (mblk_lt h2)).trans h2) 0).trans rfl
 have HY := Aside0.mk hY
 have H0 := Aside0.mk h0
 have HG := Aside0.mk hG
 have HS := Aside0.mk hs
 have HN := Aside0.mk hn
 clear hY h0 hG hs hn hR h2 hW hJ hJx
 refine callsIn_of_wp Try.func114 rfl trivial ?_ rfl
 simp only [Try.ntmps114, List.size_toArray, List.length_cons, List.length_nil, Nat.reduceAdd, Nat.reduceSub, Array.replicate_succ, Array.replicate_zero, List.push_toArray, List.append_toArray, List.nil_append, List.cons_append]
 gi_wp2_with fail
 gi_loopw [4] (fun v wr => ∃ (s : Int) (pre : List Int), v = .int .i64 s ∧ inR sv.length s ∧ Aside0 (pathS sv s0 = pre ++ pathS sv s) ∧ Aside0 (J pre wr) ∧ Aside0 (Rd M sv B1 wr)) (fun v _ => (intOf v + 1).toNat)
 case atStart => exact ⟨s0, [], rfl, HS.out, ⟨rfl⟩, H0, HR⟩
 case round =>
  obtain ⟨s, pre, rfl, hs, HP, HJ, HRd⟩ := hrel
  have HI := Aside0.mk hs
  clear H0 HR
  have hs1 := hs.1
  have hs2 := hs.2
  by_cases e : s = -1
  ·subst e
   have HP1 := Aside0.mk (show pathS sv s0 = pre ++ [-1] from HP.out)
   clear HP hs hs1 hs2
   obtain ⟨fn, tmps, assign, body, hy, hR⟩ := HY.out pre (-1) _ HJ.out ⟨[], HP1.out⟩
   gi_wp2
   refine hR.mono ?_
   rintro e W3 (⟨rfl, hJ3, hk3⟩ | ⟨rfl, hJx3⟩)
   ·have HX := Aside0.mk hJ3
    clear hJ3 hk3 hy hR
    gi_wp2
    go_end0
    exact ⟨⟨_, rfl⟩, .inl ⟨_, HP1.out.symm, HX.out⟩⟩
   ·have HX := Aside0.mk hJx3
    clear hJx3 hy hR
    gi_wp2
    go_end0
    exact ⟨⟨_, rfl⟩, .inr ⟨_, ⟨[], by rw [HP1.out]; simp⟩, HX.out⟩⟩
  ·have h0 : 0 ≤ s := by omega
   have HP1 := Aside0.mk (show pathS sv s0 = (pre ++ [s]) ++ pathS sv (par sv s) by rw [HP.out, path_step HG.out h0 hs2]; simp)
   have c1 : (s == (-1 : Int)) = false := beq_eq_false_iff_ne.mpr e
   have c2 : (s != (-1 : Int)) = true := bne_iff_ne.mpr e
   have c3 : (s = (-1 : Int)) = False := eq_false e
   have HS0 := Aside0.mk (And.intro h0 hs2)
   clear HP hs hs1 hs2 e h0
   obtain ⟨fn, tmps, assign, body, hy, hR⟩ := HY.out pre s _ HJ.out ⟨pathS sv (par sv s), by rw [HP1.out]; simp⟩
   gi_wp2
   refine hR.mono ?_
   rintro e W3 (⟨rfl, hJ3, hk3⟩ | ⟨rfl, hJx3⟩)
   ·have HR3 := Aside0.mk (HRd.out.kept hk3)
    have HJ3 := Aside0.mk hJ3
    clear hJ3 hk3 hy hR
    obtain ⟨ad, hA, hc, _⟩ := at_T71 HR3.out.row s HS0.out.1 HS0.out.2
    have b0 : W3.cell? ⟨B1, 0, none⟩ = some (.pointer (some ⟨M.t, 0, none⟩)) := (mblk_cell HR3.out.box 0).trans rfl
    have b1 : W3.cell? ⟨M.t, 0, none⟩ = some (.slice (some ad) sv.length M.c) := by rw [← hA]; exact (mblk_cell HR3.out.cells 0).trans rfl
    have q1 : (0 ≤ s) = True := eq_true HS0.out.1
    have q2 : (s < (sv.length : Int)) = True := eq_true HS0.out.2
    have q3 : (s.toNat < sv.length) = True := eq_true (by have := HS0.out; omega)
    have hpar := HG.out s HS0.out.1 HS0.out.2
    have hc' : W3.cell? (ad.add (s.toNat * 3)) = some (.int .i64 (par sv s)) := hc
    obtain ⟨p, hp⟩ : ∃ p, par sv s = p := ⟨_, rfl⟩
    rw [hp] at hc' hpar
    have HPP := Aside0.mk (And.intro hp hpar)
    clear hc hA hpar hp
    gi_wp2
    go_roundw
    case rel => exact ⟨p, pre ++ [s], rfl, ⟨HPP.out.2.1, by have := HPP.out.2.2; have := HS0.out.2; omega⟩, ⟨by rw [HP1.out, HPP.out.1]⟩, HJ3, HR3⟩
    case measure =>
     have h1 := HPP.out.2
     have h2 := HS0.out
     show (p + 1).toNat < (s + 1).toNat
     omega
   ·have HX := Aside0.mk hJx3
    clear hJx3 hy hR
    gi_wp2
    refine bodyPost_ret (results_none rfl _ _ _) rfl ?_
    exact ⟨⟨_, rfl⟩, .inr ⟨_, ⟨_, HP1.out⟩, HX.out⟩⟩
theorem path_calls (t : Nat) (s : Int) (w : World) :
  Calls Try.prog 85 #[.pointer (some ⟨t, 0, none⟩), .int .i64 s] w fun e w' => e = .returned (.func (.func 114) #[] #[.pointer (some ⟨w.heap.size + 1, 0, none⟩), .pointer (some ⟨w.heap.size, 0, none⟩)]) ∧ w' = (w.alloc (.cells #[.pointer (some ⟨t, 0, none⟩)] 67)).alloc (.cells #[.int .i64 s] 3) := by
 go_enter Try.func85, Try.ntmps85
 go_wp2_with fail
 go_ret
 exact ⟨by simp, rfl⟩
end Go.Proofs.Ytfldklimlcnnnaa.XPath
end

section
namespace Go.Proofs.Ytfldklimlcnnnaa.XPuts
open Go.RowKit Go.Shelf Go.Proofs.Ytfldklimlcnnnaa.PHq Go.Proofs.YtfldklimlcnnnaaW.PrintWords Go.Proofs.YtfldklimlcnnnaaW.PrintLast Go.Proofs.YtfldklimlcnnnaaW.PrintMore Go.Proofs.Ytfldklimlcnnnaa.MWords
open Go.Proofs.Ytfldklimlcnnnaa.MNat Go.Proofs.Ytfldklimlcnnnaa.QNat Go.Proofs.Ytfldklimlcnnnaa.QText Go.Proofs.Ytfldklimlcnnnaa.QEv Go.Proofs.Ytfldklimlcnnnaa.QRatio Go.Proofs.Ytfldklimlcnnnaa.XRV Go.Proofs.Ytfldklimlcnnnaa.XHold Go.Proofs.Ytfldklimlcnnnaa.XWts Go.Proofs.Ytfldklimlcnnnaa.XLed
theorem map_put {W : World} {b : Nat} {l : List (Int × Hd)} (h : MapIs W b l) (hl : l.length ≤ 1000000) {x : Int} (hx : wfI x) (k : Hd) :
  ∃ w', (Instr.mapUpdate 94 (.map (some b)) (.int .i64 x) (hdV k)).run Try.prog W = .ok () w' ∧ MapIs w' b (setL l x k) ∧ W.mapTurned w' b := by
 obtain ⟨D, hD, hV⟩ := h
 obtain ⟨w', hrun, h1, h2⟩ := hD.store keyed Try.underlying94 (by unfold maxLen; omega) (key_of hx) (hdR_mk k)
 have hv := hV.put (hD.tidy keyed) hx k
 have h3 := own_size h1
 rw [hv.size] at h3
 exact ⟨w', hrun, ⟨_, h3, hv⟩, h2⟩
theorem led_turn {W W' : World} {g b : Nat} {all q : Rat} {l l' : List (Int × Hd)} (h : Led W g b all q l) (hm : MapIs W' b l') (ht : W.mapTurned W' b) : Led W' g b all q l' := by
 obtain ⟨x, y, u, v, h1, h2, h3⟩ := h.cells
 obtain ⟨es, c, h4⟩ := h.map.obj
 have hs : ∀ k, k < W.heap.size → k ≠ b → W'.heap[k]? = W.heap[k]? := fun k hk hne => ht.grown.block k hk (fun e => hne (by injection e))
 have hk : ∀ k, k < W.heap.size → ¬ NoLimb W k → W'.heap[k]? = W.heap[k]? := fun k hlt hn => hs k hlt (fun e => hn (by rw [e]; exact noLimb_map h4))
 exact ⟨⟨x, y, u, v, (hs g (mblk_lt h1) h.ne).trans h1, h2.near hk, h3.near hk⟩, hm⟩
theorem kp_turn {W W' : World} {g b : Nat} (ht : W.mapTurned W' b) : Kp g b W W' := ⟨ht.grown.os, ht.grown.tape, ht.grown.output, ht.grown.size, fun k hk _ h2 => ht.grown.block k hk (fun e => h2 (by injection e))⟩
set_option maxRecDepth 100000 in
set_option maxHeartbeats 4000000 in
theorem puts_calls (g b : Nat) (all q : Rat) (l : List (Int × Hd)) (z : Int) (h : Hd) (w : World) (hL : Led w g b all q l) (hx : wfI z) (hl : l.length ≤ 1000000) (hG : GoodL (setL l z h)) :
  Calls Try.prog 67 #[.pointer (some ⟨g, 0, none⟩), .int .i64 z, hdV h] w fun e w' => (∃ v, e = .returned v) ∧ Led w' g b all (heldL (setL l z h)) (setL l z h) ∧ Kp g b w w' := by
 obtain ⟨W0, hW0⟩ : ∃ W0, W0 = w.alloc (.cells #[.int .i64 h.e, .int .i64 h.p, .int .i64 h.e2, .int .i64 h.p2, .bool h.a] 102) := ⟨_, rfl⟩
 have hb0 : Below w.heap.size w W0 := by rw [hW0]; exact below_alloc (Below.refl _ _) _
 have hM0 : MBlk W0 w.heap.size 102 #[.int .i64 h.e, .int .i64 h.p, .int .i64 h.e2, .int .i64 h.p2, .bool h.a] := by rw [hW0]; exact mblk_new _ _ _
 have HL0 := Aside0.mk ((hL.below hb0).below (below_drew (Below.refl W0.heap.size W0)))
 have HB0 := Aside0.mk hb0
 have HG := Aside0.mk hG
 obtain ⟨x, y, u, v, hM, _⟩ := HL0.out.cells
 have k1 : W0.cell? ⟨g, 2, none⟩ = some (.map (some b)) := (mblk_cell (show MBlk W0 g 97 _ from hM) 2).trans rfl
 have x0 : W0.cell? ⟨w.heap.size, 0, none⟩ = some (.int .i64 h.e) := (mblk_cell hM0 0).trans rfl
 have x1 : W0.cell? ⟨w.heap.size, 1, none⟩ = some (.int .i64 h.p) := (mblk_cell hM0 1).trans rfl
 have x2 : W0.cell? ⟨w.heap.size, 2, none⟩ = some (.int .i64 h.e2) := (mblk_cell hM0 2).trans rfl
 have x3 : W0.cell? ⟨w.heap.size, 3, none⟩ = some (.int .i64 h.p2) := (mblk_cell hM0 3).trans rfl
 have x4 : W0.cell? ⟨w.heap.size, 4, none⟩ = some (.bool h.a) := (mblk_cell hM0 4).trans rfl
 obtain ⟨w2, hrun, hm2, ht2⟩ := map_put HL0.out.map hl hx h
 have HM2 := Aside0.mk (And.intro hm2 ht2)
 simp only [hdV] at hrun ⊢
 clear hL hb0 hG hM0 hm2 ht2 hM
 go_enter Try.func67, Try.ntmps67
 go_upto_region 1 with fail
 rw [← hW0]
 clear hW0
 go_region
 have HL2 := Aside0.mk (led_turn HL0.out HM2.out.1 HM2.out.2)
 have HK2 := Aside0.mk (((Kp.of HB0.out).trans (Kp.of (below_drew (Below.refl W0.heap.size W0)))).trans (kp_turn (g := g) HM2.out.2))
 clear hrun HL0 HB0 HM2 k1 x0 x1 x2 x3 x4
 go_wp2_with fail
 refine (counts_calls g b all q _ _ HL2.out HG.out).mono ?_
 rintro e w3 ⟨⟨v, rfl⟩, hL3, hK3⟩
 have HL3 := Aside0.mk (And.intro hL3 (HK2.out.trans hK3))
 clear hL3 hK3
 go_wp2_with fail
 go_end0
 exact ⟨⟨_, rfl⟩, HL3.out⟩
theorem map_get {W : World} {b : Nat} {l : List (Int × Hd)} (h : MapIs W b l) {z : Int} (hz : wfI z) :
  (Instr.lookup 94 (.map (some b)) (.int .i64 z) true).run Try.prog W = .ok (.tuple #[hdV ((getL l z).getD zeroH), .bool (hasL l z)]) W := by
 obtain ⟨D, hD, hV⟩ := h
 obtain ⟨v, ps, hrun, hv⟩ := hD.look_ok keyed Try.underlying94 (zeroE W) (hdR_mk zeroH) (key_of hz)
 rw [hV.get z] at hv
 obtain ⟨c, rfl, hc⟩ := hdR_inv hv
 rw [hdD_inj (congrArg Prod.fst hc)]
 rw [hrun, show Maps.has D (.int .i64 z) = hasL l z from hV.has z]
set_option maxRecDepth 100000 in
set_option maxHeartbeats 4000000 in
theorem of_calls (g b : Nat) (all q : Rat) (l : List (Int × Hd)) (z : Int) (h : Hd) (w : World) (hL : Led w g b all q l) (hx : wfI z) (hh : h = (getL l z).getD zeroH) :
  Calls Try.prog 27 #[.pointer (some ⟨g, 0, none⟩), .int .i64 z] w fun e w' => e = .returned (.tuple #[.agg #[.int .i64 h.e, .int .i64 h.p], .agg #[.int .i64 h.e2, .int .i64 h.p2], .bool (hasL l z)]) ∧ Below w.heap.size w w' := by
 obtain ⟨W0, hW0⟩ : ∃ W0, W0 = (w.alloc (.cells #[.int .i64 0, .int .i64 0] 34)).alloc (.cells #[.int .i64 0, .int .i64 0] 34) := ⟨_, rfl⟩
 have ha : (w.alloc (.cells #[.int .i64 0, .int .i64 0] 34)).heap.size = w.heap.size + 1 := by simp
 have hb0 : Below w.heap.size w W0 := by rw [hW0]; exact below_alloc (below_alloc (Below.refl _ _) _) _
 have hM0 : MBlk W0 w.heap.size 34 #[.int .i64 0, .int .i64 0] := by rw [hW0]; exact mblk_alloc (mblk_new _ _ _) _
 have hM1 : MBlk W0 (w.heap.size + 1) 34 #[.int .i64 0, .int .i64 0] := by rw [hW0, ← ha]; exact mblk_new _ _ _
 have HB0 := Aside0.mk hb0
 have HL0 := hL.below hb0
 obtain ⟨x, y, u, v, hM, _⟩ := HL0.cells
 have k1 : W0.cell? ⟨g, 2, none⟩ = some (.map (some b)) := (mblk_cell hM 2).trans rfl
 have hrun := map_get HL0.map hx
 rw [← hh] at hrun
 simp only [hdV] at hrun
 have HS0 := Aside0.mk (show W0.heap.size = w.heap.size + 2 by rw [hW0]; simp)
 obtain ⟨W1, hW1⟩ : ∃ W1, W1 = W0.alloc (.cells #[.int .i64 h.e, .int .i64 h.p, .int .i64 h.e2, .int .i64 h.p2, .bool h.a] 102) := ⟨_, rfl⟩
 have HM0 := Aside0.mk (show MBlk W1 w.heap.size 34 #[.int .i64 0, .int .i64 0] by rw [hW1]; exact mblk_alloc hM0 _)
 have HM1 := Aside0.mk (show MBlk W1 (w.heap.size + 1) 34 #[.int .i64 0, .int .i64 0] by rw [hW1]; exact mblk_alloc hM1 _)
 have HM2 := Aside0.mk (show MBlk W1 (w.heap.size + 2) 102 #[.int .i64 h.e, .int .i64 h.p, .int .i64 h.e2, .int .i64 h.p2, .bool h.a] by rw [hW1, ← HS0.out]; exact mblk_new _ _ _)
 have HB1 := Aside0.mk (show Below w.heap.size w W1 by rw [hW1]; exact below_alloc hb0 _)
 have HW1 := Aside0.mk hW1
 clear hL hb0 hM0 hM1 HL0 hM ha hW1 hh
 go_enter Try.func27, Try.ntmps27
 go_upto_region 3 with fail
 rw [← hW0]
 clear hW0
 go_upto_region 4 with fail
 rw [← HW1.out, HS0.out]
 clear HW1 HS0 k1 hrun HB0
 have y0 : W1.cell? ⟨w.heap.size, 0, none⟩ = some (.int .i64 0) := (mblk_cell HM0.out 0).trans rfl
 have y1 : W1.cell? ⟨w.heap.size, 1, none⟩ = some (.int .i64 0) := (mblk_cell HM0.out 1).trans rfl
 have y2 : W1.cell? ⟨w.heap.size + 1, 0, none⟩ = some (.int .i64 0) := (mblk_cell HM1.out 0).trans rfl
 have y3 : W1.cell? ⟨w.heap.size + 1, 1, none⟩ = some (.int .i64 0) := (mblk_cell HM1.out 1).trans rfl
 have f0 : W1.frozen? ⟨w.heap.size, 0, none⟩ = false := mblk_frozen HM0.out 0
 have f1 : W1.frozen? ⟨w.heap.size, 1, none⟩ = false := mblk_frozen HM0.out 1
 have f2 : W1.frozen? ⟨w.heap.size + 1, 0, none⟩ = false := mblk_frozen HM1.out 0
 have f3 : W1.frozen? ⟨w.heap.size + 1, 1, none⟩ = false := mblk_frozen HM1.out 1
 have x0 : W1.cell? ⟨w.heap.size + 2, 0, none⟩ = some (.int .i64 h.e) := (mblk_cell HM2.out 0).trans rfl
 have x1 : W1.cell? ⟨w.heap.size + 2, 1, none⟩ = some (.int .i64 h.p) := (mblk_cell HM2.out 1).trans rfl
 have x2 : W1.cell? ⟨w.heap.size + 2, 2, none⟩ = some (.int .i64 h.e2) := (mblk_cell HM2.out 2).trans rfl
 have x3 : W1.cell? ⟨w.heap.size + 2, 3, none⟩ = some (.int .i64 h.p2) := (mblk_cell HM2.out 3).trans rfl
 go_region
 go_wp2_with fail
 obtain ⟨Wf, hWf⟩ : ∃ Wf, Wf = (((W1.setCell ⟨w.heap.size, 0, none⟩ (.int .i64 h.e)).setCell ⟨w.heap.size, 1, none⟩ (.int .i64 h.p)).setCell ⟨w.heap.size + 1, 0, none⟩ (.int .i64 h.e2)).setCell ⟨w.heap.size + 1, 1, none⟩ (.int .i64 h.p2) := ⟨_, rfl⟩
 have hA : MBlk Wf w.heap.size 34 #[.int .i64 h.e, .int .i64 h.p] := by
  rw [hWf]
  exact mblk_far (mblk_far (mblk_set (mblk_set HM0.out 0 _) 1 _) (p := ⟨w.heap.size + 1, 0, none⟩) (by simp) _) (p := ⟨w.heap.size + 1, 1, none⟩) (by simp) _
 have hB : MBlk Wf (w.heap.size + 1) 34 #[.int .i64 h.e2, .int .i64 h.p2] := by
  rw [hWf]
  exact mblk_set (mblk_set (mblk_far (mblk_far HM1.out (p := ⟨w.heap.size, 0, none⟩) (by simp) _) (p := ⟨w.heap.size, 1, none⟩) (by simp) _) 0 _) 1 _
 have hbf : Below w.heap.size w Wf := by
  rw [hWf]
  exact (((HB1.out.setCell (p := ⟨w.heap.size, 0, none⟩) (Nat.le_refl _) _).setCell (p := ⟨w.heap.size, 1, none⟩) (Nat.le_refl _) _).setCell (p := ⟨w.heap.size + 1, 0, none⟩) (by simp) _).setCell (p := ⟨w.heap.size + 1, 1, none⟩) (by simp) _
 rw [← hWf]
 clear hWf y0 y1 y2 y3 f0 f1 f2 f3 x0 x1 x2 x3
 have e0 : Wf.drew.cell? ⟨w.heap.size, 0, none⟩ = some (.int .i64 h.e) := (mblk_cell hA 0).trans rfl
 have e1 : Wf.drew.cell? ⟨w.heap.size, 1, none⟩ = some (.int .i64 h.p) := (mblk_cell hA 1).trans rfl
 have e2 : Wf.drew.cell? ⟨w.heap.size + 1, 0, none⟩ = some (.int .i64 h.e2) := (mblk_cell hB 0).trans rfl
 have e3 : Wf.drew.cell? ⟨w.heap.size + 1, 1, none⟩ = some (.int .i64 h.p2) := (mblk_cell hB 1).trans rfl
 refine bodyPost_ret (v := .tuple #[.agg #[.int .i64 h.e, .int .i64 h.p], .agg #[.int .i64 h.e2, .int .i64 h.p2], .bool (hasL l z)]) (by simp [results, Try.results27, go_sem, e0, e1, e2, e3]) rfl ⟨rfl, below_drew hbf⟩
end Go.Proofs.Ytfldklimlcnnnaa.XPuts
end

section
namespace Go.Proofs.Ytfldklimlcnnnaa.XNew
open Go.RowKit Go.Shelf Go.Proofs.Ytfldklimlcnnnaa.PHq Go.Proofs.YtfldklimlcnnnaaW.PrintWords Go.Proofs.YtfldklimlcnnnaaW.PrintLast Go.Proofs.YtfldklimlcnnnaaW.PrintMore Go.Proofs.Ytfldklimlcnnnaa.MWords
open Go.Proofs.Ytfldklimlcnnnaa.MNat Go.Proofs.Ytfldklimlcnnnaa.QNat Go.Proofs.Ytfldklimlcnnnaa.QText Go.Proofs.Ytfldklimlcnnnaa.QEv Go.Proofs.Ytfldklimlcnnnaa.QRatio Go.Proofs.Ytfldklimlcnnnaa.XRV Go.Proofs.Ytfldklimlcnnnaa.XHold Go.Proofs.Ytfldklimlcnnnaa.XWts Go.Proofs.Ytfldklimlcnnnaa.XLed Go.Proofs.Ytfldklimlcnnnaa.XPuts
end Go.Proofs.Ytfldklimlcnnnaa.XNew
end

section
namespace Go.Proofs.Ytfldklimlcnnnaa.XOf
open Go.RowKit Go.Proofs.Ytfldklimlcnnnaa.PHq Go.Proofs.YtfldklimlcnnnaaW.PrintWords Go.Proofs.YtfldklimlcnnnaaW.PrintLast Go.Proofs.YtfldklimlcnnnaaW.PrintMore Go.Proofs.Ytfldklimlcnnnaa.MWords
open Go.Proofs.Ytfldklimlcnnnaa.MNat Go.Proofs.Ytfldklimlcnnnaa.QNat Go.Proofs.Ytfldklimlcnnnaa.QEv Go.Proofs.Ytfldklimlcnnnaa.QRatio Go.Proofs.Ytfldklimlcnnnaa.XRV Go.Proofs.Ytfldklimlcnnnaa.XHold Go.Proofs.Ytfldklimlcnnnaa.XLed Go.Proofs.Ytfldklimlcnnnaa.XNew Go.Proofs.Ytfldklimlcnnnaa.XTree Go.Proofs.Ytfldklimlcnnnaa.QTree
section
variable {w : World} {M : Tm} {sv : List S71} {at_ : List (Int × Int)} {al : Int → Rat} {ls : Int → List (Int × Hd)}
def thereB (n : Nat) (s : Int) : Bool := decide (-1 ≤ s) && decide (s < n)
theorem there_in {n : Nat} {s : Int} : thereB n s = true ↔ inR n s := by
 unfold thereB inR
 simp
set_option maxRecDepth 100000 in
set_option maxHeartbeats 2000000 in
theorem there_calls (hT : Tre w M sv at_ al ls) (s : Int) :
  Calls Try.prog 83 #[.pointer (some ⟨M.t, 0, none⟩), .int .i64 s] w fun e w' => e = .returned (.bool (thereB sv.length s)) ∧ w' = w := by
 have k0 := hT.cell0
 clear hT
 unfold thereB
 go_enter Try.func83, Try.ntmps83
 by_cases h1 : -1 ≤ s
 ·have d1 : decide (-1 ≤ s) = true := decide_eq_true h1
  rw [d1]
  clear h1
  go_wp2_with fail
  go_ret
  exact ⟨by simp, rfl⟩
 ·have d1 : decide (-1 ≤ s) = false := decide_eq_false h1
  rw [d1]
  clear h1
  go_wp2_with fail
  go_ret
  exact ⟨by simp, rfl⟩
set_option maxRecDepth 100000 in
set_option maxHeartbeats 2000000 in
theorem of_calls (hT : Tre w M sv at_ al ls) {s : Int} (hs : inR sv.length s) :
  Calls Try.prog 89 #[.pointer (some ⟨M.t, 0, none⟩), .int .i64 s] w fun e w' => e = .returned (.pointer (some ⟨M.g s, 0, none⟩)) ∧ Below w.heap.size w w' := by
 have mixed : Try.prog.follows Departure.mixedOrders = true := by kernel_rfl
 have k0 := hT.cell0
 have k1 := hT.cell1
 have k2 := hT.ptr_at hs
 go_enter Try.func89, Try.ntmps89
 by_cases e : s = -1
 ·subst e
  have k3 : w.cell? ⟨M.Al, sv.length, none⟩ = some (.pointer (some ⟨M.g (-1), 0, none⟩)) := k2
  have HT := Aside0.mk hT
  clear k2 hT hs
  go_wp2_with fail
  go_region
  go_wp2_with fail
  go_ret
  exact ⟨rfl, by first | exact Below.refl _ _ | exact below_drew1 (Below.refl _ _) | exact pw_below_drewN (Below.refl _ _) _⟩
 ·have c1 : (s == (-1 : Int)) = false := beq_eq_false_iff_ne.mpr e
  have c3 : (s = (-1 : Int)) = False := eq_false e
  have h0 : 0 ≤ s := by have := hs.1; omega
  have k3 : w.cell? ⟨M.Al, s.toNat, none⟩ = some (.pointer (some ⟨M.g s, 0, none⟩)) := by rw [← k2]; unfold ix; rw [if_neg e]
  have q1 : (0 ≤ s) = True := eq_true h0
  have q2 : (s < ((sv.length + 1 : Nat) : Int)) = True := eq_true (by have := hs.2; omega)
  have q4 : (s < (sv.length : Int) + 1) = True := eq_true (by have := hs.2; omega)
  have q3 : (s.toNat < sv.length + 1) = True := eq_true (by have := hs.2; omega)
  have HT := Aside0.mk hT
  clear k2 hT hs h0 e
  go_wp2_with fail
  go_ret
  exact ⟨rfl, Below.refl _ _⟩
def srvA (at_ : List (Int × Int)) (z : Int) : Int := if XAt.hasL at_ z = true then (XAt.getL at_ z).getD 0 else -2
set_option maxRecDepth 100000 in
set_option maxHeartbeats 2000000 in
theorem server_calls (hT : Tre w M sv at_ al ls) {z : Int} (hz : wfI z) :
  Calls Try.prog 58 #[.pointer (some ⟨M.t, 0, none⟩), .int .i64 z] w fun e w' => e = .returned (.int .i64 (srvA at_ z)) ∧ w' = w := by
 have k0 := hT.cell2
 have hrun := XAt.map_get hT.map hz
 clear hT
 unfold srvA
 generalize (XAt.getL at_ z).getD 0 = y at *
 go_enter Try.func58, Try.ntmps58
 cases hb : XAt.hasL at_ z with
 | true =>
  rw [hb] at hrun
  go_wp2_with fail
  go_ret
  exact ⟨by simp, rfl⟩
 | false =>
  rw [hb] at hrun
  go_wp2_with fail
  go_ret
  exact ⟨by simp, rfl⟩
end
end Go.Proofs.Ytfldklimlcnnnaa.XOf
end

section
namespace Go.Proofs.Ytfldklimlcnnnaa.XCollect
open Go.RowKit Go.Proofs.Ytfldklimlcnnnaa.PHq Go.Proofs.YtfldklimlcnnnaaW.PrintWords Go.Proofs.YtfldklimlcnnnaaW.PrintLast Go.Proofs.YtfldklimlcnnnaaW.PrintMore Go.Proofs.Ytfldklimlcnnnaa.MWords
open Go.Proofs.Ytfldklimlcnnnaa.MNat Go.Proofs.Ytfldklimlcnnnaa.QEv Go.Proofs.Ytfldklimlcnnnaa.XHold Go.Proofs.Ytfldklimlcnnnaa.XLed Go.Proofs.Ytfldklimlcnnnaa.XTree Go.Proofs.Ytfldklimlcnnnaa.QTree Go.Proofs.Ytfldklimlcnnnaa.XPath Go.Proofs.Ytfldklimlcnnnaa.XOf Go.Proofs.Ytfldklimlcnnnaa.XGo
attribute [local go_sem] Oper.semAt_some
theorem infoInt : (Try.prog.info? 3).map (fun i => (i.zero, i.size, i.bytes)) = some (some (.int .i64 0), 1, 8) := by kernel_rfl
theorem cell_put {W : World} {D : Nat} {o o' : Obj} (h : W.heap[D]? = some o) (ho : o.isCells = false) {a : Addr} {v : Value} (hc : W.cell? a = some v) : (W.putObj D o').cell? a = some v := by
 have hne : a.block ≠ D := fun e => by
  unfold World.cell? at hc
  rw [e, h] at hc
  cases o <;> simp_all [Obj.isCells]
 rw [← hc]
 exact cell_blk (World.putObj_heap_other hne)
theorem C_put {W : World} {D : Nat} {o o' : Obj} {A : Option Addr} {n : Nat} {xs : List Int} (h : W.heap[D]? = some o) (ho : o.isCells = false) (hC : Kd.C (Kd.int .i64) W A n xs) : Kd.C (Kd.int .i64) (W.putObj D o') A n xs :=
 ⟨hC.1, hC.2.1, fun hn => by
  obtain ⟨ad, e, hc⟩ := hC.2.2 hn
  refine ⟨ad, e, fun j p hj => ?_⟩
  obtain ⟨c, hs, hr, hcell⟩ := hc j p hj
  exact ⟨c, hs, hr, fun i u hu => cell_put h ho (hcell i u hu)⟩⟩
theorem below_put {N : Nat} {w W : World} {D : Nat} {o' : Obj} (h : Below N w W) (hD : N ≤ D) : Below N w (W.putObj D o') :=
 ⟨h.os, h.tape, h.output, by have := h.size; simp [World.putObj]; exact this, fun k hk => (World.putObj_heap_other (by omega)).trans (h.block k hk)⟩
structure PInv (B0 : Nat) (w : World) (pre : List Int) (W : World) : Prop where
 out : ∃ A c, MBlk W B0 22 #[.slice A pre.length c] ∧ Kd.R (Kd.int .i64) 3 W (B0 + 1) (fun _ => True) (.slice A pre.length c) pre
 keep : Below B0 w W
theorem PInv.own (B0 n : Nat) (w : World) (hw : B0 ≤ w.heap.size) (hn : B0 ≤ n) : OwnFrom n (PInv B0 w) := fun s X Y row h hg hr => by
 have hr' : ∀ r, row = some r → ∃ o : Obj, X.heap[r]? = some o ∧ o.isCells = false := fun r e => (hr r e).2
 obtain ⟨A, c, h1, h2⟩ := h.out
 exact ⟨⟨A, c, mblk_walk h1 hg hr', R_walk h2 hg hr'⟩, h.keep.grown hg (Nat.le_trans hw h.keep.size) (fun k e => by have := (hr k e).1; omega)⟩
theorem kq_put {M : Tm} {n B1 N : Nat} (hB : B1 < N) (hM : ∀ k, Tm.rd M n k → k < N) (W : World) (l : Nat) (o o' : Obj) (hl : N ≤ l) (h : W.heap[l]? = some o) : Kq M n B1 W (W.putObj l o') :=
 ⟨by simp [World.putObj], fun k hk _ => World.putObj_heap_other (fun e => by
  rcases hk with rfl | hk
  ·omega
  ·have := hM k hk; omega)⟩
set_option maxRecDepth 100000 in
set_option maxHeartbeats 4000000 in
theorem append_calls (M : Tm) (sv : List S71) (B1 B2 : Nat) (s0 : Int) (w : World) (hG : GoodSv sv) (hn : sv.length ≤ 1000) (hs : inR sv.length s0) (hR : Rd M sv B1 w) (h2 : MBlk w B2 3 #[.int .i64 s0]) :
  Calls Try.prog 113 #[.slice none 0 0, .func (.func 114) #[] #[.pointer (some ⟨B2, 0, none⟩), .pointer (some ⟨B1, 0, none⟩)]] w fun e w' => ∃ A c, e = .returned (.slice A (pathS sv s0).length c) ∧ (pathS sv s0).length ≤ c ∧ Kd.C (Kd.int .i64) w' A (pathS sv s0).length (pathS sv s0) ∧ Below w.heap.size w w' := by
 have HPL := Aside0.mk (path_len hG s0 hs)
 have HN := Aside0.mk hn
 obtain ⟨w1, hw1⟩ : ∃ w1, w1 = w.alloc (.cells #[.slice none 0 0] 22) := ⟨_, rfl⟩
 have hb1 : Below w.heap.size w w1 := by rw [hw1]; exact below_alloc (Below.refl _ _) _
 have HB1 := Aside0.mk hb1
 have HO1 := Aside0.mk (show MBlk w1 w.heap.size 22 #[.slice none 0 0] by rw [hw1]; exact mblk_new _ _ _)
 have HS1 := Aside0.mk (show w1.heap.size = w.heap.size + 1 by rw [hw1]; simp)
 have HSEQ := Aside0.mk (path_seq M sv B1 B2 s0 w1 hG hn hs (hR.below hb1) ((hb1.block _ (mblk_lt h2)).trans h2))
 have HOWN := Aside0.mk (show B1 < w1.heap.size ∧ ∀ k, Tm.rd M sv.length k → k < w1.heap.size from by
  have := hb1.size
  refine ⟨Nat.lt_of_lt_of_le (mblk_lt hR.box) this, fun k hk => Nat.lt_of_lt_of_le ?_ this⟩
  rcases hk with rfl | ⟨h0, ad, e, rfl⟩
  ·exact mblk_lt hR.cells
  ·obtain ⟨cs, fr, h1⟩ := hR.rowt h0 ad e
   exact (Array.getElem?_eq_some_iff.1 h1).1)
 have HLOW := Aside0.mk (show ∀ k, k = B1 ∨ Tm.rd M sv.length k → k < w.heap.size from fun k hk => by
  rcases hk with rfl | rfl | ⟨h0, ad, e, rfl⟩
  ·exact mblk_lt hR.box
  ·exact mblk_lt hR.cells
  ·obtain ⟨cs, fr, h1⟩ := hR.rowt h0 ad e
   exact (Array.getElem?_eq_some_iff.1 h1).1)
 clear hG hs hR h2 hb1 hn
 obtain ⟨pa, hpa⟩ : ∃ pa, pa = pathS sv s0 := ⟨_, rfl⟩
 rw [← hpa] at HPL HSEQ ⊢
 clear hpa
 refine (callsIn_wide (n := 6)).1 (callsIn_of_wp_marks Try.func113 rfl trivial (wpIn_wide.2 ?_) rfl)
 simp only [Try.ntmps113, List.size_toArray, List.length_cons, List.length_nil, Nat.reduceAdd, Nat.reduceSub, Array.replicate_succ, Array.replicate_zero, List.push_toArray, List.append_toArray, List.nil_append, List.cons_append]
 go_upto_region 1 with fail
 rw [← hw1]
 clear hw1
 go_wp2_with fail
 refine (wpIn_wide (n := 6)).1 ?_
 refine range_g (F := Fence.wide) (n := 6) rfl (by omega) (gf := 114) (lb := #[.pointer (some ⟨B2, 0, none⟩), .pointer (some ⟨B1, 0, none⟩)]) rfl trivial (enters_of Try.func114 (by kernel_rfl) rfl)
  (w0 := w1) HSEQ.out (Below.refl _ _) (fun _ => rfl) (fun h k => h.trans k) (fun W l o o' hl ho _ _ => kq_put HOWN.out.1 HOWN.out.2 W l o o' hl ho)
  (PInv w.heap.size w) (fun _ _ _ => False) (PInv.own _ _ w (Nat.le_refl _) (by rw [HS1.out]; omega)) (fun _ _ _ _ _ h _ _ => h) ⟨⟨none, 0, HO1.out, Kd.R_nil _ _ _ _ _⟩, HB1.out⟩
  (fun s => { tmps := #[.slice none 0 0, .func (.func 114) #[] #[.pointer (some ⟨B2, 0, none⟩), .pointer (some ⟨B1, 0, none⟩)], .pointer (some ⟨w.heap.size, 0, none⟩), undef, .slice none 0 0, .int .i64 s, .func (.func 114) #[] #[.pointer (some ⟨B2, 0, none⟩), .pointer (some ⟨B1, 0, none⟩)], .int .i64 s, undef, undef, undef, undef, undef], defers := [] })
  ?assign ?body ?done ?stop
 case assign =>
  intro lo s W K hK
  gi_wp2
  exact hK
 case body =>
  rintro lo pre s W hI ⟨r, hr⟩ _
  have hlen : pre.length < pa.length := by rw [hr]; simp
  clear hr
  obtain ⟨A, c, hO, hOR⟩ := hI.out
  have HI := Aside0.mk hI
  have HO := Aside0.mk hO
  have HOR := Aside0.mk hOR
  have k2 : W.cell? ⟨w.heap.size, 0, none⟩ = some (.slice A pre.length c) := (mblk_cell hO 0).trans rfl
  have HOB := Aside0.mk (show ∀ k, (Value.slice A pre.length c).ownBlock = some k → w.heap.size + 1 ≤ k from Kd.R_base hOR)
  have HWS := Aside0.mk (show w.heap.size + 1 ≤ W.heap.size from by have := mblk_lt hO; omega)
  have HLEN := Aside0.mk (show pre.length < 1001 by have := HPL.out; have := HN.out; omega)
  clear hI hO hOR
  gi_wp2_with (gi_at_builtin; refine appendIn (Kd.int .i64) (w.heap.size + 1) rfl (.tmp 8) (.tmp 10) 22 3 (.int .i64 0) 8 rfl Try.underlying22 infoInt rfl (by decide) (by omega) (.slice A pre.length c) pre s [.int .i64 s] (fun _ => True) (fun _ => False) rfl rfl rfl (fun _ h => h.elim) (fun _ _ => trivial) HOR.out HWS.out (by have := HLEN.out; omega) ?_; intro v1 w2 hR1 hg1; obtain ⟨A2, c2, e2⟩ := Kd.R_slice hR1; subst e2; have HR2 := Aside0.mk hR1; have HG2 := Aside0.mk hg1; have HO3 := Aside0.mk (show MBlk w2 w.heap.size 22 #[.slice A pre.length c] from (hg1.block w.heap.size (mblk_lt HO.out) (fun e => by have := HOB.out _ e.symm; omega)).trans HO.out); have k9 : w2.cell? ⟨w.heap.size, 0, none⟩ = some (.slice A pre.length c) := (mblk_cell HO3.out 0).trans rfl; have kf9 : w2.frozen? ⟨w.heap.size, 0, none⟩ = false := mblk_frozen HO3.out 0; clear hR1 hg1)
  have hK := (keeps_append HOR.out HG2.out).trans (KeepsOthers.setCell w2 ⟨w.heap.size, 0, none⟩ (.slice A2 (pre ++ [s]).length c2))
  have hb2 : Below w.heap.size w w2 := HI.out.keep.grown HG2.out (Nat.le_trans (Nat.le_add_right _ _) HWS.out) (fun k e => by have := HOB.out k e; omega)
  have hh : PInv w.heap.size w (pre ++ [s]) (w2.setCell ⟨w.heap.size, 0, none⟩ (.slice A2 (pre ++ [s]).length c2)) :=
   ⟨⟨A2, c2, mblk_set HO3.out 0 _, Kd.R_mono (Kd.R_step (Kd.R_bound HR2.out) (fun k hk _ => Below.heap_setCell w2 ⟨w.heap.size, 0, none⟩ _ k (by have := hk.2.1; show k ≠ w.heap.size; omega))) (fun _ _ => trivial)⟩, hb2.setCell (p := ⟨w.heap.size, 0, none⟩) (Nat.le_refl _) _⟩
  have hq : Kq M sv.length B1 W (w2.setCell ⟨w.heap.size, 0, none⟩ (.slice A2 (pre ++ [s]).length c2)) := by
   refine ⟨hK.size, fun k hk hkW => ?_⟩
   have hkw : k < w1.heap.size := by
    rcases hk with rfl | hk
    ·exact HOWN.out.1
    ·exact HOWN.out.2 k hk
   have hkw' : k < w.heap.size := by
    have h1 := HLOW.out k hk
    exact h1
   exact (hh.keep.block k hkw').trans (HI.out.keep.block k hkw').symm
  simp only [List.length_append, List.length_cons, List.length_nil, Nat.zero_add] at hh hK hq
  exact ⟨hK.from _, hq, hh⟩
 case done =>
  rintro xs W he hI hDf
  subst he
  obtain ⟨A, c, hO, hOR⟩ := hI.out
  have k2 : W.cell? ⟨w.heap.size, 0, none⟩ = some (.slice A xs.length c) := (mblk_cell hO 0).trans rfl
  have HI := Aside0.mk hI
  have HOR := Aside0.mk hOR
  have HDF := Aside0.mk hDf
  clear hI hOR hO hDf
  go_wp2_with fail
  refine ⟨by simp, .inl ⟨_, _, rfl, run_takeDeferred HDF.out, ?_⟩⟩
  exact ⟨_, results_tmp rfl _ _ _, A, c, rfl, (Kd.R_reads' HOR.out).2.1, C_put HDF.out rfl (Kd.R_reads' HOR.out).2.2, below_put HI.out.keep (by have := HS1.out; omega)⟩
 case stop =>
  rintro c pre W _ h _
  exact h.elim
set_option maxRecDepth 100000 in
set_option maxHeartbeats 4000000 in
theorem collect_calls (M : Tm) (sv : List S71) (B1 B2 : Nat) (s0 : Int) (w : World) (hG : GoodSv sv) (hn : sv.length ≤ 1000) (hs : inR sv.length s0) (hR : Rd M sv B1 w) (h2 : MBlk w B2 3 #[.int .i64 s0]) :
  Calls Try.prog 84 #[.func (.func 114) #[] #[.pointer (some ⟨B2, 0, none⟩), .pointer (some ⟨B1, 0, none⟩)]] w fun e w' => ∃ A c, e = .returned (.slice A (pathS sv s0).length c) ∧ (pathS sv s0).length ≤ c ∧ Kd.C (Kd.int .i64) w' A (pathS sv s0).length (pathS sv s0) ∧ Below w.heap.size w w' := by
 have HC := Aside0.mk (append_calls M sv B1 B2 s0 w hG hn hs hR h2)
 clear hG hn hs hR h2
 obtain ⟨pa, hpa⟩ : ∃ pa, pa = pathS sv s0 := ⟨_, rfl⟩
 rw [← hpa] at HC ⊢
 clear hpa
 go_enter Try.func84, Try.ntmps84
 go_wp2_with fail
 refine HC.out.mono ?_
 rintro e w1 ⟨A, c, rfl, h1, h2, hb⟩
 have H := Aside0.mk (And.intro h1 (And.intro h2 hb))
 clear h1 h2 hb HC
 go_wp2_with fail
 go_ret
 exact ⟨A, c, rfl, H.out⟩
section
variable {w : World} {M : Tm} {sv : List S71} {at_ : List (Int × Int)} {al : Int → Rat} {ls : Int → List (Int × Hd)}
def pathT (sv : List S71) (s : Int) : List Int := if thereB sv.length s = true then pathS sv s else []
set_option maxRecDepth 100000 in
set_option maxHeartbeats 4000000 in
theorem Path_calls (hT : Tre w M sv at_ al ls) (hG : GoodSv sv) (s : Int) :
  Calls Try.prog 43 #[.pointer (some ⟨M.t, 0, none⟩), .int .i64 s] w fun e w' => ∃ A c, e = .returned (.slice A (pathT sv s).length c) ∧ (pathT sv s).length ≤ c ∧ Kd.C (Kd.int .i64) w' A (pathT sv s).length (pathT sv s) ∧ Below w.heap.size w w' := by
 have HT := Aside0.mk hT
 have HG := Aside0.mk hG
 obtain ⟨pa, hpa⟩ : ∃ pa, pa = pathT sv s := ⟨_, rfl⟩
 rw [← hpa]
 have HP := Aside0.mk hpa
 clear hT hG hpa
 go_enter Try.func43, Try.ntmps43
 go_upto_region 1 with fail
 cases ht : thereB sv.length s with
 | true =>
  have HI := Aside0.mk (there_in.1 ht)
  have HE := Aside0.mk (show pathS sv s = pa by rw [HP.out]; unfold pathT; rw [ht, if_pos rfl])
  go_wp2_with (go_at_call 83; refine (there_calls HT.out s).mono ?_; rw [ht]; rintro e w1 ⟨rfl, rfl⟩; clear ht)
  refine (path_calls M.t s _).mono ?_
  rintro e w2 ⟨rfl, hw2⟩
  have HW2 := Aside0.mk (show Below w1.heap.size w1 w2 ∧ MBlk w2 w1.heap.size 67 #[.pointer (some ⟨M.t, 0, none⟩)] ∧ MBlk w2 (w1.heap.size + 1) 3 #[.int .i64 s] by
   rw [hw2]
   refine ⟨below_alloc (below_alloc (Below.refl _ _) _) _, mblk_alloc (mblk_new _ _ _) _, ?_⟩
   have := mblk_new (w1.alloc (.cells #[.pointer (some ⟨M.t, 0, none⟩)] 67)) 3 #[.int .i64 s]
   rwa [World.size_alloc] at this)
  clear hw2
  go_wp2_with fail
  refine (collect_calls M sv w1.heap.size (w1.heap.size + 1) s _ HG.out HT.out.small HI.out (Rd.of (HT.out.below HW2.out.1) HW2.out.2.1) HW2.out.2.2).mono ?_
  rw [HE.out]
  rintro e w3 ⟨A, c, rfl, h1, h2, hb⟩
  have H := Aside0.mk (And.intro h1 (And.intro h2 (below_step HW2.out.1 hb)))
  clear h1 h2 hb
  go_wp2_with fail
  go_ret
  exact ⟨A, c, rfl, H.out⟩
 | false =>
  have HE := Aside0.mk (show pa = [] by rw [HP.out]; unfold pathT; rw [ht, if_neg (by decide)])
  go_wp2_with (go_at_call 83; refine (there_calls HT.out s).mono ?_; rw [ht]; rintro e w1 ⟨rfl, rfl⟩; clear ht)
  go_ret
  exact ⟨none, 0, by rw [HE.out]; rfl, by rw [HE.out]; exact Nat.le_refl _, by rw [HE.out]; exact Kd.C_nil _ _, Below.refl _ _⟩
end
end Go.Proofs.Ytfldklimlcnnnaa.XCollect
end
