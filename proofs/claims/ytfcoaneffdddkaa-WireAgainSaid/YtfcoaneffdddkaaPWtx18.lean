-- Written by wip/rprint.py of this session's repo (the kit's printer with patches), out of the translation. Not trusted: Lean checks it.
import Derived.Test.YtfcoaneffdddkaaPWtx0
import Derived.Test.YtfcoaneffdddkaaPWtx1
import Derived.Test.YtfcoaneffdddkaaPWtx2
namespace Go.Proofs.Ytfcoaneffdddkaa.PWt
open Go.RowKit Go.Proofs.YtfcoaneffdddkaaW.PrintWords Go.Proofs.YtfcoaneffdddkaaW.PrintLast Go.Proofs.YtfcoaneffdddkaaW.PrintMore Go.Proofs.Ytfcoaneffdddkaa.MWords
attribute [local go_sem] max2_int min2_int max_two min_two max_three min_three max_four min_four   -- for this text's walks alone
set_option linter.unusedVariables false
set_option linter.unusedSimpArgs false

attribute [local go_sem high] eqA28 eqA67
/-! ### regattaref18_Same: function 20 -/
def regattaref18_Same.l0 : Nat → Int → Int → Int → Int → Int → Int → Int → Int → Bool → List (S67) → Int → Int → Int → Int → Int → Int → Int → Bool → List (S67) → Option (Bool)
  | 0, _, _, _, _, _, _, _, _, _, _, _, _, _, _, _, _, _, _, _ => none
  | k + 1, x5, x132000, x132001, x132002, x132003, x132004, x132005, x132006, x132007, x132008, x133000, x133001, x133002, x133003, x133004, x133005, x133006, x133007, x133008 => if x5 < (x132008.length : Int) then (if 0 ≤ x5 then (if x5 < (x133008.length : Int) then (if (!(((rd_T67 x132008 x5).f0) == ((rd_T67 x133008 x5).f0)) || (!(((rd_T67 x132008 x5).f1) == ((rd_T67 x133008 x5).f1)))) = true then (some false) else (regattaref18_Same.l0 k (wrap64 (x5 + 1)) x132000 x132001 x132002 x132003 x132004 x132005 x132006 x132007 x132008 x133000 x133001 x133002 x133003 x133004 x133005 x133006 x133007 x133008)) else (none)) else (none)) else (if x132000 = x133000 then (if x132001 = x133001 then (if x132002 = x133002 then (if x132003 = x133003 then (if x132004 = x133004 then (if (x132005 == x133005 && (x132006 == x133006)) = true then (some (x132007 == x133007)) else (some false)) else (some false)) else (some false)) else (some false)) else (some false)) else (some false))
def regattaref18_Same.f (k : Nat) (a0_0 : Int) (a0_1 : Int) (a0_2 : Int) (a0_3 : Int) (a0_4 : Int) (a0_5 : Int) (a0_6 : Int) (a0_7 : Bool) (l0_8 : List (S67)) (a1_0 : Int) (a1_1 : Int) (a1_2 : Int) (a1_3 : Int) (a1_4 : Int) (a1_5 : Int) (a1_6 : Int) (a1_7 : Bool) (l1_8 : List (S67)) : Option (Bool) := if (l0_8.length : Int) = (l1_8.length : Int) then (regattaref18_Same.l0 k 0 a0_0 a0_1 a0_2 a0_3 a0_4 a0_5 a0_6 a0_7 l0_8 a1_0 a1_1 a1_2 a1_3 a1_4 a1_5 a1_6 a1_7 l1_8) else (some false)
theorem regattaref18_Same.mono_l : ∀ k, (∀ y0 y1 y2 y3 y4 y5 y6 y7 y8 y9 y10 y11 y12 y13 y14 y15 y16 y17 y18, LeO (regattaref18_Same.l0 k y0 y1 y2 y3 y4 y5 y6 y7 y8 y9 y10 y11 y12 y13 y14 y15 y16 y17 y18) (regattaref18_Same.l0 (k + 1) y0 y1 y2 y3 y4 y5 y6 y7 y8 y9 y10 y11 y12 y13 y14 y15 y16 y17 y18))
  | 0 => fun _ _ _ _ _ _ _ _ _ _ _ _ _ _ _ _ _ _ _ r h => by simp [regattaref18_Same.l0] at h
  | k + 1 => by
    have ih0 := regattaref18_Same.mono_l k
    · intro y0 y1 y2 y3 y4 y5 y6 y7 y8 y9 y10 y11 y12 y13 y14 y15 y16 y17 y18
      unfold regattaref18_Same.l0
      repeat' first
      | (with_reducible exact ih0 _ _ _ _ _ _ _ _ _ _ _ _ _ _ _ _ _ _ _)
      | (with_reducible exact LeO.refl _)
      | (with_reducible exact LeO.none _)
      | (with_reducible refine LeO.ite ?_ ?_)
      | (with_reducible refine LeO.bind ?_ (fun _ => ?_))
      | exact ih0 _ _ _ _ _ _ _ _ _ _ _ _ _ _ _ _ _ _ _
      | exact LeO.none _
      | refine LeO.ite ?_ ?_
      | refine LeO.bind ?_ (fun _ => ?_)
theorem regattaref18_Same.mono : ∀ a0 a1 a2 a3 a4 a5 a6 a7 a8 a9 a10 a11 a12 a13 a14 a15 a16 a17 k, LeO (regattaref18_Same.f k a0 a1 a2 a3 a4 a5 a6 a7 a8 a9 a10 a11 a12 a13 a14 a15 a16 a17) (regattaref18_Same.f (k + 1) a0 a1 a2 a3 a4 a5 a6 a7 a8 a9 a10 a11 a12 a13 a14 a15 a16 a17) := by
  intro a0 a1 a2 a3 a4 a5 a6 a7 a8 a9 a10 a11 a12 a13 a14 a15 a16 a17 k
  have ih0 := regattaref18_Same.mono_l k
  unfold regattaref18_Same.f
  repeat' first
      | (with_reducible exact ih0 _ _ _ _ _ _ _ _ _ _ _ _ _ _ _ _ _ _ _)
      | (with_reducible exact LeO.refl _)
      | (with_reducible exact LeO.none _)
      | (with_reducible refine LeO.ite ?_ ?_)
      | (with_reducible refine LeO.bind ?_ (fun _ => ?_))
      | exact ih0 _ _ _ _ _ _ _ _ _ _ _ _ _ _ _ _ _ _ _
      | exact LeO.none _
      | refine LeO.ite ?_ ?_
      | refine LeO.bind ?_ (fun _ => ?_)
set_option maxHeartbeats 8000000 in
set_option maxRecDepth 100000 in
theorem regattaref18_Same.calls (k : Nat) (a0_0 : Int) (a0_1 : Int) (a0_2 : Int) (a0_3 : Int) (a0_4 : Int) (a0_5 : Int) (a0_6 : Int) (a0_7 : Bool) (A0_8 : Option Addr) (c0_8 : Nat) (l0_8 : List (S67)) (a1_0 : Int) (a1_1 : Int) (a1_2 : Int) (a1_3 : Int) (a1_4 : Int) (a1_5 : Int) (a1_6 : Int) (a1_7 : Bool) (A1_8 : Option Addr) (c1_8 : Nat) (l1_8 : List (S67)) (r : Bool) (w : World) (hr0_8 : Kd.C k67 w A0_8 l0_8.length l0_8) (hc0_8 : l0_8.length ≤ c0_8) (hr1_8 : Kd.C k67 w A1_8 l1_8.length l1_8) (hc1_8 : l1_8.length ≤ c1_8) (h : regattaref18_Same.f k a0_0 a0_1 a0_2 a0_3 a0_4 a0_5 a0_6 a0_7 l0_8 a1_0 a1_1 a1_2 a1_3 a1_4 a1_5 a1_6 a1_7 l1_8 = some r) :
    Calls Try.prog 20 #[.agg #[.int .i64 a0_0, .int .i64 a0_1, .int .i64 a0_2, .int .i64 a0_3, .int .i64 a0_4, .int .i64 a0_5, .int .i64 a0_6, .bool a0_7, .slice A0_8 l0_8.length c0_8], .agg #[.int .i64 a1_0, .int .i64 a1_1, .int .i64 a1_2, .int .i64 a1_3, .int .i64 a1_4, .int .i64 a1_5, .int .i64 a1_6, .bool a1_7, .slice A1_8 l1_8.length c1_8]] w fun e w' => e = .returned (.bool r) ∧ Below w.heap.size w w' := by
  have hu31 := Try.underlying31
  have hu67 := Try.underlying67
  have hu28 := Try.underlying28
  have HR0_8 := Aside0.mk hr0_8
  have HC0_8 := Aside0.mk hc0_8
  clear hr0_8 hc0_8
  have HR1_8 := Aside0.mk hr1_8
  have HC1_8 := Aside0.mk hc1_8
  clear hr1_8 hc1_8
  have HB := Aside0.mk (Below.refl w.heap.size w)
  have H : (if (l0_8.length : Int) = (l1_8.length : Int) then (regattaref18_Same.l0 k 0 a0_0 a0_1 a0_2 a0_3 a0_4 a0_5 a0_6 a0_7 l0_8 a1_0 a1_1 a1_2 a1_3 a1_4 a1_5 a1_6 a1_7 l1_8) else (some false)) = some r := h
  clear h
  by_cases c3 : (l0_8.length : Int) = (l1_8.length : Int)
  · rw [if_pos c3] at H
    have c3b0 : ((l0_8.length : Int) == (l1_8.length : Int)) = true := beq_iff_eq.mpr c3
    have c3b1 : ((l0_8.length : Int) != (l1_8.length : Int)) = false := bne_eq_false_iff_eq.mpr c3
    have c3b2 : (l0_8.length == l1_8.length) = true := by first | simpa using c3 | (simp at c3 ⊢; omega)
    clear c3
    have H' := Aside0.mk H
    clear H
    go_enter Try.func20, Try.ntmps20
    go_wp2_with (first | ((with_reducible refine gate_dst (N := 2) rfl ?_); refine box_event ?hg (N := 2) ?hd (cs := #[.int .i64 a0_0, .int .i64 a0_1, .int .i64 a0_2, .int .i64 a0_3, .int .i64 a0_4, .int .i64 a0_5, .int .i64 a0_6, .bool a0_7, .slice A0_8 l0_8.length c0_8]) (t := 31) ?hr ?_; (case hd => rfl); (case hg => rfl); (case hr => first | (go_simp; done) | (go_simp; rfl)); intro gb131 hg w4 hbox hb; have n0_ := Aside0.mk (below_step (by repeat (first | (with_reducible first | exact HB.out | apply below_alloc | apply pw_below_drewN | apply below_drew1) | exact HB.out)) hb); have n1_ := Aside0.mk (hbox); have n2_ := Aside0.mk ((by rw [hg]; exact (below_size (by repeat (first | (with_reducible first | exact HB.out | apply below_alloc | apply pw_below_drewN | apply below_drew1) | exact HB.out))) : w.heap.size ≤ gb131)); have n3_ := Aside0.mk ((by rw [hg]; exact (below_size (by repeat (first | (with_reducible first | exact HB.out | apply below_alloc | apply pw_below_drewN | apply below_drew1) | exact HB.out))) : w.heap.size ≤ gb131)); clear HB; have HB := n0_; have BK131 := n1_; have GW131 := n2_; have GE131 := n3_; clear n0_ n1_ n2_ n3_; clear hb hbox hg) | ((with_reducible refine gate_dst (N := 3) rfl ?_); refine box_event ?hg (N := 3) ?hd (cs := #[.int .i64 a1_0, .int .i64 a1_1, .int .i64 a1_2, .int .i64 a1_3, .int .i64 a1_4, .int .i64 a1_5, .int .i64 a1_6, .bool a1_7, .slice A1_8 l1_8.length c1_8]) (t := 31) ?hr ?_; (case hd => rfl); (case hg => rfl); (case hr => first | (go_simp; done) | (go_simp; rfl)); intro gb132 hg w5 hbox hb; have n0_ := Aside0.mk (blk_below (g := gb131) (o := .cells #[.int .i64 a0_0, .int .i64 a0_1, .int .i64 a0_2, .int .i64 a0_3, .int .i64 a0_4, .int .i64 a0_5, .int .i64 a0_6, .bool a0_7, .slice A0_8 l0_8.length c0_8] 31 (0, 0)) (by (with_reducible repeat (first | refine blk_drewN ?_ _ | refine blk_drew ?_ | refine blk_alloc ?_ _)); exact BK131.out) hb); have n1_ := Aside0.mk (below_step (by repeat (first | (with_reducible first | exact HB.out | apply below_alloc | apply pw_below_drewN | apply below_drew1 | refine below_set ?_ GE131.out) | exact HB.out)) hb); have n2_ := Aside0.mk (hbox); have n3_ := Aside0.mk ((by rw [hg]; exact (below_size (by repeat (first | (with_reducible first | exact HB.out | apply below_alloc | apply pw_below_drewN | apply below_drew1 | refine below_set ?_ GE131.out) | exact HB.out))) : w.heap.size ≤ gb132)); have n4_ := Aside0.mk ((by rw [hg]; exact (below_size (by repeat (first | (with_reducible first | exact HB.out | apply below_alloc | apply pw_below_drewN | apply below_drew1 | refine below_set ?_ GE131.out) | exact HB.out))) : w.heap.size ≤ gb132)); have n5_ := Aside0.mk ((by rw [hg]; exact Nat.ne_of_lt (blk_lt (g := gb131) (o := .cells #[.int .i64 a0_0, .int .i64 a0_1, .int .i64 a0_2, .int .i64 a0_3, .int .i64 a0_4, .int .i64 a0_5, .int .i64 a0_6, .bool a0_7, .slice A0_8 l0_8.length c0_8] 31 (0, 0)) (by (with_reducible repeat (first | refine blk_drewN ?_ _ | refine blk_drew ?_ | refine blk_alloc ?_ _)); exact BK131.out)) : gb131 ≠ gb132)); have n6_ := Aside0.mk ((by rw [hg]; exact Nat.ne_of_gt (blk_lt (g := gb131) (o := .cells #[.int .i64 a0_0, .int .i64 a0_1, .int .i64 a0_2, .int .i64 a0_3, .int .i64 a0_4, .int .i64 a0_5, .int .i64 a0_6, .bool a0_7, .slice A0_8 l0_8.length c0_8] 31 (0, 0)) (by (with_reducible repeat (first | refine blk_drewN ?_ _ | refine blk_drew ?_ | refine blk_alloc ?_ _)); exact BK131.out)) : gb132 ≠ gb131)); clear BK131; clear HB; have BK131 := n0_; have HB := n1_; have BK132 := n2_; have GW132 := n3_; have GE132 := n4_; have NB131_132 := n5_; have NB132_131 := n6_; clear n0_ n1_ n2_ n3_ n4_ n5_ n6_; clear hb hbox hg; have hnb6 := NB131_132.out; have hnc6 := NB132_131.out; have hcz7_0 : w5.cell? ⟨gb131, 0, none⟩ = some (.int .i64 a0_0) := (blk_cell BK131.out 0).trans rfl; have hcz7_1 : w5.cell? ⟨gb131, 1, none⟩ = some (.int .i64 a0_1) := (blk_cell BK131.out 1).trans rfl; have hcz7_2 : w5.cell? ⟨gb131, 2, none⟩ = some (.int .i64 a0_2) := (blk_cell BK131.out 2).trans rfl; have hcz7_3 : w5.cell? ⟨gb131, 3, none⟩ = some (.int .i64 a0_3) := (blk_cell BK131.out 3).trans rfl; have hcz7_4 : w5.cell? ⟨gb131, 4, none⟩ = some (.int .i64 a0_4) := (blk_cell BK131.out 4).trans rfl; have hcz7_5 : w5.cell? ⟨gb131, 5, none⟩ = some (.int .i64 a0_5) := (blk_cell BK131.out 5).trans rfl; have hcz7_6 : w5.cell? ⟨gb131, 6, none⟩ = some (.int .i64 a0_6) := (blk_cell BK131.out 6).trans rfl; have hcz7_7 : w5.cell? ⟨gb131, 7, none⟩ = some (.bool a0_7) := (blk_cell BK131.out 7).trans rfl; have hcz7_8 : w5.cell? ⟨gb131, 8, none⟩ = some (.slice A0_8 l0_8.length c0_8) := (blk_cell BK131.out 8).trans rfl; have hfz7_0 := blk_frozen BK131.out 0; have hfz7_1 := blk_frozen BK131.out 1; have hfz7_2 := blk_frozen BK131.out 2; have hfz7_3 := blk_frozen BK131.out 3; have hfz7_4 := blk_frozen BK131.out 4; have hfz7_5 := blk_frozen BK131.out 5; have hfz7_6 := blk_frozen BK131.out 6; have hfz7_7 := blk_frozen BK131.out 7; have hfz7_8 := blk_frozen BK131.out 8; have hcz8_0 : w5.cell? ⟨gb132, 0, none⟩ = some (.int .i64 a1_0) := (blk_cell BK132.out 0).trans rfl; have hcz8_1 : w5.cell? ⟨gb132, 1, none⟩ = some (.int .i64 a1_1) := (blk_cell BK132.out 1).trans rfl; have hcz8_2 : w5.cell? ⟨gb132, 2, none⟩ = some (.int .i64 a1_2) := (blk_cell BK132.out 2).trans rfl; have hcz8_3 : w5.cell? ⟨gb132, 3, none⟩ = some (.int .i64 a1_3) := (blk_cell BK132.out 3).trans rfl; have hcz8_4 : w5.cell? ⟨gb132, 4, none⟩ = some (.int .i64 a1_4) := (blk_cell BK132.out 4).trans rfl; have hcz8_5 : w5.cell? ⟨gb132, 5, none⟩ = some (.int .i64 a1_5) := (blk_cell BK132.out 5).trans rfl; have hcz8_6 : w5.cell? ⟨gb132, 6, none⟩ = some (.int .i64 a1_6) := (blk_cell BK132.out 6).trans rfl; have hcz8_7 : w5.cell? ⟨gb132, 7, none⟩ = some (.bool a1_7) := (blk_cell BK132.out 7).trans rfl; have hcz8_8 : w5.cell? ⟨gb132, 8, none⟩ = some (.slice A1_8 l1_8.length c1_8) := (blk_cell BK132.out 8).trans rfl; have hfz8_0 := blk_frozen BK132.out 0; have hfz8_1 := blk_frozen BK132.out 1; have hfz8_2 := blk_frozen BK132.out 2; have hfz8_3 := blk_frozen BK132.out 3; have hfz8_4 := blk_frozen BK132.out 4; have hfz8_5 := blk_frozen BK132.out 5; have hfz8_6 := blk_frozen BK132.out 6; have hfz8_7 := blk_frozen BK132.out 7; have hfz8_8 := blk_frozen BK132.out 8))
    repeat (go_quiet (first | ((with_reducible refine gate_dst (N := 2) rfl ?_); refine box_event ?hg (N := 2) ?hd (cs := #[.int .i64 a0_0, .int .i64 a0_1, .int .i64 a0_2, .int .i64 a0_3, .int .i64 a0_4, .int .i64 a0_5, .int .i64 a0_6, .bool a0_7, .slice A0_8 l0_8.length c0_8]) (t := 31) ?hr ?_; (case hd => rfl); (case hg => rfl); (case hr => first | (go_simp; done) | (go_simp; rfl)); intro gb131 hg w4 hbox hb; have n0_ := Aside0.mk (below_step (by repeat (first | (with_reducible first | exact HB.out | apply below_alloc | apply pw_below_drewN | apply below_drew1) | exact HB.out)) hb); have n1_ := Aside0.mk (hbox); have n2_ := Aside0.mk ((by rw [hg]; exact (below_size (by repeat (first | (with_reducible first | exact HB.out | apply below_alloc | apply pw_below_drewN | apply below_drew1) | exact HB.out))) : w.heap.size ≤ gb131)); have n3_ := Aside0.mk ((by rw [hg]; exact (below_size (by repeat (first | (with_reducible first | exact HB.out | apply below_alloc | apply pw_below_drewN | apply below_drew1) | exact HB.out))) : w.heap.size ≤ gb131)); clear HB; have HB := n0_; have BK131 := n1_; have GW131 := n2_; have GE131 := n3_; clear n0_ n1_ n2_ n3_; clear hb hbox hg) | ((with_reducible refine gate_dst (N := 3) rfl ?_); refine box_event ?hg (N := 3) ?hd (cs := #[.int .i64 a1_0, .int .i64 a1_1, .int .i64 a1_2, .int .i64 a1_3, .int .i64 a1_4, .int .i64 a1_5, .int .i64 a1_6, .bool a1_7, .slice A1_8 l1_8.length c1_8]) (t := 31) ?hr ?_; (case hd => rfl); (case hg => rfl); (case hr => first | (go_simp; done) | (go_simp; rfl)); intro gb132 hg w5 hbox hb; have n0_ := Aside0.mk (blk_below (g := gb131) (o := .cells #[.int .i64 a0_0, .int .i64 a0_1, .int .i64 a0_2, .int .i64 a0_3, .int .i64 a0_4, .int .i64 a0_5, .int .i64 a0_6, .bool a0_7, .slice A0_8 l0_8.length c0_8] 31 (0, 0)) (by (with_reducible repeat (first | refine blk_drewN ?_ _ | refine blk_drew ?_ | refine blk_alloc ?_ _)); exact BK131.out) hb); have n1_ := Aside0.mk (below_step (by repeat (first | (with_reducible first | exact HB.out | apply below_alloc | apply pw_below_drewN | apply below_drew1 | refine below_set ?_ GE131.out) | exact HB.out)) hb); have n2_ := Aside0.mk (hbox); have n3_ := Aside0.mk ((by rw [hg]; exact (below_size (by repeat (first | (with_reducible first | exact HB.out | apply below_alloc | apply pw_below_drewN | apply below_drew1 | refine below_set ?_ GE131.out) | exact HB.out))) : w.heap.size ≤ gb132)); have n4_ := Aside0.mk ((by rw [hg]; exact (below_size (by repeat (first | (with_reducible first | exact HB.out | apply below_alloc | apply pw_below_drewN | apply below_drew1 | refine below_set ?_ GE131.out) | exact HB.out))) : w.heap.size ≤ gb132)); have n5_ := Aside0.mk ((by rw [hg]; exact Nat.ne_of_lt (blk_lt (g := gb131) (o := .cells #[.int .i64 a0_0, .int .i64 a0_1, .int .i64 a0_2, .int .i64 a0_3, .int .i64 a0_4, .int .i64 a0_5, .int .i64 a0_6, .bool a0_7, .slice A0_8 l0_8.length c0_8] 31 (0, 0)) (by (with_reducible repeat (first | refine blk_drewN ?_ _ | refine blk_drew ?_ | refine blk_alloc ?_ _)); exact BK131.out)) : gb131 ≠ gb132)); have n6_ := Aside0.mk ((by rw [hg]; exact Nat.ne_of_gt (blk_lt (g := gb131) (o := .cells #[.int .i64 a0_0, .int .i64 a0_1, .int .i64 a0_2, .int .i64 a0_3, .int .i64 a0_4, .int .i64 a0_5, .int .i64 a0_6, .bool a0_7, .slice A0_8 l0_8.length c0_8] 31 (0, 0)) (by (with_reducible repeat (first | refine blk_drewN ?_ _ | refine blk_drew ?_ | refine blk_alloc ?_ _)); exact BK131.out)) : gb132 ≠ gb131)); clear BK131; clear HB; have BK131 := n0_; have HB := n1_; have BK132 := n2_; have GW132 := n3_; have GE132 := n4_; have NB131_132 := n5_; have NB132_131 := n6_; clear n0_ n1_ n2_ n3_ n4_ n5_ n6_; clear hb hbox hg; have hnb6 := NB131_132.out; have hnc6 := NB132_131.out; have hcz7_0 : w5.cell? ⟨gb131, 0, none⟩ = some (.int .i64 a0_0) := (blk_cell BK131.out 0).trans rfl; have hcz7_1 : w5.cell? ⟨gb131, 1, none⟩ = some (.int .i64 a0_1) := (blk_cell BK131.out 1).trans rfl; have hcz7_2 : w5.cell? ⟨gb131, 2, none⟩ = some (.int .i64 a0_2) := (blk_cell BK131.out 2).trans rfl; have hcz7_3 : w5.cell? ⟨gb131, 3, none⟩ = some (.int .i64 a0_3) := (blk_cell BK131.out 3).trans rfl; have hcz7_4 : w5.cell? ⟨gb131, 4, none⟩ = some (.int .i64 a0_4) := (blk_cell BK131.out 4).trans rfl; have hcz7_5 : w5.cell? ⟨gb131, 5, none⟩ = some (.int .i64 a0_5) := (blk_cell BK131.out 5).trans rfl; have hcz7_6 : w5.cell? ⟨gb131, 6, none⟩ = some (.int .i64 a0_6) := (blk_cell BK131.out 6).trans rfl; have hcz7_7 : w5.cell? ⟨gb131, 7, none⟩ = some (.bool a0_7) := (blk_cell BK131.out 7).trans rfl; have hcz7_8 : w5.cell? ⟨gb131, 8, none⟩ = some (.slice A0_8 l0_8.length c0_8) := (blk_cell BK131.out 8).trans rfl; have hfz7_0 := blk_frozen BK131.out 0; have hfz7_1 := blk_frozen BK131.out 1; have hfz7_2 := blk_frozen BK131.out 2; have hfz7_3 := blk_frozen BK131.out 3; have hfz7_4 := blk_frozen BK131.out 4; have hfz7_5 := blk_frozen BK131.out 5; have hfz7_6 := blk_frozen BK131.out 6; have hfz7_7 := blk_frozen BK131.out 7; have hfz7_8 := blk_frozen BK131.out 8; have hcz8_0 : w5.cell? ⟨gb132, 0, none⟩ = some (.int .i64 a1_0) := (blk_cell BK132.out 0).trans rfl; have hcz8_1 : w5.cell? ⟨gb132, 1, none⟩ = some (.int .i64 a1_1) := (blk_cell BK132.out 1).trans rfl; have hcz8_2 : w5.cell? ⟨gb132, 2, none⟩ = some (.int .i64 a1_2) := (blk_cell BK132.out 2).trans rfl; have hcz8_3 : w5.cell? ⟨gb132, 3, none⟩ = some (.int .i64 a1_3) := (blk_cell BK132.out 3).trans rfl; have hcz8_4 : w5.cell? ⟨gb132, 4, none⟩ = some (.int .i64 a1_4) := (blk_cell BK132.out 4).trans rfl; have hcz8_5 : w5.cell? ⟨gb132, 5, none⟩ = some (.int .i64 a1_5) := (blk_cell BK132.out 5).trans rfl; have hcz8_6 : w5.cell? ⟨gb132, 6, none⟩ = some (.int .i64 a1_6) := (blk_cell BK132.out 6).trans rfl; have hcz8_7 : w5.cell? ⟨gb132, 7, none⟩ = some (.bool a1_7) := (blk_cell BK132.out 7).trans rfl; have hcz8_8 : w5.cell? ⟨gb132, 8, none⟩ = some (.slice A1_8 l1_8.length c1_8) := (blk_cell BK132.out 8).trans rfl; have hfz8_0 := blk_frozen BK132.out 0; have hfz8_1 := blk_frozen BK132.out 1; have hfz8_2 := blk_frozen BK132.out 2; have hfz8_3 := blk_frozen BK132.out 3; have hfz8_4 := blk_frozen BK132.out 4; have hfz8_5 := blk_frozen BK132.out 5; have hfz8_6 := blk_frozen BK132.out 6; have hfz8_7 := blk_frozen BK132.out 7; have hfz8_8 := blk_frozen BK132.out 8)); try go_wp2_with (first | ((with_reducible refine gate_dst (N := 2) rfl ?_); refine box_event ?hg (N := 2) ?hd (cs := #[.int .i64 a0_0, .int .i64 a0_1, .int .i64 a0_2, .int .i64 a0_3, .int .i64 a0_4, .int .i64 a0_5, .int .i64 a0_6, .bool a0_7, .slice A0_8 l0_8.length c0_8]) (t := 31) ?hr ?_; (case hd => rfl); (case hg => rfl); (case hr => first | (go_simp; done) | (go_simp; rfl)); intro gb131 hg w4 hbox hb; have n0_ := Aside0.mk (below_step (by repeat (first | (with_reducible first | exact HB.out | apply below_alloc | apply pw_below_drewN | apply below_drew1) | exact HB.out)) hb); have n1_ := Aside0.mk (hbox); have n2_ := Aside0.mk ((by rw [hg]; exact (below_size (by repeat (first | (with_reducible first | exact HB.out | apply below_alloc | apply pw_below_drewN | apply below_drew1) | exact HB.out))) : w.heap.size ≤ gb131)); have n3_ := Aside0.mk ((by rw [hg]; exact (below_size (by repeat (first | (with_reducible first | exact HB.out | apply below_alloc | apply pw_below_drewN | apply below_drew1) | exact HB.out))) : w.heap.size ≤ gb131)); clear HB; have HB := n0_; have BK131 := n1_; have GW131 := n2_; have GE131 := n3_; clear n0_ n1_ n2_ n3_; clear hb hbox hg) | ((with_reducible refine gate_dst (N := 3) rfl ?_); refine box_event ?hg (N := 3) ?hd (cs := #[.int .i64 a1_0, .int .i64 a1_1, .int .i64 a1_2, .int .i64 a1_3, .int .i64 a1_4, .int .i64 a1_5, .int .i64 a1_6, .bool a1_7, .slice A1_8 l1_8.length c1_8]) (t := 31) ?hr ?_; (case hd => rfl); (case hg => rfl); (case hr => first | (go_simp; done) | (go_simp; rfl)); intro gb132 hg w5 hbox hb; have n0_ := Aside0.mk (blk_below (g := gb131) (o := .cells #[.int .i64 a0_0, .int .i64 a0_1, .int .i64 a0_2, .int .i64 a0_3, .int .i64 a0_4, .int .i64 a0_5, .int .i64 a0_6, .bool a0_7, .slice A0_8 l0_8.length c0_8] 31 (0, 0)) (by (with_reducible repeat (first | refine blk_drewN ?_ _ | refine blk_drew ?_ | refine blk_alloc ?_ _)); exact BK131.out) hb); have n1_ := Aside0.mk (below_step (by repeat (first | (with_reducible first | exact HB.out | apply below_alloc | apply pw_below_drewN | apply below_drew1 | refine below_set ?_ GE131.out) | exact HB.out)) hb); have n2_ := Aside0.mk (hbox); have n3_ := Aside0.mk ((by rw [hg]; exact (below_size (by repeat (first | (with_reducible first | exact HB.out | apply below_alloc | apply pw_below_drewN | apply below_drew1 | refine below_set ?_ GE131.out) | exact HB.out))) : w.heap.size ≤ gb132)); have n4_ := Aside0.mk ((by rw [hg]; exact (below_size (by repeat (first | (with_reducible first | exact HB.out | apply below_alloc | apply pw_below_drewN | apply below_drew1 | refine below_set ?_ GE131.out) | exact HB.out))) : w.heap.size ≤ gb132)); have n5_ := Aside0.mk ((by rw [hg]; exact Nat.ne_of_lt (blk_lt (g := gb131) (o := .cells #[.int .i64 a0_0, .int .i64 a0_1, .int .i64 a0_2, .int .i64 a0_3, .int .i64 a0_4, .int .i64 a0_5, .int .i64 a0_6, .bool a0_7, .slice A0_8 l0_8.length c0_8] 31 (0, 0)) (by (with_reducible repeat (first | refine blk_drewN ?_ _ | refine blk_drew ?_ | refine blk_alloc ?_ _)); exact BK131.out)) : gb131 ≠ gb132)); have n6_ := Aside0.mk ((by rw [hg]; exact Nat.ne_of_gt (blk_lt (g := gb131) (o := .cells #[.int .i64 a0_0, .int .i64 a0_1, .int .i64 a0_2, .int .i64 a0_3, .int .i64 a0_4, .int .i64 a0_5, .int .i64 a0_6, .bool a0_7, .slice A0_8 l0_8.length c0_8] 31 (0, 0)) (by (with_reducible repeat (first | refine blk_drewN ?_ _ | refine blk_drew ?_ | refine blk_alloc ?_ _)); exact BK131.out)) : gb132 ≠ gb131)); clear BK131; clear HB; have BK131 := n0_; have HB := n1_; have BK132 := n2_; have GW132 := n3_; have GE132 := n4_; have NB131_132 := n5_; have NB132_131 := n6_; clear n0_ n1_ n2_ n3_ n4_ n5_ n6_; clear hb hbox hg; have hnb6 := NB131_132.out; have hnc6 := NB132_131.out; have hcz7_0 : w5.cell? ⟨gb131, 0, none⟩ = some (.int .i64 a0_0) := (blk_cell BK131.out 0).trans rfl; have hcz7_1 : w5.cell? ⟨gb131, 1, none⟩ = some (.int .i64 a0_1) := (blk_cell BK131.out 1).trans rfl; have hcz7_2 : w5.cell? ⟨gb131, 2, none⟩ = some (.int .i64 a0_2) := (blk_cell BK131.out 2).trans rfl; have hcz7_3 : w5.cell? ⟨gb131, 3, none⟩ = some (.int .i64 a0_3) := (blk_cell BK131.out 3).trans rfl; have hcz7_4 : w5.cell? ⟨gb131, 4, none⟩ = some (.int .i64 a0_4) := (blk_cell BK131.out 4).trans rfl; have hcz7_5 : w5.cell? ⟨gb131, 5, none⟩ = some (.int .i64 a0_5) := (blk_cell BK131.out 5).trans rfl; have hcz7_6 : w5.cell? ⟨gb131, 6, none⟩ = some (.int .i64 a0_6) := (blk_cell BK131.out 6).trans rfl; have hcz7_7 : w5.cell? ⟨gb131, 7, none⟩ = some (.bool a0_7) := (blk_cell BK131.out 7).trans rfl; have hcz7_8 : w5.cell? ⟨gb131, 8, none⟩ = some (.slice A0_8 l0_8.length c0_8) := (blk_cell BK131.out 8).trans rfl; have hfz7_0 := blk_frozen BK131.out 0; have hfz7_1 := blk_frozen BK131.out 1; have hfz7_2 := blk_frozen BK131.out 2; have hfz7_3 := blk_frozen BK131.out 3; have hfz7_4 := blk_frozen BK131.out 4; have hfz7_5 := blk_frozen BK131.out 5; have hfz7_6 := blk_frozen BK131.out 6; have hfz7_7 := blk_frozen BK131.out 7; have hfz7_8 := blk_frozen BK131.out 8; have hcz8_0 : w5.cell? ⟨gb132, 0, none⟩ = some (.int .i64 a1_0) := (blk_cell BK132.out 0).trans rfl; have hcz8_1 : w5.cell? ⟨gb132, 1, none⟩ = some (.int .i64 a1_1) := (blk_cell BK132.out 1).trans rfl; have hcz8_2 : w5.cell? ⟨gb132, 2, none⟩ = some (.int .i64 a1_2) := (blk_cell BK132.out 2).trans rfl; have hcz8_3 : w5.cell? ⟨gb132, 3, none⟩ = some (.int .i64 a1_3) := (blk_cell BK132.out 3).trans rfl; have hcz8_4 : w5.cell? ⟨gb132, 4, none⟩ = some (.int .i64 a1_4) := (blk_cell BK132.out 4).trans rfl; have hcz8_5 : w5.cell? ⟨gb132, 5, none⟩ = some (.int .i64 a1_5) := (blk_cell BK132.out 5).trans rfl; have hcz8_6 : w5.cell? ⟨gb132, 6, none⟩ = some (.int .i64 a1_6) := (blk_cell BK132.out 6).trans rfl; have hcz8_7 : w5.cell? ⟨gb132, 7, none⟩ = some (.bool a1_7) := (blk_cell BK132.out 7).trans rfl; have hcz8_8 : w5.cell? ⟨gb132, 8, none⟩ = some (.slice A1_8 l1_8.length c1_8) := (blk_cell BK132.out 8).trans rfl; have hfz8_0 := blk_frozen BK132.out 0; have hfz8_1 := blk_frozen BK132.out 1; have hfz8_2 := blk_frozen BK132.out 2; have hfz8_3 := blk_frozen BK132.out 3; have hfz8_4 := blk_frozen BK132.out 4; have hfz8_5 := blk_frozen BK132.out 5; have hfz8_6 := blk_frozen BK132.out 6; have hfz8_7 := blk_frozen BK132.out 7; have hfz8_8 := blk_frozen BK132.out 8)))
    go_loopg [5] k (fun kq v5 w' => ∃ (x5_1 : Int), v5 = .int .i64 x5_1 ∧ Aside0 (regattaref18_Same.l0 kq x5_1 a0_0 a0_1 a0_2 a0_3 a0_4 a0_5 a0_6 a0_7 l0_8 a1_0 a1_1 a1_2 a1_3 a1_4 a1_5 a1_6 a1_7 l1_8 = some r) ∧ Aside0 (kq ≤ k) ∧ Aside0 (w'.heap[gb131]? = some (.cells #[.int .i64 a0_0, .int .i64 a0_1, .int .i64 a0_2, .int .i64 a0_3, .int .i64 a0_4, .int .i64 a0_5, .int .i64 a0_6, .bool a0_7, (.slice A0_8 l0_8.length c0_8)] 31 (0, 0))) ∧ Aside0 (w'.heap[gb132]? = some (.cells #[.int .i64 a1_0, .int .i64 a1_1, .int .i64 a1_2, .int .i64 a1_3, .int .i64 a1_4, .int .i64 a1_5, .int .i64 a1_6, .bool a1_7, (.slice A1_8 l1_8.length c1_8)] 31 (0, 0))) ∧ Aside0 (Below w.heap.size w w'))
    case atStart => exact ⟨(0), (by first | rfl | (simp; done) | (simp [*]; done)), H', ⟨Nat.le_refl _⟩, ⟨by (with_reducible repeat (first | refine blk_drewN ?_ _ | refine blk_drew ?_ | refine blk_alloc ?_ _)); exact BK131.out⟩, ⟨by (with_reducible repeat (first | refine blk_drewN ?_ _ | refine blk_drew ?_ | refine blk_alloc ?_ _)); exact BK132.out⟩, ⟨by repeat (first | (with_reducible first | exact HB.out | apply below_alloc | apply pw_below_drewN | apply below_drew1 | refine below_set ?_ GE131.out | refine below_set ?_ GE132.out) | exact HB.out)⟩⟩
    case round =>
      clear H'
      try clear c1
      try clear c2
      try clear p2
      try clear c3
      try clear c3b0
      try clear c3b1
      try clear c3b2
      try clear c6
      try clear hcz7_0
      try clear hcz7_1
      try clear hcz7_2
      try clear hcz7_3
      try clear hcz7_4
      try clear hcz7_5
      try clear hcz7_6
      try clear hcz7_7
      try clear hcz7_8
      try clear hcz8_0
      try clear hcz8_1
      try clear hcz8_2
      try clear hcz8_3
      try clear hcz8_4
      try clear hcz8_5
      try clear hcz8_6
      try clear hcz8_7
      try clear hcz8_8
      try clear hfz7_0
      try clear hfz7_1
      try clear hfz7_2
      try clear hfz7_3
      try clear hfz7_4
      try clear hfz7_5
      try clear hfz7_6
      try clear hfz7_7
      try clear hfz7_8
      try clear hfz8_0
      try clear hfz8_1
      try clear hfz8_2
      try clear hfz8_3
      try clear hfz8_4
      try clear hfz8_5
      try clear hfz8_6
      try clear hfz8_7
      try clear hfz8_8
      obtain ⟨x5_1, rfl, HA, HK1, BK131, BK132, HB⟩ := hrel
      cases gk with
      | zero => exact absurd HA.out (by simp [regattaref18_Same.l0])
      | succ k1 =>
        have H := HA.out
        clear HA
        simp only [regattaref18_Same.l0] at H
        by_cases c9 : x5_1 < (l0_8.length : Int)
        · rw [if_pos c9] at H
          have c9b0 : decide (x5_1 < (l0_8.length : Int)) = true := decide_eq_true c9
          clear c9
          by_cases c10 : 0 ≤ x5_1
          · rw [if_pos c10] at H
            have c10b0 : decide (0 ≤ x5_1) = true := decide_eq_true c10
            clear c10
            by_cases c11 : x5_1 < (l1_8.length : Int)
            · rw [if_pos c11] at H
              have c11b0 : decide (x5_1 < (l1_8.length : Int)) = true := decide_eq_true c11
              clear c11
              by_cases c12 : (!(((rd_T67 l0_8 x5_1).f0) == ((rd_T67 l1_8 x5_1).f0)) || (!(((rd_T67 l0_8 x5_1).f1) == ((rd_T67 l1_8 x5_1).f1)))) = true
              · rw [if_pos c12] at H
                have c12b0 : (!(((rd_T67 l0_8 x5_1).f0) == ((rd_T67 l1_8 x5_1).f0)) || (!(((rd_T67 l0_8 x5_1).f1) == ((rd_T67 l1_8 x5_1).f1)))) = true := c12
                clear c12
                obtain rfl := Option.some.inj H
                have hnb13 := NB131_132.out
                have hnc13 := NB132_131.out
                have hcz14_0 : wr.cell? ⟨gb131, 0, none⟩ = some (.int .i64 a0_0) := (blk_cell BK131.out 0).trans rfl
                have hcz14_1 : wr.cell? ⟨gb131, 1, none⟩ = some (.int .i64 a0_1) := (blk_cell BK131.out 1).trans rfl
                have hcz14_2 : wr.cell? ⟨gb131, 2, none⟩ = some (.int .i64 a0_2) := (blk_cell BK131.out 2).trans rfl
                have hcz14_3 : wr.cell? ⟨gb131, 3, none⟩ = some (.int .i64 a0_3) := (blk_cell BK131.out 3).trans rfl
                have hcz14_4 : wr.cell? ⟨gb131, 4, none⟩ = some (.int .i64 a0_4) := (blk_cell BK131.out 4).trans rfl
                have hcz14_5 : wr.cell? ⟨gb131, 5, none⟩ = some (.int .i64 a0_5) := (blk_cell BK131.out 5).trans rfl
                have hcz14_6 : wr.cell? ⟨gb131, 6, none⟩ = some (.int .i64 a0_6) := (blk_cell BK131.out 6).trans rfl
                have hcz14_7 : wr.cell? ⟨gb131, 7, none⟩ = some (.bool a0_7) := (blk_cell BK131.out 7).trans rfl
                have hcz14_8 : wr.cell? ⟨gb131, 8, none⟩ = some (.slice A0_8 l0_8.length c0_8) := (blk_cell BK131.out 8).trans rfl
                have hfz14_0 := blk_frozen BK131.out 0
                have hfz14_1 := blk_frozen BK131.out 1
                have hfz14_2 := blk_frozen BK131.out 2
                have hfz14_3 := blk_frozen BK131.out 3
                have hfz14_4 := blk_frozen BK131.out 4
                have hfz14_5 := blk_frozen BK131.out 5
                have hfz14_6 := blk_frozen BK131.out 6
                have hfz14_7 := blk_frozen BK131.out 7
                have hfz14_8 := blk_frozen BK131.out 8
                have p133 : 0 ≤ (x5_1 : Int) := of_decide_eq_true (by first | (with_reducible assumption) | assumption)
                have q133 : x5_1 < (l0_8.length : Int) := of_decide_eq_true (by first | (with_reducible assumption) | assumption)
                obtain ⟨ad133, e133, hx133_0, hx133_1⟩ := at_T67 HR0_8.out x5_1 p133 q133
                cases e133
                replace hx133_0 := (HB.out.cell (World.block_lt_of_cell? w _ hx133_0)).trans hx133_0
                replace hx133_1 := (HB.out.cell (World.block_lt_of_cell? w _ hx133_1)).trans hx133_1
                replace p133 := eq_true p133
                replace q133 := eq_true q133
                have hcz15_0 : wr.cell? ⟨gb132, 0, none⟩ = some (.int .i64 a1_0) := (blk_cell BK132.out 0).trans rfl
                have hcz15_1 : wr.cell? ⟨gb132, 1, none⟩ = some (.int .i64 a1_1) := (blk_cell BK132.out 1).trans rfl
                have hcz15_2 : wr.cell? ⟨gb132, 2, none⟩ = some (.int .i64 a1_2) := (blk_cell BK132.out 2).trans rfl
                have hcz15_3 : wr.cell? ⟨gb132, 3, none⟩ = some (.int .i64 a1_3) := (blk_cell BK132.out 3).trans rfl
                have hcz15_4 : wr.cell? ⟨gb132, 4, none⟩ = some (.int .i64 a1_4) := (blk_cell BK132.out 4).trans rfl
                have hcz15_5 : wr.cell? ⟨gb132, 5, none⟩ = some (.int .i64 a1_5) := (blk_cell BK132.out 5).trans rfl
                have hcz15_6 : wr.cell? ⟨gb132, 6, none⟩ = some (.int .i64 a1_6) := (blk_cell BK132.out 6).trans rfl
                have hcz15_7 : wr.cell? ⟨gb132, 7, none⟩ = some (.bool a1_7) := (blk_cell BK132.out 7).trans rfl
                have hcz15_8 : wr.cell? ⟨gb132, 8, none⟩ = some (.slice A1_8 l1_8.length c1_8) := (blk_cell BK132.out 8).trans rfl
                have hfz15_0 := blk_frozen BK132.out 0
                have hfz15_1 := blk_frozen BK132.out 1
                have hfz15_2 := blk_frozen BK132.out 2
                have hfz15_3 := blk_frozen BK132.out 3
                have hfz15_4 := blk_frozen BK132.out 4
                have hfz15_5 := blk_frozen BK132.out 5
                have hfz15_6 := blk_frozen BK132.out 6
                have hfz15_7 := blk_frozen BK132.out 7
                have hfz15_8 := blk_frozen BK132.out 8
                have p134 : 0 ≤ (x5_1 : Int) := of_decide_eq_true (by first | (with_reducible assumption) | assumption)
                have q134 : x5_1 < (l1_8.length : Int) := of_decide_eq_true (by first | (with_reducible assumption) | assumption)
                obtain ⟨ad134, e134, hx134_0, hx134_1⟩ := at_T67 HR1_8.out x5_1 p134 q134
                cases e134
                replace hx134_0 := (HB.out.cell (World.block_lt_of_cell? w _ hx134_0)).trans hx134_0
                replace hx134_1 := (HB.out.cell (World.block_lt_of_cell? w _ hx134_1)).trans hx134_1
                replace p134 := eq_true p134
                replace q134 := eq_true q134
                go_wp2
                repeat (go_quiet (fail); try go_wp2)
                go_ret
                exact ⟨by first | rfl | (simp [errW_none, errW_some] <;> rfl) | (simp [*, errW_none, errW_some] <;> rfl), by repeat (first | (with_reducible first | exact HB.out | apply below_alloc | apply pw_below_drewN | apply below_drew1 | refine below_set ?_ GE131.out | refine below_set ?_ GE132.out) | exact HB.out)⟩
              · rw [if_neg c12] at H
                have c12b0 : (!(((rd_T67 l0_8 x5_1).f0) == ((rd_T67 l1_8 x5_1).f0)) || (!(((rd_T67 l0_8 x5_1).f1) == ((rd_T67 l1_8 x5_1).f1)))) = false := by simpa using c12
                clear c12
                have H' := Aside0.mk H
                clear H
                have hnb16 := NB131_132.out
                have hnc16 := NB132_131.out
                have hcz17_0 : wr.cell? ⟨gb131, 0, none⟩ = some (.int .i64 a0_0) := (blk_cell BK131.out 0).trans rfl
                have hcz17_1 : wr.cell? ⟨gb131, 1, none⟩ = some (.int .i64 a0_1) := (blk_cell BK131.out 1).trans rfl
                have hcz17_2 : wr.cell? ⟨gb131, 2, none⟩ = some (.int .i64 a0_2) := (blk_cell BK131.out 2).trans rfl
                have hcz17_3 : wr.cell? ⟨gb131, 3, none⟩ = some (.int .i64 a0_3) := (blk_cell BK131.out 3).trans rfl
                have hcz17_4 : wr.cell? ⟨gb131, 4, none⟩ = some (.int .i64 a0_4) := (blk_cell BK131.out 4).trans rfl
                have hcz17_5 : wr.cell? ⟨gb131, 5, none⟩ = some (.int .i64 a0_5) := (blk_cell BK131.out 5).trans rfl
                have hcz17_6 : wr.cell? ⟨gb131, 6, none⟩ = some (.int .i64 a0_6) := (blk_cell BK131.out 6).trans rfl
                have hcz17_7 : wr.cell? ⟨gb131, 7, none⟩ = some (.bool a0_7) := (blk_cell BK131.out 7).trans rfl
                have hcz17_8 : wr.cell? ⟨gb131, 8, none⟩ = some (.slice A0_8 l0_8.length c0_8) := (blk_cell BK131.out 8).trans rfl
                have hfz17_0 := blk_frozen BK131.out 0
                have hfz17_1 := blk_frozen BK131.out 1
                have hfz17_2 := blk_frozen BK131.out 2
                have hfz17_3 := blk_frozen BK131.out 3
                have hfz17_4 := blk_frozen BK131.out 4
                have hfz17_5 := blk_frozen BK131.out 5
                have hfz17_6 := blk_frozen BK131.out 6
                have hfz17_7 := blk_frozen BK131.out 7
                have hfz17_8 := blk_frozen BK131.out 8
                have p133 : 0 ≤ (x5_1 : Int) := of_decide_eq_true (by first | (with_reducible assumption) | assumption)
                have q133 : x5_1 < (l0_8.length : Int) := of_decide_eq_true (by first | (with_reducible assumption) | assumption)
                obtain ⟨ad133, e133, hx133_0, hx133_1⟩ := at_T67 HR0_8.out x5_1 p133 q133
                cases e133
                replace hx133_0 := (HB.out.cell (World.block_lt_of_cell? w _ hx133_0)).trans hx133_0
                replace hx133_1 := (HB.out.cell (World.block_lt_of_cell? w _ hx133_1)).trans hx133_1
                replace p133 := eq_true p133
                replace q133 := eq_true q133
                have hcz18_0 : wr.cell? ⟨gb132, 0, none⟩ = some (.int .i64 a1_0) := (blk_cell BK132.out 0).trans rfl
                have hcz18_1 : wr.cell? ⟨gb132, 1, none⟩ = some (.int .i64 a1_1) := (blk_cell BK132.out 1).trans rfl
                have hcz18_2 : wr.cell? ⟨gb132, 2, none⟩ = some (.int .i64 a1_2) := (blk_cell BK132.out 2).trans rfl
                have hcz18_3 : wr.cell? ⟨gb132, 3, none⟩ = some (.int .i64 a1_3) := (blk_cell BK132.out 3).trans rfl
                have hcz18_4 : wr.cell? ⟨gb132, 4, none⟩ = some (.int .i64 a1_4) := (blk_cell BK132.out 4).trans rfl
                have hcz18_5 : wr.cell? ⟨gb132, 5, none⟩ = some (.int .i64 a1_5) := (blk_cell BK132.out 5).trans rfl
                have hcz18_6 : wr.cell? ⟨gb132, 6, none⟩ = some (.int .i64 a1_6) := (blk_cell BK132.out 6).trans rfl
                have hcz18_7 : wr.cell? ⟨gb132, 7, none⟩ = some (.bool a1_7) := (blk_cell BK132.out 7).trans rfl
                have hcz18_8 : wr.cell? ⟨gb132, 8, none⟩ = some (.slice A1_8 l1_8.length c1_8) := (blk_cell BK132.out 8).trans rfl
                have hfz18_0 := blk_frozen BK132.out 0
                have hfz18_1 := blk_frozen BK132.out 1
                have hfz18_2 := blk_frozen BK132.out 2
                have hfz18_3 := blk_frozen BK132.out 3
                have hfz18_4 := blk_frozen BK132.out 4
                have hfz18_5 := blk_frozen BK132.out 5
                have hfz18_6 := blk_frozen BK132.out 6
                have hfz18_7 := blk_frozen BK132.out 7
                have hfz18_8 := blk_frozen BK132.out 8
                have p134 : 0 ≤ (x5_1 : Int) := of_decide_eq_true (by first | (with_reducible assumption) | assumption)
                have q134 : x5_1 < (l1_8.length : Int) := of_decide_eq_true (by first | (with_reducible assumption) | assumption)
                obtain ⟨ad134, e134, hx134_0, hx134_1⟩ := at_T67 HR1_8.out x5_1 p134 q134
                cases e134
                replace hx134_0 := (HB.out.cell (World.block_lt_of_cell? w _ hx134_0)).trans hx134_0
                replace hx134_1 := (HB.out.cell (World.block_lt_of_cell? w _ hx134_1)).trans hx134_1
                replace p134 := eq_true p134
                replace q134 := eq_true q134
                go_wp2
                repeat (go_quiet (fail); try go_wp2)
                go_roundg k1
                case measure => have := HK1.out; omega
                case rel => exact ⟨(wrap64 (x5_1 + 1)), (by first | rfl | (simp; done) | (simp [*]; done)), H', ⟨by have := HK1.out; omega⟩, ⟨by (with_reducible repeat (first | refine blk_drewN ?_ _ | refine blk_drew ?_ | refine blk_alloc ?_ _)); exact BK131.out⟩, ⟨by (with_reducible repeat (first | refine blk_drewN ?_ _ | refine blk_drew ?_ | refine blk_alloc ?_ _)); exact BK132.out⟩, ⟨by repeat (first | (with_reducible first | exact HB.out | apply below_alloc | apply pw_below_drewN | apply below_drew1 | refine below_set ?_ GE131.out | refine below_set ?_ GE132.out) | exact HB.out)⟩⟩
            · rw [if_neg c11] at H
              exact absurd H (by simp)
          · rw [if_neg c10] at H
            exact absurd H (by simp)
        · rw [if_neg c9] at H
          have c9b0 : decide (x5_1 < (l0_8.length : Int)) = false := decide_eq_false c9
          clear c9
          by_cases c19 : a0_0 = a1_0
          · rw [if_pos c19] at H
            have c19b0 : (a0_0 == a1_0) = true := beq_iff_eq.mpr c19
            have c19b1 : (a0_0 != a1_0) = false := bne_eq_false_iff_eq.mpr c19
            clear c19
            by_cases c20 : a0_1 = a1_1
            · rw [if_pos c20] at H
              have c20b0 : (a0_1 == a1_1) = true := beq_iff_eq.mpr c20
              have c20b1 : (a0_1 != a1_1) = false := bne_eq_false_iff_eq.mpr c20
              clear c20
              by_cases c21 : a0_2 = a1_2
              · rw [if_pos c21] at H
                have c21b0 : (a0_2 == a1_2) = true := beq_iff_eq.mpr c21
                have c21b1 : (a0_2 != a1_2) = false := bne_eq_false_iff_eq.mpr c21
                clear c21
                by_cases c22 : a0_3 = a1_3
                · rw [if_pos c22] at H
                  have c22b0 : (a0_3 == a1_3) = true := beq_iff_eq.mpr c22
                  have c22b1 : (a0_3 != a1_3) = false := bne_eq_false_iff_eq.mpr c22
                  clear c22
                  by_cases c23 : a0_4 = a1_4
                  · rw [if_pos c23] at H
                    have c23b0 : (a0_4 == a1_4) = true := beq_iff_eq.mpr c23
                    have c23b1 : (a0_4 != a1_4) = false := bne_eq_false_iff_eq.mpr c23
                    clear c23
                    by_cases c24 : (a0_5 == a1_5 && (a0_6 == a1_6)) = true
                    · rw [if_pos c24] at H
                      have c24b0 : (a0_5 == a1_5 && (a0_6 == a1_6)) = true := c24
                      (try (have c24b1 : decide (a0_5 = a1_5 && (a0_6 == a1_6)) = true := by simpa using c24))
                      (try (have c24b2 : (a0_5 == a1_5 && (a0_6 == a1_6)) = true := by simpa using c24))
                      clear c24
                      obtain rfl := Option.some.inj H
                      have hnb25 := NB131_132.out
                      have hnc25 := NB132_131.out
                      have hcz26_0 : wr.cell? ⟨gb131, 0, none⟩ = some (.int .i64 a0_0) := (blk_cell BK131.out 0).trans rfl
                      have hcz26_1 : wr.cell? ⟨gb131, 1, none⟩ = some (.int .i64 a0_1) := (blk_cell BK131.out 1).trans rfl
                      have hcz26_2 : wr.cell? ⟨gb131, 2, none⟩ = some (.int .i64 a0_2) := (blk_cell BK131.out 2).trans rfl
                      have hcz26_3 : wr.cell? ⟨gb131, 3, none⟩ = some (.int .i64 a0_3) := (blk_cell BK131.out 3).trans rfl
                      have hcz26_4 : wr.cell? ⟨gb131, 4, none⟩ = some (.int .i64 a0_4) := (blk_cell BK131.out 4).trans rfl
                      have hcz26_5 : wr.cell? ⟨gb131, 5, none⟩ = some (.int .i64 a0_5) := (blk_cell BK131.out 5).trans rfl
                      have hcz26_6 : wr.cell? ⟨gb131, 6, none⟩ = some (.int .i64 a0_6) := (blk_cell BK131.out 6).trans rfl
                      have hcz26_7 : wr.cell? ⟨gb131, 7, none⟩ = some (.bool a0_7) := (blk_cell BK131.out 7).trans rfl
                      have hcz26_8 : wr.cell? ⟨gb131, 8, none⟩ = some (.slice A0_8 l0_8.length c0_8) := (blk_cell BK131.out 8).trans rfl
                      have hfz26_0 := blk_frozen BK131.out 0
                      have hfz26_1 := blk_frozen BK131.out 1
                      have hfz26_2 := blk_frozen BK131.out 2
                      have hfz26_3 := blk_frozen BK131.out 3
                      have hfz26_4 := blk_frozen BK131.out 4
                      have hfz26_5 := blk_frozen BK131.out 5
                      have hfz26_6 := blk_frozen BK131.out 6
                      have hfz26_7 := blk_frozen BK131.out 7
                      have hfz26_8 := blk_frozen BK131.out 8
                      have hcz27_0 : wr.cell? ⟨gb132, 0, none⟩ = some (.int .i64 a1_0) := (blk_cell BK132.out 0).trans rfl
                      have hcz27_1 : wr.cell? ⟨gb132, 1, none⟩ = some (.int .i64 a1_1) := (blk_cell BK132.out 1).trans rfl
                      have hcz27_2 : wr.cell? ⟨gb132, 2, none⟩ = some (.int .i64 a1_2) := (blk_cell BK132.out 2).trans rfl
                      have hcz27_3 : wr.cell? ⟨gb132, 3, none⟩ = some (.int .i64 a1_3) := (blk_cell BK132.out 3).trans rfl
                      have hcz27_4 : wr.cell? ⟨gb132, 4, none⟩ = some (.int .i64 a1_4) := (blk_cell BK132.out 4).trans rfl
                      have hcz27_5 : wr.cell? ⟨gb132, 5, none⟩ = some (.int .i64 a1_5) := (blk_cell BK132.out 5).trans rfl
                      have hcz27_6 : wr.cell? ⟨gb132, 6, none⟩ = some (.int .i64 a1_6) := (blk_cell BK132.out 6).trans rfl
                      have hcz27_7 : wr.cell? ⟨gb132, 7, none⟩ = some (.bool a1_7) := (blk_cell BK132.out 7).trans rfl
                      have hcz27_8 : wr.cell? ⟨gb132, 8, none⟩ = some (.slice A1_8 l1_8.length c1_8) := (blk_cell BK132.out 8).trans rfl
                      have hfz27_0 := blk_frozen BK132.out 0
                      have hfz27_1 := blk_frozen BK132.out 1
                      have hfz27_2 := blk_frozen BK132.out 2
                      have hfz27_3 := blk_frozen BK132.out 3
                      have hfz27_4 := blk_frozen BK132.out 4
                      have hfz27_5 := blk_frozen BK132.out 5
                      have hfz27_6 := blk_frozen BK132.out 6
                      have hfz27_7 := blk_frozen BK132.out 7
                      have hfz27_8 := blk_frozen BK132.out 8
                      go_wp2
                      repeat (go_quiet (fail); try go_wp2)
                      go_ret
                      exact ⟨by first | rfl | (simp [errW_none, errW_some] <;> rfl) | (simp [*, errW_none, errW_some] <;> rfl), by repeat (first | (with_reducible first | exact HB.out | apply below_alloc | apply pw_below_drewN | apply below_drew1 | refine below_set ?_ GE131.out | refine below_set ?_ GE132.out) | exact HB.out)⟩
                    · rw [if_neg c24] at H
                      have c24b0 : (a0_5 == a1_5 && (a0_6 == a1_6)) = false := by simpa using c24
                      (try (have c24b1 : decide (a0_5 = a1_5 && (a0_6 == a1_6)) = false := by simpa using c24))
                      (try (have c24b2 : (a0_5 == a1_5 && (a0_6 == a1_6)) = false := by simpa using c24))
                      (try (have c24b3 : ¬ (a0_5 = a1_5 && (a0_6 == a1_6)) := by simpa using c24))
                      clear c24
                      obtain rfl := Option.some.inj H
                      have hnb28 := NB131_132.out
                      have hnc28 := NB132_131.out
                      have hcz29_0 : wr.cell? ⟨gb131, 0, none⟩ = some (.int .i64 a0_0) := (blk_cell BK131.out 0).trans rfl
                      have hcz29_1 : wr.cell? ⟨gb131, 1, none⟩ = some (.int .i64 a0_1) := (blk_cell BK131.out 1).trans rfl
                      have hcz29_2 : wr.cell? ⟨gb131, 2, none⟩ = some (.int .i64 a0_2) := (blk_cell BK131.out 2).trans rfl
                      have hcz29_3 : wr.cell? ⟨gb131, 3, none⟩ = some (.int .i64 a0_3) := (blk_cell BK131.out 3).trans rfl
                      have hcz29_4 : wr.cell? ⟨gb131, 4, none⟩ = some (.int .i64 a0_4) := (blk_cell BK131.out 4).trans rfl
                      have hcz29_5 : wr.cell? ⟨gb131, 5, none⟩ = some (.int .i64 a0_5) := (blk_cell BK131.out 5).trans rfl
                      have hcz29_6 : wr.cell? ⟨gb131, 6, none⟩ = some (.int .i64 a0_6) := (blk_cell BK131.out 6).trans rfl
                      have hcz29_7 : wr.cell? ⟨gb131, 7, none⟩ = some (.bool a0_7) := (blk_cell BK131.out 7).trans rfl
                      have hcz29_8 : wr.cell? ⟨gb131, 8, none⟩ = some (.slice A0_8 l0_8.length c0_8) := (blk_cell BK131.out 8).trans rfl
                      have hfz29_0 := blk_frozen BK131.out 0
                      have hfz29_1 := blk_frozen BK131.out 1
                      have hfz29_2 := blk_frozen BK131.out 2
                      have hfz29_3 := blk_frozen BK131.out 3
                      have hfz29_4 := blk_frozen BK131.out 4
                      have hfz29_5 := blk_frozen BK131.out 5
                      have hfz29_6 := blk_frozen BK131.out 6
                      have hfz29_7 := blk_frozen BK131.out 7
                      have hfz29_8 := blk_frozen BK131.out 8
                      have hcz30_0 : wr.cell? ⟨gb132, 0, none⟩ = some (.int .i64 a1_0) := (blk_cell BK132.out 0).trans rfl
                      have hcz30_1 : wr.cell? ⟨gb132, 1, none⟩ = some (.int .i64 a1_1) := (blk_cell BK132.out 1).trans rfl
                      have hcz30_2 : wr.cell? ⟨gb132, 2, none⟩ = some (.int .i64 a1_2) := (blk_cell BK132.out 2).trans rfl
                      have hcz30_3 : wr.cell? ⟨gb132, 3, none⟩ = some (.int .i64 a1_3) := (blk_cell BK132.out 3).trans rfl
                      have hcz30_4 : wr.cell? ⟨gb132, 4, none⟩ = some (.int .i64 a1_4) := (blk_cell BK132.out 4).trans rfl
                      have hcz30_5 : wr.cell? ⟨gb132, 5, none⟩ = some (.int .i64 a1_5) := (blk_cell BK132.out 5).trans rfl
                      have hcz30_6 : wr.cell? ⟨gb132, 6, none⟩ = some (.int .i64 a1_6) := (blk_cell BK132.out 6).trans rfl
                      have hcz30_7 : wr.cell? ⟨gb132, 7, none⟩ = some (.bool a1_7) := (blk_cell BK132.out 7).trans rfl
                      have hcz30_8 : wr.cell? ⟨gb132, 8, none⟩ = some (.slice A1_8 l1_8.length c1_8) := (blk_cell BK132.out 8).trans rfl
                      have hfz30_0 := blk_frozen BK132.out 0
                      have hfz30_1 := blk_frozen BK132.out 1
                      have hfz30_2 := blk_frozen BK132.out 2
                      have hfz30_3 := blk_frozen BK132.out 3
                      have hfz30_4 := blk_frozen BK132.out 4
                      have hfz30_5 := blk_frozen BK132.out 5
                      have hfz30_6 := blk_frozen BK132.out 6
                      have hfz30_7 := blk_frozen BK132.out 7
                      have hfz30_8 := blk_frozen BK132.out 8
                      go_wp2
                      repeat (go_quiet (fail); try go_wp2)
                      go_ret
                      exact ⟨by first | rfl | (simp [errW_none, errW_some] <;> rfl) | (simp [*, errW_none, errW_some] <;> rfl), by repeat (first | (with_reducible first | exact HB.out | apply below_alloc | apply pw_below_drewN | apply below_drew1 | refine below_set ?_ GE131.out | refine below_set ?_ GE132.out) | exact HB.out)⟩
                  · rw [if_neg c23] at H
                    have c23b0 : (a0_4 == a1_4) = false := beq_eq_false_iff_ne.mpr c23
                    have c23b1 : (a0_4 != a1_4) = true := bne_iff_ne.mpr c23
                    obtain rfl := Option.some.inj H
                    have hnb31 := NB131_132.out
                    have hnc31 := NB132_131.out
                    have hcz32_0 : wr.cell? ⟨gb131, 0, none⟩ = some (.int .i64 a0_0) := (blk_cell BK131.out 0).trans rfl
                    have hcz32_1 : wr.cell? ⟨gb131, 1, none⟩ = some (.int .i64 a0_1) := (blk_cell BK131.out 1).trans rfl
                    have hcz32_2 : wr.cell? ⟨gb131, 2, none⟩ = some (.int .i64 a0_2) := (blk_cell BK131.out 2).trans rfl
                    have hcz32_3 : wr.cell? ⟨gb131, 3, none⟩ = some (.int .i64 a0_3) := (blk_cell BK131.out 3).trans rfl
                    have hcz32_4 : wr.cell? ⟨gb131, 4, none⟩ = some (.int .i64 a0_4) := (blk_cell BK131.out 4).trans rfl
                    have hcz32_5 : wr.cell? ⟨gb131, 5, none⟩ = some (.int .i64 a0_5) := (blk_cell BK131.out 5).trans rfl
                    have hcz32_6 : wr.cell? ⟨gb131, 6, none⟩ = some (.int .i64 a0_6) := (blk_cell BK131.out 6).trans rfl
                    have hcz32_7 : wr.cell? ⟨gb131, 7, none⟩ = some (.bool a0_7) := (blk_cell BK131.out 7).trans rfl
                    have hcz32_8 : wr.cell? ⟨gb131, 8, none⟩ = some (.slice A0_8 l0_8.length c0_8) := (blk_cell BK131.out 8).trans rfl
                    have hfz32_0 := blk_frozen BK131.out 0
                    have hfz32_1 := blk_frozen BK131.out 1
                    have hfz32_2 := blk_frozen BK131.out 2
                    have hfz32_3 := blk_frozen BK131.out 3
                    have hfz32_4 := blk_frozen BK131.out 4
                    have hfz32_5 := blk_frozen BK131.out 5
                    have hfz32_6 := blk_frozen BK131.out 6
                    have hfz32_7 := blk_frozen BK131.out 7
                    have hfz32_8 := blk_frozen BK131.out 8
                    have hcz33_0 : wr.cell? ⟨gb132, 0, none⟩ = some (.int .i64 a1_0) := (blk_cell BK132.out 0).trans rfl
                    have hcz33_1 : wr.cell? ⟨gb132, 1, none⟩ = some (.int .i64 a1_1) := (blk_cell BK132.out 1).trans rfl
                    have hcz33_2 : wr.cell? ⟨gb132, 2, none⟩ = some (.int .i64 a1_2) := (blk_cell BK132.out 2).trans rfl
                    have hcz33_3 : wr.cell? ⟨gb132, 3, none⟩ = some (.int .i64 a1_3) := (blk_cell BK132.out 3).trans rfl
                    have hcz33_4 : wr.cell? ⟨gb132, 4, none⟩ = some (.int .i64 a1_4) := (blk_cell BK132.out 4).trans rfl
                    have hcz33_5 : wr.cell? ⟨gb132, 5, none⟩ = some (.int .i64 a1_5) := (blk_cell BK132.out 5).trans rfl
                    have hcz33_6 : wr.cell? ⟨gb132, 6, none⟩ = some (.int .i64 a1_6) := (blk_cell BK132.out 6).trans rfl
                    have hcz33_7 : wr.cell? ⟨gb132, 7, none⟩ = some (.bool a1_7) := (blk_cell BK132.out 7).trans rfl
                    have hcz33_8 : wr.cell? ⟨gb132, 8, none⟩ = some (.slice A1_8 l1_8.length c1_8) := (blk_cell BK132.out 8).trans rfl
                    have hfz33_0 := blk_frozen BK132.out 0
                    have hfz33_1 := blk_frozen BK132.out 1
                    have hfz33_2 := blk_frozen BK132.out 2
                    have hfz33_3 := blk_frozen BK132.out 3
                    have hfz33_4 := blk_frozen BK132.out 4
                    have hfz33_5 := blk_frozen BK132.out 5
                    have hfz33_6 := blk_frozen BK132.out 6
                    have hfz33_7 := blk_frozen BK132.out 7
                    have hfz33_8 := blk_frozen BK132.out 8
                    go_wp2
                    repeat (go_quiet (fail); try go_wp2)
                    go_ret
                    exact ⟨by first | rfl | (simp [errW_none, errW_some] <;> rfl) | (simp [*, errW_none, errW_some] <;> rfl), by repeat (first | (with_reducible first | exact HB.out | apply below_alloc | apply pw_below_drewN | apply below_drew1 | refine below_set ?_ GE131.out | refine below_set ?_ GE132.out) | exact HB.out)⟩
                · rw [if_neg c22] at H
                  have c22b0 : (a0_3 == a1_3) = false := beq_eq_false_iff_ne.mpr c22
                  have c22b1 : (a0_3 != a1_3) = true := bne_iff_ne.mpr c22
                  obtain rfl := Option.some.inj H
                  have hnb34 := NB131_132.out
                  have hnc34 := NB132_131.out
                  have hcz35_0 : wr.cell? ⟨gb131, 0, none⟩ = some (.int .i64 a0_0) := (blk_cell BK131.out 0).trans rfl
                  have hcz35_1 : wr.cell? ⟨gb131, 1, none⟩ = some (.int .i64 a0_1) := (blk_cell BK131.out 1).trans rfl
                  have hcz35_2 : wr.cell? ⟨gb131, 2, none⟩ = some (.int .i64 a0_2) := (blk_cell BK131.out 2).trans rfl
                  have hcz35_3 : wr.cell? ⟨gb131, 3, none⟩ = some (.int .i64 a0_3) := (blk_cell BK131.out 3).trans rfl
                  have hcz35_4 : wr.cell? ⟨gb131, 4, none⟩ = some (.int .i64 a0_4) := (blk_cell BK131.out 4).trans rfl
                  have hcz35_5 : wr.cell? ⟨gb131, 5, none⟩ = some (.int .i64 a0_5) := (blk_cell BK131.out 5).trans rfl
                  have hcz35_6 : wr.cell? ⟨gb131, 6, none⟩ = some (.int .i64 a0_6) := (blk_cell BK131.out 6).trans rfl
                  have hcz35_7 : wr.cell? ⟨gb131, 7, none⟩ = some (.bool a0_7) := (blk_cell BK131.out 7).trans rfl
                  have hcz35_8 : wr.cell? ⟨gb131, 8, none⟩ = some (.slice A0_8 l0_8.length c0_8) := (blk_cell BK131.out 8).trans rfl
                  have hfz35_0 := blk_frozen BK131.out 0
                  have hfz35_1 := blk_frozen BK131.out 1
                  have hfz35_2 := blk_frozen BK131.out 2
                  have hfz35_3 := blk_frozen BK131.out 3
                  have hfz35_4 := blk_frozen BK131.out 4
                  have hfz35_5 := blk_frozen BK131.out 5
                  have hfz35_6 := blk_frozen BK131.out 6
                  have hfz35_7 := blk_frozen BK131.out 7
                  have hfz35_8 := blk_frozen BK131.out 8
                  have hcz36_0 : wr.cell? ⟨gb132, 0, none⟩ = some (.int .i64 a1_0) := (blk_cell BK132.out 0).trans rfl
                  have hcz36_1 : wr.cell? ⟨gb132, 1, none⟩ = some (.int .i64 a1_1) := (blk_cell BK132.out 1).trans rfl
                  have hcz36_2 : wr.cell? ⟨gb132, 2, none⟩ = some (.int .i64 a1_2) := (blk_cell BK132.out 2).trans rfl
                  have hcz36_3 : wr.cell? ⟨gb132, 3, none⟩ = some (.int .i64 a1_3) := (blk_cell BK132.out 3).trans rfl
                  have hcz36_4 : wr.cell? ⟨gb132, 4, none⟩ = some (.int .i64 a1_4) := (blk_cell BK132.out 4).trans rfl
                  have hcz36_5 : wr.cell? ⟨gb132, 5, none⟩ = some (.int .i64 a1_5) := (blk_cell BK132.out 5).trans rfl
                  have hcz36_6 : wr.cell? ⟨gb132, 6, none⟩ = some (.int .i64 a1_6) := (blk_cell BK132.out 6).trans rfl
                  have hcz36_7 : wr.cell? ⟨gb132, 7, none⟩ = some (.bool a1_7) := (blk_cell BK132.out 7).trans rfl
                  have hcz36_8 : wr.cell? ⟨gb132, 8, none⟩ = some (.slice A1_8 l1_8.length c1_8) := (blk_cell BK132.out 8).trans rfl
                  have hfz36_0 := blk_frozen BK132.out 0
                  have hfz36_1 := blk_frozen BK132.out 1
                  have hfz36_2 := blk_frozen BK132.out 2
                  have hfz36_3 := blk_frozen BK132.out 3
                  have hfz36_4 := blk_frozen BK132.out 4
                  have hfz36_5 := blk_frozen BK132.out 5
                  have hfz36_6 := blk_frozen BK132.out 6
                  have hfz36_7 := blk_frozen BK132.out 7
                  have hfz36_8 := blk_frozen BK132.out 8
                  go_wp2
                  repeat (go_quiet (fail); try go_wp2)
                  go_ret
                  exact ⟨by first | rfl | (simp [errW_none, errW_some] <;> rfl) | (simp [*, errW_none, errW_some] <;> rfl), by repeat (first | (with_reducible first | exact HB.out | apply below_alloc | apply pw_below_drewN | apply below_drew1 | refine below_set ?_ GE131.out | refine below_set ?_ GE132.out) | exact HB.out)⟩
              · rw [if_neg c21] at H
                have c21b0 : (a0_2 == a1_2) = false := beq_eq_false_iff_ne.mpr c21
                have c21b1 : (a0_2 != a1_2) = true := bne_iff_ne.mpr c21
                obtain rfl := Option.some.inj H
                have hnb37 := NB131_132.out
                have hnc37 := NB132_131.out
                have hcz38_0 : wr.cell? ⟨gb131, 0, none⟩ = some (.int .i64 a0_0) := (blk_cell BK131.out 0).trans rfl
                have hcz38_1 : wr.cell? ⟨gb131, 1, none⟩ = some (.int .i64 a0_1) := (blk_cell BK131.out 1).trans rfl
                have hcz38_2 : wr.cell? ⟨gb131, 2, none⟩ = some (.int .i64 a0_2) := (blk_cell BK131.out 2).trans rfl
                have hcz38_3 : wr.cell? ⟨gb131, 3, none⟩ = some (.int .i64 a0_3) := (blk_cell BK131.out 3).trans rfl
                have hcz38_4 : wr.cell? ⟨gb131, 4, none⟩ = some (.int .i64 a0_4) := (blk_cell BK131.out 4).trans rfl
                have hcz38_5 : wr.cell? ⟨gb131, 5, none⟩ = some (.int .i64 a0_5) := (blk_cell BK131.out 5).trans rfl
                have hcz38_6 : wr.cell? ⟨gb131, 6, none⟩ = some (.int .i64 a0_6) := (blk_cell BK131.out 6).trans rfl
                have hcz38_7 : wr.cell? ⟨gb131, 7, none⟩ = some (.bool a0_7) := (blk_cell BK131.out 7).trans rfl
                have hcz38_8 : wr.cell? ⟨gb131, 8, none⟩ = some (.slice A0_8 l0_8.length c0_8) := (blk_cell BK131.out 8).trans rfl
                have hfz38_0 := blk_frozen BK131.out 0
                have hfz38_1 := blk_frozen BK131.out 1
                have hfz38_2 := blk_frozen BK131.out 2
                have hfz38_3 := blk_frozen BK131.out 3
                have hfz38_4 := blk_frozen BK131.out 4
                have hfz38_5 := blk_frozen BK131.out 5
                have hfz38_6 := blk_frozen BK131.out 6
                have hfz38_7 := blk_frozen BK131.out 7
                have hfz38_8 := blk_frozen BK131.out 8
                have hcz39_0 : wr.cell? ⟨gb132, 0, none⟩ = some (.int .i64 a1_0) := (blk_cell BK132.out 0).trans rfl
                have hcz39_1 : wr.cell? ⟨gb132, 1, none⟩ = some (.int .i64 a1_1) := (blk_cell BK132.out 1).trans rfl
                have hcz39_2 : wr.cell? ⟨gb132, 2, none⟩ = some (.int .i64 a1_2) := (blk_cell BK132.out 2).trans rfl
                have hcz39_3 : wr.cell? ⟨gb132, 3, none⟩ = some (.int .i64 a1_3) := (blk_cell BK132.out 3).trans rfl
                have hcz39_4 : wr.cell? ⟨gb132, 4, none⟩ = some (.int .i64 a1_4) := (blk_cell BK132.out 4).trans rfl
                have hcz39_5 : wr.cell? ⟨gb132, 5, none⟩ = some (.int .i64 a1_5) := (blk_cell BK132.out 5).trans rfl
                have hcz39_6 : wr.cell? ⟨gb132, 6, none⟩ = some (.int .i64 a1_6) := (blk_cell BK132.out 6).trans rfl
                have hcz39_7 : wr.cell? ⟨gb132, 7, none⟩ = some (.bool a1_7) := (blk_cell BK132.out 7).trans rfl
                have hcz39_8 : wr.cell? ⟨gb132, 8, none⟩ = some (.slice A1_8 l1_8.length c1_8) := (blk_cell BK132.out 8).trans rfl
                have hfz39_0 := blk_frozen BK132.out 0
                have hfz39_1 := blk_frozen BK132.out 1
                have hfz39_2 := blk_frozen BK132.out 2
                have hfz39_3 := blk_frozen BK132.out 3
                have hfz39_4 := blk_frozen BK132.out 4
                have hfz39_5 := blk_frozen BK132.out 5
                have hfz39_6 := blk_frozen BK132.out 6
                have hfz39_7 := blk_frozen BK132.out 7
                have hfz39_8 := blk_frozen BK132.out 8
                go_wp2
                repeat (go_quiet (fail); try go_wp2)
                go_ret
                exact ⟨by first | rfl | (simp [errW_none, errW_some] <;> rfl) | (simp [*, errW_none, errW_some] <;> rfl), by repeat (first | (with_reducible first | exact HB.out | apply below_alloc | apply pw_below_drewN | apply below_drew1 | refine below_set ?_ GE131.out | refine below_set ?_ GE132.out) | exact HB.out)⟩
            · rw [if_neg c20] at H
              have c20b0 : (a0_1 == a1_1) = false := beq_eq_false_iff_ne.mpr c20
              have c20b1 : (a0_1 != a1_1) = true := bne_iff_ne.mpr c20
              obtain rfl := Option.some.inj H
              have hnb40 := NB131_132.out
              have hnc40 := NB132_131.out
              have hcz41_0 : wr.cell? ⟨gb131, 0, none⟩ = some (.int .i64 a0_0) := (blk_cell BK131.out 0).trans rfl
              have hcz41_1 : wr.cell? ⟨gb131, 1, none⟩ = some (.int .i64 a0_1) := (blk_cell BK131.out 1).trans rfl
              have hcz41_2 : wr.cell? ⟨gb131, 2, none⟩ = some (.int .i64 a0_2) := (blk_cell BK131.out 2).trans rfl
              have hcz41_3 : wr.cell? ⟨gb131, 3, none⟩ = some (.int .i64 a0_3) := (blk_cell BK131.out 3).trans rfl
              have hcz41_4 : wr.cell? ⟨gb131, 4, none⟩ = some (.int .i64 a0_4) := (blk_cell BK131.out 4).trans rfl
              have hcz41_5 : wr.cell? ⟨gb131, 5, none⟩ = some (.int .i64 a0_5) := (blk_cell BK131.out 5).trans rfl
              have hcz41_6 : wr.cell? ⟨gb131, 6, none⟩ = some (.int .i64 a0_6) := (blk_cell BK131.out 6).trans rfl
              have hcz41_7 : wr.cell? ⟨gb131, 7, none⟩ = some (.bool a0_7) := (blk_cell BK131.out 7).trans rfl
              have hcz41_8 : wr.cell? ⟨gb131, 8, none⟩ = some (.slice A0_8 l0_8.length c0_8) := (blk_cell BK131.out 8).trans rfl
              have hfz41_0 := blk_frozen BK131.out 0
              have hfz41_1 := blk_frozen BK131.out 1
              have hfz41_2 := blk_frozen BK131.out 2
              have hfz41_3 := blk_frozen BK131.out 3
              have hfz41_4 := blk_frozen BK131.out 4
              have hfz41_5 := blk_frozen BK131.out 5
              have hfz41_6 := blk_frozen BK131.out 6
              have hfz41_7 := blk_frozen BK131.out 7
              have hfz41_8 := blk_frozen BK131.out 8
              have hcz42_0 : wr.cell? ⟨gb132, 0, none⟩ = some (.int .i64 a1_0) := (blk_cell BK132.out 0).trans rfl
              have hcz42_1 : wr.cell? ⟨gb132, 1, none⟩ = some (.int .i64 a1_1) := (blk_cell BK132.out 1).trans rfl
              have hcz42_2 : wr.cell? ⟨gb132, 2, none⟩ = some (.int .i64 a1_2) := (blk_cell BK132.out 2).trans rfl
              have hcz42_3 : wr.cell? ⟨gb132, 3, none⟩ = some (.int .i64 a1_3) := (blk_cell BK132.out 3).trans rfl
              have hcz42_4 : wr.cell? ⟨gb132, 4, none⟩ = some (.int .i64 a1_4) := (blk_cell BK132.out 4).trans rfl
              have hcz42_5 : wr.cell? ⟨gb132, 5, none⟩ = some (.int .i64 a1_5) := (blk_cell BK132.out 5).trans rfl
              have hcz42_6 : wr.cell? ⟨gb132, 6, none⟩ = some (.int .i64 a1_6) := (blk_cell BK132.out 6).trans rfl
              have hcz42_7 : wr.cell? ⟨gb132, 7, none⟩ = some (.bool a1_7) := (blk_cell BK132.out 7).trans rfl
              have hcz42_8 : wr.cell? ⟨gb132, 8, none⟩ = some (.slice A1_8 l1_8.length c1_8) := (blk_cell BK132.out 8).trans rfl
              have hfz42_0 := blk_frozen BK132.out 0
              have hfz42_1 := blk_frozen BK132.out 1
              have hfz42_2 := blk_frozen BK132.out 2
              have hfz42_3 := blk_frozen BK132.out 3
              have hfz42_4 := blk_frozen BK132.out 4
              have hfz42_5 := blk_frozen BK132.out 5
              have hfz42_6 := blk_frozen BK132.out 6
              have hfz42_7 := blk_frozen BK132.out 7
              have hfz42_8 := blk_frozen BK132.out 8
              go_wp2
              repeat (go_quiet (fail); try go_wp2)
              go_ret
              exact ⟨by first | rfl | (simp [errW_none, errW_some] <;> rfl) | (simp [*, errW_none, errW_some] <;> rfl), by repeat (first | (with_reducible first | exact HB.out | apply below_alloc | apply pw_below_drewN | apply below_drew1 | refine below_set ?_ GE131.out | refine below_set ?_ GE132.out) | exact HB.out)⟩
          · rw [if_neg c19] at H
            have c19b0 : (a0_0 == a1_0) = false := beq_eq_false_iff_ne.mpr c19
            have c19b1 : (a0_0 != a1_0) = true := bne_iff_ne.mpr c19
            obtain rfl := Option.some.inj H
            have hnb43 := NB131_132.out
            have hnc43 := NB132_131.out
            have hcz44_0 : wr.cell? ⟨gb131, 0, none⟩ = some (.int .i64 a0_0) := (blk_cell BK131.out 0).trans rfl
            have hcz44_1 : wr.cell? ⟨gb131, 1, none⟩ = some (.int .i64 a0_1) := (blk_cell BK131.out 1).trans rfl
            have hcz44_2 : wr.cell? ⟨gb131, 2, none⟩ = some (.int .i64 a0_2) := (blk_cell BK131.out 2).trans rfl
            have hcz44_3 : wr.cell? ⟨gb131, 3, none⟩ = some (.int .i64 a0_3) := (blk_cell BK131.out 3).trans rfl
            have hcz44_4 : wr.cell? ⟨gb131, 4, none⟩ = some (.int .i64 a0_4) := (blk_cell BK131.out 4).trans rfl
            have hcz44_5 : wr.cell? ⟨gb131, 5, none⟩ = some (.int .i64 a0_5) := (blk_cell BK131.out 5).trans rfl
            have hcz44_6 : wr.cell? ⟨gb131, 6, none⟩ = some (.int .i64 a0_6) := (blk_cell BK131.out 6).trans rfl
            have hcz44_7 : wr.cell? ⟨gb131, 7, none⟩ = some (.bool a0_7) := (blk_cell BK131.out 7).trans rfl
            have hcz44_8 : wr.cell? ⟨gb131, 8, none⟩ = some (.slice A0_8 l0_8.length c0_8) := (blk_cell BK131.out 8).trans rfl
            have hfz44_0 := blk_frozen BK131.out 0
            have hfz44_1 := blk_frozen BK131.out 1
            have hfz44_2 := blk_frozen BK131.out 2
            have hfz44_3 := blk_frozen BK131.out 3
            have hfz44_4 := blk_frozen BK131.out 4
            have hfz44_5 := blk_frozen BK131.out 5
            have hfz44_6 := blk_frozen BK131.out 6
            have hfz44_7 := blk_frozen BK131.out 7
            have hfz44_8 := blk_frozen BK131.out 8
            have hcz45_0 : wr.cell? ⟨gb132, 0, none⟩ = some (.int .i64 a1_0) := (blk_cell BK132.out 0).trans rfl
            have hcz45_1 : wr.cell? ⟨gb132, 1, none⟩ = some (.int .i64 a1_1) := (blk_cell BK132.out 1).trans rfl
            have hcz45_2 : wr.cell? ⟨gb132, 2, none⟩ = some (.int .i64 a1_2) := (blk_cell BK132.out 2).trans rfl
            have hcz45_3 : wr.cell? ⟨gb132, 3, none⟩ = some (.int .i64 a1_3) := (blk_cell BK132.out 3).trans rfl
            have hcz45_4 : wr.cell? ⟨gb132, 4, none⟩ = some (.int .i64 a1_4) := (blk_cell BK132.out 4).trans rfl
            have hcz45_5 : wr.cell? ⟨gb132, 5, none⟩ = some (.int .i64 a1_5) := (blk_cell BK132.out 5).trans rfl
            have hcz45_6 : wr.cell? ⟨gb132, 6, none⟩ = some (.int .i64 a1_6) := (blk_cell BK132.out 6).trans rfl
            have hcz45_7 : wr.cell? ⟨gb132, 7, none⟩ = some (.bool a1_7) := (blk_cell BK132.out 7).trans rfl
            have hcz45_8 : wr.cell? ⟨gb132, 8, none⟩ = some (.slice A1_8 l1_8.length c1_8) := (blk_cell BK132.out 8).trans rfl
            have hfz45_0 := blk_frozen BK132.out 0
            have hfz45_1 := blk_frozen BK132.out 1
            have hfz45_2 := blk_frozen BK132.out 2
            have hfz45_3 := blk_frozen BK132.out 3
            have hfz45_4 := blk_frozen BK132.out 4
            have hfz45_5 := blk_frozen BK132.out 5
            have hfz45_6 := blk_frozen BK132.out 6
            have hfz45_7 := blk_frozen BK132.out 7
            have hfz45_8 := blk_frozen BK132.out 8
            go_wp2
            repeat (go_quiet (fail); try go_wp2)
            go_ret
            exact ⟨by first | rfl | (simp [errW_none, errW_some] <;> rfl) | (simp [*, errW_none, errW_some] <;> rfl), by repeat (first | (with_reducible first | exact HB.out | apply below_alloc | apply pw_below_drewN | apply below_drew1 | refine below_set ?_ GE131.out | refine below_set ?_ GE132.out) | exact HB.out)⟩
  · rw [if_neg c3] at H
    have c3b0 : ((l0_8.length : Int) == (l1_8.length : Int)) = false := beq_eq_false_iff_ne.mpr c3
    have c3b1 : ((l0_8.length : Int) != (l1_8.length : Int)) = true := bne_iff_ne.mpr c3
    have c3b2 : (l0_8.length == l1_8.length) = false := by first | simpa using c3 | (simp at c3 ⊢; omega)
    obtain rfl := Option.some.inj H
    go_enter Try.func20, Try.ntmps20
    go_wp2_with (first | ((with_reducible refine gate_dst (N := 2) rfl ?_); refine box_event ?hg (N := 2) ?hd (cs := #[.int .i64 a0_0, .int .i64 a0_1, .int .i64 a0_2, .int .i64 a0_3, .int .i64 a0_4, .int .i64 a0_5, .int .i64 a0_6, .bool a0_7, .slice A0_8 l0_8.length c0_8]) (t := 31) ?hr ?_; (case hd => rfl); (case hg => rfl); (case hr => first | (go_simp; done) | (go_simp; rfl)); intro gb131 hg w46 hbox hb; have n0_ := Aside0.mk (below_step (by repeat (first | (with_reducible first | exact HB.out | apply below_alloc | apply pw_below_drewN | apply below_drew1) | exact HB.out)) hb); have n1_ := Aside0.mk (hbox); have n2_ := Aside0.mk ((by rw [hg]; exact (below_size (by repeat (first | (with_reducible first | exact HB.out | apply below_alloc | apply pw_below_drewN | apply below_drew1) | exact HB.out))) : w.heap.size ≤ gb131)); have n3_ := Aside0.mk ((by rw [hg]; exact (below_size (by repeat (first | (with_reducible first | exact HB.out | apply below_alloc | apply pw_below_drewN | apply below_drew1) | exact HB.out))) : w.heap.size ≤ gb131)); clear HB; have HB := n0_; have BK131 := n1_; have GW131 := n2_; have GE131 := n3_; clear n0_ n1_ n2_ n3_; clear hb hbox hg) | ((with_reducible refine gate_dst (N := 3) rfl ?_); refine box_event ?hg (N := 3) ?hd (cs := #[.int .i64 a1_0, .int .i64 a1_1, .int .i64 a1_2, .int .i64 a1_3, .int .i64 a1_4, .int .i64 a1_5, .int .i64 a1_6, .bool a1_7, .slice A1_8 l1_8.length c1_8]) (t := 31) ?hr ?_; (case hd => rfl); (case hg => rfl); (case hr => first | (go_simp; done) | (go_simp; rfl)); intro gb132 hg w47 hbox hb; have n0_ := Aside0.mk (blk_below (g := gb131) (o := .cells #[.int .i64 a0_0, .int .i64 a0_1, .int .i64 a0_2, .int .i64 a0_3, .int .i64 a0_4, .int .i64 a0_5, .int .i64 a0_6, .bool a0_7, .slice A0_8 l0_8.length c0_8] 31 (0, 0)) (by (with_reducible repeat (first | refine blk_drewN ?_ _ | refine blk_drew ?_ | refine blk_alloc ?_ _)); exact BK131.out) hb); have n1_ := Aside0.mk (below_step (by repeat (first | (with_reducible first | exact HB.out | apply below_alloc | apply pw_below_drewN | apply below_drew1 | refine below_set ?_ GE131.out) | exact HB.out)) hb); have n2_ := Aside0.mk (hbox); have n3_ := Aside0.mk ((by rw [hg]; exact (below_size (by repeat (first | (with_reducible first | exact HB.out | apply below_alloc | apply pw_below_drewN | apply below_drew1 | refine below_set ?_ GE131.out) | exact HB.out))) : w.heap.size ≤ gb132)); have n4_ := Aside0.mk ((by rw [hg]; exact (below_size (by repeat (first | (with_reducible first | exact HB.out | apply below_alloc | apply pw_below_drewN | apply below_drew1 | refine below_set ?_ GE131.out) | exact HB.out))) : w.heap.size ≤ gb132)); have n5_ := Aside0.mk ((by rw [hg]; exact Nat.ne_of_lt (blk_lt (g := gb131) (o := .cells #[.int .i64 a0_0, .int .i64 a0_1, .int .i64 a0_2, .int .i64 a0_3, .int .i64 a0_4, .int .i64 a0_5, .int .i64 a0_6, .bool a0_7, .slice A0_8 l0_8.length c0_8] 31 (0, 0)) (by (with_reducible repeat (first | refine blk_drewN ?_ _ | refine blk_drew ?_ | refine blk_alloc ?_ _)); exact BK131.out)) : gb131 ≠ gb132)); have n6_ := Aside0.mk ((by rw [hg]; exact Nat.ne_of_gt (blk_lt (g := gb131) (o := .cells #[.int .i64 a0_0, .int .i64 a0_1, .int .i64 a0_2, .int .i64 a0_3, .int .i64 a0_4, .int .i64 a0_5, .int .i64 a0_6, .bool a0_7, .slice A0_8 l0_8.length c0_8] 31 (0, 0)) (by (with_reducible repeat (first | refine blk_drewN ?_ _ | refine blk_drew ?_ | refine blk_alloc ?_ _)); exact BK131.out)) : gb132 ≠ gb131)); clear BK131; clear HB; have BK131 := n0_; have HB := n1_; have BK132 := n2_; have GW132 := n3_; have GE132 := n4_; have NB131_132 := n5_; have NB132_131 := n6_; clear n0_ n1_ n2_ n3_ n4_ n5_ n6_; clear hb hbox hg; have hnb48 := NB131_132.out; have hnc48 := NB132_131.out; have hcz49_0 : w47.cell? ⟨gb131, 0, none⟩ = some (.int .i64 a0_0) := (blk_cell BK131.out 0).trans rfl; have hcz49_1 : w47.cell? ⟨gb131, 1, none⟩ = some (.int .i64 a0_1) := (blk_cell BK131.out 1).trans rfl; have hcz49_2 : w47.cell? ⟨gb131, 2, none⟩ = some (.int .i64 a0_2) := (blk_cell BK131.out 2).trans rfl; have hcz49_3 : w47.cell? ⟨gb131, 3, none⟩ = some (.int .i64 a0_3) := (blk_cell BK131.out 3).trans rfl; have hcz49_4 : w47.cell? ⟨gb131, 4, none⟩ = some (.int .i64 a0_4) := (blk_cell BK131.out 4).trans rfl; have hcz49_5 : w47.cell? ⟨gb131, 5, none⟩ = some (.int .i64 a0_5) := (blk_cell BK131.out 5).trans rfl; have hcz49_6 : w47.cell? ⟨gb131, 6, none⟩ = some (.int .i64 a0_6) := (blk_cell BK131.out 6).trans rfl; have hcz49_7 : w47.cell? ⟨gb131, 7, none⟩ = some (.bool a0_7) := (blk_cell BK131.out 7).trans rfl; have hcz49_8 : w47.cell? ⟨gb131, 8, none⟩ = some (.slice A0_8 l0_8.length c0_8) := (blk_cell BK131.out 8).trans rfl; have hfz49_0 := blk_frozen BK131.out 0; have hfz49_1 := blk_frozen BK131.out 1; have hfz49_2 := blk_frozen BK131.out 2; have hfz49_3 := blk_frozen BK131.out 3; have hfz49_4 := blk_frozen BK131.out 4; have hfz49_5 := blk_frozen BK131.out 5; have hfz49_6 := blk_frozen BK131.out 6; have hfz49_7 := blk_frozen BK131.out 7; have hfz49_8 := blk_frozen BK131.out 8; have hcz50_0 : w47.cell? ⟨gb132, 0, none⟩ = some (.int .i64 a1_0) := (blk_cell BK132.out 0).trans rfl; have hcz50_1 : w47.cell? ⟨gb132, 1, none⟩ = some (.int .i64 a1_1) := (blk_cell BK132.out 1).trans rfl; have hcz50_2 : w47.cell? ⟨gb132, 2, none⟩ = some (.int .i64 a1_2) := (blk_cell BK132.out 2).trans rfl; have hcz50_3 : w47.cell? ⟨gb132, 3, none⟩ = some (.int .i64 a1_3) := (blk_cell BK132.out 3).trans rfl; have hcz50_4 : w47.cell? ⟨gb132, 4, none⟩ = some (.int .i64 a1_4) := (blk_cell BK132.out 4).trans rfl; have hcz50_5 : w47.cell? ⟨gb132, 5, none⟩ = some (.int .i64 a1_5) := (blk_cell BK132.out 5).trans rfl; have hcz50_6 : w47.cell? ⟨gb132, 6, none⟩ = some (.int .i64 a1_6) := (blk_cell BK132.out 6).trans rfl; have hcz50_7 : w47.cell? ⟨gb132, 7, none⟩ = some (.bool a1_7) := (blk_cell BK132.out 7).trans rfl; have hcz50_8 : w47.cell? ⟨gb132, 8, none⟩ = some (.slice A1_8 l1_8.length c1_8) := (blk_cell BK132.out 8).trans rfl; have hfz50_0 := blk_frozen BK132.out 0; have hfz50_1 := blk_frozen BK132.out 1; have hfz50_2 := blk_frozen BK132.out 2; have hfz50_3 := blk_frozen BK132.out 3; have hfz50_4 := blk_frozen BK132.out 4; have hfz50_5 := blk_frozen BK132.out 5; have hfz50_6 := blk_frozen BK132.out 6; have hfz50_7 := blk_frozen BK132.out 7; have hfz50_8 := blk_frozen BK132.out 8))
    repeat (go_quiet (first | ((with_reducible refine gate_dst (N := 2) rfl ?_); refine box_event ?hg (N := 2) ?hd (cs := #[.int .i64 a0_0, .int .i64 a0_1, .int .i64 a0_2, .int .i64 a0_3, .int .i64 a0_4, .int .i64 a0_5, .int .i64 a0_6, .bool a0_7, .slice A0_8 l0_8.length c0_8]) (t := 31) ?hr ?_; (case hd => rfl); (case hg => rfl); (case hr => first | (go_simp; done) | (go_simp; rfl)); intro gb131 hg w46 hbox hb; have n0_ := Aside0.mk (below_step (by repeat (first | (with_reducible first | exact HB.out | apply below_alloc | apply pw_below_drewN | apply below_drew1) | exact HB.out)) hb); have n1_ := Aside0.mk (hbox); have n2_ := Aside0.mk ((by rw [hg]; exact (below_size (by repeat (first | (with_reducible first | exact HB.out | apply below_alloc | apply pw_below_drewN | apply below_drew1) | exact HB.out))) : w.heap.size ≤ gb131)); have n3_ := Aside0.mk ((by rw [hg]; exact (below_size (by repeat (first | (with_reducible first | exact HB.out | apply below_alloc | apply pw_below_drewN | apply below_drew1) | exact HB.out))) : w.heap.size ≤ gb131)); clear HB; have HB := n0_; have BK131 := n1_; have GW131 := n2_; have GE131 := n3_; clear n0_ n1_ n2_ n3_; clear hb hbox hg) | ((with_reducible refine gate_dst (N := 3) rfl ?_); refine box_event ?hg (N := 3) ?hd (cs := #[.int .i64 a1_0, .int .i64 a1_1, .int .i64 a1_2, .int .i64 a1_3, .int .i64 a1_4, .int .i64 a1_5, .int .i64 a1_6, .bool a1_7, .slice A1_8 l1_8.length c1_8]) (t := 31) ?hr ?_; (case hd => rfl); (case hg => rfl); (case hr => first | (go_simp; done) | (go_simp; rfl)); intro gb132 hg w47 hbox hb; have n0_ := Aside0.mk (blk_below (g := gb131) (o := .cells #[.int .i64 a0_0, .int .i64 a0_1, .int .i64 a0_2, .int .i64 a0_3, .int .i64 a0_4, .int .i64 a0_5, .int .i64 a0_6, .bool a0_7, .slice A0_8 l0_8.length c0_8] 31 (0, 0)) (by (with_reducible repeat (first | refine blk_drewN ?_ _ | refine blk_drew ?_ | refine blk_alloc ?_ _)); exact BK131.out) hb); have n1_ := Aside0.mk (below_step (by repeat (first | (with_reducible first | exact HB.out | apply below_alloc | apply pw_below_drewN | apply below_drew1 | refine below_set ?_ GE131.out) | exact HB.out)) hb); have n2_ := Aside0.mk (hbox); have n3_ := Aside0.mk ((by rw [hg]; exact (below_size (by repeat (first | (with_reducible first | exact HB.out | apply below_alloc | apply pw_below_drewN | apply below_drew1 | refine below_set ?_ GE131.out) | exact HB.out))) : w.heap.size ≤ gb132)); have n4_ := Aside0.mk ((by rw [hg]; exact (below_size (by repeat (first | (with_reducible first | exact HB.out | apply below_alloc | apply pw_below_drewN | apply below_drew1 | refine below_set ?_ GE131.out) | exact HB.out))) : w.heap.size ≤ gb132)); have n5_ := Aside0.mk ((by rw [hg]; exact Nat.ne_of_lt (blk_lt (g := gb131) (o := .cells #[.int .i64 a0_0, .int .i64 a0_1, .int .i64 a0_2, .int .i64 a0_3, .int .i64 a0_4, .int .i64 a0_5, .int .i64 a0_6, .bool a0_7, .slice A0_8 l0_8.length c0_8] 31 (0, 0)) (by (with_reducible repeat (first | refine blk_drewN ?_ _ | refine blk_drew ?_ | refine blk_alloc ?_ _)); exact BK131.out)) : gb131 ≠ gb132)); have n6_ := Aside0.mk ((by rw [hg]; exact Nat.ne_of_gt (blk_lt (g := gb131) (o := .cells #[.int .i64 a0_0, .int .i64 a0_1, .int .i64 a0_2, .int .i64 a0_3, .int .i64 a0_4, .int .i64 a0_5, .int .i64 a0_6, .bool a0_7, .slice A0_8 l0_8.length c0_8] 31 (0, 0)) (by (with_reducible repeat (first | refine blk_drewN ?_ _ | refine blk_drew ?_ | refine blk_alloc ?_ _)); exact BK131.out)) : gb132 ≠ gb131)); clear BK131; clear HB; have BK131 := n0_; have HB := n1_; have BK132 := n2_; have GW132 := n3_; have GE132 := n4_; have NB131_132 := n5_; have NB132_131 := n6_; clear n0_ n1_ n2_ n3_ n4_ n5_ n6_; clear hb hbox hg; have hnb48 := NB131_132.out; have hnc48 := NB132_131.out; have hcz49_0 : w47.cell? ⟨gb131, 0, none⟩ = some (.int .i64 a0_0) := (blk_cell BK131.out 0).trans rfl; have hcz49_1 : w47.cell? ⟨gb131, 1, none⟩ = some (.int .i64 a0_1) := (blk_cell BK131.out 1).trans rfl; have hcz49_2 : w47.cell? ⟨gb131, 2, none⟩ = some (.int .i64 a0_2) := (blk_cell BK131.out 2).trans rfl; have hcz49_3 : w47.cell? ⟨gb131, 3, none⟩ = some (.int .i64 a0_3) := (blk_cell BK131.out 3).trans rfl; have hcz49_4 : w47.cell? ⟨gb131, 4, none⟩ = some (.int .i64 a0_4) := (blk_cell BK131.out 4).trans rfl; have hcz49_5 : w47.cell? ⟨gb131, 5, none⟩ = some (.int .i64 a0_5) := (blk_cell BK131.out 5).trans rfl; have hcz49_6 : w47.cell? ⟨gb131, 6, none⟩ = some (.int .i64 a0_6) := (blk_cell BK131.out 6).trans rfl; have hcz49_7 : w47.cell? ⟨gb131, 7, none⟩ = some (.bool a0_7) := (blk_cell BK131.out 7).trans rfl; have hcz49_8 : w47.cell? ⟨gb131, 8, none⟩ = some (.slice A0_8 l0_8.length c0_8) := (blk_cell BK131.out 8).trans rfl; have hfz49_0 := blk_frozen BK131.out 0; have hfz49_1 := blk_frozen BK131.out 1; have hfz49_2 := blk_frozen BK131.out 2; have hfz49_3 := blk_frozen BK131.out 3; have hfz49_4 := blk_frozen BK131.out 4; have hfz49_5 := blk_frozen BK131.out 5; have hfz49_6 := blk_frozen BK131.out 6; have hfz49_7 := blk_frozen BK131.out 7; have hfz49_8 := blk_frozen BK131.out 8; have hcz50_0 : w47.cell? ⟨gb132, 0, none⟩ = some (.int .i64 a1_0) := (blk_cell BK132.out 0).trans rfl; have hcz50_1 : w47.cell? ⟨gb132, 1, none⟩ = some (.int .i64 a1_1) := (blk_cell BK132.out 1).trans rfl; have hcz50_2 : w47.cell? ⟨gb132, 2, none⟩ = some (.int .i64 a1_2) := (blk_cell BK132.out 2).trans rfl; have hcz50_3 : w47.cell? ⟨gb132, 3, none⟩ = some (.int .i64 a1_3) := (blk_cell BK132.out 3).trans rfl; have hcz50_4 : w47.cell? ⟨gb132, 4, none⟩ = some (.int .i64 a1_4) := (blk_cell BK132.out 4).trans rfl; have hcz50_5 : w47.cell? ⟨gb132, 5, none⟩ = some (.int .i64 a1_5) := (blk_cell BK132.out 5).trans rfl; have hcz50_6 : w47.cell? ⟨gb132, 6, none⟩ = some (.int .i64 a1_6) := (blk_cell BK132.out 6).trans rfl; have hcz50_7 : w47.cell? ⟨gb132, 7, none⟩ = some (.bool a1_7) := (blk_cell BK132.out 7).trans rfl; have hcz50_8 : w47.cell? ⟨gb132, 8, none⟩ = some (.slice A1_8 l1_8.length c1_8) := (blk_cell BK132.out 8).trans rfl; have hfz50_0 := blk_frozen BK132.out 0; have hfz50_1 := blk_frozen BK132.out 1; have hfz50_2 := blk_frozen BK132.out 2; have hfz50_3 := blk_frozen BK132.out 3; have hfz50_4 := blk_frozen BK132.out 4; have hfz50_5 := blk_frozen BK132.out 5; have hfz50_6 := blk_frozen BK132.out 6; have hfz50_7 := blk_frozen BK132.out 7; have hfz50_8 := blk_frozen BK132.out 8)); try go_wp2_with (first | ((with_reducible refine gate_dst (N := 2) rfl ?_); refine box_event ?hg (N := 2) ?hd (cs := #[.int .i64 a0_0, .int .i64 a0_1, .int .i64 a0_2, .int .i64 a0_3, .int .i64 a0_4, .int .i64 a0_5, .int .i64 a0_6, .bool a0_7, .slice A0_8 l0_8.length c0_8]) (t := 31) ?hr ?_; (case hd => rfl); (case hg => rfl); (case hr => first | (go_simp; done) | (go_simp; rfl)); intro gb131 hg w46 hbox hb; have n0_ := Aside0.mk (below_step (by repeat (first | (with_reducible first | exact HB.out | apply below_alloc | apply pw_below_drewN | apply below_drew1) | exact HB.out)) hb); have n1_ := Aside0.mk (hbox); have n2_ := Aside0.mk ((by rw [hg]; exact (below_size (by repeat (first | (with_reducible first | exact HB.out | apply below_alloc | apply pw_below_drewN | apply below_drew1) | exact HB.out))) : w.heap.size ≤ gb131)); have n3_ := Aside0.mk ((by rw [hg]; exact (below_size (by repeat (first | (with_reducible first | exact HB.out | apply below_alloc | apply pw_below_drewN | apply below_drew1) | exact HB.out))) : w.heap.size ≤ gb131)); clear HB; have HB := n0_; have BK131 := n1_; have GW131 := n2_; have GE131 := n3_; clear n0_ n1_ n2_ n3_; clear hb hbox hg) | ((with_reducible refine gate_dst (N := 3) rfl ?_); refine box_event ?hg (N := 3) ?hd (cs := #[.int .i64 a1_0, .int .i64 a1_1, .int .i64 a1_2, .int .i64 a1_3, .int .i64 a1_4, .int .i64 a1_5, .int .i64 a1_6, .bool a1_7, .slice A1_8 l1_8.length c1_8]) (t := 31) ?hr ?_; (case hd => rfl); (case hg => rfl); (case hr => first | (go_simp; done) | (go_simp; rfl)); intro gb132 hg w47 hbox hb; have n0_ := Aside0.mk (blk_below (g := gb131) (o := .cells #[.int .i64 a0_0, .int .i64 a0_1, .int .i64 a0_2, .int .i64 a0_3, .int .i64 a0_4, .int .i64 a0_5, .int .i64 a0_6, .bool a0_7, .slice A0_8 l0_8.length c0_8] 31 (0, 0)) (by (with_reducible repeat (first | refine blk_drewN ?_ _ | refine blk_drew ?_ | refine blk_alloc ?_ _)); exact BK131.out) hb); have n1_ := Aside0.mk (below_step (by repeat (first | (with_reducible first | exact HB.out | apply below_alloc | apply pw_below_drewN | apply below_drew1 | refine below_set ?_ GE131.out) | exact HB.out)) hb); have n2_ := Aside0.mk (hbox); have n3_ := Aside0.mk ((by rw [hg]; exact (below_size (by repeat (first | (with_reducible first | exact HB.out | apply below_alloc | apply pw_below_drewN | apply below_drew1 | refine below_set ?_ GE131.out) | exact HB.out))) : w.heap.size ≤ gb132)); have n4_ := Aside0.mk ((by rw [hg]; exact (below_size (by repeat (first | (with_reducible first | exact HB.out | apply below_alloc | apply pw_below_drewN | apply below_drew1 | refine below_set ?_ GE131.out) | exact HB.out))) : w.heap.size ≤ gb132)); have n5_ := Aside0.mk ((by rw [hg]; exact Nat.ne_of_lt (blk_lt (g := gb131) (o := .cells #[.int .i64 a0_0, .int .i64 a0_1, .int .i64 a0_2, .int .i64 a0_3, .int .i64 a0_4, .int .i64 a0_5, .int .i64 a0_6, .bool a0_7, .slice A0_8 l0_8.length c0_8] 31 (0, 0)) (by (with_reducible repeat (first | refine blk_drewN ?_ _ | refine blk_drew ?_ | refine blk_alloc ?_ _)); exact BK131.out)) : gb131 ≠ gb132)); have n6_ := Aside0.mk ((by rw [hg]; exact Nat.ne_of_gt (blk_lt (g := gb131) (o := .cells #[.int .i64 a0_0, .int .i64 a0_1, .int .i64 a0_2, .int .i64 a0_3, .int .i64 a0_4, .int .i64 a0_5, .int .i64 a0_6, .bool a0_7, .slice A0_8 l0_8.length c0_8] 31 (0, 0)) (by (with_reducible repeat (first | refine blk_drewN ?_ _ | refine blk_drew ?_ | refine blk_alloc ?_ _)); exact BK131.out)) : gb132 ≠ gb131)); clear BK131; clear HB; have BK131 := n0_; have HB := n1_; have BK132 := n2_; have GW132 := n3_; have GE132 := n4_; have NB131_132 := n5_; have NB132_131 := n6_; clear n0_ n1_ n2_ n3_ n4_ n5_ n6_; clear hb hbox hg; have hnb48 := NB131_132.out; have hnc48 := NB132_131.out; have hcz49_0 : w47.cell? ⟨gb131, 0, none⟩ = some (.int .i64 a0_0) := (blk_cell BK131.out 0).trans rfl; have hcz49_1 : w47.cell? ⟨gb131, 1, none⟩ = some (.int .i64 a0_1) := (blk_cell BK131.out 1).trans rfl; have hcz49_2 : w47.cell? ⟨gb131, 2, none⟩ = some (.int .i64 a0_2) := (blk_cell BK131.out 2).trans rfl; have hcz49_3 : w47.cell? ⟨gb131, 3, none⟩ = some (.int .i64 a0_3) := (blk_cell BK131.out 3).trans rfl; have hcz49_4 : w47.cell? ⟨gb131, 4, none⟩ = some (.int .i64 a0_4) := (blk_cell BK131.out 4).trans rfl; have hcz49_5 : w47.cell? ⟨gb131, 5, none⟩ = some (.int .i64 a0_5) := (blk_cell BK131.out 5).trans rfl; have hcz49_6 : w47.cell? ⟨gb131, 6, none⟩ = some (.int .i64 a0_6) := (blk_cell BK131.out 6).trans rfl; have hcz49_7 : w47.cell? ⟨gb131, 7, none⟩ = some (.bool a0_7) := (blk_cell BK131.out 7).trans rfl; have hcz49_8 : w47.cell? ⟨gb131, 8, none⟩ = some (.slice A0_8 l0_8.length c0_8) := (blk_cell BK131.out 8).trans rfl; have hfz49_0 := blk_frozen BK131.out 0; have hfz49_1 := blk_frozen BK131.out 1; have hfz49_2 := blk_frozen BK131.out 2; have hfz49_3 := blk_frozen BK131.out 3; have hfz49_4 := blk_frozen BK131.out 4; have hfz49_5 := blk_frozen BK131.out 5; have hfz49_6 := blk_frozen BK131.out 6; have hfz49_7 := blk_frozen BK131.out 7; have hfz49_8 := blk_frozen BK131.out 8; have hcz50_0 : w47.cell? ⟨gb132, 0, none⟩ = some (.int .i64 a1_0) := (blk_cell BK132.out 0).trans rfl; have hcz50_1 : w47.cell? ⟨gb132, 1, none⟩ = some (.int .i64 a1_1) := (blk_cell BK132.out 1).trans rfl; have hcz50_2 : w47.cell? ⟨gb132, 2, none⟩ = some (.int .i64 a1_2) := (blk_cell BK132.out 2).trans rfl; have hcz50_3 : w47.cell? ⟨gb132, 3, none⟩ = some (.int .i64 a1_3) := (blk_cell BK132.out 3).trans rfl; have hcz50_4 : w47.cell? ⟨gb132, 4, none⟩ = some (.int .i64 a1_4) := (blk_cell BK132.out 4).trans rfl; have hcz50_5 : w47.cell? ⟨gb132, 5, none⟩ = some (.int .i64 a1_5) := (blk_cell BK132.out 5).trans rfl; have hcz50_6 : w47.cell? ⟨gb132, 6, none⟩ = some (.int .i64 a1_6) := (blk_cell BK132.out 6).trans rfl; have hcz50_7 : w47.cell? ⟨gb132, 7, none⟩ = some (.bool a1_7) := (blk_cell BK132.out 7).trans rfl; have hcz50_8 : w47.cell? ⟨gb132, 8, none⟩ = some (.slice A1_8 l1_8.length c1_8) := (blk_cell BK132.out 8).trans rfl; have hfz50_0 := blk_frozen BK132.out 0; have hfz50_1 := blk_frozen BK132.out 1; have hfz50_2 := blk_frozen BK132.out 2; have hfz50_3 := blk_frozen BK132.out 3; have hfz50_4 := blk_frozen BK132.out 4; have hfz50_5 := blk_frozen BK132.out 5; have hfz50_6 := blk_frozen BK132.out 6; have hfz50_7 := blk_frozen BK132.out 7; have hfz50_8 := blk_frozen BK132.out 8)))
    go_ret
    exact ⟨by first | rfl | (simp [errW_none, errW_some] <;> rfl) | (simp [*, errW_none, errW_some] <;> rfl), by repeat (first | (with_reducible first | exact HB.out | apply below_alloc | apply pw_below_drewN | apply below_drew1 | refine below_set ?_ GE131.out | refine below_set ?_ GE132.out) | exact HB.out)⟩

end Go.Proofs.Ytfcoaneffdddkaa.PWt
