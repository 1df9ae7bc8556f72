-- Written by wip/rprint.py of this session's repo (the kit's printer with patches), out of the translation. Not trusted: Lean checks it.
import Derived.Test.YtlblianpbjhmoaaPGsx0
import Derived.Test.YtlblianpbjhmoaaPGsx4
import Derived.Test.YtlblianpbjhmoaaPGsx25
import Derived.Test.YtlblianpbjhmoaaPGsx27
import Derived.Test.YtlblianpbjhmoaaPGsx29
import Derived.Test.YtlblianpbjhmoaaPGsx30
import Derived.Test.YtlblianpbjhmoaaPGsx37
import Derived.Test.YtlblianpbjhmoaaPGsx58
namespace Go.Proofs.Ytlblianpbjhmoaa.PGs
open Go.RowKit Go.Proofs.YtlblianpbjhmoaaW.PrintWords Go.Proofs.YtlblianpbjhmoaaW.PrintLast Go.Proofs.YtlblianpbjhmoaaW.PrintMore Go.Proofs.Ytlblianpbjhmoaa.MWords
attribute [local go_sem] max2_int min2_int max_two min_two max_three min_three max_four min_four   -- for this text's walks alone
set_option linter.unusedVariables false
set_option linter.unusedSimpArgs false

/-! ### regattalaw16_SlotParts: function 8 -/
def regattalaw16_SlotParts.j0 : Nat → Bool → List (S57) → Int → Int → Int → Option (Bool)
  | 0, _, _, _, _, _ => none
  | k + 1, x7, x8, x9, x348000, x348001 => if x7 = true then ((slot_Quanta.f k x8 (Go.bits .and .i64 x348001 255)).bind fun t352 => (if 0 ≤ x9 then (if x9 ≤ (x8.length : Int) then ((slot_Quanta.f k (x8.take (x9 : Int).toNat) (Go.bits .and .i64 x348001 255)).bind fun t357 => ((slot_Quanta.f k (x8.drop (x9 : Int).toNat) (Go.bits .and .i64 x348001 255)).bind fun t362 => (if t352 = (wrap64 (t357 + t362)) then ((slot_Empty.f k x8 64).bind fun t363 => ((slot_Empty.f k (x8.take (x9 : Int).toNat) 64).bind fun t368 => ((slot_Empty.f k (x8.drop (x9 : Int).toNat) 64).bind fun t373 => (if t363 = (wrap64 (t368 + t373)) then ((slot_Moves.f k x8 (Go.bits .and .i64 x348001 255)).bind fun t374 => ((slot_Moves.f k (x8.take (x9 : Int).toNat) (Go.bits .and .i64 x348001 255)).bind fun t379 => ((slot_Moves.f k (x8.drop (x9 : Int).toNat) (Go.bits .and .i64 x348001 255)).bind fun t384 => (if (wrap64 ((wrap64 (t374 - t379)) - t384)) ≤ 1 then ((slot_Row.f k (x8.drop (x9 : Int).toNat) 64).bind fun t389 => (if t389 = true then ((slot_Moves.f k x8 (Go.bits .and .i64 x348001 255)).bind fun t390 => ((slot_Moves.f k (x8.take (x9 : Int).toNat) (Go.bits .and .i64 x348001 255)).bind fun t395 => (some (decide (t390 ≥ t395))))) else (some false))) else (some false))))) else (some false))))) else (some false)))) else (none)) else (none))) else (some false)
def regattalaw16_SlotParts.f (k : Nat) (a0 : Int) (l1 : List (List Int)) (a2_0 : Int) (a2_1 : Int) : Option (Bool) := (regattalaw16_awake.f k).bind fun t348 => ((regattalaw16_made.f k a0 l1).bind fun t349 => (if (t349.length : Int) > 0 then (if (t349.length : Int) = 0 then (none) else (regattalaw16_SlotParts.j0 k t348 t349 (Int.tmod (wrap64 ((Int.tmod a2_0 (t349.length : Int)) + (t349.length : Int))) (t349.length : Int)) a2_0 a2_1)) else (regattalaw16_SlotParts.j0 k t348 t349 0 a2_0 a2_1)))
theorem regattalaw16_SlotParts.mono_l : ∀ k, (∀ y0 y1 y2 y3 y4, LeO (regattalaw16_SlotParts.j0 k y0 y1 y2 y3 y4) (regattalaw16_SlotParts.j0 (k + 1) y0 y1 y2 y3 y4))
  | 0 => fun _ _ _ _ _ r h => by simp [regattalaw16_SlotParts.j0] at h
  | k + 1 => by
    have ih0 := regattalaw16_SlotParts.mono_l k
    · intro y0 y1 y2 y3 y4
      unfold regattalaw16_SlotParts.j0
      repeat' first
      | (with_reducible exact ih0 _ _ _ _ _)
      | (with_reducible exact regattalaw16_awake.mono _)
      | (with_reducible exact regattalaw16_made.mono _ _ _)
      | (with_reducible exact slot_Empty.mono _ _ _)
      | (with_reducible exact slot_Moves.mono _ _ _)
      | (with_reducible exact slot_Quanta.mono _ _ _)
      | (with_reducible exact slot_Row.mono _ _ _)
      | (with_reducible exact LeO.refl _)
      | (with_reducible exact LeO.none _)
      | (with_reducible refine LeO.ite ?_ ?_)
      | (with_reducible refine LeO.bind ?_ (fun _ => ?_))
      | exact ih0 _ _ _ _ _
      | exact regattalaw16_awake.mono _
      | exact regattalaw16_made.mono _ _ _
      | exact slot_Empty.mono _ _ _
      | exact slot_Moves.mono _ _ _
      | exact slot_Quanta.mono _ _ _
      | exact slot_Row.mono _ _ _
      | exact LeO.none _
      | refine LeO.ite ?_ ?_
      | refine LeO.bind ?_ (fun _ => ?_)
theorem regattalaw16_SlotParts.mono : ∀ a0 a1 a2 a3 k, LeO (regattalaw16_SlotParts.f k a0 a1 a2 a3) (regattalaw16_SlotParts.f (k + 1) a0 a1 a2 a3) := by
  intro a0 a1 a2 a3 k
  have ih0 := regattalaw16_SlotParts.mono_l k
  unfold regattalaw16_SlotParts.f
  repeat' first
      | (with_reducible exact ih0 _ _ _ _ _)
      | (with_reducible exact regattalaw16_awake.mono _)
      | (with_reducible exact regattalaw16_made.mono _ _ _)
      | (with_reducible exact slot_Empty.mono _ _ _)
      | (with_reducible exact slot_Moves.mono _ _ _)
      | (with_reducible exact slot_Quanta.mono _ _ _)
      | (with_reducible exact slot_Row.mono _ _ _)
      | (with_reducible exact LeO.refl _)
      | (with_reducible exact LeO.none _)
      | (with_reducible refine LeO.ite ?_ ?_)
      | (with_reducible refine LeO.bind ?_ (fun _ => ?_))
      | exact ih0 _ _ _ _ _
      | exact regattalaw16_awake.mono _
      | exact regattalaw16_made.mono _ _ _
      | exact slot_Empty.mono _ _ _
      | exact slot_Moves.mono _ _ _
      | exact slot_Quanta.mono _ _ _
      | exact slot_Row.mono _ _ _
      | exact LeO.none _
      | refine LeO.ite ?_ ?_
      | refine LeO.bind ?_ (fun _ => ?_)
def regattalaw16_SlotParts.T7 : Bool × List (List Nat × List Nat) := (true, [([], []), ([0], [0]), ([1], [1]), ([1], [1]), ([2, 3, 1, 1], [1, 2, 3]), ([1], [1]), ([1], [1]), ([5, 6, 1], [1, 5, 6]), ([1], [1]), ([7, 8, 4, 1], [1, 7, 8]), ([1], [1]), ([1], [1]), ([10, 11, 1], [1, 10, 11]), ([1], [1]), ([12, 13, 9, 1], [1, 12, 13]), ([9, 14, 1], [1, 9, 14]), ([4, 15, 1], [1, 4, 15]), ([1, 16], [1, 16]), ([17, 14], [17]), ([18], [18]), ([19, 18, 18], [18, 19]), ([18], [18]), ([18], [18]), ([21, 22, 18], [18, 21, 22]), ([23, 20, 18], [18, 23]), ([18], [18]), ([18], [18]), ([25, 26, 18], [18, 25, 26]), ([27, 24, 18], [18, 27]), ([24, 28, 18], [18, 24, 28]), ([20, 29, 18], [18, 20, 29]), ([18, 30], [18, 30]), ([31, 28], [31]), ([32], [32]), ([32], [32]), ([33, 34, 32, 32], [32, 33, 34]), ([32], [32]), ([32], [32]), ([36, 37, 32], [32, 36, 37]), ([32], [32]), ([38, 39, 35, 32], [32, 38, 39]), ([35, 40, 32], [32, 35, 40]), ([32], [32]), ([32], [32]), ([42, 43, 32], [32, 42, 43]), ([32], [32]), ([44, 45, 40, 32], [32, 44, 45]), ([41, 46, 32], [32, 41, 46]), ([47, 32], [32, 47]), ([32, 48], [32, 48]), ([49, 46], [49]), ([50], [50]), ([50], [50]), ([51, 52, 50], [50, 51, 52]), ([53, 50, 50], [50, 53]), ([50, 54], [50, 54]), ([55, 54], [55]), ([56], [56]), ([56], [56]), ([57, 58, 56, 56], [56, 57, 58]), ([56], [56]), ([56], [56]), ([60, 61, 56], [56, 60, 61]), ([56], [56]), ([62, 63, 59, 56], [56, 62, 63]), ([59, 64, 56], [56, 59, 64]), ([56, 65], [56, 65]), ([66, 64, 0, 1, 2, 3, 4, 5, 6, 7, 8, 9, 10, 11, 12, 13, 14, 15, 16, 17, 18, 19, 20, 21, 22, 23, 24, 25, 26, 27, 28, 29, 30, 31, 32, 33, 34, 35, 36, 37, 38, 39, 40, 41, 42, 43, 44, 45, 46, 47, 48, 49, 50, 51, 52, 53, 54, 55, 56, 57, 58, 59, 60, 61, 62, 63, 64, 65, 66], [66])])
def regattalaw16_SlotParts.B7 : List Nat := [0, 1, 3, 3, 15, 3, 3, 99, 3, 511, 3, 3, 3075, 3, 16383, 32767, 65535, 131071, 262143, 524287, 1048575, 524287, 524287, 6815743, 16777215, 524287, 524287, 101187583, 268435455, 536870911, 1073741823, 2147483647, 4294967295, 8589934591, 8589934591, 34359738367, 8589934591, 8589934591, 214748364799, 8589934591, 1099511627775, 2199023255551, 8589934591, 8589934591, 13202729467903, 8589934591, 68169720922111, 140737488355327, 281474976710655, 562949953421311, 1125899906842623, 2251799813685247, 2251799813685247, 9007199254740991, 18014398509481983, 36028797018963967, 72057594037927935, 144115188075855871, 144115188075855871, 576460752303423487, 144115188075855871, 144115188075855871, 3602879701896396799, 144115188075855871, 18446744073709551615, 36893488147419103231, 73786976294838206463, 147573952589676412927]
theorem regattalaw16_SlotParts.tab7 : rtab .any (opsOf Try.f8 7) = regattalaw16_SlotParts.T7 := by kernel_rfl
theorem regattalaw16_SlotParts.bits7 : waitsOk regattalaw16_SlotParts.T7.2 regattalaw16_SlotParts.B7 = true := by kernel_rfl
set_option maxHeartbeats 8000000 in
set_option maxRecDepth 100000 in
theorem regattalaw16_SlotParts.calls (k : Nat) (a0 : Int) (A1 : Option Addr) (c1 : Nat) (l1 : List (List Int)) (a2_0 : Int) (a2_1 : Int) (r : Bool) (w : World) (hr_ : Aside0 (r = true)) (hr1 : Kd.C (Kd.slice 3 (Kd.int .i64)) w A1 l1.length l1) (hc1 : l1.length ≤ c1) (h : regattalaw16_SlotParts.f k a0 l1 a2_0 a2_1 = some r) :
    Calls Try.prog 8 #[.int .i64 a0, .slice A1 l1.length c1, .agg #[.int .i64 a2_0, .int .i64 a2_1]] w fun e w' => e = .returned (.bool r) ∧ Below w.heap.size w w' := by
  have hu24 := Try.underlying24
  have HR1 := Aside0.mk hr1
  have HC1 := Aside0.mk hc1
  clear hr1 hc1
  have HB := Aside0.mk (Below.refl w.heap.size w)
  have H : ((regattalaw16_awake.f k).bind fun t348 => ((regattalaw16_made.f k a0 l1).bind fun t349 => (if (t349.length : Int) > 0 then (if (t349.length : Int) = 0 then (none) else (regattalaw16_SlotParts.j0 k t348 t349 (Int.tmod (wrap64 ((Int.tmod a2_0 (t349.length : Int)) + (t349.length : Int))) (t349.length : Int)) a2_0 a2_1)) else (regattalaw16_SlotParts.j0 k t348 t349 0 a2_0 a2_1)))) = some r := h
  clear h
  replace H := Option.bind_eq_some_iff.mp H
  obtain ⟨t348, A40, H⟩ := H
  replace H : ((regattalaw16_made.f k a0 l1).bind fun t349 => (if (t349.length : Int) > 0 then (if (t349.length : Int) = 0 then (none) else (regattalaw16_SlotParts.j0 k t348 t349 (Int.tmod (wrap64 ((Int.tmod a2_0 (t349.length : Int)) + (t349.length : Int))) (t349.length : Int)) a2_0 a2_1)) else (regattalaw16_SlotParts.j0 k t348 t349 0 a2_0 a2_1))) = some r := H
  have A4 := Aside0.mk A40
  clear A40
  replace H := Option.bind_eq_some_iff.mp H
  obtain ⟨t349, A50, H⟩ := H
  replace H : (if (t349.length : Int) > 0 then (if (t349.length : Int) = 0 then (none) else (regattalaw16_SlotParts.j0 k t348 t349 (Int.tmod (wrap64 ((Int.tmod a2_0 (t349.length : Int)) + (t349.length : Int))) (t349.length : Int)) a2_0 a2_1)) else (regattalaw16_SlotParts.j0 k t348 t349 0 a2_0 a2_1)) = some r := H
  have A5 := Aside0.mk A50
  clear A50
  have HC6 := Aside0.mk H
  clear H
  go_enter Try.func8, Try.ntmps8
  go_upto_if 17 with (first | ((with_reducible refine gate_dst (N := 5) rfl ?_); refine box_event ?hg (N := 5) ?hd (cs := #[.int .i64 a2_0, .int .i64 a2_1]) (t := 24) ?hr ?_; (case hd => rfl); (case hg => rfl); (case hr => first | (go_simp; done) | (go_simp; rfl)); intro gb347 hg w7 hbox hb; have n0_ := Aside0.mk (below_step (by repeat (first | (with_reducible first | exact HB.out | apply below_alloc | apply pw_below_drewN | apply below_drew1) | exact HB.out)) hb); have n1_ := Aside0.mk (hbox); have n2_ := Aside0.mk ((by rw [hg]; exact (below_size (by repeat (first | (with_reducible first | exact HB.out | apply below_alloc | apply pw_below_drewN | apply below_drew1) | exact HB.out))) : w.heap.size ≤ gb347)); have n3_ := Aside0.mk ((by rw [hg]; exact (below_size (by repeat (first | (with_reducible first | exact HB.out | apply below_alloc | apply pw_below_drewN | apply below_drew1) | exact HB.out))) : w.heap.size ≤ gb347)); clear HB; have HB := n0_; have BK347 := n1_; have GW347 := n2_; have GE347 := n3_; clear n0_ n1_ n2_ n3_; clear hb hbox hg) | ((with_reducible refine gate_callee (f := 23) rfl ?_); refine goesL_ (some 11) rfl rfl Try.func23 (by kernel_rfl) rfl #[] rfl (by (try simp only [List.map_toArray, List.map_cons, List.map_nil]); first | done | rfl | (simp only [List.length_drop, List.length_take]; rfl)) ?_; (with_reducible refine (regattalaw16_awake.calls k  t348 _ A4.out).mono ?_); rintro e w8 ⟨rfl, hb⟩; refine ⟨_, rfl, ?_⟩; have n0_ := Aside0.mk (blk_below (g := gb347) (o := .cells #[.int .i64 a2_0, .int .i64 a2_1] 24 (0, 0)) (by (with_reducible repeat (first | refine blk_drewN ?_ _ | refine blk_drew ?_ | refine blk_alloc ?_ _)); exact BK347.out) hb); have n1_ := Aside0.mk (below_step (by repeat (first | (with_reducible first | exact HB.out | apply below_alloc | apply pw_below_drewN | apply below_drew1 | refine below_set ?_ GE347.out) | exact HB.out)) hb); clear BK347; clear HB; have BK347 := n0_; have HB := n1_; clear n0_ n1_; (try clear hb); (try clear hb2); (try clear hk); (try clear hi)) | ((with_reducible refine gate_callee (f := 26) rfl ?_); refine goesL_ (some 14) rfl rfl Try.func26 (by kernel_rfl) rfl #[.int .i64 a0, .slice A1 l1.length c1] rfl (by (try simp only [List.map_toArray, List.map_cons, List.map_nil]); first | done | rfl | (simp only [List.length_drop, List.length_take]; rfl)) ?_; (with_reducible refine (regattalaw16_made.calls k a0 _ _ l1 t349 _ ?side1 ?side2 A5.out).mono ?_); (case side1 => repeat (first | exact (Kd.C_below HR1.out HB.out) | (with_reducible refine Kd.C_alloc ?_ _) | (with_reducible refine Kd.C_drewN ?_ _) | (with_reducible refine Kd.C_drew ?_))); (case side2 => exact HC1.out); rintro e w9 ⟨v350, rfl, ho0, hb⟩; refine ⟨_, rfl, ?_⟩; have n0_ := Aside0.mk (Kd.S_lower ho0 (below_size (by repeat (first | (with_reducible first | exact HB.out | apply below_alloc | apply pw_below_drewN | apply below_drew1 | refine below_set ?_ GE347.out) | exact HB.out)))); have n1_ := Aside0.mk (blk_below (g := gb347) (o := .cells #[.int .i64 a2_0, .int .i64 a2_1] 24 (0, 0)) (by (with_reducible repeat (first | refine blk_drewN ?_ _ | refine blk_drew ?_ | refine blk_alloc ?_ _)); exact BK347.out) hb); have n2_ := Aside0.mk (below_step (by repeat (first | (with_reducible first | exact HB.out | apply below_alloc | apply pw_below_drewN | apply below_drew1 | refine below_set ?_ GE347.out) | exact HB.out)) hb); clear BK347; clear HB; have HO351 := n0_; have BK347 := n1_; have HB := n2_; clear n0_ n1_ n2_; (try clear hb); (try clear hb2); (try clear hk); (try clear hi); (try clear ho0); obtain ⟨Ao10, co10, eo10⟩ := Kd.S_slice HO351.out; subst eo10))
  (try simp only [Act.put, List.setIfInBounds_toArray, List.set_cons_zero, List.set_cons_succ])
  go_cut [9] (fun v9 wc => ∃ (kq : Nat) (x9_5 : Int), v9 = .int .i64 x9_5 ∧ Aside0 (regattalaw16_SlotParts.j0 kq t348 t349 x9_5 a2_0 a2_1 = some r) ∧ Aside0 (kq ≤ k) ∧ Aside0 (Kd.S k57 57 wc w.heap.size (fun _ => True) (.slice Ao10 t349.length co10) t349) ∧ Aside0 (wc.heap[gb347]? = some (.cells #[.int .i64 a2_0, .int .i64 a2_1] 24 (0, 0))) ∧ Aside0 (Below w.heap.size w wc))
  case first =>
    have H := HC6.out
    clear HC6
    by_cases c11 : (t349.length : Int) > 0
    · rw [if_pos c11] at H
      have c11b0 : decide (0 < (t349.length : Int)) = true := decide_eq_true c11
      have c11b1 : decide (0 < t349.length) = true := decide_eq_true (by omega)
      clear c11
      (first | rw [c11b0] | rw [c11b1] | (simp only [i64_w, i32_w]; rw [c11b0]) | skip)
      by_cases c12 : (t349.length : Int) = 0
      · rw [if_pos c12] at H
        exact absurd H (by simp)
      · rw [if_neg c12] at H
        have c12b0 : ((t349.length : Int) == 0) = false := beq_eq_false_iff_ne.mpr c12
        have c12b1 : ((t349.length : Int) != 0) = true := bne_iff_ne.mpr c12
        have c12b2 : ¬ (t349 = []) := fun h_ => c12 (by rw [h_]; rfl)
        have H' := Aside0.mk H
        clear H
        have hcz13_0 : w9.cell? ⟨gb347, 0, none⟩ = some (.int .i64 a2_0) := (blk_cell BK347.out 0).trans rfl
        have hcz13_1 : w9.cell? ⟨gb347, 1, none⟩ = some (.int .i64 a2_1) := (blk_cell BK347.out 1).trans rfl
        have hfz13_0 := blk_frozen BK347.out 0
        have hfz13_1 := blk_frozen BK347.out 1
        go_wp2
        go_meet
        case rel => exact ⟨_, (Int.tmod (wrap64 ((Int.tmod a2_0 (t349.length : Int)) + (t349.length : Int))) (t349.length : Int)), (by first | rfl | (simp; done) | (simp [*]; done)), H', ⟨by first | omega | exact Nat.le_refl _⟩, ⟨by (with_reducible repeat (first | apply Kd.S_alloc | apply Kd.S_drewN | apply Kd.S_drew)); exact HO351.out⟩, ⟨by (with_reducible repeat (first | refine blk_drewN ?_ _ | refine blk_drew ?_ | refine blk_alloc ?_ _)); exact BK347.out⟩, ⟨by repeat (first | (with_reducible first | exact HB.out | apply below_alloc | apply pw_below_drewN | apply below_drew1 | refine below_set ?_ GE347.out) | exact HB.out)⟩⟩
    · rw [if_neg c11] at H
      have c11b0 : decide (0 < (t349.length : Int)) = false := decide_eq_false c11
      have c11b1 : decide (0 < t349.length) = false := decide_eq_false (by omega)
      clear c11
      (first | rw [c11b0] | rw [c11b1] | (simp only [i64_w, i32_w]; rw [c11b0]) | skip)
      have H' := Aside0.mk H
      clear H
      go_wp2
      go_meet
      case rel => exact ⟨_, (0), (by first | rfl | (simp; done) | (simp [*]; done)), H', ⟨by first | omega | exact Nat.le_refl _⟩, ⟨by (with_reducible repeat (first | apply Kd.S_alloc | apply Kd.S_drewN | apply Kd.S_drew)); exact HO351.out⟩, ⟨by (with_reducible repeat (first | refine blk_drewN ?_ _ | refine blk_drew ?_ | refine blk_alloc ?_ _)); exact BK347.out⟩, ⟨by repeat (first | (with_reducible first | exact HB.out | apply below_alloc | apply pw_below_drewN | apply below_drew1 | refine below_set ?_ GE347.out) | exact HB.out)⟩⟩
  case rest =>
    clear HC6
    try clear c1
    try clear c2
    try clear p2
    try clear p6
    try clear c8
    try clear c11
    try clear c11b0
    try clear c11b1
    try clear c12
    try clear c12b0
    try clear c12b1
    try clear c12b2
    try clear hcz13_0
    try clear hcz13_1
    try clear hfz13_0
    try clear hfz13_1
    obtain ⟨kq, x9_5, rfl, HA, HJ5, HO_8, BK347, HB⟩ := hcut
    cases kq with
    | zero => exact absurd HA.out (by simp [regattalaw16_SlotParts.j0])
    | succ kj5 =>
      have H := HA.out
      clear HA
      simp only [regattalaw16_SlotParts.j0] at H
      by_cases c14 : t348 = true
      · subst c14
        have H1 : ((slot_Quanta.f kj5 t349 (Go.bits .and .i64 a2_1 255)).bind fun t352 => (if 0 ≤ x9_5 then (if x9_5 ≤ (t349.length : Int) then ((slot_Quanta.f kj5 (t349.take (x9_5 : Int).toNat) (Go.bits .and .i64 a2_1 255)).bind fun t357 => ((slot_Quanta.f kj5 (t349.drop (x9_5 : Int).toNat) (Go.bits .and .i64 a2_1 255)).bind fun t362 => (if t352 = (wrap64 (t357 + t362)) then ((slot_Empty.f kj5 t349 64).bind fun t363 => ((slot_Empty.f kj5 (t349.take (x9_5 : Int).toNat) 64).bind fun t368 => ((slot_Empty.f kj5 (t349.drop (x9_5 : Int).toNat) 64).bind fun t373 => (if t363 = (wrap64 (t368 + t373)) then ((slot_Moves.f kj5 t349 (Go.bits .and .i64 a2_1 255)).bind fun t374 => ((slot_Moves.f kj5 (t349.take (x9_5 : Int).toNat) (Go.bits .and .i64 a2_1 255)).bind fun t379 => ((slot_Moves.f kj5 (t349.drop (x9_5 : Int).toNat) (Go.bits .and .i64 a2_1 255)).bind fun t384 => (if (wrap64 ((wrap64 (t374 - t379)) - t384)) ≤ 1 then ((slot_Row.f kj5 (t349.drop (x9_5 : Int).toNat) 64).bind fun t389 => (if t389 = true then ((slot_Moves.f kj5 t349 (Go.bits .and .i64 a2_1 255)).bind fun t390 => ((slot_Moves.f kj5 (t349.take (x9_5 : Int).toNat) (Go.bits .and .i64 a2_1 255)).bind fun t395 => (some (decide (t390 ≥ t395))))) else (some false))) else (some false))))) else (some false))))) else (some false)))) else (none)) else (none))) = some r := by rw [if_pos rfl] at H; exact H
        clear H
        have H := H1
        clear H1
        replace H := Option.bind_eq_some_iff.mp H
        obtain ⟨t352, A150, H⟩ := H
        replace H : (if 0 ≤ x9_5 then (if x9_5 ≤ (t349.length : Int) then ((slot_Quanta.f kj5 (t349.take (x9_5 : Int).toNat) (Go.bits .and .i64 a2_1 255)).bind fun t357 => ((slot_Quanta.f kj5 (t349.drop (x9_5 : Int).toNat) (Go.bits .and .i64 a2_1 255)).bind fun t362 => (if t352 = (wrap64 (t357 + t362)) then ((slot_Empty.f kj5 t349 64).bind fun t363 => ((slot_Empty.f kj5 (t349.take (x9_5 : Int).toNat) 64).bind fun t368 => ((slot_Empty.f kj5 (t349.drop (x9_5 : Int).toNat) 64).bind fun t373 => (if t363 = (wrap64 (t368 + t373)) then ((slot_Moves.f kj5 t349 (Go.bits .and .i64 a2_1 255)).bind fun t374 => ((slot_Moves.f kj5 (t349.take (x9_5 : Int).toNat) (Go.bits .and .i64 a2_1 255)).bind fun t379 => ((slot_Moves.f kj5 (t349.drop (x9_5 : Int).toNat) (Go.bits .and .i64 a2_1 255)).bind fun t384 => (if (wrap64 ((wrap64 (t374 - t379)) - t384)) ≤ 1 then ((slot_Row.f kj5 (t349.drop (x9_5 : Int).toNat) 64).bind fun t389 => (if t389 = true then ((slot_Moves.f kj5 t349 (Go.bits .and .i64 a2_1 255)).bind fun t390 => ((slot_Moves.f kj5 (t349.take (x9_5 : Int).toNat) (Go.bits .and .i64 a2_1 255)).bind fun t395 => (some (decide (t390 ≥ t395))))) else (some false))) else (some false))))) else (some false))))) else (some false)))) else (none)) else (none)) = some r := H
        have A15 := Aside0.mk A150
        clear A150
        by_cases c16 : 0 ≤ x9_5
        · rw [if_pos c16] at H
          have c16b0 := eq_true c16
          have c16b1 : decide (0 ≤ x9_5) = true := decide_eq_true c16
          clear c16
          by_cases c17 : x9_5 ≤ (t349.length : Int)
          · rw [if_pos c17] at H
            have c17b0 := eq_true c17
            have c17b1 : decide (x9_5 ≤ (t349.length : Int)) = true := decide_eq_true c17
            clear c17
            obtain ⟨y353, hy353⟩ : ∃ y_ : List (S57), y_ = (t349.take (x9_5 : Int).toNat) := ⟨_, rfl⟩
            replace H : ((slot_Quanta.f kj5 y353 (Go.bits .and .i64 a2_1 255)).bind fun t357 => ((slot_Quanta.f kj5 (t349.drop (x9_5 : Int).toNat) (Go.bits .and .i64 a2_1 255)).bind fun t362 => (if t352 = (wrap64 (t357 + t362)) then ((slot_Empty.f kj5 t349 64).bind fun t363 => ((slot_Empty.f kj5 (t349.take (x9_5 : Int).toNat) 64).bind fun t368 => ((slot_Empty.f kj5 (t349.drop (x9_5 : Int).toNat) 64).bind fun t373 => (if t363 = (wrap64 (t368 + t373)) then ((slot_Moves.f kj5 t349 (Go.bits .and .i64 a2_1 255)).bind fun t374 => ((slot_Moves.f kj5 (t349.take (x9_5 : Int).toNat) (Go.bits .and .i64 a2_1 255)).bind fun t379 => ((slot_Moves.f kj5 (t349.drop (x9_5 : Int).toNat) (Go.bits .and .i64 a2_1 255)).bind fun t384 => (if (wrap64 ((wrap64 (t374 - t379)) - t384)) ≤ 1 then ((slot_Row.f kj5 (t349.drop (x9_5 : Int).toNat) 64).bind fun t389 => (if t389 = true then ((slot_Moves.f kj5 t349 (Go.bits .and .i64 a2_1 255)).bind fun t390 => ((slot_Moves.f kj5 (t349.take (x9_5 : Int).toNat) (Go.bits .and .i64 a2_1 255)).bind fun t395 => (some (decide (t390 ≥ t395))))) else (some false))) else (some false))))) else (some false))))) else (some false)))) = some r := by first | (rw [hy353]; with_reducible exact H) | (have H2_ := (Option.bind_some _ _).symm.trans H; rw [hy353]; with_reducible exact H2_) | (have H2_ := (Option.bind_some _ _).symm.trans H; with_reducible exact H2_) | with_reducible exact H | (rw [hy353]; exact H) | exact H
            have Ny353 := Aside0.mk hy353
            clear hy353
            replace H := Option.bind_eq_some_iff.mp H
            obtain ⟨t357, A180, H⟩ := H
            replace H : ((slot_Quanta.f kj5 (t349.drop (x9_5 : Int).toNat) (Go.bits .and .i64 a2_1 255)).bind fun t362 => (if t352 = (wrap64 (t357 + t362)) then ((slot_Empty.f kj5 t349 64).bind fun t363 => ((slot_Empty.f kj5 (t349.take (x9_5 : Int).toNat) 64).bind fun t368 => ((slot_Empty.f kj5 (t349.drop (x9_5 : Int).toNat) 64).bind fun t373 => (if t363 = (wrap64 (t368 + t373)) then ((slot_Moves.f kj5 t349 (Go.bits .and .i64 a2_1 255)).bind fun t374 => ((slot_Moves.f kj5 (t349.take (x9_5 : Int).toNat) (Go.bits .and .i64 a2_1 255)).bind fun t379 => ((slot_Moves.f kj5 (t349.drop (x9_5 : Int).toNat) (Go.bits .and .i64 a2_1 255)).bind fun t384 => (if (wrap64 ((wrap64 (t374 - t379)) - t384)) ≤ 1 then ((slot_Row.f kj5 (t349.drop (x9_5 : Int).toNat) 64).bind fun t389 => (if t389 = true then ((slot_Moves.f kj5 t349 (Go.bits .and .i64 a2_1 255)).bind fun t390 => ((slot_Moves.f kj5 (t349.take (x9_5 : Int).toNat) (Go.bits .and .i64 a2_1 255)).bind fun t395 => (some (decide (t390 ≥ t395))))) else (some false))) else (some false))))) else (some false))))) else (some false))) = some r := H
            have A18 := Aside0.mk A180
            clear A180
            have c19b0 := eq_true (of_decide_eq_true (by first | (with_reducible assumption) | assumption) : 0 ≤ x9_5)
            have c20b0 := eq_true (of_decide_eq_true (by first | (with_reducible assumption) | assumption) : x9_5 ≤ (t349.length : Int))
            obtain ⟨y358, hy358⟩ : ∃ y_ : List (S57), y_ = (t349.drop (x9_5 : Int).toNat) := ⟨_, rfl⟩
            replace H : ((slot_Quanta.f kj5 y358 (Go.bits .and .i64 a2_1 255)).bind fun t362 => (if t352 = (wrap64 (t357 + t362)) then ((slot_Empty.f kj5 t349 64).bind fun t363 => ((slot_Empty.f kj5 (t349.take (x9_5 : Int).toNat) 64).bind fun t368 => ((slot_Empty.f kj5 (t349.drop (x9_5 : Int).toNat) 64).bind fun t373 => (if t363 = (wrap64 (t368 + t373)) then ((slot_Moves.f kj5 t349 (Go.bits .and .i64 a2_1 255)).bind fun t374 => ((slot_Moves.f kj5 (t349.take (x9_5 : Int).toNat) (Go.bits .and .i64 a2_1 255)).bind fun t379 => ((slot_Moves.f kj5 (t349.drop (x9_5 : Int).toNat) (Go.bits .and .i64 a2_1 255)).bind fun t384 => (if (wrap64 ((wrap64 (t374 - t379)) - t384)) ≤ 1 then ((slot_Row.f kj5 (t349.drop (x9_5 : Int).toNat) 64).bind fun t389 => (if t389 = true then ((slot_Moves.f kj5 t349 (Go.bits .and .i64 a2_1 255)).bind fun t390 => ((slot_Moves.f kj5 (t349.take (x9_5 : Int).toNat) (Go.bits .and .i64 a2_1 255)).bind fun t395 => (some (decide (t390 ≥ t395))))) else (some false))) else (some false))))) else (some false))))) else (some false))) = some r := by first | (rw [hy358]; with_reducible exact H) | (have H2_ := (Option.bind_some _ _).symm.trans H; rw [hy358]; with_reducible exact H2_) | (have H2_ := (Option.bind_some _ _).symm.trans H; with_reducible exact H2_) | with_reducible exact H | (rw [hy358]; exact H) | exact H
            have Ny358 := Aside0.mk hy358
            clear hy358
            replace H := Option.bind_eq_some_iff.mp H
            obtain ⟨t362, A210, H⟩ := H
            replace H : (if t352 = (wrap64 (t357 + t362)) then ((slot_Empty.f kj5 t349 64).bind fun t363 => ((slot_Empty.f kj5 (t349.take (x9_5 : Int).toNat) 64).bind fun t368 => ((slot_Empty.f kj5 (t349.drop (x9_5 : Int).toNat) 64).bind fun t373 => (if t363 = (wrap64 (t368 + t373)) then ((slot_Moves.f kj5 t349 (Go.bits .and .i64 a2_1 255)).bind fun t374 => ((slot_Moves.f kj5 (t349.take (x9_5 : Int).toNat) (Go.bits .and .i64 a2_1 255)).bind fun t379 => ((slot_Moves.f kj5 (t349.drop (x9_5 : Int).toNat) (Go.bits .and .i64 a2_1 255)).bind fun t384 => (if (wrap64 ((wrap64 (t374 - t379)) - t384)) ≤ 1 then ((slot_Row.f kj5 (t349.drop (x9_5 : Int).toNat) 64).bind fun t389 => (if t389 = true then ((slot_Moves.f kj5 t349 (Go.bits .and .i64 a2_1 255)).bind fun t390 => ((slot_Moves.f kj5 (t349.take (x9_5 : Int).toNat) (Go.bits .and .i64 a2_1 255)).bind fun t395 => (some (decide (t390 ≥ t395))))) else (some false))) else (some false))))) else (some false))))) else (some false)) = some r := H
            have A21 := Aside0.mk A210
            clear A210
            by_cases c22 : t352 = (wrap64 (t357 + t362))
            · rw [if_pos c22] at H
              have c22b0 : (t352 == (wrap64 (t357 + t362))) = true := beq_iff_eq.mpr c22
              have c22b1 : (t352 != (wrap64 (t357 + t362))) = false := bne_eq_false_iff_eq.mpr c22
              clear c22
              replace H := Option.bind_eq_some_iff.mp H
              obtain ⟨t363, A230, H⟩ := H
              replace H : ((slot_Empty.f kj5 (t349.take (x9_5 : Int).toNat) 64).bind fun t368 => ((slot_Empty.f kj5 (t349.drop (x9_5 : Int).toNat) 64).bind fun t373 => (if t363 = (wrap64 (t368 + t373)) then ((slot_Moves.f kj5 t349 (Go.bits .and .i64 a2_1 255)).bind fun t374 => ((slot_Moves.f kj5 (t349.take (x9_5 : Int).toNat) (Go.bits .and .i64 a2_1 255)).bind fun t379 => ((slot_Moves.f kj5 (t349.drop (x9_5 : Int).toNat) (Go.bits .and .i64 a2_1 255)).bind fun t384 => (if (wrap64 ((wrap64 (t374 - t379)) - t384)) ≤ 1 then ((slot_Row.f kj5 (t349.drop (x9_5 : Int).toNat) 64).bind fun t389 => (if t389 = true then ((slot_Moves.f kj5 t349 (Go.bits .and .i64 a2_1 255)).bind fun t390 => ((slot_Moves.f kj5 (t349.take (x9_5 : Int).toNat) (Go.bits .and .i64 a2_1 255)).bind fun t395 => (some (decide (t390 ≥ t395))))) else (some false))) else (some false))))) else (some false)))) = some r := H
              have A23 := Aside0.mk A230
              clear A230
              have c24b0 := eq_true (of_decide_eq_true (by first | (with_reducible assumption) | assumption) : 0 ≤ x9_5)
              have c25b0 := eq_true (of_decide_eq_true (by first | (with_reducible assumption) | assumption) : x9_5 ≤ (t349.length : Int))
              obtain ⟨y364, hy364⟩ : ∃ y_ : List (S57), y_ = (t349.take (x9_5 : Int).toNat) := ⟨_, rfl⟩
              replace H : ((slot_Empty.f kj5 y364 64).bind fun t368 => ((slot_Empty.f kj5 (t349.drop (x9_5 : Int).toNat) 64).bind fun t373 => (if t363 = (wrap64 (t368 + t373)) then ((slot_Moves.f kj5 t349 (Go.bits .and .i64 a2_1 255)).bind fun t374 => ((slot_Moves.f kj5 (t349.take (x9_5 : Int).toNat) (Go.bits .and .i64 a2_1 255)).bind fun t379 => ((slot_Moves.f kj5 (t349.drop (x9_5 : Int).toNat) (Go.bits .and .i64 a2_1 255)).bind fun t384 => (if (wrap64 ((wrap64 (t374 - t379)) - t384)) ≤ 1 then ((slot_Row.f kj5 (t349.drop (x9_5 : Int).toNat) 64).bind fun t389 => (if t389 = true then ((slot_Moves.f kj5 t349 (Go.bits .and .i64 a2_1 255)).bind fun t390 => ((slot_Moves.f kj5 (t349.take (x9_5 : Int).toNat) (Go.bits .and .i64 a2_1 255)).bind fun t395 => (some (decide (t390 ≥ t395))))) else (some false))) else (some false))))) else (some false)))) = some r := by first | (rw [hy364]; with_reducible exact H) | (have H2_ := (Option.bind_some _ _).symm.trans H; rw [hy364]; with_reducible exact H2_) | (have H2_ := (Option.bind_some _ _).symm.trans H; with_reducible exact H2_) | with_reducible exact H | (rw [hy364]; exact H) | exact H
              have Ny364 := Aside0.mk hy364
              clear hy364
              replace H := Option.bind_eq_some_iff.mp H
              obtain ⟨t368, A260, H⟩ := H
              replace H : ((slot_Empty.f kj5 (t349.drop (x9_5 : Int).toNat) 64).bind fun t373 => (if t363 = (wrap64 (t368 + t373)) then ((slot_Moves.f kj5 t349 (Go.bits .and .i64 a2_1 255)).bind fun t374 => ((slot_Moves.f kj5 (t349.take (x9_5 : Int).toNat) (Go.bits .and .i64 a2_1 255)).bind fun t379 => ((slot_Moves.f kj5 (t349.drop (x9_5 : Int).toNat) (Go.bits .and .i64 a2_1 255)).bind fun t384 => (if (wrap64 ((wrap64 (t374 - t379)) - t384)) ≤ 1 then ((slot_Row.f kj5 (t349.drop (x9_5 : Int).toNat) 64).bind fun t389 => (if t389 = true then ((slot_Moves.f kj5 t349 (Go.bits .and .i64 a2_1 255)).bind fun t390 => ((slot_Moves.f kj5 (t349.take (x9_5 : Int).toNat) (Go.bits .and .i64 a2_1 255)).bind fun t395 => (some (decide (t390 ≥ t395))))) else (some false))) else (some false))))) else (some false))) = some r := H
              have A26 := Aside0.mk A260
              clear A260
              have c27b0 := eq_true (of_decide_eq_true (by first | (with_reducible assumption) | assumption) : 0 ≤ x9_5)
              have c28b0 := eq_true (of_decide_eq_true (by first | (with_reducible assumption) | assumption) : x9_5 ≤ (t349.length : Int))
              obtain ⟨y369, hy369⟩ : ∃ y_ : List (S57), y_ = (t349.drop (x9_5 : Int).toNat) := ⟨_, rfl⟩
              replace H : ((slot_Empty.f kj5 y369 64).bind fun t373 => (if t363 = (wrap64 (t368 + t373)) then ((slot_Moves.f kj5 t349 (Go.bits .and .i64 a2_1 255)).bind fun t374 => ((slot_Moves.f kj5 (t349.take (x9_5 : Int).toNat) (Go.bits .and .i64 a2_1 255)).bind fun t379 => ((slot_Moves.f kj5 (t349.drop (x9_5 : Int).toNat) (Go.bits .and .i64 a2_1 255)).bind fun t384 => (if (wrap64 ((wrap64 (t374 - t379)) - t384)) ≤ 1 then ((slot_Row.f kj5 (t349.drop (x9_5 : Int).toNat) 64).bind fun t389 => (if t389 = true then ((slot_Moves.f kj5 t349 (Go.bits .and .i64 a2_1 255)).bind fun t390 => ((slot_Moves.f kj5 (t349.take (x9_5 : Int).toNat) (Go.bits .and .i64 a2_1 255)).bind fun t395 => (some (decide (t390 ≥ t395))))) else (some false))) else (some false))))) else (some false))) = some r := by first | (rw [hy369]; with_reducible exact H) | (have H2_ := (Option.bind_some _ _).symm.trans H; rw [hy369]; with_reducible exact H2_) | (have H2_ := (Option.bind_some _ _).symm.trans H; with_reducible exact H2_) | with_reducible exact H | (rw [hy369]; exact H) | exact H
              have Ny369 := Aside0.mk hy369
              clear hy369
              replace H := Option.bind_eq_some_iff.mp H
              obtain ⟨t373, A290, H⟩ := H
              replace H : (if t363 = (wrap64 (t368 + t373)) then ((slot_Moves.f kj5 t349 (Go.bits .and .i64 a2_1 255)).bind fun t374 => ((slot_Moves.f kj5 (t349.take (x9_5 : Int).toNat) (Go.bits .and .i64 a2_1 255)).bind fun t379 => ((slot_Moves.f kj5 (t349.drop (x9_5 : Int).toNat) (Go.bits .and .i64 a2_1 255)).bind fun t384 => (if (wrap64 ((wrap64 (t374 - t379)) - t384)) ≤ 1 then ((slot_Row.f kj5 (t349.drop (x9_5 : Int).toNat) 64).bind fun t389 => (if t389 = true then ((slot_Moves.f kj5 t349 (Go.bits .and .i64 a2_1 255)).bind fun t390 => ((slot_Moves.f kj5 (t349.take (x9_5 : Int).toNat) (Go.bits .and .i64 a2_1 255)).bind fun t395 => (some (decide (t390 ≥ t395))))) else (some false))) else (some false))))) else (some false)) = some r := H
              have A29 := Aside0.mk A290
              clear A290
              by_cases c30 : t363 = (wrap64 (t368 + t373))
              · rw [if_pos c30] at H
                have c30b0 : (t363 == (wrap64 (t368 + t373))) = true := beq_iff_eq.mpr c30
                have c30b1 : (t363 != (wrap64 (t368 + t373))) = false := bne_eq_false_iff_eq.mpr c30
                clear c30
                replace H := Option.bind_eq_some_iff.mp H
                obtain ⟨t374, A310, H⟩ := H
                replace H : ((slot_Moves.f kj5 (t349.take (x9_5 : Int).toNat) (Go.bits .and .i64 a2_1 255)).bind fun t379 => ((slot_Moves.f kj5 (t349.drop (x9_5 : Int).toNat) (Go.bits .and .i64 a2_1 255)).bind fun t384 => (if (wrap64 ((wrap64 (t374 - t379)) - t384)) ≤ 1 then ((slot_Row.f kj5 (t349.drop (x9_5 : Int).toNat) 64).bind fun t389 => (if t389 = true then ((slot_Moves.f kj5 t349 (Go.bits .and .i64 a2_1 255)).bind fun t390 => ((slot_Moves.f kj5 (t349.take (x9_5 : Int).toNat) (Go.bits .and .i64 a2_1 255)).bind fun t395 => (some (decide (t390 ≥ t395))))) else (some false))) else (some false)))) = some r := H
                have A31 := Aside0.mk A310
                clear A310
                have c32b0 := eq_true (of_decide_eq_true (by first | (with_reducible assumption) | assumption) : 0 ≤ x9_5)
                have c33b0 := eq_true (of_decide_eq_true (by first | (with_reducible assumption) | assumption) : x9_5 ≤ (t349.length : Int))
                obtain ⟨y375, hy375⟩ : ∃ y_ : List (S57), y_ = (t349.take (x9_5 : Int).toNat) := ⟨_, rfl⟩
                replace H : ((slot_Moves.f kj5 y375 (Go.bits .and .i64 a2_1 255)).bind fun t379 => ((slot_Moves.f kj5 (t349.drop (x9_5 : Int).toNat) (Go.bits .and .i64 a2_1 255)).bind fun t384 => (if (wrap64 ((wrap64 (t374 - t379)) - t384)) ≤ 1 then ((slot_Row.f kj5 (t349.drop (x9_5 : Int).toNat) 64).bind fun t389 => (if t389 = true then ((slot_Moves.f kj5 t349 (Go.bits .and .i64 a2_1 255)).bind fun t390 => ((slot_Moves.f kj5 (t349.take (x9_5 : Int).toNat) (Go.bits .and .i64 a2_1 255)).bind fun t395 => (some (decide (t390 ≥ t395))))) else (some false))) else (some false)))) = some r := by first | (rw [hy375]; with_reducible exact H) | (have H2_ := (Option.bind_some _ _).symm.trans H; rw [hy375]; with_reducible exact H2_) | (have H2_ := (Option.bind_some _ _).symm.trans H; with_reducible exact H2_) | with_reducible exact H | (rw [hy375]; exact H) | exact H
                have Ny375 := Aside0.mk hy375
                clear hy375
                replace H := Option.bind_eq_some_iff.mp H
                obtain ⟨t379, A340, H⟩ := H
                replace H : ((slot_Moves.f kj5 (t349.drop (x9_5 : Int).toNat) (Go.bits .and .i64 a2_1 255)).bind fun t384 => (if (wrap64 ((wrap64 (t374 - t379)) - t384)) ≤ 1 then ((slot_Row.f kj5 (t349.drop (x9_5 : Int).toNat) 64).bind fun t389 => (if t389 = true then ((slot_Moves.f kj5 t349 (Go.bits .and .i64 a2_1 255)).bind fun t390 => ((slot_Moves.f kj5 (t349.take (x9_5 : Int).toNat) (Go.bits .and .i64 a2_1 255)).bind fun t395 => (some (decide (t390 ≥ t395))))) else (some false))) else (some false))) = some r := H
                have A34 := Aside0.mk A340
                clear A340
                have c35b0 := eq_true (of_decide_eq_true (by first | (with_reducible assumption) | assumption) : 0 ≤ x9_5)
                have c36b0 := eq_true (of_decide_eq_true (by first | (with_reducible assumption) | assumption) : x9_5 ≤ (t349.length : Int))
                obtain ⟨y380, hy380⟩ : ∃ y_ : List (S57), y_ = (t349.drop (x9_5 : Int).toNat) := ⟨_, rfl⟩
                replace H : ((slot_Moves.f kj5 y380 (Go.bits .and .i64 a2_1 255)).bind fun t384 => (if (wrap64 ((wrap64 (t374 - t379)) - t384)) ≤ 1 then ((slot_Row.f kj5 (t349.drop (x9_5 : Int).toNat) 64).bind fun t389 => (if t389 = true then ((slot_Moves.f kj5 t349 (Go.bits .and .i64 a2_1 255)).bind fun t390 => ((slot_Moves.f kj5 (t349.take (x9_5 : Int).toNat) (Go.bits .and .i64 a2_1 255)).bind fun t395 => (some (decide (t390 ≥ t395))))) else (some false))) else (some false))) = some r := by first | (rw [hy380]; with_reducible exact H) | (have H2_ := (Option.bind_some _ _).symm.trans H; rw [hy380]; with_reducible exact H2_) | (have H2_ := (Option.bind_some _ _).symm.trans H; with_reducible exact H2_) | with_reducible exact H | (rw [hy380]; exact H) | exact H
                have Ny380 := Aside0.mk hy380
                clear hy380
                replace H := Option.bind_eq_some_iff.mp H
                obtain ⟨t384, A370, H⟩ := H
                replace H : (if (wrap64 ((wrap64 (t374 - t379)) - t384)) ≤ 1 then ((slot_Row.f kj5 (t349.drop (x9_5 : Int).toNat) 64).bind fun t389 => (if t389 = true then ((slot_Moves.f kj5 t349 (Go.bits .and .i64 a2_1 255)).bind fun t390 => ((slot_Moves.f kj5 (t349.take (x9_5 : Int).toNat) (Go.bits .and .i64 a2_1 255)).bind fun t395 => (some (decide (t390 ≥ t395))))) else (some false))) else (some false)) = some r := H
                have A37 := Aside0.mk A370
                clear A370
                by_cases c38 : (wrap64 ((wrap64 (t374 - t379)) - t384)) ≤ 1
                · rw [if_pos c38] at H
                  have c38b0 : decide ((wrap64 ((wrap64 (t374 - t379)) - t384)) ≤ 1) = true := decide_eq_true c38
                  clear c38
                  have c39b0 := eq_true (of_decide_eq_true (by first | (with_reducible assumption) | assumption) : 0 ≤ x9_5)
                  have c40b0 := eq_true (of_decide_eq_true (by first | (with_reducible assumption) | assumption) : x9_5 ≤ (t349.length : Int))
                  obtain ⟨y385, hy385⟩ : ∃ y_ : List (S57), y_ = (t349.drop (x9_5 : Int).toNat) := ⟨_, rfl⟩
                  replace H : ((slot_Row.f kj5 y385 64).bind fun t389 => (if t389 = true then ((slot_Moves.f kj5 t349 (Go.bits .and .i64 a2_1 255)).bind fun t390 => ((slot_Moves.f kj5 (t349.take (x9_5 : Int).toNat) (Go.bits .and .i64 a2_1 255)).bind fun t395 => (some (decide (t390 ≥ t395))))) else (some false))) = some r := by first | (rw [hy385]; with_reducible exact H) | (have H2_ := (Option.bind_some _ _).symm.trans H; rw [hy385]; with_reducible exact H2_) | (have H2_ := (Option.bind_some _ _).symm.trans H; with_reducible exact H2_) | with_reducible exact H | (rw [hy385]; exact H) | exact H
                  have Ny385 := Aside0.mk hy385
                  clear hy385
                  replace H := Option.bind_eq_some_iff.mp H
                  obtain ⟨t389, A410, H⟩ := H
                  replace H : (if t389 = true then ((slot_Moves.f kj5 t349 (Go.bits .and .i64 a2_1 255)).bind fun t390 => ((slot_Moves.f kj5 (t349.take (x9_5 : Int).toNat) (Go.bits .and .i64 a2_1 255)).bind fun t395 => (some (decide (t390 ≥ t395))))) else (some false)) = some r := H
                  have A41 := Aside0.mk A410
                  clear A410
                  by_cases c42 : t389 = true
                  · subst c42
                    have H1 : ((slot_Moves.f kj5 t349 (Go.bits .and .i64 a2_1 255)).bind fun t390 => ((slot_Moves.f kj5 (t349.take (x9_5 : Int).toNat) (Go.bits .and .i64 a2_1 255)).bind fun t395 => (some (decide (t390 ≥ t395))))) = some r := by rw [if_pos rfl] at H; exact H
                    clear H
                    have H := H1
                    clear H1
                    replace H := Option.bind_eq_some_iff.mp H
                    obtain ⟨t390, A430, H⟩ := H
                    replace H : ((slot_Moves.f kj5 (t349.take (x9_5 : Int).toNat) (Go.bits .and .i64 a2_1 255)).bind fun t395 => (some (decide (t390 ≥ t395)))) = some r := H
                    have A43 := Aside0.mk A430
                    clear A430
                    have c44b0 := eq_true (of_decide_eq_true (by first | (with_reducible assumption) | assumption) : 0 ≤ x9_5)
                    have c45b0 := eq_true (of_decide_eq_true (by first | (with_reducible assumption) | assumption) : x9_5 ≤ (t349.length : Int))
                    obtain ⟨y391, hy391⟩ : ∃ y_ : List (S57), y_ = (t349.take (x9_5 : Int).toNat) := ⟨_, rfl⟩
                    replace H : ((slot_Moves.f kj5 y391 (Go.bits .and .i64 a2_1 255)).bind fun t395 => (some (decide (t390 ≥ t395)))) = some r := by first | (rw [hy391]; with_reducible exact H) | (have H2_ := (Option.bind_some _ _).symm.trans H; rw [hy391]; with_reducible exact H2_) | (have H2_ := (Option.bind_some _ _).symm.trans H; with_reducible exact H2_) | with_reducible exact H | (rw [hy391]; exact H) | exact H
                    have Ny391 := Aside0.mk hy391
                    clear hy391
                    replace H := Option.bind_eq_some_iff.mp H
                    obtain ⟨t395, A460, H⟩ := H
                    replace H : (some (decide (t390 ≥ t395))) = some r := H
                    have A46 := Aside0.mk A460
                    clear A460
                    obtain rfl := Option.some.inj H
                    have hcz47_0 : wc.cell? ⟨gb347, 0, none⟩ = some (.int .i64 a2_0) := (blk_cell BK347.out 0).trans rfl
                    have hcz47_1 : wc.cell? ⟨gb347, 1, none⟩ = some (.int .i64 a2_1) := (blk_cell BK347.out 1).trans rfl
                    have hfz47_0 := blk_frozen BK347.out 0
                    have hfz47_1 := blk_frozen BK347.out 1
                    try go_wp2
                    have n0_ := Aside0.mk (Kd.S_drew HO_8.out)
                    have n1_ := Aside0.mk (blk_drew BK347.out)
                    have n2_ := Aside0.mk (below_drew1 HB.out)
                    clear HO_8
                    clear BK347
                    clear HB
                    have HO_8 := n0_
                    have BK347 := n1_
                    have HB := n2_
                    clear n0_ n1_ n2_
                    have q49 : (x9_5 : Int) ≤ ((t349.length : Int) : Int) := of_decide_eq_true (by first | (with_reducible assumption) | assumption)
                    obtain ⟨i049, hi049, _, hsz49, _⟩ := info_parts info57
                    have hroom49 : t349.length ≤ co10 := (Kd.S_reads' HO_8.out).2.1
                    have hC49 : Kd.C k57 _ Ao10 t349.length t349 := (Kd.S_reads' HO_8.out).2.2
                    have hcut49 := cut_to (P := Try.prog) 22 57 .i64 Try.underlying22 hi049 Ao10 t349.length co10 x9_5 (of_decide_eq_true (by first | (with_reducible assumption) | assumption)) q49 hroom49
                    have hr49 := Kd.C_take (m := (x9_5 : Int).toNat) hC49 (by omega)
                    have hy49 : y353.length = (x9_5 : Int).toNat := (by rw [Ny353.out, List.length_take]; omega)
                    rw [← Ny353.out] at hr49
                    rw [← hy49] at hcut49
                    have HR356 := Aside0.mk hr49
                    have HC356 := Aside0.mk (show y353.length ≤ co10 from by omega)
                    clear hr49 hC49 hroom49 hi049 hsz49
                    have KY49 := Aside0.mk hy49
                    clear hy49
                    have KL49 := Aside0.mk (show (x9_5 : Int).toNat ≤ t349.length from by omega)
                    replace q49 := eq_true q49
                    have q50 : (x9_5 : Int) ≤ ((t349.length : Int) : Int) := of_decide_eq_true (by first | (with_reducible assumption) | assumption)
                    obtain ⟨i050, hi050, _, hsz50, _⟩ := info_parts info57
                    have hroom50 : t349.length ≤ co10 := (Kd.S_reads' HO_8.out).2.1
                    have hC50 : Kd.C k57 _ Ao10 t349.length t349 := (Kd.S_reads' HO_8.out).2.2
                    have q050 : (0 : Int) ≤ (x9_5 : Int) := of_decide_eq_true (by first | (with_reducible assumption) | assumption)
                    have hcut50 := cut_from (P := Try.prog) 22 57 .i64 Try.underlying22 hi050 2 hsz50 Ao10 t349.length co10 x9_5 q050 q50
                    have hr50 := Kd.C_drop (m := (x9_5 : Int).toNat) (c := co10) hC50 (by omega) hroom50
                    obtain ⟨A50, hA50⟩ : ∃ A1, A1 = (if co10 = (x9_5 : Int).toNat then Ao10 else (Ao10 : Option Addr).map (·.add ((x9_5 : Int).toNat * 2))) := ⟨_, rfl⟩
                    obtain ⟨c50, hc50⟩ : ∃ c1, c1 = co10 - (x9_5 : Int).toNat := ⟨_, rfl⟩
                    have hy50 : y358.length = t349.length - (x9_5 : Int).toNat := (by rw [Ny358.out, List.length_drop] <;> omega)
                    rw [show (t349).drop (x9_5 : Int).toNat = y358 from Ny358.out.symm] at hr50
                    replace hr50 : Kd.C k57 _ A50 y358.length y358 := (by rw [hA50]; exact hr50)
                    rw [← hy50, ← hA50, ← hc50] at hcut50
                    have HR361 := Aside0.mk hr50
                    have HC361 := Aside0.mk (show y358.length ≤ c50 from by rw [hy50, hc50]; exact Nat.sub_le_sub_right hroom50 _)
                    have KC50 := Aside0.mk hc50
                    clear hr50 hC50 hroom50 hi050 hsz50 hc50
                    have KY50 := Aside0.mk hy50
                    have KA50 := Aside0.mk hA50
                    clear hy50 hA50
                    have KL50 := Aside0.mk (show (x9_5 : Int).toNat ≤ t349.length from by omega)
                    replace q50 := eq_true q50
                    refine start_ (n := 68) (S := fun w' => True) (ds := []) #[false, false, false, false, false, false, false, false, false, false, false, false, false, false, false, false, false, false, false, false, false, false, false, false, false, false, false, false, false, false, false, false, false, false, false, false, false, false, false, false, false, false, false, false, false, false, false, false, false, false, false, false, false, false, false, false, false, false, false, false, false, false, false, false, false, false, false, false] (by kernel_rfl) rfl rfl trivial (fun hHeld => ?_); refine with_tabW regattalaw16_SlotParts.tab7 regattalaw16_SlotParts.bits7 (fun HT_ HW_ => ?_)
                    generalize wc.drew = w48 at HO_8 BK347 HB HR356 HR361 hHeld ⊢
                    refine pure_ (i := 0) (N := some 32) (v := ?_) (a' := ?_) #[true, false, false, false, false, false, false, false, false, false, false, false, false, false, false, false, false, false, false, false, false, false, false, false, false, false, false, false, false, false, false, false, false, false, false, false, false, false, false, false, false, false, false, false, false, false, false, false, false, false, false, false, false, false, false, false, false, false, false, false, false, false, false, false, false, false, false, false] rfl rfl (any_of HT_.out (by kernel_rfl)) (fun _ _ _ h => h) (Or.inl ⟨by rfl, ?_⟩) ?_ ?_
                    rotate_left
                    · intro w'
                      go_simp
                      with_reducible rfl
                    rotate_left
                    · simp only [Act.put, List.setIfInBounds_toArray, List.set_cons_zero, List.set_cons_succ, i64_w, i32_w]
                      rfl
                    refine pure_ (i := 1) (N := some 33) (v := ?_) (a' := ?_) #[true, true, false, false, false, false, false, false, false, false, false, false, false, false, false, false, false, false, false, false, false, false, false, false, false, false, false, false, false, false, false, false, false, false, false, false, false, false, false, false, false, false, false, false, false, false, false, false, false, false, false, false, false, false, false, false, false, false, false, false, false, false, false, false, false, false, false, false] rfl rfl (any_of HT_.out (by kernel_rfl)) (fun _ _ _ h => h) (Or.inl ⟨by rfl, ?_⟩) ?_ ?_
                    rotate_left
                    · intro w'
                      go_simp
                      with_reducible rfl
                    rotate_left
                    · simp only [Act.put, List.setIfInBounds_toArray, List.set_cons_zero, List.set_cons_succ, i64_w, i32_w]
                      rfl
                    refine pure_ (i := 2) (N := some 34) (v := ?_) (a' := ?_) #[true, true, true, false, false, false, false, false, false, false, false, false, false, false, false, false, false, false, false, false, false, false, false, false, false, false, false, false, false, false, false, false, false, false, false, false, false, false, false, false, false, false, false, false, false, false, false, false, false, false, false, false, false, false, false, false, false, false, false, false, false, false, false, false, false, false, false, false] rfl rfl (any_of HT_.out (by kernel_rfl)) (fun _ _ _ h => h) (Or.inl ⟨by rfl, ?_⟩) ?_ ?_
                    rotate_left
                    · intro w'
                      go_simp
                      with_reducible rfl
                    rotate_left
                    · simp only [Act.put, List.setIfInBounds_toArray, List.set_cons_zero, List.set_cons_succ, i64_w, i32_w]
                      rfl
                    refine pure_ (i := 3) (N := some 35) (v := ?_) (a' := ?_) #[true, true, true, true, false, false, false, false, false, false, false, false, false, false, false, false, false, false, false, false, false, false, false, false, false, false, false, false, false, false, false, false, false, false, false, false, false, false, false, false, false, false, false, false, false, false, false, false, false, false, false, false, false, false, false, false, false, false, false, false, false, false, false, false, false, false, false, false] rfl rfl (any_of HT_.out (by kernel_rfl)) (fun _ _ _ h => h) (Or.inl ⟨by rfl, ?_⟩) ?_ ?_
                    rotate_left
                    · intro w'
                      go_simp
                      with_reducible rfl
                    rotate_left
                    · simp only [Act.put, List.setIfInBounds_toArray, List.set_cons_zero, List.set_cons_succ, i64_w, i32_w]
                      rfl
                    refine pure_ (i := 5) (N := some 37) (v := ?_) (a' := ?_) #[true, true, true, true, false, true, false, false, false, false, false, false, false, false, false, false, false, false, false, false, false, false, false, false, false, false, false, false, false, false, false, false, false, false, false, false, false, false, false, false, false, false, false, false, false, false, false, false, false, false, false, false, false, false, false, false, false, false, false, false, false, false, false, false, false, false, false, false] rfl rfl (any_of HT_.out (by kernel_rfl)) (fun _ _ _ h => h) (Or.inl ⟨by rfl, ?_⟩) ?_ ?_
                    rotate_left
                    · intro w'
                      go_simp
                      with_reducible rfl
                    rotate_left
                    · simp only [Act.put, List.setIfInBounds_toArray, List.set_cons_zero, List.set_cons_succ, i64_w, i32_w]
                      rfl
                    refine pure_ (i := 6) (N := some 38) (v := ?_) (a' := ?_) #[true, true, true, true, false, true, true, false, false, false, false, false, false, false, false, false, false, false, false, false, false, false, false, false, false, false, false, false, false, false, false, false, false, false, false, false, false, false, false, false, false, false, false, false, false, false, false, false, false, false, false, false, false, false, false, false, false, false, false, false, false, false, false, false, false, false, false, false] rfl rfl (any_of HT_.out (by kernel_rfl)) (fun _ _ _ h => h) (Or.inl ⟨by rfl, ?_⟩) ?_ ?_
                    rotate_left
                    · intro w'
                      go_simp
                      with_reducible rfl
                    rotate_left
                    · simp only [Act.put, List.setIfInBounds_toArray, List.set_cons_zero, List.set_cons_succ, i64_w, i32_w]
                      rfl
                    refine pure_ (i := 7) (N := some 39) (v := ?_) (a' := ?_) #[true, true, true, true, false, true, true, true, false, false, false, false, false, false, false, false, false, false, false, false, false, false, false, false, false, false, false, false, false, false, false, false, false, false, false, false, false, false, false, false, false, false, false, false, false, false, false, false, false, false, false, false, false, false, false, false, false, false, false, false, false, false, false, false, false, false, false, false] rfl rfl (any_of HT_.out (by kernel_rfl)) (fun _ _ _ h => h) (Or.inl ⟨by rfl, ?_⟩) ?_ ?_
                    rotate_left
                    · intro w'
                      go_simp
                      with_reducible rfl
                    rotate_left
                    · simp only [Act.put, List.setIfInBounds_toArray, List.set_cons_zero, List.set_cons_succ, i64_w, i32_w]
                      rfl
                    refine pure_ (i := 8) (N := some 40) (v := ?_) (a' := ?_) #[true, true, true, true, false, true, true, true, true, false, false, false, false, false, false, false, false, false, false, false, false, false, false, false, false, false, false, false, false, false, false, false, false, false, false, false, false, false, false, false, false, false, false, false, false, false, false, false, false, false, false, false, false, false, false, false, false, false, false, false, false, false, false, false, false, false, false, false] rfl rfl (any_of HT_.out (by kernel_rfl)) (fun _ _ _ h => h) (Or.inl ⟨by rfl, ?_⟩) ?_ ?_
                    rotate_left
                    · intro w'
                      go_simp
                      with_reducible rfl
                    rotate_left
                    · simp only [Act.put, List.setIfInBounds_toArray, List.set_cons_zero, List.set_cons_succ, i64_w, i32_w]
                      rfl
                    refine pure_ (i := 10) (N := some 42) (v := ?_) (a' := ?_) #[true, true, true, true, false, true, true, true, true, false, true, false, false, false, false, false, false, false, false, false, false, false, false, false, false, false, false, false, false, false, false, false, false, false, false, false, false, false, false, false, false, false, false, false, false, false, false, false, false, false, false, false, false, false, false, false, false, false, false, false, false, false, false, false, false, false, false, false] rfl rfl (any_of HT_.out (by kernel_rfl)) (fun _ _ _ h => h) (Or.inl ⟨by rfl, ?_⟩) ?_ ?_
                    rotate_left
                    · intro w'
                      go_simp
                      with_reducible rfl
                    rotate_left
                    · simp only [Act.put, List.setIfInBounds_toArray, List.set_cons_zero, List.set_cons_succ, i64_w, i32_w]
                      rfl
                    refine pure_ (i := 11) (N := some 43) (v := ?_) (a' := ?_) #[true, true, true, true, false, true, true, true, true, false, true, true, false, false, false, false, false, false, false, false, false, false, false, false, false, false, false, false, false, false, false, false, false, false, false, false, false, false, false, false, false, false, false, false, false, false, false, false, false, false, false, false, false, false, false, false, false, false, false, false, false, false, false, false, false, false, false, false] rfl rfl (any_of HT_.out (by kernel_rfl)) (fun _ _ _ h => h) (Or.inl ⟨by rfl, ?_⟩) ?_ ?_
                    rotate_left
                    · intro w'
                      go_simp
                      with_reducible rfl
                    rotate_left
                    · simp only [Act.put, List.setIfInBounds_toArray, List.set_cons_zero, List.set_cons_succ, i64_w, i32_w]
                      rfl
                    refine pure_ (i := 12) (N := some 44) (v := ?_) (a' := ?_) #[true, true, true, true, false, true, true, true, true, false, true, true, true, false, false, false, false, false, false, false, false, false, false, false, false, false, false, false, false, false, false, false, false, false, false, false, false, false, false, false, false, false, false, false, false, false, false, false, false, false, false, false, false, false, false, false, false, false, false, false, false, false, false, false, false, false, false, false] rfl rfl (any_of HT_.out (by kernel_rfl)) (fun _ _ _ h => h) (Or.inl ⟨by rfl, ?_⟩) ?_ ?_
                    rotate_left
                    · intro w'
                      go_simp
                      with_reducible rfl
                    rotate_left
                    · simp only [Act.put, List.setIfInBounds_toArray, List.set_cons_zero, List.set_cons_succ, i64_w, i32_w]
                      rfl
                    refine pure_ (i := 13) (N := some 45) (v := ?_) (a' := ?_) #[true, true, true, true, false, true, true, true, true, false, true, true, true, true, false, false, false, false, false, false, false, false, false, false, false, false, false, false, false, false, false, false, false, false, false, false, false, false, false, false, false, false, false, false, false, false, false, false, false, false, false, false, false, false, false, false, false, false, false, false, false, false, false, false, false, false, false, false] rfl rfl (any_of HT_.out (by kernel_rfl)) (fun _ _ _ h => h) (Or.inl ⟨by rfl, ?_⟩) ?_ ?_
                    rotate_left
                    · intro w'
                      go_simp
                      with_reducible rfl
                    rotate_left
                    · simp only [Act.put, List.setIfInBounds_toArray, List.set_cons_zero, List.set_cons_succ, i64_w, i32_w]
                      rfl
                    refine one_ (i := 4) (N := some 36) #[true, true, true, true, true, true, true, true, true, false, true, true, true, true, false, false, false, false, false, false, false, false, false, false, false, false, false, false, false, false, false, false, false, false, false, false, false, false, false, false, false, false, false, false, false, false, false, false, false, false, false, false, false, false, false, false, false, false, false, false, false, false, false, false, false, false, false, false] rfl rfl (one_of HT_.out (by kernel_rfl)) (by decide) (fun K hK => ?_)
                    refine goes_ Try.func28 (by kernel_rfl) rfl #[.slice Ao10 t349.length co10, .int .i64 (Go.bits .and .i64 a2_1 255)] (by rfl) rfl rfl (by (try simp only [List.map_toArray, List.map_cons, List.map_nil]); first | done | rfl | (simp only [List.length_drop, List.length_take]; rfl)) ?_
                    with_reducible refine (slot_Quanta.calls kj5 _ _ t349 (Go.bits .and .i64 a2_1 255) t352 _ ?side1 ?side2 A15.out).mono ?_
                    (case side1 => repeat (first | exact (Kd.S_reads' HO_8.out).2.2 | (with_reducible refine Kd.C_alloc ?_ _) | (with_reducible refine Kd.C_drewN ?_ _) | (with_reducible refine Kd.C_drew ?_)))
                    (case side2 => exact (Kd.S_reads' HO_8.out).2.1)
                    rintro e w51 ⟨rfl, hb⟩
                    refine ⟨_, rfl, ?_⟩
                    have n0_ := Aside0.mk (Kd.S_below (by (with_reducible repeat (first | apply Kd.S_alloc | apply Kd.S_drewN | apply Kd.S_drew)); exact HO_8.out) hb)
                    have n1_ := Aside0.mk (blk_below (g := gb347) (o := .cells #[.int .i64 a2_0, .int .i64 a2_1] 24 (0, 0)) (by (with_reducible repeat (first | refine blk_drewN ?_ _ | refine blk_drew ?_ | refine blk_alloc ?_ _)); exact BK347.out) hb)
                    have n2_ := Aside0.mk (Kd.C_below (by repeat (first | (with_reducible exact HR356.out) | (with_reducible refine Kd.C_alloc ?_ _) | (with_reducible refine Kd.C_drewN ?_ _) | (with_reducible refine Kd.C_drew ?_) | exact HR356.out)) hb)
                    have n3_ := Aside0.mk (Kd.C_below (by repeat (first | (with_reducible exact HR361.out) | (with_reducible refine Kd.C_alloc ?_ _) | (with_reducible refine Kd.C_drewN ?_ _) | (with_reducible refine Kd.C_drew ?_) | exact HR361.out)) hb)
                    have n4_ := Aside0.mk (below_step (by repeat (first | (with_reducible first | exact HB.out | apply below_alloc | apply pw_below_drewN | apply below_drew1 | refine below_set ?_ GE347.out) | exact HB.out)) hb)
                    clear HO_8
                    clear BK347
                    clear HR356
                    clear HR361
                    clear HB
                    have HO_8 := n0_
                    have BK347 := n1_
                    have HR356 := n2_
                    have HR361 := n3_
                    have HB := n4_
                    clear n0_ n1_ n2_ n3_ n4_
                    (try clear hb)
                    (try clear hb2)
                    (try clear hk)
                    (try clear hi)
                    refine hK.out _ _ trivial (fun hHeld => ?_)
                    clear hK K
                    refine norm_ (a' := ?_) ?_ ?_
                    rotate_left
                    · show Act.put _ (some 36) _ = _
                      simp only [Act.put, List.setIfInBounds_toArray, List.set_cons_zero, List.set_cons_succ, i64_w, i32_w]
                      rfl
                    refine one_ (i := 9) (N := some 41) #[true, true, true, true, true, true, true, true, true, true, true, true, true, true, false, false, false, false, false, false, false, false, false, false, false, false, false, false, false, false, false, false, false, false, false, false, false, false, false, false, false, false, false, false, false, false, false, false, false, false, false, false, false, false, false, false, false, false, false, false, false, false, false, false, false, false, false, false] rfl rfl (one_of HT_.out (by kernel_rfl)) (by decide) (fun K hK => ?_)
                    refine goes_ Try.func28 (by kernel_rfl) rfl #[.slice Ao10 y353.length co10, .int .i64 (Go.bits .and .i64 a2_1 255)] (by rfl) rfl rfl (by (try simp only [List.map_toArray, List.map_cons, List.map_nil]); first | done | rfl | (simp only [List.length_drop, List.length_take]; rfl) | ((try rw [KY49.out]); (try rw [KY50.out]); (try rw [KC50.out]); (try rw [KA50.out]); first | done | rfl)) ?_
                    with_reducible refine (slot_Quanta.calls kj5 _ _ y353 (Go.bits .and .i64 a2_1 255) t357 _ ?side1 ?side2 A18.out).mono ?_
                    (case side1 => repeat (first | exact (by repeat (first | (with_reducible exact HR356.out) | (with_reducible refine Kd.C_alloc ?_ _) | (with_reducible refine Kd.C_drewN ?_ _) | (with_reducible refine Kd.C_drew ?_) | exact HR356.out)) | (with_reducible refine Kd.C_alloc ?_ _) | (with_reducible refine Kd.C_drewN ?_ _) | (with_reducible refine Kd.C_drew ?_)))
                    (case side2 => exact HC356.out)
                    rintro e w52 ⟨rfl, hb⟩
                    refine ⟨_, rfl, ?_⟩
                    have n0_ := Aside0.mk (Kd.S_below (by (with_reducible repeat (first | apply Kd.S_alloc | apply Kd.S_drewN | apply Kd.S_drew)); exact HO_8.out) hb)
                    have n1_ := Aside0.mk (blk_below (g := gb347) (o := .cells #[.int .i64 a2_0, .int .i64 a2_1] 24 (0, 0)) (by (with_reducible repeat (first | refine blk_drewN ?_ _ | refine blk_drew ?_ | refine blk_alloc ?_ _)); exact BK347.out) hb)
                    have n2_ := Aside0.mk (Kd.C_below (by repeat (first | (with_reducible exact HR356.out) | (with_reducible refine Kd.C_alloc ?_ _) | (with_reducible refine Kd.C_drewN ?_ _) | (with_reducible refine Kd.C_drew ?_) | exact HR356.out)) hb)
                    have n3_ := Aside0.mk (Kd.C_below (by repeat (first | (with_reducible exact HR361.out) | (with_reducible refine Kd.C_alloc ?_ _) | (with_reducible refine Kd.C_drewN ?_ _) | (with_reducible refine Kd.C_drew ?_) | exact HR361.out)) hb)
                    have n4_ := Aside0.mk (below_step (by repeat (first | (with_reducible first | exact HB.out | apply below_alloc | apply pw_below_drewN | apply below_drew1 | refine below_set ?_ GE347.out) | exact HB.out)) hb)
                    clear HO_8
                    clear BK347
                    clear HR356
                    clear HR361
                    clear HB
                    have HO_8 := n0_
                    have BK347 := n1_
                    have HR356 := n2_
                    have HR361 := n3_
                    have HB := n4_
                    clear n0_ n1_ n2_ n3_ n4_
                    (try clear hb)
                    (try clear hb2)
                    (try clear hk)
                    (try clear hi)
                    refine hK.out _ _ trivial (fun hHeld => ?_)
                    clear hK K
                    refine norm_ (a' := ?_) ?_ ?_
                    rotate_left
                    · show Act.put _ (some 41) _ = _
                      simp only [Act.put, List.setIfInBounds_toArray, List.set_cons_zero, List.set_cons_succ, i64_w, i32_w]
                      rfl
                    refine one_ (i := 14) (N := some 46) #[true, true, true, true, true, true, true, true, true, true, true, true, true, true, true, false, false, false, false, false, false, false, false, false, false, false, false, false, false, false, false, false, false, false, false, false, false, false, false, false, false, false, false, false, false, false, false, false, false, false, false, false, false, false, false, false, false, false, false, false, false, false, false, false, false, false, false, false] rfl rfl (one_of HT_.out (by kernel_rfl)) (by decide) (fun K hK => ?_)
                    refine goes_ Try.func28 (by kernel_rfl) rfl #[.slice A50 y358.length c50, .int .i64 (Go.bits .and .i64 a2_1 255)] (by rfl) rfl rfl (by (try simp only [List.map_toArray, List.map_cons, List.map_nil]); first | done | rfl | (simp only [List.length_drop, List.length_take]; rfl) | ((try rw [KY49.out]); (try rw [KY50.out]); (try rw [KC50.out]); (try rw [KA50.out]); first | done | rfl)) ?_
                    with_reducible refine (slot_Quanta.calls kj5 _ _ y358 (Go.bits .and .i64 a2_1 255) t362 _ ?side1 ?side2 A21.out).mono ?_
                    (case side1 => repeat (first | exact (by repeat (first | (with_reducible exact HR361.out) | (with_reducible refine Kd.C_alloc ?_ _) | (with_reducible refine Kd.C_drewN ?_ _) | (with_reducible refine Kd.C_drew ?_) | exact HR361.out)) | (with_reducible refine Kd.C_alloc ?_ _) | (with_reducible refine Kd.C_drewN ?_ _) | (with_reducible refine Kd.C_drew ?_)))
                    (case side2 => exact HC361.out)
                    rintro e w53 ⟨rfl, hb⟩
                    refine ⟨_, rfl, ?_⟩
                    have n0_ := Aside0.mk (Kd.S_below (by (with_reducible repeat (first | apply Kd.S_alloc | apply Kd.S_drewN | apply Kd.S_drew)); exact HO_8.out) hb)
                    have n1_ := Aside0.mk (blk_below (g := gb347) (o := .cells #[.int .i64 a2_0, .int .i64 a2_1] 24 (0, 0)) (by (with_reducible repeat (first | refine blk_drewN ?_ _ | refine blk_drew ?_ | refine blk_alloc ?_ _)); exact BK347.out) hb)
                    have n2_ := Aside0.mk (Kd.C_below (by repeat (first | (with_reducible exact HR356.out) | (with_reducible refine Kd.C_alloc ?_ _) | (with_reducible refine Kd.C_drewN ?_ _) | (with_reducible refine Kd.C_drew ?_) | exact HR356.out)) hb)
                    have n3_ := Aside0.mk (Kd.C_below (by repeat (first | (with_reducible exact HR361.out) | (with_reducible refine Kd.C_alloc ?_ _) | (with_reducible refine Kd.C_drewN ?_ _) | (with_reducible refine Kd.C_drew ?_) | exact HR361.out)) hb)
                    have n4_ := Aside0.mk (below_step (by repeat (first | (with_reducible first | exact HB.out | apply below_alloc | apply pw_below_drewN | apply below_drew1 | refine below_set ?_ GE347.out) | exact HB.out)) hb)
                    clear HO_8
                    clear BK347
                    clear HR356
                    clear HR361
                    clear HB
                    have HO_8 := n0_
                    have BK347 := n1_
                    have HR356 := n2_
                    have HR361 := n3_
                    have HB := n4_
                    clear n0_ n1_ n2_ n3_ n4_
                    (try clear hb)
                    (try clear hb2)
                    (try clear hk)
                    (try clear hi)
                    refine hK.out _ _ trivial (fun hHeld => ?_)
                    clear hK K
                    refine norm_ (a' := ?_) ?_ ?_
                    rotate_left
                    · show Act.put _ (some 46) _ = _
                      simp only [Act.put, List.setIfInBounds_toArray, List.set_cons_zero, List.set_cons_succ, i64_w, i32_w]
                      rfl
                    refine pure_ (i := 15) (N := some 47) (v := ?_) (a' := ?_) #[true, true, true, true, true, true, true, true, true, true, true, true, true, true, true, true, false, false, false, false, false, false, false, false, false, false, false, false, false, false, false, false, false, false, false, false, false, false, false, false, false, false, false, false, false, false, false, false, false, false, false, false, false, false, false, false, false, false, false, false, false, false, false, false, false, false, false, false] rfl rfl (any_of HT_.out (by kernel_rfl)) (fun _ _ _ h => h) (Or.inl ⟨by rfl, ?_⟩) ?_ ?_
                    rotate_left
                    · intro w'
                      go_simp
                      with_reducible rfl
                    rotate_left
                    · simp only [Act.put, List.setIfInBounds_toArray, List.set_cons_zero, List.set_cons_succ, i64_w, i32_w]
                      rfl
                    refine pure_ (i := 16) (N := some 48) (v := ?_) (a' := ?_) #[true, true, true, true, true, true, true, true, true, true, true, true, true, true, true, true, true, false, false, false, false, false, false, false, false, false, false, false, false, false, false, false, false, false, false, false, false, false, false, false, false, false, false, false, false, false, false, false, false, false, false, false, false, false, false, false, false, false, false, false, false, false, false, false, false, false, false, false] rfl rfl (any_of HT_.out (by kernel_rfl)) (fun _ _ _ h => h) (Or.inl ⟨by rfl, ?_⟩) ?_ ?_
                    rotate_left
                    · intro w'
                      go_simp
                      with_reducible rfl
                    rotate_left
                    · simp only [Act.put, List.setIfInBounds_toArray, List.set_cons_zero, List.set_cons_succ, i64_w, i32_w]
                      rfl
                    refine pure_ (i := 17) (N := some 49) (v := ?_) (a' := ?_) #[true, true, true, true, true, true, true, true, true, true, true, true, true, true, true, true, true, true, false, false, false, false, false, false, false, false, false, false, false, false, false, false, false, false, false, false, false, false, false, false, false, false, false, false, false, false, false, false, false, false, false, false, false, false, false, false, false, false, false, false, false, false, false, false, false, false, false, false] rfl rfl (any_of HT_.out (by kernel_rfl)) (fun _ _ _ h => h) (Or.inl ⟨by rfl, ?_⟩) ?_ ?_
                    rotate_left
                    · intro w'
                      go_simp
                      with_reducible rfl
                    rotate_left
                    · simp only [Act.put, List.setIfInBounds_toArray, List.set_cons_zero, List.set_cons_succ, i64_w, i32_w]
                      rfl
                    refine pure_ (i := 18) (N := some 50) (v := ?_) (a' := ?_) #[true, true, true, true, true, true, true, true, true, true, true, true, true, true, true, true, true, true, true, false, false, false, false, false, false, false, false, false, false, false, false, false, false, false, false, false, false, false, false, false, false, false, false, false, false, false, false, false, false, false, false, false, false, false, false, false, false, false, false, false, false, false, false, false, false, false, false, false] rfl rfl (any_of HT_.out (by kernel_rfl)) (fun _ _ _ h => h) (Or.inl ⟨by rfl, ?_⟩) ?_ ?_
                    rotate_left
                    · intro w'
                      go_simp
                      with_reducible rfl
                    rotate_left
                    · simp only [Act.put, List.setIfInBounds_toArray, List.set_cons_zero, List.set_cons_succ, i64_w, i32_w]
                      rfl
                    refine pure_ (i := 19) (N := some 51) (v := ?_) (a' := ?_) #[true, true, true, true, true, true, true, true, true, true, true, true, true, true, true, true, true, true, true, true, false, false, false, false, false, false, false, false, false, false, false, false, false, false, false, false, false, false, false, false, false, false, false, false, false, false, false, false, false, false, false, false, false, false, false, false, false, false, false, false, false, false, false, false, false, false, false, false] rfl rfl (any_of HT_.out (by kernel_rfl)) (fun _ _ _ h => h) (Or.inl ⟨by rfl, ?_⟩) ?_ ?_
                    rotate_left
                    · intro w'
                      go_simp
                      with_reducible rfl
                    rotate_left
                    · simp only [Act.put, List.setIfInBounds_toArray, List.set_cons_zero, List.set_cons_succ, i64_w, i32_w]
                      rfl
                    refine pure_ (i := 21) (N := some 53) (v := ?_) (a' := ?_) #[true, true, true, true, true, true, true, true, true, true, true, true, true, true, true, true, true, true, true, true, false, true, false, false, false, false, false, false, false, false, false, false, false, false, false, false, false, false, false, false, false, false, false, false, false, false, false, false, false, false, false, false, false, false, false, false, false, false, false, false, false, false, false, false, false, false, false, false] rfl rfl (any_of HT_.out (by kernel_rfl)) (fun _ _ _ h => h) (Or.inl ⟨by rfl, ?_⟩) ?_ ?_
                    rotate_left
                    · intro w'
                      go_simp
                      with_reducible rfl
                    rotate_left
                    · simp only [Act.put, List.setIfInBounds_toArray, List.set_cons_zero, List.set_cons_succ, i64_w, i32_w]
                      rfl
                    refine pure_ (i := 22) (N := some 54) (v := ?_) (a' := ?_) #[true, true, true, true, true, true, true, true, true, true, true, true, true, true, true, true, true, true, true, true, false, true, true, false, false, false, false, false, false, false, false, false, false, false, false, false, false, false, false, false, false, false, false, false, false, false, false, false, false, false, false, false, false, false, false, false, false, false, false, false, false, false, false, false, false, false, false, false] rfl rfl (any_of HT_.out (by kernel_rfl)) (fun _ _ _ h => h) (Or.inl ⟨by rfl, ?_⟩) ?_ ?_
                    rotate_left
                    · intro w'
                      go_simp
                      with_reducible rfl
                    rotate_left
                    · simp only [Act.put, List.setIfInBounds_toArray, List.set_cons_zero, List.set_cons_succ, i64_w, i32_w]
                      rfl
                    refine pure_ (i := 23) (N := some 55) (v := ?_) (a' := ?_) #[true, true, true, true, true, true, true, true, true, true, true, true, true, true, true, true, true, true, true, true, false, true, true, true, false, false, false, false, false, false, false, false, false, false, false, false, false, false, false, false, false, false, false, false, false, false, false, false, false, false, false, false, false, false, false, false, false, false, false, false, false, false, false, false, false, false, false, false] rfl rfl (any_of HT_.out (by kernel_rfl)) (fun _ _ _ h => h) (Or.inl ⟨by rfl, ?_⟩) ?_ ?_
                    rotate_left
                    · intro w'
                      go_simp
                      with_reducible rfl
                    rotate_left
                    · simp only [Act.put, List.setIfInBounds_toArray, List.set_cons_zero, List.set_cons_succ, i64_w, i32_w]
                      rfl
                    refine pure_ (i := 25) (N := some 57) (v := ?_) (a' := ?_) #[true, true, true, true, true, true, true, true, true, true, true, true, true, true, true, true, true, true, true, true, false, true, true, true, false, true, false, false, false, false, false, false, false, false, false, false, false, false, false, false, false, false, false, false, false, false, false, false, false, false, false, false, false, false, false, false, false, false, false, false, false, false, false, false, false, false, false, false] rfl rfl (any_of HT_.out (by kernel_rfl)) (fun _ _ _ h => h) (Or.inl ⟨by rfl, ?_⟩) ?_ ?_
                    rotate_left
                    · intro w'
                      go_simp
                      with_reducible rfl
                    rotate_left
                    · simp only [Act.put, List.setIfInBounds_toArray, List.set_cons_zero, List.set_cons_succ, i64_w, i32_w]
                      rfl
                    refine pure_ (i := 26) (N := some 58) (v := ?_) (a' := ?_) #[true, true, true, true, true, true, true, true, true, true, true, true, true, true, true, true, true, true, true, true, false, true, true, true, false, true, true, false, false, false, false, false, false, false, false, false, false, false, false, false, false, false, false, false, false, false, false, false, false, false, false, false, false, false, false, false, false, false, false, false, false, false, false, false, false, false, false, false] rfl rfl (any_of HT_.out (by kernel_rfl)) (fun _ _ _ h => h) (Or.inl ⟨by rfl, ?_⟩) ?_ ?_
                    rotate_left
                    · intro w'
                      go_simp
                      with_reducible rfl
                    rotate_left
                    · simp only [Act.put, List.setIfInBounds_toArray, List.set_cons_zero, List.set_cons_succ, i64_w, i32_w]
                      rfl
                    refine pure_ (i := 27) (N := some 59) (v := ?_) (a' := ?_) #[true, true, true, true, true, true, true, true, true, true, true, true, true, true, true, true, true, true, true, true, false, true, true, true, false, true, true, true, false, false, false, false, false, false, false, false, false, false, false, false, false, false, false, false, false, false, false, false, false, false, false, false, false, false, false, false, false, false, false, false, false, false, false, false, false, false, false, false] rfl rfl (any_of HT_.out (by kernel_rfl)) (fun _ _ _ h => h) (Or.inl ⟨by rfl, ?_⟩) ?_ ?_
                    rotate_left
                    · intro w'
                      go_simp
                      with_reducible rfl
                    rotate_left
                    · simp only [Act.put, List.setIfInBounds_toArray, List.set_cons_zero, List.set_cons_succ, i64_w, i32_w]
                      rfl
                    refine one_ (i := 20) (N := some 52) #[true, true, true, true, true, true, true, true, true, true, true, true, true, true, true, true, true, true, true, true, true, true, true, true, false, true, true, true, false, false, false, false, false, false, false, false, false, false, false, false, false, false, false, false, false, false, false, false, false, false, false, false, false, false, false, false, false, false, false, false, false, false, false, false, false, false, false, false] rfl rfl (one_of HT_.out (by kernel_rfl)) (by decide) (fun K hK => ?_)
                    refine goes_ Try.func27 (by kernel_rfl) rfl #[.slice Ao10 t349.length co10, .int .i64 64] (by rfl) rfl rfl (by (try simp only [List.map_toArray, List.map_cons, List.map_nil]); first | done | rfl | (simp only [List.length_drop, List.length_take]; rfl)) ?_
                    with_reducible refine (slot_Empty.calls kj5 _ _ t349 64 t363 _ ?side1 ?side2 A23.out).mono ?_
                    (case side1 => repeat (first | exact (Kd.S_reads' HO_8.out).2.2 | (with_reducible refine Kd.C_alloc ?_ _) | (with_reducible refine Kd.C_drewN ?_ _) | (with_reducible refine Kd.C_drew ?_)))
                    (case side2 => exact (Kd.S_reads' HO_8.out).2.1)
                    rintro e w54 ⟨rfl, hb⟩
                    refine ⟨_, rfl, ?_⟩
                    have n0_ := Aside0.mk (Kd.S_below (by (with_reducible repeat (first | apply Kd.S_alloc | apply Kd.S_drewN | apply Kd.S_drew)); exact HO_8.out) hb)
                    have n1_ := Aside0.mk (blk_below (g := gb347) (o := .cells #[.int .i64 a2_0, .int .i64 a2_1] 24 (0, 0)) (by (with_reducible repeat (first | refine blk_drewN ?_ _ | refine blk_drew ?_ | refine blk_alloc ?_ _)); exact BK347.out) hb)
                    have n2_ := Aside0.mk (Kd.C_below (by repeat (first | (with_reducible exact HR356.out) | (with_reducible refine Kd.C_alloc ?_ _) | (with_reducible refine Kd.C_drewN ?_ _) | (with_reducible refine Kd.C_drew ?_) | exact HR356.out)) hb)
                    have n3_ := Aside0.mk (Kd.C_below (by repeat (first | (with_reducible exact HR361.out) | (with_reducible refine Kd.C_alloc ?_ _) | (with_reducible refine Kd.C_drewN ?_ _) | (with_reducible refine Kd.C_drew ?_) | exact HR361.out)) hb)
                    have n4_ := Aside0.mk (below_step (by repeat (first | (with_reducible first | exact HB.out | apply below_alloc | apply pw_below_drewN | apply below_drew1 | refine below_set ?_ GE347.out) | exact HB.out)) hb)
                    clear HO_8
                    clear BK347
                    clear HR356
                    clear HR361
                    clear HB
                    have HO_8 := n0_
                    have BK347 := n1_
                    have HR356 := n2_
                    have HR361 := n3_
                    have HB := n4_
                    clear n0_ n1_ n2_ n3_ n4_
                    (try clear hb)
                    (try clear hb2)
                    (try clear hk)
                    (try clear hi)
                    have q55 : (x9_5 : Int) ≤ ((t349.length : Int) : Int) := of_decide_eq_true (by first | (with_reducible assumption) | assumption)
                    obtain ⟨i055, hi055, _, hsz55, _⟩ := info_parts info57
                    have hroom55 : t349.length ≤ co10 := (Kd.S_reads' HO_8.out).2.1
                    have hC55 : Kd.C k57 _ Ao10 t349.length t349 := (Kd.S_reads' HO_8.out).2.2
                    have hcut55 := cut_to (P := Try.prog) 22 57 .i64 Try.underlying22 hi055 Ao10 t349.length co10 x9_5 (of_decide_eq_true (by first | (with_reducible assumption) | assumption)) q55 hroom55
                    have hr55 := Kd.C_take (m := (x9_5 : Int).toNat) hC55 (by omega)
                    have hy55 : y364.length = (x9_5 : Int).toNat := (by rw [Ny364.out, List.length_take]; omega)
                    rw [← Ny364.out] at hr55
                    rw [← hy55] at hcut55
                    have HR367 := Aside0.mk hr55
                    have HC367 := Aside0.mk (show y364.length ≤ co10 from by omega)
                    clear hr55 hC55 hroom55 hi055 hsz55
                    have KY55 := Aside0.mk hy55
                    clear hy55
                    have KL55 := Aside0.mk (show (x9_5 : Int).toNat ≤ t349.length from by omega)
                    replace q55 := eq_true q55
                    refine hK.out _ _ trivial (fun hHeld => ?_)
                    clear hK K
                    refine norm_ (a' := ?_) ?_ ?_
                    rotate_left
                    · show Act.put _ (some 52) _ = _
                      simp only [Act.put, List.setIfInBounds_toArray, List.set_cons_zero, List.set_cons_succ, i64_w, i32_w]
                      rfl
                    refine one_ (i := 24) (N := some 56) #[true, true, true, true, true, true, true, true, true, true, true, true, true, true, true, true, true, true, true, true, true, true, true, true, true, true, true, true, false, false, false, false, false, false, false, false, false, false, false, false, false, false, false, false, false, false, false, false, false, false, false, false, false, false, false, false, false, false, false, false, false, false, false, false, false, false, false, false] rfl rfl (one_of HT_.out (by kernel_rfl)) (by decide) (fun K hK => ?_)
                    refine goes_ Try.func27 (by kernel_rfl) rfl #[.slice Ao10 y364.length co10, .int .i64 64] (by rfl) rfl rfl (by (try simp only [List.map_toArray, List.map_cons, List.map_nil]); first | done | rfl | (simp only [List.length_drop, List.length_take]; rfl) | ((try rw [KY49.out]); (try rw [KY50.out]); (try rw [KY55.out]); (try rw [KC50.out]); (try rw [KA50.out]); first | done | rfl)) ?_
                    with_reducible refine (slot_Empty.calls kj5 _ _ y364 64 t368 _ ?side1 ?side2 A26.out).mono ?_
                    (case side1 => repeat (first | exact (by repeat (first | (with_reducible exact HR367.out) | (with_reducible refine Kd.C_alloc ?_ _) | (with_reducible refine Kd.C_drewN ?_ _) | (with_reducible refine Kd.C_drew ?_) | exact HR367.out)) | (with_reducible refine Kd.C_alloc ?_ _) | (with_reducible refine Kd.C_drewN ?_ _) | (with_reducible refine Kd.C_drew ?_)))
                    (case side2 => exact HC367.out)
                    rintro e w56 ⟨rfl, hb⟩
                    refine ⟨_, rfl, ?_⟩
                    have n0_ := Aside0.mk (Kd.S_below (by (with_reducible repeat (first | apply Kd.S_alloc | apply Kd.S_drewN | apply Kd.S_drew)); exact HO_8.out) hb)
                    have n1_ := Aside0.mk (blk_below (g := gb347) (o := .cells #[.int .i64 a2_0, .int .i64 a2_1] 24 (0, 0)) (by (with_reducible repeat (first | refine blk_drewN ?_ _ | refine blk_drew ?_ | refine blk_alloc ?_ _)); exact BK347.out) hb)
                    have n2_ := Aside0.mk (Kd.C_below (by repeat (first | (with_reducible exact HR356.out) | (with_reducible refine Kd.C_alloc ?_ _) | (with_reducible refine Kd.C_drewN ?_ _) | (with_reducible refine Kd.C_drew ?_) | exact HR356.out)) hb)
                    have n3_ := Aside0.mk (Kd.C_below (by repeat (first | (with_reducible exact HR361.out) | (with_reducible refine Kd.C_alloc ?_ _) | (with_reducible refine Kd.C_drewN ?_ _) | (with_reducible refine Kd.C_drew ?_) | exact HR361.out)) hb)
                    have n4_ := Aside0.mk (Kd.C_below (by repeat (first | (with_reducible exact HR367.out) | (with_reducible refine Kd.C_alloc ?_ _) | (with_reducible refine Kd.C_drewN ?_ _) | (with_reducible refine Kd.C_drew ?_) | exact HR367.out)) hb)
                    have n5_ := Aside0.mk (below_step (by repeat (first | (with_reducible first | exact HB.out | apply below_alloc | apply pw_below_drewN | apply below_drew1 | refine below_set ?_ GE347.out) | exact HB.out)) hb)
                    clear HO_8
                    clear BK347
                    clear HR356
                    clear HR361
                    clear HR367
                    clear HB
                    have HO_8 := n0_
                    have BK347 := n1_
                    have HR356 := n2_
                    have HR361 := n3_
                    have HR367 := n4_
                    have HB := n5_
                    clear n0_ n1_ n2_ n3_ n4_ n5_
                    (try clear hb)
                    (try clear hb2)
                    (try clear hk)
                    (try clear hi)
                    have q57 : (x9_5 : Int) ≤ ((t349.length : Int) : Int) := of_decide_eq_true (by first | (with_reducible assumption) | assumption)
                    obtain ⟨i057, hi057, _, hsz57, _⟩ := info_parts info57
                    have hroom57 : t349.length ≤ co10 := (Kd.S_reads' HO_8.out).2.1
                    have hC57 : Kd.C k57 _ Ao10 t349.length t349 := (Kd.S_reads' HO_8.out).2.2
                    have q057 : (0 : Int) ≤ (x9_5 : Int) := of_decide_eq_true (by first | (with_reducible assumption) | assumption)
                    have hcut57 := cut_from (P := Try.prog) 22 57 .i64 Try.underlying22 hi057 2 hsz57 Ao10 t349.length co10 x9_5 q057 q57
                    have hr57 := Kd.C_drop (m := (x9_5 : Int).toNat) (c := co10) hC57 (by omega) hroom57
                    obtain ⟨A57, hA57⟩ : ∃ A1, A1 = (if co10 = (x9_5 : Int).toNat then Ao10 else (Ao10 : Option Addr).map (·.add ((x9_5 : Int).toNat * 2))) := ⟨_, rfl⟩
                    obtain ⟨c57, hc57⟩ : ∃ c1, c1 = co10 - (x9_5 : Int).toNat := ⟨_, rfl⟩
                    have hy57 : y369.length = t349.length - (x9_5 : Int).toNat := (by rw [Ny369.out, List.length_drop] <;> omega)
                    rw [show (t349).drop (x9_5 : Int).toNat = y369 from Ny369.out.symm] at hr57
                    replace hr57 : Kd.C k57 _ A57 y369.length y369 := (by rw [hA57]; exact hr57)
                    rw [← hy57, ← hA57, ← hc57] at hcut57
                    have HR372 := Aside0.mk hr57
                    have HC372 := Aside0.mk (show y369.length ≤ c57 from by rw [hy57, hc57]; exact Nat.sub_le_sub_right hroom57 _)
                    have KC57 := Aside0.mk hc57
                    clear hr57 hC57 hroom57 hi057 hsz57 hc57
                    have KY57 := Aside0.mk hy57
                    have KA57 := Aside0.mk hA57
                    clear hy57 hA57
                    have KL57 := Aside0.mk (show (x9_5 : Int).toNat ≤ t349.length from by omega)
                    replace q57 := eq_true q57
                    refine hK.out _ _ trivial (fun hHeld => ?_)
                    clear hK K
                    refine norm_ (a' := ?_) ?_ ?_
                    rotate_left
                    · show Act.put _ (some 56) _ = _
                      simp only [Act.put, List.setIfInBounds_toArray, List.set_cons_zero, List.set_cons_succ, i64_w, i32_w]
                      rfl
                    refine one_ (i := 28) (N := some 60) #[true, true, true, true, true, true, true, true, true, true, true, true, true, true, true, true, true, true, true, true, true, true, true, true, true, true, true, true, true, false, false, false, false, false, false, false, false, false, false, false, false, false, false, false, false, false, false, false, false, false, false, false, false, false, false, false, false, false, false, false, false, false, false, false, false, false, false, false] rfl rfl (one_of HT_.out (by kernel_rfl)) (by decide) (fun K hK => ?_)
                    refine goes_ Try.func27 (by kernel_rfl) rfl #[.slice A57 y369.length c57, .int .i64 64] (by rfl) rfl rfl (by (try simp only [List.map_toArray, List.map_cons, List.map_nil]); first | done | rfl | (simp only [List.length_drop, List.length_take]; rfl) | ((try rw [KY49.out]); (try rw [KY50.out]); (try rw [KY55.out]); (try rw [KY57.out]); (try rw [KC50.out]); (try rw [KA50.out]); (try rw [KC57.out]); (try rw [KA57.out]); first | done | rfl)) ?_
                    with_reducible refine (slot_Empty.calls kj5 _ _ y369 64 t373 _ ?side1 ?side2 A29.out).mono ?_
                    (case side1 => repeat (first | exact (by repeat (first | (with_reducible exact HR372.out) | (with_reducible refine Kd.C_alloc ?_ _) | (with_reducible refine Kd.C_drewN ?_ _) | (with_reducible refine Kd.C_drew ?_) | exact HR372.out)) | (with_reducible refine Kd.C_alloc ?_ _) | (with_reducible refine Kd.C_drewN ?_ _) | (with_reducible refine Kd.C_drew ?_)))
                    (case side2 => exact HC372.out)
                    rintro e w58 ⟨rfl, hb⟩
                    refine ⟨_, rfl, ?_⟩
                    have n0_ := Aside0.mk (Kd.S_below (by (with_reducible repeat (first | apply Kd.S_alloc | apply Kd.S_drewN | apply Kd.S_drew)); exact HO_8.out) hb)
                    have n1_ := Aside0.mk (blk_below (g := gb347) (o := .cells #[.int .i64 a2_0, .int .i64 a2_1] 24 (0, 0)) (by (with_reducible repeat (first | refine blk_drewN ?_ _ | refine blk_drew ?_ | refine blk_alloc ?_ _)); exact BK347.out) hb)
                    have n2_ := Aside0.mk (Kd.C_below (by repeat (first | (with_reducible exact HR356.out) | (with_reducible refine Kd.C_alloc ?_ _) | (with_reducible refine Kd.C_drewN ?_ _) | (with_reducible refine Kd.C_drew ?_) | exact HR356.out)) hb)
                    have n3_ := Aside0.mk (Kd.C_below (by repeat (first | (with_reducible exact HR361.out) | (with_reducible refine Kd.C_alloc ?_ _) | (with_reducible refine Kd.C_drewN ?_ _) | (with_reducible refine Kd.C_drew ?_) | exact HR361.out)) hb)
                    have n4_ := Aside0.mk (Kd.C_below (by repeat (first | (with_reducible exact HR367.out) | (with_reducible refine Kd.C_alloc ?_ _) | (with_reducible refine Kd.C_drewN ?_ _) | (with_reducible refine Kd.C_drew ?_) | exact HR367.out)) hb)
                    have n5_ := Aside0.mk (Kd.C_below (by repeat (first | (with_reducible exact HR372.out) | (with_reducible refine Kd.C_alloc ?_ _) | (with_reducible refine Kd.C_drewN ?_ _) | (with_reducible refine Kd.C_drew ?_) | exact HR372.out)) hb)
                    have n6_ := Aside0.mk (below_step (by repeat (first | (with_reducible first | exact HB.out | apply below_alloc | apply pw_below_drewN | apply below_drew1 | refine below_set ?_ GE347.out) | exact HB.out)) hb)
                    clear HO_8
                    clear BK347
                    clear HR356
                    clear HR361
                    clear HR367
                    clear HR372
                    clear HB
                    have HO_8 := n0_
                    have BK347 := n1_
                    have HR356 := n2_
                    have HR361 := n3_
                    have HR367 := n4_
                    have HR372 := n5_
                    have HB := n6_
                    clear n0_ n1_ n2_ n3_ n4_ n5_ n6_
                    (try clear hb)
                    (try clear hb2)
                    (try clear hk)
                    (try clear hi)
                    refine hK.out _ _ trivial (fun hHeld => ?_)
                    clear hK K
                    refine norm_ (a' := ?_) ?_ ?_
                    rotate_left
                    · show Act.put _ (some 60) _ = _
                      simp only [Act.put, List.setIfInBounds_toArray, List.set_cons_zero, List.set_cons_succ, i64_w, i32_w]
                      rfl
                    refine pure_ (i := 29) (N := some 61) (v := ?_) (a' := ?_) #[true, true, true, true, true, true, true, true, true, true, true, true, true, true, true, true, true, true, true, true, true, true, true, true, true, true, true, true, true, true, false, false, false, false, false, false, false, false, false, false, false, false, false, false, false, false, false, false, false, false, false, false, false, false, false, false, false, false, false, false, false, false, false, false, false, false, false, false] rfl rfl (any_of HT_.out (by kernel_rfl)) (fun _ _ _ h => h) (Or.inl ⟨by rfl, ?_⟩) ?_ ?_
                    rotate_left
                    · intro w'
                      go_simp
                      with_reducible rfl
                    rotate_left
                    · simp only [Act.put, List.setIfInBounds_toArray, List.set_cons_zero, List.set_cons_succ, i64_w, i32_w]
                      rfl
                    refine pure_ (i := 30) (N := some 62) (v := ?_) (a' := ?_) #[true, true, true, true, true, true, true, true, true, true, true, true, true, true, true, true, true, true, true, true, true, true, true, true, true, true, true, true, true, true, true, false, false, false, false, false, false, false, false, false, false, false, false, false, false, false, false, false, false, false, false, false, false, false, false, false, false, false, false, false, false, false, false, false, false, false, false, false] rfl rfl (any_of HT_.out (by kernel_rfl)) (fun _ _ _ h => h) (Or.inl ⟨by rfl, ?_⟩) ?_ ?_
                    rotate_left
                    · intro w'
                      go_simp
                      with_reducible rfl
                    rotate_left
                    · simp only [Act.put, List.setIfInBounds_toArray, List.set_cons_zero, List.set_cons_succ, i64_w, i32_w]
                      rfl
                    refine pure_ (i := 31) (N := some 63) (v := ?_) (a' := ?_) #[true, true, true, true, true, true, true, true, true, true, true, true, true, true, true, true, true, true, true, true, true, true, true, true, true, true, true, true, true, true, true, true, false, false, false, false, false, false, false, false, false, false, false, false, false, false, false, false, false, false, false, false, false, false, false, false, false, false, false, false, false, false, false, false, false, false, false, false] rfl rfl (any_of HT_.out (by kernel_rfl)) (fun _ _ _ h => h) (Or.inl ⟨by rfl, ?_⟩) ?_ ?_
                    rotate_left
                    · intro w'
                      go_simp
                      with_reducible rfl
                    rotate_left
                    · simp only [Act.put, List.setIfInBounds_toArray, List.set_cons_zero, List.set_cons_succ, i64_w, i32_w]
                      rfl
                    refine pure_ (i := 32) (N := some 64) (v := ?_) (a' := ?_) #[true, true, true, true, true, true, true, true, true, true, true, true, true, true, true, true, true, true, true, true, true, true, true, true, true, true, true, true, true, true, true, true, true, false, false, false, false, false, false, false, false, false, false, false, false, false, false, false, false, false, false, false, false, false, false, false, false, false, false, false, false, false, false, false, false, false, false, false] rfl rfl (any_of HT_.out (by kernel_rfl)) (fun _ _ _ h => h) (Or.inl ⟨by rfl, ?_⟩) ?_ ?_
                    rotate_left
                    · intro w'
                      go_simp
                      with_reducible rfl
                    rotate_left
                    · simp only [Act.put, List.setIfInBounds_toArray, List.set_cons_zero, List.set_cons_succ, i64_w, i32_w]
                      rfl
                    refine pure_ (i := 33) (N := some 65) (v := ?_) (a' := ?_) #[true, true, true, true, true, true, true, true, true, true, true, true, true, true, true, true, true, true, true, true, true, true, true, true, true, true, true, true, true, true, true, true, true, true, false, false, false, false, false, false, false, false, false, false, false, false, false, false, false, false, false, false, false, false, false, false, false, false, false, false, false, false, false, false, false, false, false, false] rfl rfl (any_of HT_.out (by kernel_rfl)) (fun _ _ _ h => h) (Or.inl ⟨by rfl, ?_⟩) ?_ ?_
                    rotate_left
                    · intro w'
                      go_simp
                      with_reducible rfl
                    rotate_left
                    · simp only [Act.put, List.setIfInBounds_toArray, List.set_cons_zero, List.set_cons_succ, i64_w, i32_w]
                      rfl
                    refine pure_ (i := 34) (N := some 66) (v := ?_) (a' := ?_) #[true, true, true, true, true, true, true, true, true, true, true, true, true, true, true, true, true, true, true, true, true, true, true, true, true, true, true, true, true, true, true, true, true, true, true, false, false, false, false, false, false, false, false, false, false, false, false, false, false, false, false, false, false, false, false, false, false, false, false, false, false, false, false, false, false, false, false, false] rfl rfl (any_of HT_.out (by kernel_rfl)) (fun _ _ _ h => h) (Or.inl ⟨by rfl, ?_⟩) ?_ ?_
                    rotate_left
                    · intro w'
                      go_simp
                      with_reducible rfl
                    rotate_left
                    · simp only [Act.put, List.setIfInBounds_toArray, List.set_cons_zero, List.set_cons_succ, i64_w, i32_w]
                      rfl
                    refine pure_ (i := 36) (N := some 68) (v := ?_) (a' := ?_) #[true, true, true, true, true, true, true, true, true, true, true, true, true, true, true, true, true, true, true, true, true, true, true, true, true, true, true, true, true, true, true, true, true, true, true, false, true, false, false, false, false, false, false, false, false, false, false, false, false, false, false, false, false, false, false, false, false, false, false, false, false, false, false, false, false, false, false, false] rfl rfl (any_of HT_.out (by kernel_rfl)) (fun _ _ _ h => h) (Or.inl ⟨by rfl, ?_⟩) ?_ ?_
                    rotate_left
                    · intro w'
                      go_simp
                      with_reducible rfl
                    rotate_left
                    · simp only [Act.put, List.setIfInBounds_toArray, List.set_cons_zero, List.set_cons_succ, i64_w, i32_w]
                      rfl
                    refine pure_ (i := 37) (N := some 69) (v := ?_) (a' := ?_) #[true, true, true, true, true, true, true, true, true, true, true, true, true, true, true, true, true, true, true, true, true, true, true, true, true, true, true, true, true, true, true, true, true, true, true, false, true, true, false, false, false, false, false, false, false, false, false, false, false, false, false, false, false, false, false, false, false, false, false, false, false, false, false, false, false, false, false, false] rfl rfl (any_of HT_.out (by kernel_rfl)) (fun _ _ _ h => h) (Or.inl ⟨by rfl, ?_⟩) ?_ ?_
                    rotate_left
                    · intro w'
                      go_simp
                      with_reducible rfl
                    rotate_left
                    · simp only [Act.put, List.setIfInBounds_toArray, List.set_cons_zero, List.set_cons_succ, i64_w, i32_w]
                      rfl
                    refine pure_ (i := 38) (N := some 70) (v := ?_) (a' := ?_) #[true, true, true, true, true, true, true, true, true, true, true, true, true, true, true, true, true, true, true, true, true, true, true, true, true, true, true, true, true, true, true, true, true, true, true, false, true, true, true, false, false, false, false, false, false, false, false, false, false, false, false, false, false, false, false, false, false, false, false, false, false, false, false, false, false, false, false, false] rfl rfl (any_of HT_.out (by kernel_rfl)) (fun _ _ _ h => h) (Or.inl ⟨by rfl, ?_⟩) ?_ ?_
                    rotate_left
                    · intro w'
                      go_simp
                      with_reducible rfl
                    rotate_left
                    · simp only [Act.put, List.setIfInBounds_toArray, List.set_cons_zero, List.set_cons_succ, i64_w, i32_w]
                      rfl
                    refine pure_ (i := 39) (N := some 71) (v := ?_) (a' := ?_) #[true, true, true, true, true, true, true, true, true, true, true, true, true, true, true, true, true, true, true, true, true, true, true, true, true, true, true, true, true, true, true, true, true, true, true, false, true, true, true, true, false, false, false, false, false, false, false, false, false, false, false, false, false, false, false, false, false, false, false, false, false, false, false, false, false, false, false, false] rfl rfl (any_of HT_.out (by kernel_rfl)) (fun _ _ _ h => h) (Or.inl ⟨by rfl, ?_⟩) ?_ ?_
                    rotate_left
                    · intro w'
                      go_simp
                      with_reducible rfl
                    rotate_left
                    · simp only [Act.put, List.setIfInBounds_toArray, List.set_cons_zero, List.set_cons_succ, i64_w, i32_w]
                      rfl
                    refine pure_ (i := 42) (N := some 74) (v := ?_) (a' := ?_) #[true, true, true, true, true, true, true, true, true, true, true, true, true, true, true, true, true, true, true, true, true, true, true, true, true, true, true, true, true, true, true, true, true, true, true, false, true, true, true, true, false, false, true, false, false, false, false, false, false, false, false, false, false, false, false, false, false, false, false, false, false, false, false, false, false, false, false, false] rfl rfl (any_of HT_.out (by kernel_rfl)) (fun _ _ _ h => h) (Or.inl ⟨by rfl, ?_⟩) ?_ ?_
                    rotate_left
                    · intro w'
                      go_simp
                      with_reducible rfl
                    rotate_left
                    · simp only [Act.put, List.setIfInBounds_toArray, List.set_cons_zero, List.set_cons_succ, i64_w, i32_w]
                      rfl
                    refine pure_ (i := 43) (N := some 75) (v := ?_) (a' := ?_) #[true, true, true, true, true, true, true, true, true, true, true, true, true, true, true, true, true, true, true, true, true, true, true, true, true, true, true, true, true, true, true, true, true, true, true, false, true, true, true, true, false, false, true, true, false, false, false, false, false, false, false, false, false, false, false, false, false, false, false, false, false, false, false, false, false, false, false, false] rfl rfl (any_of HT_.out (by kernel_rfl)) (fun _ _ _ h => h) (Or.inl ⟨by rfl, ?_⟩) ?_ ?_
                    rotate_left
                    · intro w'
                      go_simp
                      with_reducible rfl
                    rotate_left
                    · simp only [Act.put, List.setIfInBounds_toArray, List.set_cons_zero, List.set_cons_succ, i64_w, i32_w]
                      rfl
                    refine pure_ (i := 44) (N := some 76) (v := ?_) (a' := ?_) #[true, true, true, true, true, true, true, true, true, true, true, true, true, true, true, true, true, true, true, true, true, true, true, true, true, true, true, true, true, true, true, true, true, true, true, false, true, true, true, true, false, false, true, true, true, false, false, false, false, false, false, false, false, false, false, false, false, false, false, false, false, false, false, false, false, false, false, false] rfl rfl (any_of HT_.out (by kernel_rfl)) (fun _ _ _ h => h) (Or.inl ⟨by rfl, ?_⟩) ?_ ?_
                    rotate_left
                    · intro w'
                      go_simp
                      with_reducible rfl
                    rotate_left
                    · simp only [Act.put, List.setIfInBounds_toArray, List.set_cons_zero, List.set_cons_succ, i64_w, i32_w]
                      rfl
                    refine pure_ (i := 45) (N := some 77) (v := ?_) (a' := ?_) #[true, true, true, true, true, true, true, true, true, true, true, true, true, true, true, true, true, true, true, true, true, true, true, true, true, true, true, true, true, true, true, true, true, true, true, false, true, true, true, true, false, false, true, true, true, true, false, false, false, false, false, false, false, false, false, false, false, false, false, false, false, false, false, false, false, false, false, false] rfl rfl (any_of HT_.out (by kernel_rfl)) (fun _ _ _ h => h) (Or.inl ⟨by rfl, ?_⟩) ?_ ?_
                    rotate_left
                    · intro w'
                      go_simp
                      with_reducible rfl
                    rotate_left
                    · simp only [Act.put, List.setIfInBounds_toArray, List.set_cons_zero, List.set_cons_succ, i64_w, i32_w]
                      rfl
                    refine one_ (i := 35) (N := some 67) #[true, true, true, true, true, true, true, true, true, true, true, true, true, true, true, true, true, true, true, true, true, true, true, true, true, true, true, true, true, true, true, true, true, true, true, true, true, true, true, true, false, false, true, true, true, true, false, false, false, false, false, false, false, false, false, false, false, false, false, false, false, false, false, false, false, false, false, false] rfl rfl (one_of HT_.out (by kernel_rfl)) (by decide) (fun K hK => ?_)
                    refine goes_ Try.func29 (by kernel_rfl) rfl #[.slice Ao10 t349.length co10, .int .i64 (Go.bits .and .i64 a2_1 255)] (by rfl) rfl rfl (by (try simp only [List.map_toArray, List.map_cons, List.map_nil]); first | done | rfl | (simp only [List.length_drop, List.length_take]; rfl)) ?_
                    with_reducible refine (slot_Moves.calls kj5 _ _ t349 (Go.bits .and .i64 a2_1 255) t374 _ ?side1 ?side2 A31.out).mono ?_
                    (case side1 => repeat (first | exact (Kd.S_reads' HO_8.out).2.2 | (with_reducible refine Kd.C_alloc ?_ _) | (with_reducible refine Kd.C_drewN ?_ _) | (with_reducible refine Kd.C_drew ?_)))
                    (case side2 => exact (Kd.S_reads' HO_8.out).2.1)
                    rintro e w59 ⟨rfl, hb⟩
                    refine ⟨_, rfl, ?_⟩
                    have n0_ := Aside0.mk (Kd.S_below (by (with_reducible repeat (first | apply Kd.S_alloc | apply Kd.S_drewN | apply Kd.S_drew)); exact HO_8.out) hb)
                    have n1_ := Aside0.mk (blk_below (g := gb347) (o := .cells #[.int .i64 a2_0, .int .i64 a2_1] 24 (0, 0)) (by (with_reducible repeat (first | refine blk_drewN ?_ _ | refine blk_drew ?_ | refine blk_alloc ?_ _)); exact BK347.out) hb)
                    have n2_ := Aside0.mk (Kd.C_below (by repeat (first | (with_reducible exact HR356.out) | (with_reducible refine Kd.C_alloc ?_ _) | (with_reducible refine Kd.C_drewN ?_ _) | (with_reducible refine Kd.C_drew ?_) | exact HR356.out)) hb)
                    have n3_ := Aside0.mk (Kd.C_below (by repeat (first | (with_reducible exact HR361.out) | (with_reducible refine Kd.C_alloc ?_ _) | (with_reducible refine Kd.C_drewN ?_ _) | (with_reducible refine Kd.C_drew ?_) | exact HR361.out)) hb)
                    have n4_ := Aside0.mk (Kd.C_below (by repeat (first | (with_reducible exact HR367.out) | (with_reducible refine Kd.C_alloc ?_ _) | (with_reducible refine Kd.C_drewN ?_ _) | (with_reducible refine Kd.C_drew ?_) | exact HR367.out)) hb)
                    have n5_ := Aside0.mk (Kd.C_below (by repeat (first | (with_reducible exact HR372.out) | (with_reducible refine Kd.C_alloc ?_ _) | (with_reducible refine Kd.C_drewN ?_ _) | (with_reducible refine Kd.C_drew ?_) | exact HR372.out)) hb)
                    have n6_ := Aside0.mk (below_step (by repeat (first | (with_reducible first | exact HB.out | apply below_alloc | apply pw_below_drewN | apply below_drew1 | refine below_set ?_ GE347.out) | exact HB.out)) hb)
                    clear HO_8
                    clear BK347
                    clear HR356
                    clear HR361
                    clear HR367
                    clear HR372
                    clear HB
                    have HO_8 := n0_
                    have BK347 := n1_
                    have HR356 := n2_
                    have HR361 := n3_
                    have HR367 := n4_
                    have HR372 := n5_
                    have HB := n6_
                    clear n0_ n1_ n2_ n3_ n4_ n5_ n6_
                    (try clear hb)
                    (try clear hb2)
                    (try clear hk)
                    (try clear hi)
                    have q60 : (x9_5 : Int) ≤ ((t349.length : Int) : Int) := of_decide_eq_true (by first | (with_reducible assumption) | assumption)
                    obtain ⟨i060, hi060, _, hsz60, _⟩ := info_parts info57
                    have hroom60 : t349.length ≤ co10 := (Kd.S_reads' HO_8.out).2.1
                    have hC60 : Kd.C k57 _ Ao10 t349.length t349 := (Kd.S_reads' HO_8.out).2.2
                    have hcut60 := cut_to (P := Try.prog) 22 57 .i64 Try.underlying22 hi060 Ao10 t349.length co10 x9_5 (of_decide_eq_true (by first | (with_reducible assumption) | assumption)) q60 hroom60
                    have hr60 := Kd.C_take (m := (x9_5 : Int).toNat) hC60 (by omega)
                    have hy60 : y375.length = (x9_5 : Int).toNat := (by rw [Ny375.out, List.length_take]; omega)
                    rw [← Ny375.out] at hr60
                    rw [← hy60] at hcut60
                    have HR378 := Aside0.mk hr60
                    have HC378 := Aside0.mk (show y375.length ≤ co10 from by omega)
                    clear hr60 hC60 hroom60 hi060 hsz60
                    have KY60 := Aside0.mk hy60
                    clear hy60
                    have KL60 := Aside0.mk (show (x9_5 : Int).toNat ≤ t349.length from by omega)
                    replace q60 := eq_true q60
                    refine hK.out _ _ trivial (fun hHeld => ?_)
                    clear hK K
                    refine norm_ (a' := ?_) ?_ ?_
                    rotate_left
                    · show Act.put _ (some 67) _ = _
                      simp only [Act.put, List.setIfInBounds_toArray, List.set_cons_zero, List.set_cons_succ, i64_w, i32_w]
                      rfl
                    refine one_ (i := 40) (N := some 72) #[true, true, true, true, true, true, true, true, true, true, true, true, true, true, true, true, true, true, true, true, true, true, true, true, true, true, true, true, true, true, true, true, true, true, true, true, true, true, true, true, true, false, true, true, true, true, false, false, false, false, false, false, false, false, false, false, false, false, false, false, false, false, false, false, false, false, false, false] rfl rfl (one_of HT_.out (by kernel_rfl)) (by decide) (fun K hK => ?_)
                    refine goes_ Try.func29 (by kernel_rfl) rfl #[.slice Ao10 y375.length co10, .int .i64 (Go.bits .and .i64 a2_1 255)] (by rfl) rfl rfl (by (try simp only [List.map_toArray, List.map_cons, List.map_nil]); first | done | rfl | (simp only [List.length_drop, List.length_take]; rfl) | ((try rw [KY49.out]); (try rw [KY50.out]); (try rw [KY55.out]); (try rw [KY57.out]); (try rw [KY60.out]); (try rw [KC50.out]); (try rw [KA50.out]); (try rw [KC57.out]); (try rw [KA57.out]); first | done | rfl)) ?_
                    with_reducible refine (slot_Moves.calls kj5 _ _ y375 (Go.bits .and .i64 a2_1 255) t379 _ ?side1 ?side2 A34.out).mono ?_
                    (case side1 => repeat (first | exact (by repeat (first | (with_reducible exact HR378.out) | (with_reducible refine Kd.C_alloc ?_ _) | (with_reducible refine Kd.C_drewN ?_ _) | (with_reducible refine Kd.C_drew ?_) | exact HR378.out)) | (with_reducible refine Kd.C_alloc ?_ _) | (with_reducible refine Kd.C_drewN ?_ _) | (with_reducible refine Kd.C_drew ?_)))
                    (case side2 => exact HC378.out)
                    rintro e w61 ⟨rfl, hb⟩
                    refine ⟨_, rfl, ?_⟩
                    have n0_ := Aside0.mk (Kd.S_below (by (with_reducible repeat (first | apply Kd.S_alloc | apply Kd.S_drewN | apply Kd.S_drew)); exact HO_8.out) hb)
                    have n1_ := Aside0.mk (blk_below (g := gb347) (o := .cells #[.int .i64 a2_0, .int .i64 a2_1] 24 (0, 0)) (by (with_reducible repeat (first | refine blk_drewN ?_ _ | refine blk_drew ?_ | refine blk_alloc ?_ _)); exact BK347.out) hb)
                    have n2_ := Aside0.mk (Kd.C_below (by repeat (first | (with_reducible exact HR356.out) | (with_reducible refine Kd.C_alloc ?_ _) | (with_reducible refine Kd.C_drewN ?_ _) | (with_reducible refine Kd.C_drew ?_) | exact HR356.out)) hb)
                    have n3_ := Aside0.mk (Kd.C_below (by repeat (first | (with_reducible exact HR361.out) | (with_reducible refine Kd.C_alloc ?_ _) | (with_reducible refine Kd.C_drewN ?_ _) | (with_reducible refine Kd.C_drew ?_) | exact HR361.out)) hb)
                    have n4_ := Aside0.mk (Kd.C_below (by repeat (first | (with_reducible exact HR367.out) | (with_reducible refine Kd.C_alloc ?_ _) | (with_reducible refine Kd.C_drewN ?_ _) | (with_reducible refine Kd.C_drew ?_) | exact HR367.out)) hb)
                    have n5_ := Aside0.mk (Kd.C_below (by repeat (first | (with_reducible exact HR372.out) | (with_reducible refine Kd.C_alloc ?_ _) | (with_reducible refine Kd.C_drewN ?_ _) | (with_reducible refine Kd.C_drew ?_) | exact HR372.out)) hb)
                    have n6_ := Aside0.mk (Kd.C_below (by repeat (first | (with_reducible exact HR378.out) | (with_reducible refine Kd.C_alloc ?_ _) | (with_reducible refine Kd.C_drewN ?_ _) | (with_reducible refine Kd.C_drew ?_) | exact HR378.out)) hb)
                    have n7_ := Aside0.mk (below_step (by repeat (first | (with_reducible first | exact HB.out | apply below_alloc | apply pw_below_drewN | apply below_drew1 | refine below_set ?_ GE347.out) | exact HB.out)) hb)
                    clear HO_8
                    clear BK347
                    clear HR356
                    clear HR361
                    clear HR367
                    clear HR372
                    clear HR378
                    clear HB
                    have HO_8 := n0_
                    have BK347 := n1_
                    have HR356 := n2_
                    have HR361 := n3_
                    have HR367 := n4_
                    have HR372 := n5_
                    have HR378 := n6_
                    have HB := n7_
                    clear n0_ n1_ n2_ n3_ n4_ n5_ n6_ n7_
                    (try clear hb)
                    (try clear hb2)
                    (try clear hk)
                    (try clear hi)
                    have q62 : (x9_5 : Int) ≤ ((t349.length : Int) : Int) := of_decide_eq_true (by first | (with_reducible assumption) | assumption)
                    obtain ⟨i062, hi062, _, hsz62, _⟩ := info_parts info57
                    have hroom62 : t349.length ≤ co10 := (Kd.S_reads' HO_8.out).2.1
                    have hC62 : Kd.C k57 _ Ao10 t349.length t349 := (Kd.S_reads' HO_8.out).2.2
                    have q062 : (0 : Int) ≤ (x9_5 : Int) := of_decide_eq_true (by first | (with_reducible assumption) | assumption)
                    have hcut62 := cut_from (P := Try.prog) 22 57 .i64 Try.underlying22 hi062 2 hsz62 Ao10 t349.length co10 x9_5 q062 q62
                    have hr62 := Kd.C_drop (m := (x9_5 : Int).toNat) (c := co10) hC62 (by omega) hroom62
                    obtain ⟨A62, hA62⟩ : ∃ A1, A1 = (if co10 = (x9_5 : Int).toNat then Ao10 else (Ao10 : Option Addr).map (·.add ((x9_5 : Int).toNat * 2))) := ⟨_, rfl⟩
                    obtain ⟨c62, hc62⟩ : ∃ c1, c1 = co10 - (x9_5 : Int).toNat := ⟨_, rfl⟩
                    have hy62 : y380.length = t349.length - (x9_5 : Int).toNat := (by rw [Ny380.out, List.length_drop] <;> omega)
                    rw [show (t349).drop (x9_5 : Int).toNat = y380 from Ny380.out.symm] at hr62
                    replace hr62 : Kd.C k57 _ A62 y380.length y380 := (by rw [hA62]; exact hr62)
                    rw [← hy62, ← hA62, ← hc62] at hcut62
                    have HR383 := Aside0.mk hr62
                    have HC383 := Aside0.mk (show y380.length ≤ c62 from by rw [hy62, hc62]; exact Nat.sub_le_sub_right hroom62 _)
                    have KC62 := Aside0.mk hc62
                    clear hr62 hC62 hroom62 hi062 hsz62 hc62
                    have KY62 := Aside0.mk hy62
                    have KA62 := Aside0.mk hA62
                    clear hy62 hA62
                    have KL62 := Aside0.mk (show (x9_5 : Int).toNat ≤ t349.length from by omega)
                    replace q62 := eq_true q62
                    refine hK.out _ _ trivial (fun hHeld => ?_)
                    clear hK K
                    refine norm_ (a' := ?_) ?_ ?_
                    rotate_left
                    · show Act.put _ (some 72) _ = _
                      simp only [Act.put, List.setIfInBounds_toArray, List.set_cons_zero, List.set_cons_succ, i64_w, i32_w]
                      rfl
                    refine pure_ (i := 41) (N := some 73) (v := ?_) (a' := ?_) #[true, true, true, true, true, true, true, true, true, true, true, true, true, true, true, true, true, true, true, true, true, true, true, true, true, true, true, true, true, true, true, true, true, true, true, true, true, true, true, true, true, true, true, true, true, true, false, false, false, false, false, false, false, false, false, false, false, false, false, false, false, false, false, false, false, false, false, false] rfl rfl (any_of HT_.out (by kernel_rfl)) (fun _ _ _ h => h) (Or.inl ⟨by rfl, ?_⟩) ?_ ?_
                    rotate_left
                    · intro w'
                      go_simp
                      with_reducible rfl
                    rotate_left
                    · simp only [Act.put, List.setIfInBounds_toArray, List.set_cons_zero, List.set_cons_succ, i64_w, i32_w]
                      rfl
                    refine one_ (i := 46) (N := some 78) #[true, true, true, true, true, true, true, true, true, true, true, true, true, true, true, true, true, true, true, true, true, true, true, true, true, true, true, true, true, true, true, true, true, true, true, true, true, true, true, true, true, true, true, true, true, true, true, false, false, false, false, false, false, false, false, false, false, false, false, false, false, false, false, false, false, false, false, false] rfl rfl (one_of HT_.out (by kernel_rfl)) (by decide) (fun K hK => ?_)
                    refine goes_ Try.func29 (by kernel_rfl) rfl #[.slice A62 y380.length c62, .int .i64 (Go.bits .and .i64 a2_1 255)] (by rfl) rfl rfl (by (try simp only [List.map_toArray, List.map_cons, List.map_nil]); first | done | rfl | (simp only [List.length_drop, List.length_take]; rfl) | ((try rw [KY49.out]); (try rw [KY50.out]); (try rw [KY55.out]); (try rw [KY57.out]); (try rw [KY60.out]); (try rw [KY62.out]); (try rw [KC50.out]); (try rw [KA50.out]); (try rw [KC57.out]); (try rw [KA57.out]); (try rw [KC62.out]); (try rw [KA62.out]); first | done | rfl)) ?_
                    with_reducible refine (slot_Moves.calls kj5 _ _ y380 (Go.bits .and .i64 a2_1 255) t384 _ ?side1 ?side2 A37.out).mono ?_
                    (case side1 => repeat (first | exact (by repeat (first | (with_reducible exact HR383.out) | (with_reducible refine Kd.C_alloc ?_ _) | (with_reducible refine Kd.C_drewN ?_ _) | (with_reducible refine Kd.C_drew ?_) | exact HR383.out)) | (with_reducible refine Kd.C_alloc ?_ _) | (with_reducible refine Kd.C_drewN ?_ _) | (with_reducible refine Kd.C_drew ?_)))
                    (case side2 => exact HC383.out)
                    rintro e w63 ⟨rfl, hb⟩
                    refine ⟨_, rfl, ?_⟩
                    have n0_ := Aside0.mk (Kd.S_below (by (with_reducible repeat (first | apply Kd.S_alloc | apply Kd.S_drewN | apply Kd.S_drew)); exact HO_8.out) hb)
                    have n1_ := Aside0.mk (blk_below (g := gb347) (o := .cells #[.int .i64 a2_0, .int .i64 a2_1] 24 (0, 0)) (by (with_reducible repeat (first | refine blk_drewN ?_ _ | refine blk_drew ?_ | refine blk_alloc ?_ _)); exact BK347.out) hb)
                    have n2_ := Aside0.mk (Kd.C_below (by repeat (first | (with_reducible exact HR356.out) | (with_reducible refine Kd.C_alloc ?_ _) | (with_reducible refine Kd.C_drewN ?_ _) | (with_reducible refine Kd.C_drew ?_) | exact HR356.out)) hb)
                    have n3_ := Aside0.mk (Kd.C_below (by repeat (first | (with_reducible exact HR361.out) | (with_reducible refine Kd.C_alloc ?_ _) | (with_reducible refine Kd.C_drewN ?_ _) | (with_reducible refine Kd.C_drew ?_) | exact HR361.out)) hb)
                    have n4_ := Aside0.mk (Kd.C_below (by repeat (first | (with_reducible exact HR367.out) | (with_reducible refine Kd.C_alloc ?_ _) | (with_reducible refine Kd.C_drewN ?_ _) | (with_reducible refine Kd.C_drew ?_) | exact HR367.out)) hb)
                    have n5_ := Aside0.mk (Kd.C_below (by repeat (first | (with_reducible exact HR372.out) | (with_reducible refine Kd.C_alloc ?_ _) | (with_reducible refine Kd.C_drewN ?_ _) | (with_reducible refine Kd.C_drew ?_) | exact HR372.out)) hb)
                    have n6_ := Aside0.mk (Kd.C_below (by repeat (first | (with_reducible exact HR378.out) | (with_reducible refine Kd.C_alloc ?_ _) | (with_reducible refine Kd.C_drewN ?_ _) | (with_reducible refine Kd.C_drew ?_) | exact HR378.out)) hb)
                    have n7_ := Aside0.mk (Kd.C_below (by repeat (first | (with_reducible exact HR383.out) | (with_reducible refine Kd.C_alloc ?_ _) | (with_reducible refine Kd.C_drewN ?_ _) | (with_reducible refine Kd.C_drew ?_) | exact HR383.out)) hb)
                    have n8_ := Aside0.mk (below_step (by repeat (first | (with_reducible first | exact HB.out | apply below_alloc | apply pw_below_drewN | apply below_drew1 | refine below_set ?_ GE347.out) | exact HB.out)) hb)
                    clear HO_8
                    clear BK347
                    clear HR356
                    clear HR361
                    clear HR367
                    clear HR372
                    clear HR378
                    clear HR383
                    clear HB
                    have HO_8 := n0_
                    have BK347 := n1_
                    have HR356 := n2_
                    have HR361 := n3_
                    have HR367 := n4_
                    have HR372 := n5_
                    have HR378 := n6_
                    have HR383 := n7_
                    have HB := n8_
                    clear n0_ n1_ n2_ n3_ n4_ n5_ n6_ n7_ n8_
                    (try clear hb)
                    (try clear hb2)
                    (try clear hk)
                    (try clear hi)
                    have q64 : (x9_5 : Int) ≤ ((t349.length : Int) : Int) := of_decide_eq_true (by first | (with_reducible assumption) | assumption)
                    obtain ⟨i064, hi064, _, hsz64, _⟩ := info_parts info57
                    have hroom64 : t349.length ≤ co10 := (Kd.S_reads' HO_8.out).2.1
                    have hC64 : Kd.C k57 _ Ao10 t349.length t349 := (Kd.S_reads' HO_8.out).2.2
                    have q064 : (0 : Int) ≤ (x9_5 : Int) := of_decide_eq_true (by first | (with_reducible assumption) | assumption)
                    have hcut64 := cut_from (P := Try.prog) 22 57 .i64 Try.underlying22 hi064 2 hsz64 Ao10 t349.length co10 x9_5 q064 q64
                    have hr64 := Kd.C_drop (m := (x9_5 : Int).toNat) (c := co10) hC64 (by omega) hroom64
                    obtain ⟨A64, hA64⟩ : ∃ A1, A1 = (if co10 = (x9_5 : Int).toNat then Ao10 else (Ao10 : Option Addr).map (·.add ((x9_5 : Int).toNat * 2))) := ⟨_, rfl⟩
                    obtain ⟨c64, hc64⟩ : ∃ c1, c1 = co10 - (x9_5 : Int).toNat := ⟨_, rfl⟩
                    have hy64 : y385.length = t349.length - (x9_5 : Int).toNat := (by rw [Ny385.out, List.length_drop] <;> omega)
                    rw [show (t349).drop (x9_5 : Int).toNat = y385 from Ny385.out.symm] at hr64
                    replace hr64 : Kd.C k57 _ A64 y385.length y385 := (by rw [hA64]; exact hr64)
                    rw [← hy64, ← hA64, ← hc64] at hcut64
                    have HR388 := Aside0.mk hr64
                    have HC388 := Aside0.mk (show y385.length ≤ c64 from by rw [hy64, hc64]; exact Nat.sub_le_sub_right hroom64 _)
                    have KC64 := Aside0.mk hc64
                    clear hr64 hC64 hroom64 hi064 hsz64 hc64
                    have KY64 := Aside0.mk hy64
                    have KA64 := Aside0.mk hA64
                    clear hy64 hA64
                    have KL64 := Aside0.mk (show (x9_5 : Int).toNat ≤ t349.length from by omega)
                    replace q64 := eq_true q64
                    refine hK.out _ _ trivial (fun hHeld => ?_)
                    clear hK K
                    refine norm_ (a' := ?_) ?_ ?_
                    rotate_left
                    · show Act.put _ (some 78) _ = _
                      simp only [Act.put, List.setIfInBounds_toArray, List.set_cons_zero, List.set_cons_succ, i64_w, i32_w]
                      rfl
                    refine pure_ (i := 47) (N := some 79) (v := ?_) (a' := ?_) #[true, true, true, true, true, true, true, true, true, true, true, true, true, true, true, true, true, true, true, true, true, true, true, true, true, true, true, true, true, true, true, true, true, true, true, true, true, true, true, true, true, true, true, true, true, true, true, true, false, false, false, false, false, false, false, false, false, false, false, false, false, false, false, false, false, false, false, false] rfl rfl (any_of HT_.out (by kernel_rfl)) (fun _ _ _ h => h) (Or.inl ⟨by rfl, ?_⟩) ?_ ?_
                    rotate_left
                    · intro w'
                      go_simp
                      with_reducible rfl
                    rotate_left
                    · simp only [Act.put, List.setIfInBounds_toArray, List.set_cons_zero, List.set_cons_succ, i64_w, i32_w]
                      rfl
                    refine pure_ (i := 48) (N := some 80) (v := ?_) (a' := ?_) #[true, true, true, true, true, true, true, true, true, true, true, true, true, true, true, true, true, true, true, true, true, true, true, true, true, true, true, true, true, true, true, true, true, true, true, true, true, true, true, true, true, true, true, true, true, true, true, true, true, false, false, false, false, false, false, false, false, false, false, false, false, false, false, false, false, false, false, false] rfl rfl (any_of HT_.out (by kernel_rfl)) (fun _ _ _ h => h) (Or.inl ⟨by rfl, ?_⟩) ?_ ?_
                    rotate_left
                    · intro w'
                      go_simp
                      with_reducible rfl
                    rotate_left
                    · simp only [Act.put, List.setIfInBounds_toArray, List.set_cons_zero, List.set_cons_succ, i64_w, i32_w]
                      rfl
                    refine pure_ (i := 49) (N := some 81) (v := ?_) (a' := ?_) #[true, true, true, true, true, true, true, true, true, true, true, true, true, true, true, true, true, true, true, true, true, true, true, true, true, true, true, true, true, true, true, true, true, true, true, true, true, true, true, true, true, true, true, true, true, true, true, true, true, true, false, false, false, false, false, false, false, false, false, false, false, false, false, false, false, false, false, false] rfl rfl (any_of HT_.out (by kernel_rfl)) (fun _ _ _ h => h) (Or.inl ⟨by rfl, ?_⟩) ?_ ?_
                    rotate_left
                    · intro w'
                      go_simp
                      with_reducible rfl
                    rotate_left
                    · simp only [Act.put, List.setIfInBounds_toArray, List.set_cons_zero, List.set_cons_succ, i64_w, i32_w]
                      rfl
                    refine pure_ (i := 50) (N := some 82) (v := ?_) (a' := ?_) #[true, true, true, true, true, true, true, true, true, true, true, true, true, true, true, true, true, true, true, true, true, true, true, true, true, true, true, true, true, true, true, true, true, true, true, true, true, true, true, true, true, true, true, true, true, true, true, true, true, true, true, false, false, false, false, false, false, false, false, false, false, false, false, false, false, false, false, false] rfl rfl (any_of HT_.out (by kernel_rfl)) (fun _ _ _ h => h) (Or.inl ⟨by rfl, ?_⟩) ?_ ?_
                    rotate_left
                    · intro w'
                      go_simp
                      with_reducible rfl
                    rotate_left
                    · simp only [Act.put, List.setIfInBounds_toArray, List.set_cons_zero, List.set_cons_succ, i64_w, i32_w]
                      rfl
                    refine pure_ (i := 51) (N := some 83) (v := ?_) (a' := ?_) #[true, true, true, true, true, true, true, true, true, true, true, true, true, true, true, true, true, true, true, true, true, true, true, true, true, true, true, true, true, true, true, true, true, true, true, true, true, true, true, true, true, true, true, true, true, true, true, true, true, true, true, true, false, false, false, false, false, false, false, false, false, false, false, false, false, false, false, false] rfl rfl (any_of HT_.out (by kernel_rfl)) (fun _ _ _ h => h) (Or.inl ⟨by rfl, ?_⟩) ?_ ?_
                    rotate_left
                    · intro w'
                      go_simp
                      with_reducible rfl
                    rotate_left
                    · simp only [Act.put, List.setIfInBounds_toArray, List.set_cons_zero, List.set_cons_succ, i64_w, i32_w]
                      rfl
                    refine pure_ (i := 52) (N := some 84) (v := ?_) (a' := ?_) #[true, true, true, true, true, true, true, true, true, true, true, true, true, true, true, true, true, true, true, true, true, true, true, true, true, true, true, true, true, true, true, true, true, true, true, true, true, true, true, true, true, true, true, true, true, true, true, true, true, true, true, true, true, false, false, false, false, false, false, false, false, false, false, false, false, false, false, false] rfl rfl (any_of HT_.out (by kernel_rfl)) (fun _ _ _ h => h) (Or.inl ⟨by rfl, ?_⟩) ?_ ?_
                    rotate_left
                    · intro w'
                      go_simp
                      with_reducible rfl
                    rotate_left
                    · simp only [Act.put, List.setIfInBounds_toArray, List.set_cons_zero, List.set_cons_succ, i64_w, i32_w]
                      rfl
                    refine pure_ (i := 53) (N := some 85) (v := ?_) (a' := ?_) #[true, true, true, true, true, true, true, true, true, true, true, true, true, true, true, true, true, true, true, true, true, true, true, true, true, true, true, true, true, true, true, true, true, true, true, true, true, true, true, true, true, true, true, true, true, true, true, true, true, true, true, true, true, true, false, false, false, false, false, false, false, false, false, false, false, false, false, false] rfl rfl (any_of HT_.out (by kernel_rfl)) (fun _ _ _ h => h) (Or.inl ⟨by rfl, ?_⟩) ?_ ?_
                    rotate_left
                    · intro w'
                      go_simp
                      with_reducible rfl
                    rotate_left
                    · simp only [Act.put, List.setIfInBounds_toArray, List.set_cons_zero, List.set_cons_succ, i64_w, i32_w]
                      rfl
                    refine one_ (i := 54) (N := some 86) #[true, true, true, true, true, true, true, true, true, true, true, true, true, true, true, true, true, true, true, true, true, true, true, true, true, true, true, true, true, true, true, true, true, true, true, true, true, true, true, true, true, true, true, true, true, true, true, true, true, true, true, true, true, true, true, false, false, false, false, false, false, false, false, false, false, false, false, false] rfl rfl (one_of HT_.out (by kernel_rfl)) (by decide) (fun K hK => ?_)
                    refine goes_ Try.func30 (by kernel_rfl) rfl #[.slice A64 y385.length c64, .int .i64 64] (by rfl) rfl rfl (by (try simp only [List.map_toArray, List.map_cons, List.map_nil]); first | done | rfl | (simp only [List.length_drop, List.length_take]; rfl) | ((try rw [KY49.out]); (try rw [KY50.out]); (try rw [KY55.out]); (try rw [KY57.out]); (try rw [KY60.out]); (try rw [KY62.out]); (try rw [KY64.out]); (try rw [KC50.out]); (try rw [KA50.out]); (try rw [KC57.out]); (try rw [KA57.out]); (try rw [KC62.out]); (try rw [KA62.out]); (try rw [KC64.out]); (try rw [KA64.out]); first | done | rfl)) ?_
                    with_reducible refine (slot_Row.calls kj5 _ _ y385 64 true _ ?side1 ?side2 A41.out).mono ?_
                    (case side1 => repeat (first | exact (by repeat (first | (with_reducible exact HR388.out) | (with_reducible refine Kd.C_alloc ?_ _) | (with_reducible refine Kd.C_drewN ?_ _) | (with_reducible refine Kd.C_drew ?_) | exact HR388.out)) | (with_reducible refine Kd.C_alloc ?_ _) | (with_reducible refine Kd.C_drewN ?_ _) | (with_reducible refine Kd.C_drew ?_)))
                    (case side2 => exact HC388.out)
                    rintro e w65 ⟨rfl, hb⟩
                    refine ⟨_, rfl, ?_⟩
                    have n0_ := Aside0.mk (Kd.S_below (by (with_reducible repeat (first | apply Kd.S_alloc | apply Kd.S_drewN | apply Kd.S_drew)); exact HO_8.out) hb)
                    have n1_ := Aside0.mk (blk_below (g := gb347) (o := .cells #[.int .i64 a2_0, .int .i64 a2_1] 24 (0, 0)) (by (with_reducible repeat (first | refine blk_drewN ?_ _ | refine blk_drew ?_ | refine blk_alloc ?_ _)); exact BK347.out) hb)
                    have n2_ := Aside0.mk (Kd.C_below (by repeat (first | (with_reducible exact HR356.out) | (with_reducible refine Kd.C_alloc ?_ _) | (with_reducible refine Kd.C_drewN ?_ _) | (with_reducible refine Kd.C_drew ?_) | exact HR356.out)) hb)
                    have n3_ := Aside0.mk (Kd.C_below (by repeat (first | (with_reducible exact HR361.out) | (with_reducible refine Kd.C_alloc ?_ _) | (with_reducible refine Kd.C_drewN ?_ _) | (with_reducible refine Kd.C_drew ?_) | exact HR361.out)) hb)
                    have n4_ := Aside0.mk (Kd.C_below (by repeat (first | (with_reducible exact HR367.out) | (with_reducible refine Kd.C_alloc ?_ _) | (with_reducible refine Kd.C_drewN ?_ _) | (with_reducible refine Kd.C_drew ?_) | exact HR367.out)) hb)
                    have n5_ := Aside0.mk (Kd.C_below (by repeat (first | (with_reducible exact HR372.out) | (with_reducible refine Kd.C_alloc ?_ _) | (with_reducible refine Kd.C_drewN ?_ _) | (with_reducible refine Kd.C_drew ?_) | exact HR372.out)) hb)
                    have n6_ := Aside0.mk (Kd.C_below (by repeat (first | (with_reducible exact HR378.out) | (with_reducible refine Kd.C_alloc ?_ _) | (with_reducible refine Kd.C_drewN ?_ _) | (with_reducible refine Kd.C_drew ?_) | exact HR378.out)) hb)
                    have n7_ := Aside0.mk (Kd.C_below (by repeat (first | (with_reducible exact HR383.out) | (with_reducible refine Kd.C_alloc ?_ _) | (with_reducible refine Kd.C_drewN ?_ _) | (with_reducible refine Kd.C_drew ?_) | exact HR383.out)) hb)
                    have n8_ := Aside0.mk (Kd.C_below (by repeat (first | (with_reducible exact HR388.out) | (with_reducible refine Kd.C_alloc ?_ _) | (with_reducible refine Kd.C_drewN ?_ _) | (with_reducible refine Kd.C_drew ?_) | exact HR388.out)) hb)
                    have n9_ := Aside0.mk (below_step (by repeat (first | (with_reducible first | exact HB.out | apply below_alloc | apply pw_below_drewN | apply below_drew1 | refine below_set ?_ GE347.out) | exact HB.out)) hb)
                    clear HO_8
                    clear BK347
                    clear HR356
                    clear HR361
                    clear HR367
                    clear HR372
                    clear HR378
                    clear HR383
                    clear HR388
                    clear HB
                    have HO_8 := n0_
                    have BK347 := n1_
                    have HR356 := n2_
                    have HR361 := n3_
                    have HR367 := n4_
                    have HR372 := n5_
                    have HR378 := n6_
                    have HR383 := n7_
                    have HR388 := n8_
                    have HB := n9_
                    clear n0_ n1_ n2_ n3_ n4_ n5_ n6_ n7_ n8_ n9_
                    (try clear hb)
                    (try clear hb2)
                    (try clear hk)
                    (try clear hi)
                    refine hK.out _ _ trivial (fun hHeld => ?_)
                    clear hK K
                    refine norm_ (a' := ?_) ?_ ?_
                    rotate_left
                    · show Act.put _ (some 86) _ = _
                      simp only [Act.put, List.setIfInBounds_toArray, List.set_cons_zero, List.set_cons_succ, i64_w, i32_w]
                      rfl
                    refine pure_ (i := 55) (N := some 87) (v := ?_) (a' := ?_) #[true, true, true, true, true, true, true, true, true, true, true, true, true, true, true, true, true, true, true, true, true, true, true, true, true, true, true, true, true, true, true, true, true, true, true, true, true, true, true, true, true, true, true, true, true, true, true, true, true, true, true, true, true, true, true, true, false, false, false, false, false, false, false, false, false, false, false, false] rfl rfl (any_of HT_.out (by kernel_rfl)) (fun _ _ _ h => h) (Or.inl ⟨by rfl, ?_⟩) ?_ ?_
                    rotate_left
                    · intro w'
                      go_simp
                      with_reducible rfl
                    rotate_left
                    · simp only [Act.put, List.setIfInBounds_toArray, List.set_cons_zero, List.set_cons_succ, i64_w, i32_w]
                      rfl
                    refine pure_ (i := 56) (N := some 88) (v := ?_) (a' := ?_) #[true, true, true, true, true, true, true, true, true, true, true, true, true, true, true, true, true, true, true, true, true, true, true, true, true, true, true, true, true, true, true, true, true, true, true, true, true, true, true, true, true, true, true, true, true, true, true, true, true, true, true, true, true, true, true, true, true, false, false, false, false, false, false, false, false, false, false, false] rfl rfl (any_of HT_.out (by kernel_rfl)) (fun _ _ _ h => h) (Or.inl ⟨by rfl, ?_⟩) ?_ ?_
                    rotate_left
                    · intro w'
                      go_simp
                      with_reducible rfl
                    rotate_left
                    · simp only [Act.put, List.setIfInBounds_toArray, List.set_cons_zero, List.set_cons_succ, i64_w, i32_w]
                      rfl
                    refine pure_ (i := 57) (N := some 89) (v := ?_) (a' := ?_) #[true, true, true, true, true, true, true, true, true, true, true, true, true, true, true, true, true, true, true, true, true, true, true, true, true, true, true, true, true, true, true, true, true, true, true, true, true, true, true, true, true, true, true, true, true, true, true, true, true, true, true, true, true, true, true, true, true, true, false, false, false, false, false, false, false, false, false, false] rfl rfl (any_of HT_.out (by kernel_rfl)) (fun _ _ _ h => h) (Or.inl ⟨by rfl, ?_⟩) ?_ ?_
                    rotate_left
                    · intro w'
                      go_simp
                      with_reducible rfl
                    rotate_left
                    · simp only [Act.put, List.setIfInBounds_toArray, List.set_cons_zero, List.set_cons_succ, i64_w, i32_w]
                      rfl
                    refine pure_ (i := 58) (N := some 90) (v := ?_) (a' := ?_) #[true, true, true, true, true, true, true, true, true, true, true, true, true, true, true, true, true, true, true, true, true, true, true, true, true, true, true, true, true, true, true, true, true, true, true, true, true, true, true, true, true, true, true, true, true, true, true, true, true, true, true, true, true, true, true, true, true, true, true, false, false, false, false, false, false, false, false, false] rfl rfl (any_of HT_.out (by kernel_rfl)) (fun _ _ _ h => h) (Or.inl ⟨by rfl, ?_⟩) ?_ ?_
                    rotate_left
                    · intro w'
                      go_simp
                      with_reducible rfl
                    rotate_left
                    · simp only [Act.put, List.setIfInBounds_toArray, List.set_cons_zero, List.set_cons_succ, i64_w, i32_w]
                      rfl
                    refine pure_ (i := 60) (N := some 92) (v := ?_) (a' := ?_) #[true, true, true, true, true, true, true, true, true, true, true, true, true, true, true, true, true, true, true, true, true, true, true, true, true, true, true, true, true, true, true, true, true, true, true, true, true, true, true, true, true, true, true, true, true, true, true, true, true, true, true, true, true, true, true, true, true, true, true, false, true, false, false, false, false, false, false, false] rfl rfl (any_of HT_.out (by kernel_rfl)) (fun _ _ _ h => h) (Or.inl ⟨by rfl, ?_⟩) ?_ ?_
                    rotate_left
                    · intro w'
                      go_simp
                      with_reducible rfl
                    rotate_left
                    · simp only [Act.put, List.setIfInBounds_toArray, List.set_cons_zero, List.set_cons_succ, i64_w, i32_w]
                      rfl
                    refine pure_ (i := 61) (N := some 93) (v := ?_) (a' := ?_) #[true, true, true, true, true, true, true, true, true, true, true, true, true, true, true, true, true, true, true, true, true, true, true, true, true, true, true, true, true, true, true, true, true, true, true, true, true, true, true, true, true, true, true, true, true, true, true, true, true, true, true, true, true, true, true, true, true, true, true, false, true, true, false, false, false, false, false, false] rfl rfl (any_of HT_.out (by kernel_rfl)) (fun _ _ _ h => h) (Or.inl ⟨by rfl, ?_⟩) ?_ ?_
                    rotate_left
                    · intro w'
                      go_simp
                      with_reducible rfl
                    rotate_left
                    · simp only [Act.put, List.setIfInBounds_toArray, List.set_cons_zero, List.set_cons_succ, i64_w, i32_w]
                      rfl
                    refine pure_ (i := 62) (N := some 94) (v := ?_) (a' := ?_) #[true, true, true, true, true, true, true, true, true, true, true, true, true, true, true, true, true, true, true, true, true, true, true, true, true, true, true, true, true, true, true, true, true, true, true, true, true, true, true, true, true, true, true, true, true, true, true, true, true, true, true, true, true, true, true, true, true, true, true, false, true, true, true, false, false, false, false, false] rfl rfl (any_of HT_.out (by kernel_rfl)) (fun _ _ _ h => h) (Or.inl ⟨by rfl, ?_⟩) ?_ ?_
                    rotate_left
                    · intro w'
                      go_simp
                      with_reducible rfl
                    rotate_left
                    · simp only [Act.put, List.setIfInBounds_toArray, List.set_cons_zero, List.set_cons_succ, i64_w, i32_w]
                      rfl
                    refine pure_ (i := 63) (N := some 95) (v := ?_) (a' := ?_) #[true, true, true, true, true, true, true, true, true, true, true, true, true, true, true, true, true, true, true, true, true, true, true, true, true, true, true, true, true, true, true, true, true, true, true, true, true, true, true, true, true, true, true, true, true, true, true, true, true, true, true, true, true, true, true, true, true, true, true, false, true, true, true, true, false, false, false, false] rfl rfl (any_of HT_.out (by kernel_rfl)) (fun _ _ _ h => h) (Or.inl ⟨by rfl, ?_⟩) ?_ ?_
                    rotate_left
                    · intro w'
                      go_simp
                      with_reducible rfl
                    rotate_left
                    · simp only [Act.put, List.setIfInBounds_toArray, List.set_cons_zero, List.set_cons_succ, i64_w, i32_w]
                      rfl
                    refine one_ (i := 59) (N := some 91) #[true, true, true, true, true, true, true, true, true, true, true, true, true, true, true, true, true, true, true, true, true, true, true, true, true, true, true, true, true, true, true, true, true, true, true, true, true, true, true, true, true, true, true, true, true, true, true, true, true, true, true, true, true, true, true, true, true, true, true, true, true, true, true, true, false, false, false, false] rfl rfl (one_of HT_.out (by kernel_rfl)) (by decide) (fun K hK => ?_)
                    refine goes_ Try.func29 (by kernel_rfl) rfl #[.slice Ao10 t349.length co10, .int .i64 (Go.bits .and .i64 a2_1 255)] (by rfl) rfl rfl (by (try simp only [List.map_toArray, List.map_cons, List.map_nil]); first | done | rfl | (simp only [List.length_drop, List.length_take]; rfl)) ?_
                    with_reducible refine (slot_Moves.calls kj5 _ _ t349 (Go.bits .and .i64 a2_1 255) t390 _ ?side1 ?side2 A43.out).mono ?_
                    (case side1 => repeat (first | exact (Kd.S_reads' HO_8.out).2.2 | (with_reducible refine Kd.C_alloc ?_ _) | (with_reducible refine Kd.C_drewN ?_ _) | (with_reducible refine Kd.C_drew ?_)))
                    (case side2 => exact (Kd.S_reads' HO_8.out).2.1)
                    rintro e w66 ⟨rfl, hb⟩
                    refine ⟨_, rfl, ?_⟩
                    have n0_ := Aside0.mk (Kd.S_below (by (with_reducible repeat (first | apply Kd.S_alloc | apply Kd.S_drewN | apply Kd.S_drew)); exact HO_8.out) hb)
                    have n1_ := Aside0.mk (blk_below (g := gb347) (o := .cells #[.int .i64 a2_0, .int .i64 a2_1] 24 (0, 0)) (by (with_reducible repeat (first | refine blk_drewN ?_ _ | refine blk_drew ?_ | refine blk_alloc ?_ _)); exact BK347.out) hb)
                    have n2_ := Aside0.mk (Kd.C_below (by repeat (first | (with_reducible exact HR356.out) | (with_reducible refine Kd.C_alloc ?_ _) | (with_reducible refine Kd.C_drewN ?_ _) | (with_reducible refine Kd.C_drew ?_) | exact HR356.out)) hb)
                    have n3_ := Aside0.mk (Kd.C_below (by repeat (first | (with_reducible exact HR361.out) | (with_reducible refine Kd.C_alloc ?_ _) | (with_reducible refine Kd.C_drewN ?_ _) | (with_reducible refine Kd.C_drew ?_) | exact HR361.out)) hb)
                    have n4_ := Aside0.mk (Kd.C_below (by repeat (first | (with_reducible exact HR367.out) | (with_reducible refine Kd.C_alloc ?_ _) | (with_reducible refine Kd.C_drewN ?_ _) | (with_reducible refine Kd.C_drew ?_) | exact HR367.out)) hb)
                    have n5_ := Aside0.mk (Kd.C_below (by repeat (first | (with_reducible exact HR372.out) | (with_reducible refine Kd.C_alloc ?_ _) | (with_reducible refine Kd.C_drewN ?_ _) | (with_reducible refine Kd.C_drew ?_) | exact HR372.out)) hb)
                    have n6_ := Aside0.mk (Kd.C_below (by repeat (first | (with_reducible exact HR378.out) | (with_reducible refine Kd.C_alloc ?_ _) | (with_reducible refine Kd.C_drewN ?_ _) | (with_reducible refine Kd.C_drew ?_) | exact HR378.out)) hb)
                    have n7_ := Aside0.mk (Kd.C_below (by repeat (first | (with_reducible exact HR383.out) | (with_reducible refine Kd.C_alloc ?_ _) | (with_reducible refine Kd.C_drewN ?_ _) | (with_reducible refine Kd.C_drew ?_) | exact HR383.out)) hb)
                    have n8_ := Aside0.mk (Kd.C_below (by repeat (first | (with_reducible exact HR388.out) | (with_reducible refine Kd.C_alloc ?_ _) | (with_reducible refine Kd.C_drewN ?_ _) | (with_reducible refine Kd.C_drew ?_) | exact HR388.out)) hb)
                    have n9_ := Aside0.mk (below_step (by repeat (first | (with_reducible first | exact HB.out | apply below_alloc | apply pw_below_drewN | apply below_drew1 | refine below_set ?_ GE347.out) | exact HB.out)) hb)
                    clear HO_8
                    clear BK347
                    clear HR356
                    clear HR361
                    clear HR367
                    clear HR372
                    clear HR378
                    clear HR383
                    clear HR388
                    clear HB
                    have HO_8 := n0_
                    have BK347 := n1_
                    have HR356 := n2_
                    have HR361 := n3_
                    have HR367 := n4_
                    have HR372 := n5_
                    have HR378 := n6_
                    have HR383 := n7_
                    have HR388 := n8_
                    have HB := n9_
                    clear n0_ n1_ n2_ n3_ n4_ n5_ n6_ n7_ n8_ n9_
                    (try clear hb)
                    (try clear hb2)
                    (try clear hk)
                    (try clear hi)
                    have q67 : (x9_5 : Int) ≤ ((t349.length : Int) : Int) := of_decide_eq_true (by first | (with_reducible assumption) | assumption)
                    obtain ⟨i067, hi067, _, hsz67, _⟩ := info_parts info57
                    have hroom67 : t349.length ≤ co10 := (Kd.S_reads' HO_8.out).2.1
                    have hC67 : Kd.C k57 _ Ao10 t349.length t349 := (Kd.S_reads' HO_8.out).2.2
                    have hcut67 := cut_to (P := Try.prog) 22 57 .i64 Try.underlying22 hi067 Ao10 t349.length co10 x9_5 (of_decide_eq_true (by first | (with_reducible assumption) | assumption)) q67 hroom67
                    have hr67 := Kd.C_take (m := (x9_5 : Int).toNat) hC67 (by omega)
                    have hy67 : y391.length = (x9_5 : Int).toNat := (by rw [Ny391.out, List.length_take]; omega)
                    rw [← Ny391.out] at hr67
                    rw [← hy67] at hcut67
                    have HR394 := Aside0.mk hr67
                    have HC394 := Aside0.mk (show y391.length ≤ co10 from by omega)
                    clear hr67 hC67 hroom67 hi067 hsz67
                    have KY67 := Aside0.mk hy67
                    clear hy67
                    have KL67 := Aside0.mk (show (x9_5 : Int).toNat ≤ t349.length from by omega)
                    replace q67 := eq_true q67
                    refine hK.out _ _ trivial (fun hHeld => ?_)
                    clear hK K
                    refine norm_ (a' := ?_) ?_ ?_
                    rotate_left
                    · show Act.put _ (some 91) _ = _
                      simp only [Act.put, List.setIfInBounds_toArray, List.set_cons_zero, List.set_cons_succ, i64_w, i32_w]
                      rfl
                    refine one_ (i := 64) (N := some 96) #[true, true, true, true, true, true, true, true, true, true, true, true, true, true, true, true, true, true, true, true, true, true, true, true, true, true, true, true, true, true, true, true, true, true, true, true, true, true, true, true, true, true, true, true, true, true, true, true, true, true, true, true, true, true, true, true, true, true, true, true, true, true, true, true, true, false, false, false] rfl rfl (one_of HT_.out (by kernel_rfl)) (by decide) (fun K hK => ?_)
                    refine goes_ Try.func29 (by kernel_rfl) rfl #[.slice Ao10 y391.length co10, .int .i64 (Go.bits .and .i64 a2_1 255)] (by rfl) rfl rfl (by (try simp only [List.map_toArray, List.map_cons, List.map_nil]); first | done | rfl | (simp only [List.length_drop, List.length_take]; rfl) | ((try rw [KY49.out]); (try rw [KY50.out]); (try rw [KY55.out]); (try rw [KY57.out]); (try rw [KY60.out]); (try rw [KY62.out]); (try rw [KY64.out]); (try rw [KY67.out]); (try rw [KC50.out]); (try rw [KA50.out]); (try rw [KC57.out]); (try rw [KA57.out]); (try rw [KC62.out]); (try rw [KA62.out]); (try rw [KC64.out]); (try rw [KA64.out]); first | done | rfl)) ?_
                    with_reducible refine (slot_Moves.calls kj5 _ _ y391 (Go.bits .and .i64 a2_1 255) t395 _ ?side1 ?side2 A46.out).mono ?_
                    (case side1 => repeat (first | exact (by repeat (first | (with_reducible exact HR394.out) | (with_reducible refine Kd.C_alloc ?_ _) | (with_reducible refine Kd.C_drewN ?_ _) | (with_reducible refine Kd.C_drew ?_) | exact HR394.out)) | (with_reducible refine Kd.C_alloc ?_ _) | (with_reducible refine Kd.C_drewN ?_ _) | (with_reducible refine Kd.C_drew ?_)))
                    (case side2 => exact HC394.out)
                    rintro e w68 ⟨rfl, hb⟩
                    refine ⟨_, rfl, ?_⟩
                    have n0_ := Aside0.mk (Kd.S_below (by (with_reducible repeat (first | apply Kd.S_alloc | apply Kd.S_drewN | apply Kd.S_drew)); exact HO_8.out) hb)
                    have n1_ := Aside0.mk (blk_below (g := gb347) (o := .cells #[.int .i64 a2_0, .int .i64 a2_1] 24 (0, 0)) (by (with_reducible repeat (first | refine blk_drewN ?_ _ | refine blk_drew ?_ | refine blk_alloc ?_ _)); exact BK347.out) hb)
                    have n2_ := Aside0.mk (Kd.C_below (by repeat (first | (with_reducible exact HR356.out) | (with_reducible refine Kd.C_alloc ?_ _) | (with_reducible refine Kd.C_drewN ?_ _) | (with_reducible refine Kd.C_drew ?_) | exact HR356.out)) hb)
                    have n3_ := Aside0.mk (Kd.C_below (by repeat (first | (with_reducible exact HR361.out) | (with_reducible refine Kd.C_alloc ?_ _) | (with_reducible refine Kd.C_drewN ?_ _) | (with_reducible refine Kd.C_drew ?_) | exact HR361.out)) hb)
                    have n4_ := Aside0.mk (Kd.C_below (by repeat (first | (with_reducible exact HR367.out) | (with_reducible refine Kd.C_alloc ?_ _) | (with_reducible refine Kd.C_drewN ?_ _) | (with_reducible refine Kd.C_drew ?_) | exact HR367.out)) hb)
                    have n5_ := Aside0.mk (Kd.C_below (by repeat (first | (with_reducible exact HR372.out) | (with_reducible refine Kd.C_alloc ?_ _) | (with_reducible refine Kd.C_drewN ?_ _) | (with_reducible refine Kd.C_drew ?_) | exact HR372.out)) hb)
                    have n6_ := Aside0.mk (Kd.C_below (by repeat (first | (with_reducible exact HR378.out) | (with_reducible refine Kd.C_alloc ?_ _) | (with_reducible refine Kd.C_drewN ?_ _) | (with_reducible refine Kd.C_drew ?_) | exact HR378.out)) hb)
                    have n7_ := Aside0.mk (Kd.C_below (by repeat (first | (with_reducible exact HR383.out) | (with_reducible refine Kd.C_alloc ?_ _) | (with_reducible refine Kd.C_drewN ?_ _) | (with_reducible refine Kd.C_drew ?_) | exact HR383.out)) hb)
                    have n8_ := Aside0.mk (Kd.C_below (by repeat (first | (with_reducible exact HR388.out) | (with_reducible refine Kd.C_alloc ?_ _) | (with_reducible refine Kd.C_drewN ?_ _) | (with_reducible refine Kd.C_drew ?_) | exact HR388.out)) hb)
                    have n9_ := Aside0.mk (Kd.C_below (by repeat (first | (with_reducible exact HR394.out) | (with_reducible refine Kd.C_alloc ?_ _) | (with_reducible refine Kd.C_drewN ?_ _) | (with_reducible refine Kd.C_drew ?_) | exact HR394.out)) hb)
                    have n10_ := Aside0.mk (below_step (by repeat (first | (with_reducible first | exact HB.out | apply below_alloc | apply pw_below_drewN | apply below_drew1 | refine below_set ?_ GE347.out) | exact HB.out)) hb)
                    clear HO_8
                    clear BK347
                    clear HR356
                    clear HR361
                    clear HR367
                    clear HR372
                    clear HR378
                    clear HR383
                    clear HR388
                    clear HR394
                    clear HB
                    have HO_8 := n0_
                    have BK347 := n1_
                    have HR356 := n2_
                    have HR361 := n3_
                    have HR367 := n4_
                    have HR372 := n5_
                    have HR378 := n6_
                    have HR383 := n7_
                    have HR388 := n8_
                    have HR394 := n9_
                    have HB := n10_
                    clear n0_ n1_ n2_ n3_ n4_ n5_ n6_ n7_ n8_ n9_ n10_
                    (try clear hb)
                    (try clear hb2)
                    (try clear hk)
                    (try clear hi)
                    refine hK.out _ _ trivial (fun hHeld => ?_)
                    clear hK K
                    refine norm_ (a' := ?_) ?_ ?_
                    rotate_left
                    · show Act.put _ (some 96) _ = _
                      simp only [Act.put, List.setIfInBounds_toArray, List.set_cons_zero, List.set_cons_succ, i64_w, i32_w]
                      rfl
                    refine pure_ (i := 65) (N := some 97) (v := ?_) (a' := ?_) #[true, true, true, true, true, true, true, true, true, true, true, true, true, true, true, true, true, true, true, true, true, true, true, true, true, true, true, true, true, true, true, true, true, true, true, true, true, true, true, true, true, true, true, true, true, true, true, true, true, true, true, true, true, true, true, true, true, true, true, true, true, true, true, true, true, true, false, false] rfl rfl (any_of HT_.out (by kernel_rfl)) (fun _ _ _ h => h) (Or.inl ⟨by rfl, ?_⟩) ?_ ?_
                    rotate_left
                    · intro w'
                      go_simp
                      with_reducible rfl
                    rotate_left
                    · simp only [Act.put, List.setIfInBounds_toArray, List.set_cons_zero, List.set_cons_succ, i64_w, i32_w]
                      rfl
                    refine pure_ (i := 66) (N := some 98) (v := ?_) (a' := ?_) #[true, true, true, true, true, true, true, true, true, true, true, true, true, true, true, true, true, true, true, true, true, true, true, true, true, true, true, true, true, true, true, true, true, true, true, true, true, true, true, true, true, true, true, true, true, true, true, true, true, true, true, true, true, true, true, true, true, true, true, true, true, true, true, true, true, true, true, false] rfl rfl (any_of HT_.out (by kernel_rfl)) (fun _ _ _ h => h) (Or.inl ⟨by rfl, ?_⟩) ?_ ?_
                    rotate_left
                    · intro w'
                      go_simp
                      with_reducible rfl
                    rotate_left
                    · simp only [Act.put, List.setIfInBounds_toArray, List.set_cons_zero, List.set_cons_succ, i64_w, i32_w]
                      rfl
                    refine pure_ (i := 67) (N := some 6) (v := ?_) (a' := ?_) #[true, true, true, true, true, true, true, true, true, true, true, true, true, true, true, true, true, true, true, true, true, true, true, true, true, true, true, true, true, true, true, true, true, true, true, true, true, true, true, true, true, true, true, true, true, true, true, true, true, true, true, true, true, true, true, true, true, true, true, true, true, true, true, true, true, true, true, true] rfl rfl (any_of HT_.out (by kernel_rfl)) (fun _ _ _ h => h) (Or.inl ⟨by rfl, ?_⟩) ?_ ?_
                    rotate_left
                    · intro w'
                      go_simp
                      with_reducible rfl
                    rotate_left
                    · simp only [Act.put, List.setIfInBounds_toArray, List.set_cons_zero, List.set_cons_succ, i64_w, i32_w]
                      rfl
                    refine done_ (done_of HT_.out (by kernel_rfl)) ?_
                    try go_wp2
                    go_ret
                    exact ⟨by first | rfl | (simp [errW_none, errW_some] <;> rfl) | (simp [*, errW_none, errW_some] <;> rfl), by repeat (first | (with_reducible first | exact HB.out | apply below_alloc | apply pw_below_drewN | apply below_drew1 | refine below_set ?_ GE347.out) | exact HB.out)⟩
                  · replace c42 := Bool.eq_false_iff.mpr c42
                    subst c42
                    have H1 : (some false) = some r := by rw [if_neg (show ¬ (false = true) by decide)] at H; exact H
                    clear H
                    have H := H1
                    clear H1
                    exact absurd ((Option.some.inj H).trans hr_.out) (by simp)
                · rw [if_neg c38] at H
                  have c38b0 : decide ((wrap64 ((wrap64 (t374 - t379)) - t384)) ≤ 1) = false := decide_eq_false c38
                  clear c38
                  exact absurd ((Option.some.inj H).trans hr_.out) (by simp)
              · rw [if_neg c30] at H
                have c30b0 : (t363 == (wrap64 (t368 + t373))) = false := beq_eq_false_iff_ne.mpr c30
                have c30b1 : (t363 != (wrap64 (t368 + t373))) = true := bne_iff_ne.mpr c30
                exact absurd ((Option.some.inj H).trans hr_.out) (by simp)
            · rw [if_neg c22] at H
              have c22b0 : (t352 == (wrap64 (t357 + t362))) = false := beq_eq_false_iff_ne.mpr c22
              have c22b1 : (t352 != (wrap64 (t357 + t362))) = true := bne_iff_ne.mpr c22
              exact absurd ((Option.some.inj H).trans hr_.out) (by simp)
          · rw [if_neg c17] at H
            exact absurd H (by simp)
        · rw [if_neg c16] at H
          exact absurd H (by simp)
      · replace c14 := Bool.eq_false_iff.mpr c14
        subst c14
        have H1 : (some false) = some r := by rw [if_neg (show ¬ (false = true) by decide)] at H; exact H
        clear H
        have H := H1
        clear H1
        exact absurd ((Option.some.inj H).trans hr_.out) (by simp)

/-- THE ONE PURE STATEMENT of regattalaw16_SlotParts: yours. -/
def regattalaw16_SlotParts.Pure : Prop := ∀ (x0 : Int) (x1 : List (List Int)) (x2 : S24), ((Lit.int .i64 x0).wf = true) → (x1.length ≤ 9223372036854775807 ∧ ∀ y ∈ x1, (y.length ≤ 9223372036854775807 ∧ ∀ yy ∈ y, ((Lit.int .i64 yy).wf = true))) → (ok24 x2) → ∃ k, regattalaw16_SlotParts.f k x0 x1 x2.f0 x2.f1 = some true

end Go.Proofs.Ytlblianpbjhmoaa.PGs
