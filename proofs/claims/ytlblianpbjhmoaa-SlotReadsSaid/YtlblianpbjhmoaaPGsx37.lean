-- Written by wip/rprint.py of this session's repo (the kit's printer with patches), out of the translation. Not trusted: Lean checks it.
import Derived.Test.YtlblianpbjhmoaaPGsx0
namespace Go.Proofs.Ytlblianpbjhmoaa.PGs
open Go.RowKit Go.Proofs.YtlblianpbjhmoaaW.PrintWords Go.Proofs.YtlblianpbjhmoaaW.PrintLast Go.Proofs.YtlblianpbjhmoaaW.PrintMore Go.Proofs.Ytlblianpbjhmoaa.MWords
attribute [local go_sem] max2_int min2_int max_two min_two max_three min_three max_four min_four   -- for this text's walks alone
set_option linter.unusedVariables false
set_option linter.unusedSimpArgs false

/-! ### regattalaw16_made: function 26 -/
mutual
def regattalaw16_made.l0 : Nat → List (List Int) → List (S57) → Int → Int → Option ((List (S57)))
  | 0, _, _, _, _ => none
  | k + 1, x1, x5, x6, x7 => if x7 < (x1.length : Int) then (regattalaw16_made.j1 k x1 x5 x6 x7 (decide (x7 < 12))) else (regattalaw16_made.j1 k x1 x5 x6 x7 false)
def regattalaw16_made.j1 : Nat → List (List Int) → List (S57) → Int → Int → Bool → Option ((List (S57)))
  | 0, _, _, _, _, _ => none
  | k + 1, x1, x5, x6, x7, x21 => if x21 = true then (regattalaw16_made.l1 k x1 x5 x6 x7 (-1) 0 (wrap64 (x6 + x7)) ([] : List (S59))) else (some x5)
def regattalaw16_made.l1 : Nat → List (List Int) → List (S57) → Int → Int → Int → Int → Int → List (S59) → Option ((List (S57)))
  | 0, _, _, _, _, _, _, _, _ => none
  | k + 1, x1, x5, x6, x7, x9, x10, x303000, x303001 => if 0 ≤ x7 then (if x7 < (x1.length : Int) then (if x10 < ((rd_L5 x1 x7).length : Int) then (if x10 < 8 then (if 0 ≤ x10 then (if x303001.length < 5864062014805 then (regattalaw16_made.l1 k x1 x5 x6 x7 (wrap64 ((wrap64 (x9 + 1)) + (Go.bits .and .i64 (rd (rd_L5 x1 x7) x10) 7))) (wrap64 (x10 + 1)) x303000 (x303001 ++ [(⟨wrap64 ((wrap64 ((Go.bits .and .i64 ((rd (rd_L5 x1 x7) x10) / 8) 31) * 8)) + x10), wrap64 ((wrap64 (x9 + 1)) + (Go.bits .and .i64 (rd (rd_L5 x1 x7) x10) 7)), wrap64 (1 + (Go.bits .and .i64 (rd (rd_L5 x1 x7) x10) 1073741823))⟩ : S59)])) else (none)) else (none)) else (if x5.length < 4398046511104 then (regattalaw16_made.l0 k x1 (x5 ++ [(⟨x303000, x303001⟩ : S57)]) x6 (wrap64 (x7 + 1))) else (none))) else (if x5.length < 4398046511104 then (regattalaw16_made.l0 k x1 (x5 ++ [(⟨x303000, x303001⟩ : S57)]) x6 (wrap64 (x7 + 1))) else (none))) else (none)) else (none)
end
def regattalaw16_made.f (k : Nat) (a0 : Int) (l1 : List (List Int)) : Option ((List (S57))) := regattalaw16_made.l0 k l1 ([] : List (S57)) (Go.bits .and .i64 a0 1073741823) 0
theorem regattalaw16_made.mono_l : ∀ k, (∀ y0 y1 y2 y3, LeO (regattalaw16_made.l0 k y0 y1 y2 y3) (regattalaw16_made.l0 (k + 1) y0 y1 y2 y3)) ∧ (∀ y0 y1 y2 y3 y4, LeO (regattalaw16_made.j1 k y0 y1 y2 y3 y4) (regattalaw16_made.j1 (k + 1) y0 y1 y2 y3 y4)) ∧ (∀ y0 y1 y2 y3 y4 y5 y6 y7, LeO (regattalaw16_made.l1 k y0 y1 y2 y3 y4 y5 y6 y7) (regattalaw16_made.l1 (k + 1) y0 y1 y2 y3 y4 y5 y6 y7))
  | 0 => ⟨fun _ _ _ _ r h => by simp [regattalaw16_made.l0] at h, fun _ _ _ _ _ r h => by simp [regattalaw16_made.j1] at h, fun _ _ _ _ _ _ _ _ r h => by simp [regattalaw16_made.l1] at h⟩
  | k + 1 => by
    obtain ⟨ih0, ih1, ih2⟩ := regattalaw16_made.mono_l k
    refine ⟨?_, ?_, ?_⟩
    · intro y0 y1 y2 y3
      unfold regattalaw16_made.l0
      repeat' first
      | (with_reducible exact ih0 _ _ _ _)
      | (with_reducible exact ih1 _ _ _ _ _)
      | (with_reducible exact ih2 _ _ _ _ _ _ _ _)
      | (with_reducible exact LeO.refl _)
      | (with_reducible exact LeO.none _)
      | (with_reducible refine LeO.ite ?_ ?_)
      | (with_reducible refine LeO.bind ?_ (fun _ => ?_))
      | exact ih0 _ _ _ _
      | exact ih1 _ _ _ _ _
      | exact ih2 _ _ _ _ _ _ _ _
      | exact LeO.none _
      | refine LeO.ite ?_ ?_
      | refine LeO.bind ?_ (fun _ => ?_)
    · intro y0 y1 y2 y3 y4
      unfold regattalaw16_made.j1
      repeat' first
      | (with_reducible exact ih0 _ _ _ _)
      | (with_reducible exact ih1 _ _ _ _ _)
      | (with_reducible exact ih2 _ _ _ _ _ _ _ _)
      | (with_reducible exact LeO.refl _)
      | (with_reducible exact LeO.none _)
      | (with_reducible refine LeO.ite ?_ ?_)
      | (with_reducible refine LeO.bind ?_ (fun _ => ?_))
      | exact ih0 _ _ _ _
      | exact ih1 _ _ _ _ _
      | exact ih2 _ _ _ _ _ _ _ _
      | exact LeO.none _
      | refine LeO.ite ?_ ?_
      | refine LeO.bind ?_ (fun _ => ?_)
    · intro y0 y1 y2 y3 y4 y5 y6 y7
      unfold regattalaw16_made.l1
      repeat' first
      | (with_reducible exact ih0 _ _ _ _)
      | (with_reducible exact ih1 _ _ _ _ _)
      | (with_reducible exact ih2 _ _ _ _ _ _ _ _)
      | (with_reducible exact LeO.refl _)
      | (with_reducible exact LeO.none _)
      | (with_reducible refine LeO.ite ?_ ?_)
      | (with_reducible refine LeO.bind ?_ (fun _ => ?_))
      | exact ih0 _ _ _ _
      | exact ih1 _ _ _ _ _
      | exact ih2 _ _ _ _ _ _ _ _
      | exact LeO.none _
      | refine LeO.ite ?_ ?_
      | refine LeO.bind ?_ (fun _ => ?_)
theorem regattalaw16_made.mono : ∀ a0 a1 k, LeO (regattalaw16_made.f k a0 a1) (regattalaw16_made.f (k + 1) a0 a1) := by
  intro a0 a1 k
  obtain ⟨ih0, ih1, ih2⟩ := regattalaw16_made.mono_l k
  unfold regattalaw16_made.f
  repeat' first
      | (with_reducible exact ih0 _ _ _ _)
      | (with_reducible exact ih1 _ _ _ _ _)
      | (with_reducible exact ih2 _ _ _ _ _ _ _ _)
      | (with_reducible exact LeO.refl _)
      | (with_reducible exact LeO.none _)
      | (with_reducible refine LeO.ite ?_ ?_)
      | (with_reducible refine LeO.bind ?_ (fun _ => ?_))
      | exact ih0 _ _ _ _
      | exact ih1 _ _ _ _ _
      | exact ih2 _ _ _ _ _ _ _ _
      | exact LeO.none _
      | refine LeO.ite ?_ ?_
      | refine LeO.bind ?_ (fun _ => ?_)
def regattalaw16_made.T13 : Bool × List (List Nat × List Nat) := (true, [([], []), ([0], [0]), ([], []), ([], []), ([], []), ([], []), ([4, 5], [4, 5]), ([6], [6]), ([], []), ([7, 8], [7, 8]), ([9], [9]), ([10], [10]), ([11], [11]), ([2, 3, 12], [2, 3, 12]), ([13], [13]), ([1, 14], [1, 14]), ([0, 1, 2, 3, 4, 5, 6, 7, 8, 9, 10, 11, 12, 13, 14, 15], []), ([16, 15, 15, 0, 1, 2, 3, 4, 5, 6, 7, 8, 9, 10, 11, 12, 13, 14, 15], [15, 16])])
def regattalaw16_made.B13 : List Nat := [0, 1, 0, 0, 0, 0, 48, 112, 0, 496, 1008, 2032, 4080, 8188, 16380, 32767, 65535, 131071]
theorem regattalaw16_made.tab13 : rtab .any (opsOf Try.f26 13) = regattalaw16_made.T13 := by kernel_rfl
theorem regattalaw16_made.bits13 : waitsOk regattalaw16_made.T13.2 regattalaw16_made.B13 = true := by kernel_rfl
set_option maxHeartbeats 8000000 in
set_option maxRecDepth 100000 in
theorem regattalaw16_made.calls (k : Nat) (a0 : Int) (A1 : Option Addr) (c1 : Nat) (l1 : List (List Int)) (r : List (S57)) (w : World) (hr1 : Kd.C (Kd.slice 3 (Kd.int .i64)) w A1 l1.length l1) (hc1 : l1.length ≤ c1) (h : regattalaw16_made.f k a0 l1 = some r) :
    Calls Try.prog 26 #[.int .i64 a0, .slice A1 l1.length c1] w fun e w' => ∃ v0_ : Value, e = .returned (v0_) ∧ Kd.S k57 57 w' w.heap.size (fun _ => True) v0_ r ∧ Below w.heap.size w w' := by
  have hu57 := Try.underlying57
  have hu59 := Try.underlying59
  have HR1 := Aside0.mk hr1
  have HC1 := Aside0.mk hc1
  clear hr1 hc1
  have HB := Aside0.mk (Below.refl w.heap.size w)
  have H : (regattalaw16_made.l0 k l1 ([] : List (S57)) (Go.bits .and .i64 a0 1073741823) 0) = some r := h
  clear h
  have H' := Aside0.mk H
  clear H
  go_enter Try.func26, Try.ntmps26
  go_wp2
  go_loopg [5, 7] k (fun kq v5 v7 w' => ∃ (x5_1 : List (S57)) (x7_1 : Int), v7 = .int .i64 x7_1 ∧ Aside0 (regattalaw16_made.l0 kq l1 x5_1 (Go.bits .and .i64 a0 1073741823) x7_1 = some r) ∧ Aside0 (kq ≤ k) ∧ Aside0 (Kd.S k57 57 w' w.heap.size (fun _ => True) v5 x5_1) ∧ Aside0 (Below w.heap.size w w'))
  case atStart => exact ⟨(([] : List (S57))), (0), (by first | rfl | (simp; done) | (simp [*]; done)), H', ⟨Nat.le_refl _⟩, ⟨by first | exact Kd.S_nil _ _ _ _ _ | exact Kd.N_nil _ _ _ _ _ | exact Kd.V_nil _ _ _ _ _ | exact Kd.Q_nil _ _ _ _ _ | exact Kd.R_nil _ _ _ _ _⟩, ⟨by repeat (first | (with_reducible first | exact HB.out | apply below_alloc | apply pw_below_drewN | apply below_drew1) | exact HB.out)⟩⟩
  case round =>
    clear H'
    try clear c1
    try clear c2
    try clear p2
    obtain ⟨x5_1, x7_1, rfl, HA, HK1, HO_5, HB⟩ := hrel
    cases gk with
    | zero => exact absurd HA.out (by simp [regattalaw16_made.l0])
    | succ k1 =>
      have H := HA.out
      clear HA
      simp only [regattalaw16_made.l0] at H
      have HC3 := Aside0.mk H
      clear H
      go_upto_region 4 with (fail)
      go_cut [21] (fun v21 wc => ∃ (kq : Nat) (x21_2 : Bool), v21 = .bool x21_2 ∧ Aside0 (regattalaw16_made.j1 kq l1 x5_1 (Go.bits .and .i64 a0 1073741823) x7_1 x21_2 = some r) ∧ Aside0 (kq ≤ k1) ∧ Aside0 (Kd.S k57 57 wc w.heap.size (fun _ => True) u5 x5_1) ∧ Aside0 (Below w.heap.size w wc))
      case first =>
        have H := HC3.out
        clear HC3
        by_cases c4 : x7_1 < (l1.length : Int)
        · rw [if_pos c4] at H
          have c4b0 : decide (x7_1 < (l1.length : Int)) = true := decide_eq_true c4
          clear c4
          (first | rw [c4b0] | rw [c4b1] | (simp only [i64_w, i32_w]; rw [c4b0]) | skip)
          have H' := Aside0.mk H
          clear H
          go_wp2
          go_meet
          case rel => exact ⟨_, (decide (x7_1 < 12)), (by first | rfl | (simp; done) | (simp [*]; done)), H', ⟨by have := HK1.out; first | omega | exact Nat.le_refl _⟩, ⟨by (with_reducible repeat (first | apply Kd.S_alloc | apply Kd.S_drewN | apply Kd.S_drew)); exact HO_5.out⟩, ⟨by repeat (first | (with_reducible first | exact HB.out | apply below_alloc | apply pw_below_drewN | apply below_drew1) | exact HB.out)⟩⟩
        · rw [if_neg c4] at H
          have c4b0 : decide (x7_1 < (l1.length : Int)) = false := decide_eq_false c4
          clear c4
          (first | rw [c4b0] | rw [c4b1] | (simp only [i64_w, i32_w]; rw [c4b0]) | skip)
          have H' := Aside0.mk H
          clear H
          go_wp2
          go_meet
          case rel => exact ⟨_, (false), (by first | rfl | (simp; done) | (simp [*]; done)), H', ⟨by have := HK1.out; first | omega | exact Nat.le_refl _⟩, ⟨by (with_reducible repeat (first | apply Kd.S_alloc | apply Kd.S_drewN | apply Kd.S_drew)); exact HO_5.out⟩, ⟨by repeat (first | (with_reducible first | exact HB.out | apply below_alloc | apply pw_below_drewN | apply below_drew1) | exact HB.out)⟩⟩
      case rest =>
        clear HC3
        try clear c1
        try clear c2
        try clear p2
        try clear c4
        try clear c4b0
        try clear p2
        obtain ⟨kq, x21_2, rfl, HA, HJ2, HO_5, HB⟩ := hcut
        cases kq with
        | zero => exact absurd HA.out (by simp [regattalaw16_made.j1])
        | succ kj2 =>
          have H := HA.out
          clear HA
          simp only [regattalaw16_made.j1] at H
          by_cases c5 : x21_2 = true
          · subst c5
            have H1 : (regattalaw16_made.l1 kj2 l1 x5_1 (Go.bits .and .i64 a0 1073741823) x7_1 (-1) 0 (wrap64 ((Go.bits .and .i64 a0 1073741823) + x7_1)) ([] : List (S59))) = some r := by rw [if_pos rfl] at H; exact H
            clear H
            have H := H1
            clear H1
            have H' := Aside0.mk H
            clear H
            go_wp2_with (first | ((with_reducible refine gate_dst (N := 8) rfl ?_); refine box_event ?hg (N := 8) ?hd (cs := #[.int .i64 0, .slice none 0 0]) (t := 57) ?hr ?_; (case hd => rfl); (case hg => rfl); (case hr => first | (go_simp; done) | (go_simp; rfl)); intro gb302 hg w6 hbox hb; have n0_ := Aside0.mk (Kd.S_below (Kd.S_elderB (by (with_reducible repeat (first | apply Kd.S_alloc | apply Kd.S_drewN | apply Kd.S_drew)); exact HO_5.out) gb302 (Nat.le_of_eq hg.symm)) hb); have n1_ := Aside0.mk (below_step (by repeat (first | (with_reducible first | exact HB.out | apply below_alloc | apply pw_below_drewN | apply below_drew1) | exact HB.out)) hb); have n2_ := Aside0.mk (hbox); have n3_ := Aside0.mk ((by rw [hg]; exact (below_size (by repeat (first | (with_reducible first | exact HB.out | apply below_alloc | apply pw_below_drewN | apply below_drew1) | exact HB.out))) : w.heap.size ≤ gb302)); have n4_ := Aside0.mk ((by rw [hg]; exact (below_size (by repeat (first | (with_reducible first | exact HB.out | apply below_alloc | apply pw_below_drewN | apply below_drew1) | exact HB.out))) : w.heap.size ≤ gb302)); clear HO_5; clear HB; have HO_5 := n0_; have HB := n1_; have BK302 := n2_; have GW302 := n3_; have GE302 := n4_; clear n0_ n1_ n2_ n3_ n4_; clear hb hbox hg; have hcz7_0 : w6.cell? ⟨gb302, 0, none⟩ = some (.int .i64 0) := (blk_cell BK302.out 0).trans rfl; have hcz7_1 : w6.cell? ⟨gb302, 1, none⟩ = some (.slice none 0 0) := (blk_cell BK302.out 1).trans rfl; have hfz7_0 := blk_frozen BK302.out 0; have hfz7_1 := blk_frozen BK302.out 1))
            go_loopg [9, 10] kj2 (fun kq v9 v10 w' => ∃ (x9_3 : Int) (x10_3 : Int) (x303001_3 : List (S59)) (u303001 : Value), v9 = .int .i64 x9_3 ∧ v10 = .int .i64 x10_3 ∧ Aside0 (regattalaw16_made.l1 kq l1 x5_1 (Go.bits .and .i64 a0 1073741823) x7_1 x9_3 x10_3 (wrap64 ((Go.bits .and .i64 a0 1073741823) + x7_1)) x303001_3 = some r) ∧ Aside0 (kq ≤ kj2) ∧ Aside0 (Kd.S k57 57 w' w.heap.size (fun k_ => some k_ ≠ (u303001 : Value).ownBlock ∧ k_ ≠ gb302) u5 x5_1) ∧ Aside0 (Kd.R k59 59 w' w.heap.size (fun _ => True) u303001 x303001_3) ∧ Aside0 (w'.heap[gb302]? = some (.cells #[.int .i64 (wrap64 ((Go.bits .and .i64 a0 1073741823) + x7_1)), u303001] 57 (0, 0))) ∧ Aside0 (Below w.heap.size w w'))
            case atStart => exact ⟨((-1)), (0), (([] : List (S59))), (.slice none 0 0), (by first | rfl | (simp; done) | (simp [*]; done)), (by first | rfl | (simp; done) | (simp [*]; done)), H', ⟨Nat.le_refl _⟩, ⟨by (with_reducible repeat (first | apply Kd.S_alloc | apply Kd.S_drewN | apply Kd.S_drew)); exact Kd.S_mono (Kd.S_far (p := ⟨gb302, 1, none⟩) (Kd.S_far (p := ⟨gb302, 0, none⟩) (Kd.S_mono HO_5.out (fun k_ hk => (⟨hk, hk.2⟩ : _ ∧ k_ ≠ gb302))) (fun _ hk => hk.2) (.int .i64 (wrap64 ((Go.bits .and .i64 a0 1073741823) + x7_1)))) (fun _ hk => hk.2) (.slice none 0 0)) (fun _ hk => ⟨(by simp [Value.ownBlock]), hk.1.2⟩)⟩, ⟨by first | exact Kd.R_nil _ _ _ _ _ | exact Kd.N_nil _ _ _ _ _ | exact Kd.V_nil _ _ _ _ _ | exact Kd.Q_nil _ _ _ _ _ | exact Kd.S_nil _ _ _ _ _⟩, ⟨by (with_reducible repeat (first | refine blk_drewN ?_ _ | refine blk_drew ?_ | refine blk_alloc ?_ _)); refine blk_put (cs := #[.int .i64 (wrap64 ((Go.bits .and .i64 a0 1073741823) + x7_1)), .slice none 0 0]) ?_ 1 _ rfl; (with_reducible repeat (first | refine blk_drewN ?_ _ | refine blk_drew ?_ | refine blk_alloc ?_ _)); refine blk_put (cs := #[.int .i64 0, .slice none 0 0]) ?_ 0 _ rfl; (with_reducible repeat (first | refine blk_drewN ?_ _ | refine blk_drew ?_ | refine blk_alloc ?_ _)); exact BK302.out⟩, ⟨by repeat (first | (with_reducible first | exact HB.out | apply below_alloc | apply pw_below_drewN | apply below_drew1 | refine below_set ?_ GE302.out) | exact HB.out)⟩⟩
            case round =>
              clear H'
              try clear c1
              try clear c2
              try clear p2
              try clear c4
              try clear c4b0
              try clear c5
              try clear p6
              try clear hcz7_0
              try clear hcz7_1
              try clear hfz7_0
              try clear hfz7_1
              try clear p2
              obtain ⟨x9_3, x10_3, x303001_3, u303001, rfl, rfl, HA, HK3, HO_5, HO_303001, BK302, HB⟩ := hrel
              cases gk with
              | zero => exact absurd HA.out (by simp [regattalaw16_made.l1])
              | succ k3 =>
                have H := HA.out
                clear HA
                simp only [regattalaw16_made.l1] at H
                by_cases c8 : 0 ≤ x7_1
                · rw [if_pos c8] at H
                  have c8b0 : decide (0 ≤ x7_1) = true := decide_eq_true c8
                  clear c8
                  by_cases c9 : x7_1 < (l1.length : Int)
                  · rw [if_pos c9] at H
                    have c9b0 : decide (x7_1 < (l1.length : Int)) = true := decide_eq_true c9
                    clear c9
                    by_cases c10 : x10_3 < ((rd_L5 l1 x7_1).length : Int)
                    · rw [if_pos c10] at H
                      have c10b0 : decide (x10_3 < ((rd_L5 l1 x7_1).length : Int)) = true := decide_eq_true c10
                      clear c10
                      by_cases c11 : x10_3 < 8
                      · rw [if_pos c11] at H
                        have c11b0 : decide (x10_3 < 8) = true := decide_eq_true c11
                        clear c11
                        by_cases c12 : 0 ≤ x10_3
                        · rw [if_pos c12] at H
                          have c12b0 : decide (0 ≤ x10_3) = true := decide_eq_true c12
                          clear c12
                          by_cases c13 : x303001_3.length < 5864062014805
                          · rw [if_pos c13] at H
                            have LMc13 := Aside0.mk c13
                            clear c13
                            obtain ⟨y310, hy310⟩ : ∃ y_ : List (S59), y_ = (x303001_3 ++ [(⟨wrap64 ((wrap64 ((Go.bits .and .i64 ((rd (rd_L5 l1 x7_1) x10_3) / 8) 31) * 8)) + x10_3), wrap64 ((wrap64 (x9_3 + 1)) + (Go.bits .and .i64 (rd (rd_L5 l1 x7_1) x10_3) 7)), wrap64 (1 + (Go.bits .and .i64 (rd (rd_L5 l1 x7_1) x10_3) 1073741823))⟩ : S59)]) := ⟨_, rfl⟩
                            replace H : (regattalaw16_made.l1 k3 l1 x5_1 (Go.bits .and .i64 a0 1073741823) x7_1 (wrap64 ((wrap64 (x9_3 + 1)) + (Go.bits .and .i64 (rd (rd_L5 l1 x7_1) x10_3) 7))) (wrap64 (x10_3 + 1)) (wrap64 ((Go.bits .and .i64 a0 1073741823) + x7_1)) y310) = some r := by first | (rw [hy310]; with_reducible exact H) | (have H2_ := (Option.bind_some _ _).symm.trans H; rw [hy310]; with_reducible exact H2_) | (have H2_ := (Option.bind_some _ _).symm.trans H; with_reducible exact H2_) | with_reducible exact H | (rw [hy310]; exact H) | exact H
                            have Ny310 := Aside0.mk hy310
                            clear hy310
                            have H' := Aside0.mk H
                            clear H
                            have p303 : 0 ≤ (x7_1 : Int) := of_decide_eq_true (by first | (with_reducible assumption) | assumption)
                            have q303 : x7_1 < (l1.length : Int) := of_decide_eq_true (by first | (with_reducible assumption) | assumption)
                            obtain ⟨ad303, A303_0, c303_0, e303, hx303_0, hl303_0, hi303_0⟩ := at_L5 HR1.out x7_1 p303 q303
                            cases e303
                            replace hx303_0 := (HB.out.cell (World.block_lt_of_cell? w _ hx303_0)).trans hx303_0
                            have HR303_0 := Aside0.mk hi303_0
                            have HC303_0 := Aside0.mk hl303_0
                            clear hi303_0 hl303_0
                            replace p303 := eq_true p303
                            replace q303 := eq_true q303
                            have p304 : 0 ≤ (x7_1 : Int) := of_decide_eq_true (by first | (with_reducible assumption) | assumption)
                            have q304 : x7_1 < (l1.length : Int) := of_decide_eq_true (by first | (with_reducible assumption) | assumption)
                            obtain ⟨ad304, A304_0, c304_0, e304, hx304_0, hl304_0, hi304_0⟩ := at_L5 HR1.out x7_1 p304 q304
                            obtain rfl : ad303 = ad304 := (by injection e304)
                            replace hx304_0 := (HB.out.cell (World.block_lt_of_cell? w _ hx304_0)).trans hx304_0
                            have HR304_0 := Aside0.mk hi304_0
                            have HC304_0 := Aside0.mk hl304_0
                            clear hi304_0 hl304_0
                            replace p304 := eq_true p304
                            replace q304 := eq_true q304
                            have ea_ := Option.some.inj (hx303_0.symm.trans hx304_0)
                            injection ea_ with ea_ en_ ec_
                            subst ea_
                            subst ec_
                            clear en_
                            have p305 : 0 ≤ (x10_3 : Int) := of_decide_eq_true (by first | (with_reducible assumption) | assumption)
                            have q305 : x10_3 < ((rd_L5 l1 x7_1).length : Int) := of_decide_eq_true (by first | (with_reducible assumption) | assumption)
                            obtain ⟨ad305, e305, hx305_0⟩ := Kd.at_int HR304_0.out x10_3 p305 q305
                            cases e305
                            replace hx305_0 := (HB.out.cell (World.block_lt_of_cell? w _ hx305_0)).trans hx305_0
                            replace p305 := eq_true p305
                            replace q305 := eq_true q305
                            have p306 : 0 ≤ (x7_1 : Int) := of_decide_eq_true (by first | (with_reducible assumption) | assumption)
                            have q306 : x7_1 < (l1.length : Int) := of_decide_eq_true (by first | (with_reducible assumption) | assumption)
                            obtain ⟨ad306, A306_0, c306_0, e306, hx306_0, hl306_0, hi306_0⟩ := at_L5 HR1.out x7_1 p306 q306
                            obtain rfl : ad303 = ad306 := (by injection e306)
                            replace hx306_0 := (HB.out.cell (World.block_lt_of_cell? w _ hx306_0)).trans hx306_0
                            have HR306_0 := Aside0.mk hi306_0
                            have HC306_0 := Aside0.mk hl306_0
                            clear hi306_0 hl306_0
                            replace p306 := eq_true p306
                            replace q306 := eq_true q306
                            have ea_ := Option.some.inj (hx303_0.symm.trans hx306_0)
                            injection ea_ with ea_ en_ ec_
                            subst ea_
                            subst ec_
                            clear en_
                            have p307 : 0 ≤ (x10_3 : Int) := of_decide_eq_true (by first | (with_reducible assumption) | assumption)
                            have q307 : x10_3 < ((rd_L5 l1 x7_1).length : Int) := of_decide_eq_true (by first | (with_reducible assumption) | assumption)
                            obtain ⟨ad307, e307, hx307_0⟩ := Kd.at_int HR306_0.out x10_3 p307 q307
                            cases e307
                            replace hx307_0 := (HB.out.cell (World.block_lt_of_cell? w _ hx307_0)).trans hx307_0
                            replace p307 := eq_true p307
                            replace q307 := eq_true q307
                            try go_wp2
                            have n0_ := Aside0.mk (Kd.S_drew HO_5.out)
                            have n1_ := Aside0.mk (Kd.R_drew HO_303001.out)
                            have n2_ := Aside0.mk (blk_drew BK302.out)
                            have n3_ := Aside0.mk (below_drew1 HB.out)
                            clear HO_5
                            clear HO_303001
                            clear BK302
                            clear HB
                            have HO_5 := n0_
                            have HO_303001 := n1_
                            have BK302 := n2_
                            have HB := n3_
                            clear n0_ n1_ n2_ n3_
                            have p308 : 0 ≤ (x7_1 : Int) := of_decide_eq_true (by first | (with_reducible assumption) | assumption)
                            have q308 : x7_1 < (l1.length : Int) := of_decide_eq_true (by first | (with_reducible assumption) | assumption)
                            obtain ⟨ad308, A308_0, c308_0, e308, hx308_0, hl308_0, hi308_0⟩ := at_L5 HR1.out x7_1 p308 q308
                            have hw308_0 := hx308_0
                            obtain rfl : ad303 = ad308 := (by injection e308)
                            replace hx308_0 := (HB.out.cell (World.block_lt_of_cell? w _ hx308_0)).trans hx308_0
                            have HR308_0 := Aside0.mk hi308_0
                            have HC308_0 := Aside0.mk hl308_0
                            clear hi308_0 hl308_0
                            replace p308 := eq_true p308
                            replace q308 := eq_true q308
                            have p309 : 0 ≤ (x10_3 : Int) := of_decide_eq_true (by first | (with_reducible assumption) | assumption)
                            have q309 : x10_3 < ((rd_L5 l1 x7_1).length : Int) := of_decide_eq_true (by first | (with_reducible assumption) | assumption)
                            obtain ⟨ad309, e309, hx309_0⟩ := Kd.at_int HR308_0.out x10_3 p309 q309
                            have hw309_0 := hx309_0
                            cases e309
                            replace hx309_0 := (HB.out.cell (World.block_lt_of_cell? w _ hx309_0)).trans hx309_0
                            replace p309 := eq_true p309
                            replace q309 := eq_true q309
                            refine start_ (n := 18) (S := fun w' => w'.cell? ⟨gb302, 0, none⟩ = some (.int .i64 (wrap64 ((Go.bits .and .i64 a0 1073741823) + x7_1))) ∧ w'.cell? ⟨gb302, 1, none⟩ = some (u303001) ∧ w'.cell? (ad303.add (x7_1).toNat) = some (.slice (some ad309) (rd_L5 l1 x7_1).length c308_0) ∧ w'.cell? (ad309.add (x10_3).toNat) = some (.int .i64 (rd (rd_L5 l1 x7_1) x10_3))) (ds := [17]) #[false, false, false, false, false, false, false, false, false, false, false, false, false, false, false, false, false, false] (by kernel_rfl) rfl rfl ⟨(blk_cell BK302.out 0).trans rfl, (blk_cell BK302.out 1).trans rfl, ((HB.out.cell (World.block_lt_of_cell? w _ hw308_0)).trans hw308_0), ((HB.out.cell (World.block_lt_of_cell? w _ hw309_0)).trans hw309_0)⟩ (fun hHeld => ?_); refine with_tabW regattalaw16_made.tab13 regattalaw16_made.bits13 (fun HT_ HW_ => ?_)
                            generalize wr.drew = w14 at HO_5 HO_303001 BK302 HB HR308_0 hx308_0 hx309_0 hHeld ⊢
                            refine pure_ (i := 0) (N := some 64) (v := ?_) (a' := ?_) #[true, false, false, false, false, false, false, false, false, false, false, false, false, false, false, false, false, false] rfl rfl (any_of HT_.out (by kernel_rfl)) (fun _ _ _ h => h) (Or.inl ⟨by rfl, ?_⟩) ?_ ?_
                            rotate_left
                            · intro w'
                              go_simp
                              with_reducible rfl
                            rotate_left
                            · simp only [Act.put, List.setIfInBounds_toArray, List.set_cons_zero, List.set_cons_succ, i64_w, i32_w]
                              rfl
                            refine pure_ (i := 2) (N := some 66) (v := ?_) (a' := ?_) #[true, false, true, false, false, false, false, false, false, false, false, false, false, false, false, false, false, false] rfl rfl (any_of HT_.out (by kernel_rfl)) (fun _ _ _ h => h) (Or.inl ⟨by rfl, ?_⟩) ?_ ?_
                            rotate_left
                            · intro w'
                              go_simp
                              with_reducible rfl
                            rotate_left
                            · simp only [Act.put, List.setIfInBounds_toArray, List.set_cons_zero, List.set_cons_succ, i64_w, i32_w]
                              rfl
                            refine pure_ (i := 3) (N := some 67) (v := ?_) (a' := ?_) #[true, false, true, true, false, false, false, false, false, false, false, false, false, false, false, false, false, false] rfl rfl (any_of HT_.out (by kernel_rfl)) (fun _ _ _ h => h) (Or.inl ⟨by rfl, ?_⟩) ?_ ?_
                            rotate_left
                            · intro w'
                              go_simp
                              with_reducible rfl
                            rotate_left
                            · simp only [Act.put, List.setIfInBounds_toArray, List.set_cons_zero, List.set_cons_succ, i64_w, i32_w]
                              rfl
                            refine pure_ (i := 4) (N := some 68) (v := ?_) (a' := ?_) #[true, false, true, true, true, false, false, false, false, false, false, false, false, false, false, false, false, false] rfl rfl (any_of HT_.out (by kernel_rfl)) (fun _ _ _ h => h) (Or.inl ⟨by rfl, ?_⟩) ?_ ?_
                            rotate_left
                            · intro w'
                              go_simp
                              with_reducible rfl
                            rotate_left
                            · simp only [Act.put, List.setIfInBounds_toArray, List.set_cons_zero, List.set_cons_succ, i64_w, i32_w]
                              rfl
                            refine pure_ (i := 5) (N := some 69) (v := ?_) (a' := ?_) #[true, false, true, true, true, true, false, false, false, false, false, false, false, false, false, false, false, false] rfl rfl (any_of HT_.out (by kernel_rfl)) (fun _ _ _ h => h) (Or.inl ⟨by rfl, ?_⟩) ?_ ?_
                            rotate_left
                            · intro w'
                              go_simp
                              with_reducible rfl
                            rotate_left
                            · simp only [Act.put, List.setIfInBounds_toArray, List.set_cons_zero, List.set_cons_succ, i64_w, i32_w]
                              rfl
                            refine pure_ (i := 6) (N := some 70) (v := ?_) (a' := ?_) #[true, false, true, true, true, true, true, false, false, false, false, false, false, false, false, false, false, false] rfl rfl (any_of HT_.out (by kernel_rfl)) (fun _ _ _ h => h) (Or.inl ⟨by rfl, ?_⟩) ?_ ?_
                            rotate_left
                            · intro w'
                              go_simp
                              with_reducible rfl
                            rotate_left
                            · simp only [Act.put, List.setIfInBounds_toArray, List.set_cons_zero, List.set_cons_succ, i64_w, i32_w]
                              rfl
                            refine pure_ (i := 8) (N := some 72) (v := ?_) (a' := ?_) #[true, false, true, true, true, true, true, false, true, false, false, false, false, false, false, false, false, false] rfl rfl (any_of HT_.out (by kernel_rfl)) (fun _ _ _ h => h) (Or.inl ⟨by rfl, ?_⟩) ?_ ?_
                            rotate_left
                            · intro w'
                              go_simp
                              with_reducible rfl
                            rotate_left
                            · simp only [Act.put, List.setIfInBounds_toArray, List.set_cons_zero, List.set_cons_succ, i64_w, i32_w]
                              rfl
                            refine take_ (i := 1) (N := some 65) (v := ?_) (a' := ?_) #[true, true, true, true, true, true, true, false, true, false, false, false, false, false, false, false, false, false] rfl rfl (take_ofW HT_.out HW_.out (by kernel_rfl)) (fun _ _ _ h => h) (Or.inl ⟨by rfl, ?_⟩) hHeld ?_ ?_
                            rotate_left
                            · rintro w' ⟨s0, s1, s2, s3⟩
                              go_simp
                              with_reducible rfl
                            rotate_left
                            · simp only [Act.put, List.setIfInBounds_toArray, List.set_cons_zero, List.set_cons_succ, i64_w, i32_w]
                              rfl
                            refine take_ (i := 7) (N := some 71) (v := ?_) (a' := ?_) #[true, true, true, true, true, true, true, true, true, false, false, false, false, false, false, false, false, false] rfl rfl (take_ofW HT_.out HW_.out (by kernel_rfl)) (fun _ _ _ h => h) (Or.inl ⟨by rfl, ?_⟩) hHeld ?_ ?_
                            rotate_left
                            · rintro w' ⟨s0, s1, s2, s3⟩
                              go_simp
                              with_reducible rfl
                            rotate_left
                            · simp only [Act.put, List.setIfInBounds_toArray, List.set_cons_zero, List.set_cons_succ, i64_w, i32_w]
                              rfl
                            refine pure_ (i := 9) (N := some 73) (v := ?_) (a' := ?_) #[true, true, true, true, true, true, true, true, true, true, false, false, false, false, false, false, false, false] rfl rfl (any_of HT_.out (by kernel_rfl)) (fun _ _ _ h => h) (Or.inl ⟨by rfl, ?_⟩) ?_ ?_
                            rotate_left
                            · intro w'
                              go_simp
                              with_reducible rfl
                            rotate_left
                            · simp only [Act.put, List.setIfInBounds_toArray, List.set_cons_zero, List.set_cons_succ, i64_w, i32_w]
                              rfl
                            refine take_ (i := 10) (N := some 74) (v := ?_) (a' := ?_) #[true, true, true, true, true, true, true, true, true, true, true, false, false, false, false, false, false, false] rfl rfl (take_ofW HT_.out HW_.out (by kernel_rfl)) (fun _ _ _ h => h) (Or.inl ⟨by rfl, ?_⟩) hHeld ?_ ?_
                            rotate_left
                            · rintro w' ⟨s0, s1, s2, s3⟩
                              go_simp
                              with_reducible rfl
                            rotate_left
                            · simp only [Act.put, List.setIfInBounds_toArray, List.set_cons_zero, List.set_cons_succ, i64_w, i32_w]
                              rfl
                            refine pure_ (i := 11) (N := some 75) (v := ?_) (a' := ?_) #[true, true, true, true, true, true, true, true, true, true, true, true, false, false, false, false, false, false] rfl rfl (any_of HT_.out (by kernel_rfl)) (fun _ _ _ h => h) (Or.inl ⟨by rfl, ?_⟩) ?_ ?_
                            rotate_left
                            · intro w'
                              go_simp
                              with_reducible rfl
                            rotate_left
                            · simp only [Act.put, List.setIfInBounds_toArray, List.set_cons_zero, List.set_cons_succ, i64_w, i32_w]
                              rfl
                            refine pure_ (i := 12) (N := some 76) (v := ?_) (a' := ?_) #[true, true, true, true, true, true, true, true, true, true, true, true, true, false, false, false, false, false] rfl rfl (any_of HT_.out (by kernel_rfl)) (fun _ _ _ h => h) (Or.inl ⟨by rfl, ?_⟩) ?_ ?_
                            rotate_left
                            · intro w'
                              go_simp
                              with_reducible rfl
                            rotate_left
                            · simp only [Act.put, List.setIfInBounds_toArray, List.set_cons_zero, List.set_cons_succ, i64_w, i32_w]
                              rfl
                            refine pure_ (i := 13) (N := some 77) (v := ?_) (a' := ?_) #[true, true, true, true, true, true, true, true, true, true, true, true, true, true, false, false, false, false] rfl rfl (any_of HT_.out (by kernel_rfl)) (fun _ _ _ h => h) (Or.inl ⟨by rfl, ?_⟩) ?_ ?_
                            rotate_left
                            · intro w'
                              go_simp
                              with_reducible rfl
                            rotate_left
                            · simp only [Act.put, List.setIfInBounds_toArray, List.set_cons_zero, List.set_cons_succ, i64_w, i32_w]
                              rfl
                            refine one_ (i := 14) (N := some 78) #[true, true, true, true, true, true, true, true, true, true, true, true, true, true, true, false, false, false] rfl rfl (one_of HT_.out (by kernel_rfl)) (by decide) (fun K hK => ?_)
                            refine value_ (w1 := ?_) (v := ?_) (by rfl) rfl ?_ ?_
                            rotate_left 2
                            · go_simp
                              constructor
                              · rfl
                              · rfl
                            refine hK.out _ _ ⟨(blk_cell (blk_alloc BK302.out _) 0).trans rfl, (blk_cell (blk_alloc BK302.out _) 1).trans rfl, (World.cell?_alloc_lt _ _ _ (World.block_lt_of_cell? _ _ (((HB.out.cell (World.block_lt_of_cell? w _ hw308_0)).trans hw308_0)))).trans (((HB.out.cell (World.block_lt_of_cell? w _ hw308_0)).trans hw308_0)), (World.cell?_alloc_lt _ _ _ (World.block_lt_of_cell? _ _ (((HB.out.cell (World.block_lt_of_cell? w _ hw309_0)).trans hw309_0)))).trans (((HB.out.cell (World.block_lt_of_cell? w _ hw309_0)).trans hw309_0))⟩ (fun hHeld => ?_)
                            clear hK K
                            refine norm_ (a' := ?_) ?_ ?_
                            rotate_left
                            · show Act.put _ (some 78) _ = _
                              simp only [Act.put, List.setIfInBounds_toArray, List.set_cons_zero, List.set_cons_succ, i64_w, i32_w]
                              rfl
                            refine one_ (i := 15) (N := some 79) #[true, true, true, true, true, true, true, true, true, true, true, true, true, true, true, true, false, false] rfl rfl (one_of HT_.out (by kernel_rfl)) (by decide) (fun K hK => ?_)
                            refine Kd.R_append_step k59 (w0 := w) w.heap.size (by rfl) (.tmp 65) (.tmp 78) 55 59 (.agg #[(.int .i64 0), (.int .i64 0), (.int .i64 0)]) 24 rfl Try.underlying55 info59 rfl (by decide) (by omega) u303001 x303001_3 (⟨wrap64 ((wrap64 ((Go.bits .and .i64 ((rd (rd_L5 l1 x7_1) x10_3) / 8) 31) * 8)) + x10_3), wrap64 ((wrap64 (x9_3 + 1)) + (Go.bits .and .i64 (rd (rd_L5 l1 x7_1) x10_3) 7)), wrap64 (1 + (Go.bits .and .i64 (rd (rd_L5 l1 x7_1) x10_3) 1073741823))⟩ : S59) [.int .i64 (wrap64 ((wrap64 ((Go.bits .and .i64 ((rd (rd_L5 l1 x7_1) x10_3) / 8) 31) * 8)) + x10_3)), .int .i64 (wrap64 ((wrap64 (x9_3 + 1)) + (Go.bits .and .i64 (rd (rd_L5 l1 x7_1) x10_3) 7))), .int .i64 (wrap64 (1 + (Go.bits .and .i64 (rd (rd_L5 l1 x7_1) x10_3) 1073741823)))] (fun _ => True) (fun _ => False) rfl rfl ?aP (fun _ hk => hk.elim) ?aF ?aO ?aB ?aS ?aL ?_
                            (case aP => exact k59_mkM _ _ _ (⟨wrap64 ((wrap64 ((Go.bits .and .i64 ((rd (rd_L5 l1 x7_1) x10_3) / 8) 31) * 8)) + x10_3), wrap64 ((wrap64 (x9_3 + 1)) + (Go.bits .and .i64 (rd (rd_L5 l1 x7_1) x10_3) 7)), wrap64 (1 + (Go.bits .and .i64 (rd (rd_L5 l1 x7_1) x10_3) 1073741823))⟩ : S59))
                            (case aB => exact (by repeat (first | (with_reducible first | exact HB.out | apply below_alloc | apply pw_below_drewN | apply below_drew1 | refine below_set ?_ GE302.out) | exact HB.out)))
                            (case aF => exact (fun _ _ => trivial))
                            (case aO => exact (by (with_reducible repeat (first | apply Kd.R_alloc | apply Kd.R_drewN | apply Kd.R_drew)); exact HO_303001.out))
                            (case aS => exact (below_size (by repeat (first | (with_reducible first | exact HB.out | apply below_alloc | apply pw_below_drewN | apply below_drew1 | refine below_set ?_ GE302.out) | exact HB.out))))
                            (case aL => have := LMc13.out; omega)
                            intro v311 w15 ho hb hg hat
                            rw [← Ny310.out] at ho
                            have n0_ := Aside0.mk (Kd.S_after (ok := (fun k_ => k_ ≠ gb302)) (by (with_reducible repeat (first | apply Kd.S_alloc | apply Kd.S_drewN | apply Kd.S_drew)); exact Kd.S_mono HO_5.out (fun _ hk => ⟨hk.2, hk.1⟩)) hg hat)
                            have n1_ := Aside0.mk (blk_grown (g := gb302) (o := .cells #[.int .i64 (wrap64 ((Go.bits .and .i64 a0 1073741823) + x7_1)), u303001] 57 (0, 0)) (by (with_reducible repeat (first | refine blk_drewN ?_ _ | refine blk_drew ?_ | refine blk_alloc ?_ _)); exact BK302.out) hg (Kd.R_ne HO_303001.out BK302.out (by decide)))
                            have n2_ := Aside0.mk (hb)
                            have n3_ := Aside0.mk (ho)
                            clear HO_5
                            clear BK302
                            clear HB
                            clear HO_303001
                            have HO_5 := n0_
                            have BK302 := n1_
                            have HB := n2_
                            have HO312 := n3_
                            clear n0_ n1_ n2_ n3_
                            clear ho hb hg hat
                            obtain ⟨Ao16, co16, eo16⟩ := Kd.R_slice HO312.out
                            (first | subst eo16 | (injection eo16 with f1_ f2_ f3_; have f4_ := f1_.symm; have f5_ := f3_.symm; clear f1_ f2_ f3_; subst f4_; subst f5_))
                            refine hK.out _ _ ⟨(blk_cell BK302.out 0).trans rfl, (blk_cell BK302.out 1).trans rfl, ((HB.out.cell (World.block_lt_of_cell? w _ hw308_0)).trans hw308_0), ((HB.out.cell (World.block_lt_of_cell? w _ hw309_0)).trans hw309_0)⟩ (fun hHeld => ?_)
                            clear hK K
                            refine norm_ (a' := ?_) ?_ ?_
                            rotate_left
                            · show Act.put _ (some 79) _ = _
                              simp only [Act.put, List.setIfInBounds_toArray, List.set_cons_zero, List.set_cons_succ, i64_w, i32_w]
                              rfl
                            refine pure_ (i := 16) (N := some 80) (v := ?_) (a' := ?_) #[true, true, true, true, true, true, true, true, true, true, true, true, true, true, true, true, true, false] rfl rfl (any_of HT_.out (by kernel_rfl)) (fun _ _ _ h => h) (Or.inl ⟨by rfl, ?_⟩) ?_ ?_
                            rotate_left
                            · intro w'
                              go_simp
                              with_reducible rfl
                            rotate_left
                            · simp only [Act.put, List.setIfInBounds_toArray, List.set_cons_zero, List.set_cons_succ, i64_w, i32_w]
                              rfl
                            refine last_ (i := 17) (N := none) #[true, true, true, true, true, true, true, true, true, true, true, true, true, true, true, true, true, true] rfl rfl (one_of HT_.out (by kernel_rfl)) (by decide) (fun K hK => ?_)
                            have hs17 : w15.cell? ⟨gb302, 1, none⟩ = some (u303001) := (blk_cell BK302.out 1).trans rfl
                            have hfs17 := blk_frozen BK302.out 1
                            refine skip_ (w1 := ?_) (by rfl) rfl ?_ ?_
                            rotate_left
                            · go_simp
                              rfl
                            refine hK.out _ _ ?_
                            clear hK K
                            refine done_ (done_of HT_.out (by kernel_rfl)) ?_
                            try go_wp2
                            go_roundg k3
                            case measure => have := HK1.out; have := HJ2.out; have := HK3.out; omega
                            case rel => exact ⟨(wrap64 ((wrap64 (x9_3 + 1)) + (Go.bits .and .i64 (rd (rd_L5 l1 x7_1) x10_3) 7))), (wrap64 (x10_3 + 1)), (y310), (.slice Ao16 y310.length co16), (by first | rfl | (simp; done) | (simp [*]; done)), (by first | rfl | (simp; done) | (simp [*]; done)), H', ⟨by have := HK1.out; have := HJ2.out; have := HK3.out; omega⟩, ⟨by (with_reducible repeat (first | apply Kd.S_alloc | apply Kd.S_drewN | apply Kd.S_drew)); exact Kd.S_mono (Kd.S_far (p := ⟨gb302, 1, none⟩) (Kd.S_mono HO_5.out (fun k_ hk => (⟨hk, hk.1⟩ : _ ∧ k_ ≠ gb302))) (fun _ hk => hk.2) (.slice Ao16 y310.length co16)) (fun _ hk => ⟨hk.1.2, hk.1.1⟩)⟩, ⟨by (with_reducible repeat (first | apply Kd.R_alloc | apply Kd.R_drewN | apply Kd.R_drew)); exact Kd.R_mono (Kd.R_far (p := ⟨gb302, 1, none⟩) (Kd.R_types HO312.out BK302.out (by decide)) (fun _ hk => hk.2) (.slice Ao16 y310.length co16)) (fun _ hk => trivial)⟩, ⟨by (with_reducible repeat (first | refine blk_drewN ?_ _ | refine blk_drew ?_ | refine blk_alloc ?_ _)); refine blk_put (cs := #[.int .i64 (wrap64 ((Go.bits .and .i64 a0 1073741823) + x7_1)), u303001]) ?_ 1 _ rfl; (with_reducible repeat (first | refine blk_drewN ?_ _ | refine blk_drew ?_ | refine blk_alloc ?_ _)); exact BK302.out⟩, ⟨by repeat (first | (with_reducible first | exact HB.out | apply below_alloc | apply pw_below_drewN | apply below_drew1 | refine below_set ?_ GE302.out) | exact HB.out)⟩⟩
                          · rw [if_neg c13] at H
                            exact absurd H (by simp)
                        · rw [if_neg c12] at H
                          exact absurd H (by simp)
                      · rw [if_neg c11] at H
                        have c11b0 : decide (x10_3 < 8) = false := decide_eq_false c11
                        clear c11
                        by_cases c18 : x5_1.length < 4398046511104
                        · rw [if_pos c18] at H
                          have LMc18 := Aside0.mk c18
                          clear c18
                          obtain ⟨y313, hy313⟩ : ∃ y_ : List (S57), y_ = (x5_1 ++ [(⟨(wrap64 ((Go.bits .and .i64 a0 1073741823) + x7_1)), x303001_3⟩ : S57)]) := ⟨_, rfl⟩
                          replace H : (regattalaw16_made.l0 k3 l1 y313 (Go.bits .and .i64 a0 1073741823) (wrap64 (x7_1 + 1))) = some r := by first | (rw [hy313]; with_reducible exact H) | (have H2_ := (Option.bind_some _ _).symm.trans H; rw [hy313]; with_reducible exact H2_) | (have H2_ := (Option.bind_some _ _).symm.trans H; with_reducible exact H2_) | with_reducible exact H | (rw [hy313]; exact H) | exact H
                          have Ny313 := Aside0.mk hy313
                          clear hy313
                          have H' := Aside0.mk H
                          clear H
                          have p303 : 0 ≤ (x7_1 : Int) := of_decide_eq_true (by first | (with_reducible assumption) | assumption)
                          have q303 : x7_1 < (l1.length : Int) := of_decide_eq_true (by first | (with_reducible assumption) | assumption)
                          obtain ⟨ad303, A303_0, c303_0, e303, hx303_0, hl303_0, hi303_0⟩ := at_L5 HR1.out x7_1 p303 q303
                          cases e303
                          replace hx303_0 := (HB.out.cell (World.block_lt_of_cell? w _ hx303_0)).trans hx303_0
                          have HR303_0 := Aside0.mk hi303_0
                          have HC303_0 := Aside0.mk hl303_0
                          clear hi303_0 hl303_0
                          replace p303 := eq_true p303
                          replace q303 := eq_true q303
                          have hcz19_0 : wr.cell? ⟨gb302, 0, none⟩ = some (.int .i64 (wrap64 ((Go.bits .and .i64 a0 1073741823) + x7_1))) := (blk_cell BK302.out 0).trans rfl
                          have hcz19_1 : wr.cell? ⟨gb302, 1, none⟩ = some (u303001) := (blk_cell BK302.out 1).trans rfl
                          have hfz19_0 := blk_frozen BK302.out 0
                          have hfz19_1 := blk_frozen BK302.out 1
                          obtain ⟨Ao21, co21, eo21⟩ := Kd.R_slice HO_303001.out
                          subst eo21
                          go_wp2_with (first | ((with_reducible refine gate_builtin (b := .append) (xs := #[.tmp 81, .tmp 83]) rfl ?_); at_builtin; refine Kd.S_append k57 (w0 := w) w.heap.size rfl (.tmp 81) (.tmp 83) 22 57 (.agg #[(.int .i64 0), (.slice none 0 0)]) 32 rfl Try.underlying22 info57 rfl (by decide) (by omega) u5 x5_1 (⟨(wrap64 ((Go.bits .and .i64 a0 1073741823) + x7_1)), x303001_3⟩ : S57) [.int .i64 (wrap64 ((Go.bits .and .i64 a0 1073741823) + x7_1)), .slice Ao21 x303001_3.length co21] (fun k_ => k_ ≠ gb302) (fun k_ => some k_ = (.slice Ao21 x303001_3.length co21 : Value).ownBlock) rfl rfl ?aP (fun k_ hk_ => ((Kd.R_mono (ok' := fun k_ => ((fun k_ => k_ ≠ gb302)) k_ ∧ some k_ ≠ (u5 : Value).ownBlock) (Kd.R_types (Kd.R_apart' (HO_303001.out) (Kd.S_typed HO_5.out) (by decide)) BK302.out (by decide)) (fun k_ hk => ⟨hk.2, hk.1.2⟩))).1 k_ hk_.symm) ?aF ?aO ?aB ?aS ?aL ?_; (case aP => exact k57_mkM _ _ _ (⟨(wrap64 ((Go.bits .and .i64 a0 1073741823) + x7_1)), x303001_3⟩ : S57) (Kd.R_mono (Kd.R_tight rfl (Kd.R_mono (ok' := fun k_ => ((fun k_ => k_ ≠ gb302)) k_ ∧ some k_ ≠ (u5 : Value).ownBlock) (Kd.R_types (Kd.R_apart' (HO_303001.out) (Kd.S_typed HO_5.out) (by decide)) BK302.out (by decide)) (fun k_ hk => ⟨hk.2, hk.1.2⟩))) (fun _ h_ => h_))); (case aB => exact (by repeat (first | (with_reducible first | exact HB.out | apply below_alloc | apply pw_below_drewN | apply below_drew1 | refine below_set ?_ GE302.out) | exact HB.out))); (case aF => exact (fun k_ hk => Kd.freshB (g := gb302) (o := .cells #[.int .i64 (wrap64 ((Go.bits .and .i64 a0 1073741823) + x7_1)), .slice Ao21 x303001_3.length co21] 57 (0, 0)) (by (with_reducible repeat (first | refine blk_drewN ?_ _ | refine blk_drew ?_ | refine blk_alloc ?_ _)); exact BK302.out) k_ hk)); (case aO => exact (by (with_reducible repeat (first | apply Kd.S_alloc | apply Kd.S_drewN | apply Kd.S_drew)); exact Kd.S_mono HO_5.out (fun k_ hk => ⟨hk.2, fun e_ => hk.1 e_⟩))); (case aS => exact (below_size (by repeat (first | (with_reducible first | exact HB.out | apply below_alloc | apply pw_below_drewN | apply below_drew1 | refine below_set ?_ GE302.out) | exact HB.out)))); (case aL => have := LMc18.out; omega); intro v314 w20 ho hb hg hat; rw [← Ny313.out] at ho; have n0_ := Aside0.mk (blk_grown (g := gb302) (o := .cells #[.int .i64 (wrap64 ((Go.bits .and .i64 a0 1073741823) + x7_1)), .slice Ao21 x303001_3.length co21] 57 (0, 0)) (by (with_reducible repeat (first | refine blk_drewN ?_ _ | refine blk_drew ?_ | refine blk_alloc ?_ _)); exact BK302.out) hg (Kd.S_away HO_5.out (fun _ hk => hk.2))); have n1_ := Aside0.mk (hb); have n2_ := Aside0.mk (ho); clear BK302; clear HB; clear HO_5; clear HO_303001; have BK302 := n0_; have HB := n1_; have HO315 := n2_; clear n0_ n1_ n2_; clear ho hb hg hat))
                          go_roundg k3
                          case measure => have := HK1.out; have := HJ2.out; have := HK3.out; omega
                          case rel => exact ⟨(y313), (wrap64 (x7_1 + 1)), (by first | rfl | (simp; done) | (simp [*]; done)), H', ⟨by have := HK1.out; have := HJ2.out; have := HK3.out; omega⟩, ⟨by (with_reducible repeat (first | apply Kd.S_alloc | apply Kd.S_drewN | apply Kd.S_drew)); exact Kd.S_mono HO315.out (fun _ hk => trivial)⟩, ⟨by repeat (first | (with_reducible first | exact HB.out | apply below_alloc | apply pw_below_drewN | apply below_drew1 | refine below_set ?_ GE302.out) | exact HB.out)⟩⟩
                        · rw [if_neg c18] at H
                          exact absurd H (by simp)
                    · rw [if_neg c10] at H
                      have c10b0 : decide (x10_3 < ((rd_L5 l1 x7_1).length : Int)) = false := decide_eq_false c10
                      clear c10
                      by_cases c22 : x5_1.length < 4398046511104
                      · rw [if_pos c22] at H
                        have LMc22 := Aside0.mk c22
                        clear c22
                        obtain ⟨y316, hy316⟩ : ∃ y_ : List (S57), y_ = (x5_1 ++ [(⟨(wrap64 ((Go.bits .and .i64 a0 1073741823) + x7_1)), x303001_3⟩ : S57)]) := ⟨_, rfl⟩
                        replace H : (regattalaw16_made.l0 k3 l1 y316 (Go.bits .and .i64 a0 1073741823) (wrap64 (x7_1 + 1))) = some r := by first | (rw [hy316]; with_reducible exact H) | (have H2_ := (Option.bind_some _ _).symm.trans H; rw [hy316]; with_reducible exact H2_) | (have H2_ := (Option.bind_some _ _).symm.trans H; with_reducible exact H2_) | with_reducible exact H | (rw [hy316]; exact H) | exact H
                        have Ny316 := Aside0.mk hy316
                        clear hy316
                        have H' := Aside0.mk H
                        clear H
                        have p303 : 0 ≤ (x7_1 : Int) := of_decide_eq_true (by first | (with_reducible assumption) | assumption)
                        have q303 : x7_1 < (l1.length : Int) := of_decide_eq_true (by first | (with_reducible assumption) | assumption)
                        obtain ⟨ad303, A303_0, c303_0, e303, hx303_0, hl303_0, hi303_0⟩ := at_L5 HR1.out x7_1 p303 q303
                        cases e303
                        replace hx303_0 := (HB.out.cell (World.block_lt_of_cell? w _ hx303_0)).trans hx303_0
                        have HR303_0 := Aside0.mk hi303_0
                        have HC303_0 := Aside0.mk hl303_0
                        clear hi303_0 hl303_0
                        replace p303 := eq_true p303
                        replace q303 := eq_true q303
                        have hcz23_0 : wr.cell? ⟨gb302, 0, none⟩ = some (.int .i64 (wrap64 ((Go.bits .and .i64 a0 1073741823) + x7_1))) := (blk_cell BK302.out 0).trans rfl
                        have hcz23_1 : wr.cell? ⟨gb302, 1, none⟩ = some (u303001) := (blk_cell BK302.out 1).trans rfl
                        have hfz23_0 := blk_frozen BK302.out 0
                        have hfz23_1 := blk_frozen BK302.out 1
                        obtain ⟨Ao25, co25, eo25⟩ := Kd.R_slice HO_303001.out
                        subst eo25
                        go_wp2_with (first | ((with_reducible refine gate_builtin (b := .append) (xs := #[.tmp 81, .tmp 83]) rfl ?_); at_builtin; refine Kd.S_append k57 (w0 := w) w.heap.size rfl (.tmp 81) (.tmp 83) 22 57 (.agg #[(.int .i64 0), (.slice none 0 0)]) 32 rfl Try.underlying22 info57 rfl (by decide) (by omega) u5 x5_1 (⟨(wrap64 ((Go.bits .and .i64 a0 1073741823) + x7_1)), x303001_3⟩ : S57) [.int .i64 (wrap64 ((Go.bits .and .i64 a0 1073741823) + x7_1)), .slice Ao25 x303001_3.length co25] (fun k_ => k_ ≠ gb302) (fun k_ => some k_ = (.slice Ao25 x303001_3.length co25 : Value).ownBlock) rfl rfl ?aP (fun k_ hk_ => ((Kd.R_mono (ok' := fun k_ => ((fun k_ => k_ ≠ gb302)) k_ ∧ some k_ ≠ (u5 : Value).ownBlock) (Kd.R_types (Kd.R_apart' (HO_303001.out) (Kd.S_typed HO_5.out) (by decide)) BK302.out (by decide)) (fun k_ hk => ⟨hk.2, hk.1.2⟩))).1 k_ hk_.symm) ?aF ?aO ?aB ?aS ?aL ?_; (case aP => exact k57_mkM _ _ _ (⟨(wrap64 ((Go.bits .and .i64 a0 1073741823) + x7_1)), x303001_3⟩ : S57) (Kd.R_mono (Kd.R_tight rfl (Kd.R_mono (ok' := fun k_ => ((fun k_ => k_ ≠ gb302)) k_ ∧ some k_ ≠ (u5 : Value).ownBlock) (Kd.R_types (Kd.R_apart' (HO_303001.out) (Kd.S_typed HO_5.out) (by decide)) BK302.out (by decide)) (fun k_ hk => ⟨hk.2, hk.1.2⟩))) (fun _ h_ => h_))); (case aB => exact (by repeat (first | (with_reducible first | exact HB.out | apply below_alloc | apply pw_below_drewN | apply below_drew1 | refine below_set ?_ GE302.out) | exact HB.out))); (case aF => exact (fun k_ hk => Kd.freshB (g := gb302) (o := .cells #[.int .i64 (wrap64 ((Go.bits .and .i64 a0 1073741823) + x7_1)), .slice Ao25 x303001_3.length co25] 57 (0, 0)) (by (with_reducible repeat (first | refine blk_drewN ?_ _ | refine blk_drew ?_ | refine blk_alloc ?_ _)); exact BK302.out) k_ hk)); (case aO => exact (by (with_reducible repeat (first | apply Kd.S_alloc | apply Kd.S_drewN | apply Kd.S_drew)); exact Kd.S_mono HO_5.out (fun k_ hk => ⟨hk.2, fun e_ => hk.1 e_⟩))); (case aS => exact (below_size (by repeat (first | (with_reducible first | exact HB.out | apply below_alloc | apply pw_below_drewN | apply below_drew1 | refine below_set ?_ GE302.out) | exact HB.out)))); (case aL => have := LMc22.out; omega); intro v317 w24 ho hb hg hat; rw [← Ny316.out] at ho; have n0_ := Aside0.mk (blk_grown (g := gb302) (o := .cells #[.int .i64 (wrap64 ((Go.bits .and .i64 a0 1073741823) + x7_1)), .slice Ao25 x303001_3.length co25] 57 (0, 0)) (by (with_reducible repeat (first | refine blk_drewN ?_ _ | refine blk_drew ?_ | refine blk_alloc ?_ _)); exact BK302.out) hg (Kd.S_away HO_5.out (fun _ hk => hk.2))); have n1_ := Aside0.mk (hb); have n2_ := Aside0.mk (ho); clear BK302; clear HB; clear HO_5; clear HO_303001; have BK302 := n0_; have HB := n1_; have HO318 := n2_; clear n0_ n1_ n2_; clear ho hb hg hat))
                        go_roundg k3
                        case measure => have := HK1.out; have := HJ2.out; have := HK3.out; omega
                        case rel => exact ⟨(y316), (wrap64 (x7_1 + 1)), (by first | rfl | (simp; done) | (simp [*]; done)), H', ⟨by have := HK1.out; have := HJ2.out; have := HK3.out; omega⟩, ⟨by (with_reducible repeat (first | apply Kd.S_alloc | apply Kd.S_drewN | apply Kd.S_drew)); exact Kd.S_mono HO318.out (fun _ hk => trivial)⟩, ⟨by repeat (first | (with_reducible first | exact HB.out | apply below_alloc | apply pw_below_drewN | apply below_drew1 | refine below_set ?_ GE302.out) | exact HB.out)⟩⟩
                      · rw [if_neg c22] at H
                        exact absurd H (by simp)
                  · rw [if_neg c9] at H
                    exact absurd H (by simp)
                · rw [if_neg c8] at H
                  exact absurd H (by simp)
          · replace c5 := Bool.eq_false_iff.mpr c5
            subst c5
            have H1 : (some x5_1) = some r := by rw [if_neg (show ¬ (false = true) by decide)] at H; exact H
            clear H
            have H := H1
            clear H1
            obtain rfl := Option.some.inj H
            go_wp2
            go_ret
            exact ⟨_, by first | rfl | (simp [errW_none, errW_some] <;> rfl) | (simp [*, errW_none, errW_some] <;> rfl), by (with_reducible repeat (first | apply Kd.S_alloc | apply Kd.S_drewN | apply Kd.S_drew)); exact HO_5.out, by repeat (first | (with_reducible first | exact HB.out | apply below_alloc | apply pw_below_drewN | apply below_drew1) | exact HB.out)⟩

end Go.Proofs.Ytlblianpbjhmoaa.PGs
