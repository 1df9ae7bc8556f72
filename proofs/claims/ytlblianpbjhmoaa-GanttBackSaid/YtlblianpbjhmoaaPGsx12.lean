-- Written by wip/rprint.py of this session's repo (the kit's printer with patches), out of the translation. Not trusted: Lean checks it.
import Derived.Test.YtlblianpbjhmoaaPGsx0
import Derived.Test.YtlblianpbjhmoaaPGsx11
namespace Go.Proofs.Ytlblianpbjhmoaa.PGs
open Go.RowKit Go.Proofs.YtlblianpbjhmoaaW.PrintWords Go.Proofs.YtlblianpbjhmoaaW.PrintLast Go.Proofs.YtlblianpbjhmoaaW.PrintMore Go.Proofs.Ytlblianpbjhmoaa.MWords
attribute [local go_sem] max2_int min2_int max_two min_two max_three min_three max_four min_four   -- for this text's walks alone
set_option linter.unusedVariables false
set_option linter.unusedSimpArgs false

/-! ### regattaref16_Row: function 47 -/
def regattaref16_Row.l0 : Nat → List (S57) → Int → Int → Option (Bool)
  | 0, _, _, _ => none
  | k + 1, x0, x1, x5 => if x5 < (x0.length : Int) then (if 0 ≤ x5 then ((regattaref16_Check.f k ((rd_T57 x0 x5).f0) ((rd_T57 x0 x5).f1) x1).bind fun t126 => (if t126 = true then (if x5 > 0 then (if 0 ≤ (wrap64 (x5 - 1)) then (if (wrap64 (x5 - 1)) < (x0.length : Int) then (if ((rd_T57 x0 x5).f0) = (wrap64 (((rd_T57 x0 (wrap64 (x5 - 1))).f0) + 1)) then (regattaref16_Row.l0 k x0 x1 (wrap64 (x5 + 1))) else (some false)) else (none)) else (none)) else (regattaref16_Row.l0 k x0 x1 (wrap64 (x5 + 1)))) else (some false))) else (none)) else (some true)
def regattaref16_Row.f (k : Nat) (l0 : List (S57)) (a1 : Int) : Option (Bool) := regattaref16_Row.l0 k l0 a1 0
theorem regattaref16_Row.mono_l : ∀ k, (∀ y0 y1 y2, LeO (regattaref16_Row.l0 k y0 y1 y2) (regattaref16_Row.l0 (k + 1) y0 y1 y2))
  | 0 => fun _ _ _ r h => by simp [regattaref16_Row.l0] at h
  | k + 1 => by
    have ih0 := regattaref16_Row.mono_l k
    · intro y0 y1 y2
      unfold regattaref16_Row.l0
      repeat' first
      | (with_reducible exact ih0 _ _ _)
      | (with_reducible exact regattaref16_Check.mono _ _ _ _)
      | (with_reducible exact LeO.refl _)
      | (with_reducible exact LeO.none _)
      | (with_reducible refine LeO.ite ?_ ?_)
      | (with_reducible refine LeO.bind ?_ (fun _ => ?_))
      | exact ih0 _ _ _
      | exact regattaref16_Check.mono _ _ _ _
      | exact LeO.none _
      | refine LeO.ite ?_ ?_
      | refine LeO.bind ?_ (fun _ => ?_)
theorem regattaref16_Row.mono : ∀ a0 a1 k, LeO (regattaref16_Row.f k a0 a1) (regattaref16_Row.f (k + 1) a0 a1) := by
  intro a0 a1 k
  have ih0 := regattaref16_Row.mono_l k
  unfold regattaref16_Row.f
  repeat' first
      | (with_reducible exact ih0 _ _ _)
      | (with_reducible exact regattaref16_Check.mono _ _ _ _)
      | (with_reducible exact LeO.refl _)
      | (with_reducible exact LeO.none _)
      | (with_reducible refine LeO.ite ?_ ?_)
      | (with_reducible refine LeO.bind ?_ (fun _ => ?_))
      | exact ih0 _ _ _
      | exact regattaref16_Check.mono _ _ _ _
      | exact LeO.none _
      | refine LeO.ite ?_ ?_
      | refine LeO.bind ?_ (fun _ => ?_)
set_option maxHeartbeats 8000000 in
set_option maxRecDepth 100000 in
theorem regattaref16_Row.calls (k : Nat) (A0 : Option Addr) (c0 : Nat) (l0 : List (S57)) (a1 : Int) (r : Bool) (w : World) (hr0 : Kd.C k57 w A0 l0.length l0) (hc0 : l0.length ≤ c0) (h : regattaref16_Row.f k l0 a1 = some r) :
    Calls Try.prog 47 #[.slice A0 l0.length c0, .int .i64 a1] w fun e w' => e = .returned (.bool r) ∧ Below w.heap.size w w' := by
  have hu57 := Try.underlying57
  have HR0 := Aside0.mk hr0
  have HC0 := Aside0.mk hc0
  clear hr0 hc0
  have HB := Aside0.mk (Below.refl w.heap.size w)
  have H : (regattaref16_Row.l0 k l0 a1 0) = some r := h
  clear h
  have H' := Aside0.mk H
  clear H
  go_enter Try.func47, Try.ntmps47
  go_wp2
  repeat (go_quiet (fail); try go_wp2)
  go_loopg [5] k (fun kq v5 w' => ∃ (x5_1 : Int), v5 = .int .i64 x5_1 ∧ Aside0 (regattaref16_Row.l0 kq l0 a1 x5_1 = some r) ∧ Aside0 (kq ≤ k) ∧ Aside0 (Below w.heap.size w w'))
  case atStart => exact ⟨(0), (by first | rfl | (simp; done) | (simp [*]; done)), H', ⟨Nat.le_refl _⟩, ⟨by repeat (first | (with_reducible first | exact HB.out | apply below_alloc | apply pw_below_drewN | apply below_drew1) | exact HB.out)⟩⟩
  case round =>
    clear H'
    try clear p2
    obtain ⟨x5_1, rfl, HA, HK1, HB⟩ := hrel
    cases gk with
    | zero => exact absurd HA.out (by simp [regattaref16_Row.l0])
    | succ k1 =>
      have H := HA.out
      clear HA
      simp only [regattaref16_Row.l0] at H
      by_cases c3 : x5_1 < (l0.length : Int)
      · rw [if_pos c3] at H
        have c3b0 : decide (x5_1 < (l0.length : Int)) = true := decide_eq_true c3
        clear c3
        by_cases c4 : 0 ≤ x5_1
        · rw [if_pos c4] at H
          have c4b0 : decide (0 ≤ x5_1) = true := decide_eq_true c4
          clear c4
          replace H := Option.bind_eq_some_iff.mp H
          obtain ⟨t126, A50, H⟩ := H
          replace H : (if t126 = true then (if x5_1 > 0 then (if 0 ≤ (wrap64 (x5_1 - 1)) then (if (wrap64 (x5_1 - 1)) < (l0.length : Int) then (if ((rd_T57 l0 x5_1).f0) = (wrap64 (((rd_T57 l0 (wrap64 (x5_1 - 1))).f0) + 1)) then (regattaref16_Row.l0 k1 l0 a1 (wrap64 (x5_1 + 1))) else (some false)) else (none)) else (none)) else (regattaref16_Row.l0 k1 l0 a1 (wrap64 (x5_1 + 1)))) else (some false)) = some r := H
          have A5 := Aside0.mk A50
          clear A50
          by_cases c6 : t126 = true
          · subst c6
            have H1 : (if x5_1 > 0 then (if 0 ≤ (wrap64 (x5_1 - 1)) then (if (wrap64 (x5_1 - 1)) < (l0.length : Int) then (if ((rd_T57 l0 x5_1).f0) = (wrap64 (((rd_T57 l0 (wrap64 (x5_1 - 1))).f0) + 1)) then (regattaref16_Row.l0 k1 l0 a1 (wrap64 (x5_1 + 1))) else (some false)) else (none)) else (none)) else (regattaref16_Row.l0 k1 l0 a1 (wrap64 (x5_1 + 1)))) = some r := by rw [if_pos rfl] at H; exact H
            clear H
            have H := H1
            clear H1
            by_cases c7 : x5_1 > 0
            · rw [if_pos c7] at H
              have c7b0 : decide (0 < x5_1) = true := decide_eq_true c7
              clear c7
              obtain ⟨ji8, hji8⟩ : ∃ j_ : Int, (wrap64 (x5_1 - 1)) = j_ := ⟨_, rfl⟩
              replace H : (if 0 ≤ (ji8) then (if (ji8) < (l0.length : Int) then (if ((rd_T57 l0 x5_1).f0) = (wrap64 (((rd_T57 l0 (ji8)).f0) + 1)) then (regattaref16_Row.l0 k1 l0 a1 (wrap64 (x5_1 + 1))) else (some false)) else (none)) else (none)) = some r := by first | (rw [hji8] at H; exact H) | (simp only [hji8] at H ⊢; exact H)
              (try rw [hji8] at A5)
              have hji8w : (IntKind.i64.wrap (x5_1 - 1)) = ji8 := (i64_w _).trans hji8
              by_cases c9 : 0 ≤ (ji8)
              · rw [if_pos c9] at H
                have c9b0 : decide (0 ≤ (ji8)) = true := decide_eq_true c9
                clear c9
                by_cases c10 : (ji8) < (l0.length : Int)
                · rw [if_pos c10] at H
                  have c10b0 : decide ((ji8) < (l0.length : Int)) = true := decide_eq_true c10
                  clear c10
                  by_cases c11 : ((rd_T57 l0 x5_1).f0) = (wrap64 (((rd_T57 l0 (ji8)).f0) + 1))
                  · rw [if_pos c11] at H
                    have c11b0 : (((rd_T57 l0 x5_1).f0) == (wrap64 (((rd_T57 l0 (ji8)).f0) + 1))) = true := beq_iff_eq.mpr c11
                    have c11b1 : (((rd_T57 l0 x5_1).f0) != (wrap64 (((rd_T57 l0 (ji8)).f0) + 1))) = false := bne_eq_false_iff_eq.mpr c11
                    clear c11
                    have H' := Aside0.mk H
                    clear H
                    have p125 : 0 ≤ (x5_1 : Int) := of_decide_eq_true (by first | (with_reducible assumption) | assumption)
                    have q125 : x5_1 < (l0.length : Int) := of_decide_eq_true (by first | (with_reducible assumption) | assumption)
                    obtain ⟨ad125, A125_1, c125_1, e125, hx125_0, hx125_1, hl125_1, hi125_1⟩ := at_T57 HR0.out x5_1 p125 q125
                    cases e125
                    replace hx125_0 := (HB.out.cell (World.block_lt_of_cell? w _ hx125_0)).trans hx125_0
                    replace hx125_1 := (HB.out.cell (World.block_lt_of_cell? w _ hx125_1)).trans hx125_1
                    have HR125_1 := Aside0.mk hi125_1
                    have HC125_1 := Aside0.mk hl125_1
                    clear hi125_1 hl125_1
                    replace p125 := eq_true p125
                    replace q125 := eq_true q125
                    go_wp2_with (first | (go_at_call 49; (with_reducible refine (regattaref16_Check.calls k1 ((rd_T57 l0 x5_1).f0) _ _ ((rd_T57 l0 x5_1).f1) a1 true _ ?side1 ?side2 A5.out).mono ?_); (case side1 => repeat (first | exact (Kd.C_below HR125_1.out HB.out) | (with_reducible refine Kd.C_alloc ?_ _) | (with_reducible refine Kd.C_drewN ?_ _) | (with_reducible refine Kd.C_drew ?_))); (case side2 => exact HC125_1.out); rintro e w12 ⟨rfl, hb⟩; have n0_ := Aside0.mk (below_step (by repeat (first | (with_reducible first | exact HB.out | apply below_alloc | apply pw_below_drewN | apply below_drew1) | exact HB.out)) hb); clear HB; have HB := n0_; clear n0_; (try clear hb); (try clear hb2); (try clear hk); (try clear hi); have p127 : 0 ≤ (x5_1 : Int) := of_decide_eq_true (by first | (with_reducible assumption) | assumption); have q127 : x5_1 < (l0.length : Int) := of_decide_eq_true (by first | (with_reducible assumption) | assumption); obtain ⟨ad127, A127_1, c127_1, e127, hx127_0, hx127_1, hl127_1, hi127_1⟩ := at_T57 HR0.out x5_1 p127 q127; obtain rfl : ad125 = ad127 := (by injection e127); replace hx127_0 := (HB.out.cell (World.block_lt_of_cell? w _ hx127_0)).trans hx127_0; replace hx127_1 := (HB.out.cell (World.block_lt_of_cell? w _ hx127_1)).trans hx127_1; have HR127_1 := Aside0.mk hi127_1; have HC127_1 := Aside0.mk hl127_1; clear hi127_1 hl127_1; replace p127 := eq_true p127; replace q127 := eq_true q127; have p128 : 0 ≤ ((ji8) : Int) := of_decide_eq_true (by first | (with_reducible assumption) | assumption); have q128 : (ji8) < (l0.length : Int) := of_decide_eq_true (by first | (with_reducible assumption) | assumption); obtain ⟨ad128, A128_1, c128_1, e128, hx128_0, hx128_1, hl128_1, hi128_1⟩ := at_T57 HR0.out (ji8) p128 q128; obtain rfl : ad125 = ad128 := (by injection e128); replace hx128_0 := (HB.out.cell (World.block_lt_of_cell? w _ hx128_0)).trans hx128_0; replace hx128_1 := (HB.out.cell (World.block_lt_of_cell? w _ hx128_1)).trans hx128_1; have HR128_1 := Aside0.mk hi128_1; have HC128_1 := Aside0.mk hl128_1; clear hi128_1 hl128_1; replace p128 := eq_true p128; replace q128 := eq_true q128))
                    repeat (go_quiet (first | (go_at_call 49; (with_reducible refine (regattaref16_Check.calls k1 ((rd_T57 l0 x5_1).f0) _ _ ((rd_T57 l0 x5_1).f1) a1 true _ ?side1 ?side2 A5.out).mono ?_); (case side1 => repeat (first | exact (Kd.C_below HR125_1.out HB.out) | (with_reducible refine Kd.C_alloc ?_ _) | (with_reducible refine Kd.C_drewN ?_ _) | (with_reducible refine Kd.C_drew ?_))); (case side2 => exact HC125_1.out); rintro e w12 ⟨rfl, hb⟩; have n0_ := Aside0.mk (below_step (by repeat (first | (with_reducible first | exact HB.out | apply below_alloc | apply pw_below_drewN | apply below_drew1) | exact HB.out)) hb); clear HB; have HB := n0_; clear n0_; (try clear hb); (try clear hb2); (try clear hk); (try clear hi); have p127 : 0 ≤ (x5_1 : Int) := of_decide_eq_true (by first | (with_reducible assumption) | assumption); have q127 : x5_1 < (l0.length : Int) := of_decide_eq_true (by first | (with_reducible assumption) | assumption); obtain ⟨ad127, A127_1, c127_1, e127, hx127_0, hx127_1, hl127_1, hi127_1⟩ := at_T57 HR0.out x5_1 p127 q127; obtain rfl : ad125 = ad127 := (by injection e127); replace hx127_0 := (HB.out.cell (World.block_lt_of_cell? w _ hx127_0)).trans hx127_0; replace hx127_1 := (HB.out.cell (World.block_lt_of_cell? w _ hx127_1)).trans hx127_1; have HR127_1 := Aside0.mk hi127_1; have HC127_1 := Aside0.mk hl127_1; clear hi127_1 hl127_1; replace p127 := eq_true p127; replace q127 := eq_true q127; have p128 : 0 ≤ ((ji8) : Int) := of_decide_eq_true (by first | (with_reducible assumption) | assumption); have q128 : (ji8) < (l0.length : Int) := of_decide_eq_true (by first | (with_reducible assumption) | assumption); obtain ⟨ad128, A128_1, c128_1, e128, hx128_0, hx128_1, hl128_1, hi128_1⟩ := at_T57 HR0.out (ji8) p128 q128; obtain rfl : ad125 = ad128 := (by injection e128); replace hx128_0 := (HB.out.cell (World.block_lt_of_cell? w _ hx128_0)).trans hx128_0; replace hx128_1 := (HB.out.cell (World.block_lt_of_cell? w _ hx128_1)).trans hx128_1; have HR128_1 := Aside0.mk hi128_1; have HC128_1 := Aside0.mk hl128_1; clear hi128_1 hl128_1; replace p128 := eq_true p128; replace q128 := eq_true q128)); try go_wp2_with (first | (go_at_call 49; (with_reducible refine (regattaref16_Check.calls k1 ((rd_T57 l0 x5_1).f0) _ _ ((rd_T57 l0 x5_1).f1) a1 true _ ?side1 ?side2 A5.out).mono ?_); (case side1 => repeat (first | exact (Kd.C_below HR125_1.out HB.out) | (with_reducible refine Kd.C_alloc ?_ _) | (with_reducible refine Kd.C_drewN ?_ _) | (with_reducible refine Kd.C_drew ?_))); (case side2 => exact HC125_1.out); rintro e w12 ⟨rfl, hb⟩; have n0_ := Aside0.mk (below_step (by repeat (first | (with_reducible first | exact HB.out | apply below_alloc | apply pw_below_drewN | apply below_drew1) | exact HB.out)) hb); clear HB; have HB := n0_; clear n0_; (try clear hb); (try clear hb2); (try clear hk); (try clear hi); have p127 : 0 ≤ (x5_1 : Int) := of_decide_eq_true (by first | (with_reducible assumption) | assumption); have q127 : x5_1 < (l0.length : Int) := of_decide_eq_true (by first | (with_reducible assumption) | assumption); obtain ⟨ad127, A127_1, c127_1, e127, hx127_0, hx127_1, hl127_1, hi127_1⟩ := at_T57 HR0.out x5_1 p127 q127; obtain rfl : ad125 = ad127 := (by injection e127); replace hx127_0 := (HB.out.cell (World.block_lt_of_cell? w _ hx127_0)).trans hx127_0; replace hx127_1 := (HB.out.cell (World.block_lt_of_cell? w _ hx127_1)).trans hx127_1; have HR127_1 := Aside0.mk hi127_1; have HC127_1 := Aside0.mk hl127_1; clear hi127_1 hl127_1; replace p127 := eq_true p127; replace q127 := eq_true q127; have p128 : 0 ≤ ((ji8) : Int) := of_decide_eq_true (by first | (with_reducible assumption) | assumption); have q128 : (ji8) < (l0.length : Int) := of_decide_eq_true (by first | (with_reducible assumption) | assumption); obtain ⟨ad128, A128_1, c128_1, e128, hx128_0, hx128_1, hl128_1, hi128_1⟩ := at_T57 HR0.out (ji8) p128 q128; obtain rfl : ad125 = ad128 := (by injection e128); replace hx128_0 := (HB.out.cell (World.block_lt_of_cell? w _ hx128_0)).trans hx128_0; replace hx128_1 := (HB.out.cell (World.block_lt_of_cell? w _ hx128_1)).trans hx128_1; have HR128_1 := Aside0.mk hi128_1; have HC128_1 := Aside0.mk hl128_1; clear hi128_1 hl128_1; replace p128 := eq_true p128; replace q128 := eq_true q128)))
                    go_roundg k1
                    case measure => have := HK1.out; omega
                    case rel => exact ⟨(wrap64 (x5_1 + 1)), (by first | rfl | (simp; done) | (simp [*]; done)), H', ⟨by have := HK1.out; omega⟩, ⟨by repeat (first | (with_reducible first | exact HB.out | apply below_alloc | apply pw_below_drewN | apply below_drew1) | exact HB.out)⟩⟩
                  · rw [if_neg c11] at H
                    have c11b0 : (((rd_T57 l0 x5_1).f0) == (wrap64 (((rd_T57 l0 (ji8)).f0) + 1))) = false := beq_eq_false_iff_ne.mpr c11
                    have c11b1 : (((rd_T57 l0 x5_1).f0) != (wrap64 (((rd_T57 l0 (ji8)).f0) + 1))) = true := bne_iff_ne.mpr c11
                    obtain rfl := Option.some.inj H
                    have p125 : 0 ≤ (x5_1 : Int) := of_decide_eq_true (by first | (with_reducible assumption) | assumption)
                    have q125 : x5_1 < (l0.length : Int) := of_decide_eq_true (by first | (with_reducible assumption) | assumption)
                    obtain ⟨ad125, A125_1, c125_1, e125, hx125_0, hx125_1, hl125_1, hi125_1⟩ := at_T57 HR0.out x5_1 p125 q125
                    cases e125
                    replace hx125_0 := (HB.out.cell (World.block_lt_of_cell? w _ hx125_0)).trans hx125_0
                    replace hx125_1 := (HB.out.cell (World.block_lt_of_cell? w _ hx125_1)).trans hx125_1
                    have HR125_1 := Aside0.mk hi125_1
                    have HC125_1 := Aside0.mk hl125_1
                    clear hi125_1 hl125_1
                    replace p125 := eq_true p125
                    replace q125 := eq_true q125
                    go_wp2_with (first | (go_at_call 49; (with_reducible refine (regattaref16_Check.calls k1 ((rd_T57 l0 x5_1).f0) _ _ ((rd_T57 l0 x5_1).f1) a1 true _ ?side1 ?side2 A5.out).mono ?_); (case side1 => repeat (first | exact (Kd.C_below HR125_1.out HB.out) | (with_reducible refine Kd.C_alloc ?_ _) | (with_reducible refine Kd.C_drewN ?_ _) | (with_reducible refine Kd.C_drew ?_))); (case side2 => exact HC125_1.out); rintro e w13 ⟨rfl, hb⟩; have n0_ := Aside0.mk (below_step (by repeat (first | (with_reducible first | exact HB.out | apply below_alloc | apply pw_below_drewN | apply below_drew1) | exact HB.out)) hb); clear HB; have HB := n0_; clear n0_; (try clear hb); (try clear hb2); (try clear hk); (try clear hi); have p127 : 0 ≤ (x5_1 : Int) := of_decide_eq_true (by first | (with_reducible assumption) | assumption); have q127 : x5_1 < (l0.length : Int) := of_decide_eq_true (by first | (with_reducible assumption) | assumption); obtain ⟨ad127, A127_1, c127_1, e127, hx127_0, hx127_1, hl127_1, hi127_1⟩ := at_T57 HR0.out x5_1 p127 q127; obtain rfl : ad125 = ad127 := (by injection e127); replace hx127_0 := (HB.out.cell (World.block_lt_of_cell? w _ hx127_0)).trans hx127_0; replace hx127_1 := (HB.out.cell (World.block_lt_of_cell? w _ hx127_1)).trans hx127_1; have HR127_1 := Aside0.mk hi127_1; have HC127_1 := Aside0.mk hl127_1; clear hi127_1 hl127_1; replace p127 := eq_true p127; replace q127 := eq_true q127; have p128 : 0 ≤ ((ji8) : Int) := of_decide_eq_true (by first | (with_reducible assumption) | assumption); have q128 : (ji8) < (l0.length : Int) := of_decide_eq_true (by first | (with_reducible assumption) | assumption); obtain ⟨ad128, A128_1, c128_1, e128, hx128_0, hx128_1, hl128_1, hi128_1⟩ := at_T57 HR0.out (ji8) p128 q128; obtain rfl : ad125 = ad128 := (by injection e128); replace hx128_0 := (HB.out.cell (World.block_lt_of_cell? w _ hx128_0)).trans hx128_0; replace hx128_1 := (HB.out.cell (World.block_lt_of_cell? w _ hx128_1)).trans hx128_1; have HR128_1 := Aside0.mk hi128_1; have HC128_1 := Aside0.mk hl128_1; clear hi128_1 hl128_1; replace p128 := eq_true p128; replace q128 := eq_true q128))
                    repeat (go_quiet (first | (go_at_call 49; (with_reducible refine (regattaref16_Check.calls k1 ((rd_T57 l0 x5_1).f0) _ _ ((rd_T57 l0 x5_1).f1) a1 true _ ?side1 ?side2 A5.out).mono ?_); (case side1 => repeat (first | exact (Kd.C_below HR125_1.out HB.out) | (with_reducible refine Kd.C_alloc ?_ _) | (with_reducible refine Kd.C_drewN ?_ _) | (with_reducible refine Kd.C_drew ?_))); (case side2 => exact HC125_1.out); rintro e w13 ⟨rfl, hb⟩; have n0_ := Aside0.mk (below_step (by repeat (first | (with_reducible first | exact HB.out | apply below_alloc | apply pw_below_drewN | apply below_drew1) | exact HB.out)) hb); clear HB; have HB := n0_; clear n0_; (try clear hb); (try clear hb2); (try clear hk); (try clear hi); have p127 : 0 ≤ (x5_1 : Int) := of_decide_eq_true (by first | (with_reducible assumption) | assumption); have q127 : x5_1 < (l0.length : Int) := of_decide_eq_true (by first | (with_reducible assumption) | assumption); obtain ⟨ad127, A127_1, c127_1, e127, hx127_0, hx127_1, hl127_1, hi127_1⟩ := at_T57 HR0.out x5_1 p127 q127; obtain rfl : ad125 = ad127 := (by injection e127); replace hx127_0 := (HB.out.cell (World.block_lt_of_cell? w _ hx127_0)).trans hx127_0; replace hx127_1 := (HB.out.cell (World.block_lt_of_cell? w _ hx127_1)).trans hx127_1; have HR127_1 := Aside0.mk hi127_1; have HC127_1 := Aside0.mk hl127_1; clear hi127_1 hl127_1; replace p127 := eq_true p127; replace q127 := eq_true q127; have p128 : 0 ≤ ((ji8) : Int) := of_decide_eq_true (by first | (with_reducible assumption) | assumption); have q128 : (ji8) < (l0.length : Int) := of_decide_eq_true (by first | (with_reducible assumption) | assumption); obtain ⟨ad128, A128_1, c128_1, e128, hx128_0, hx128_1, hl128_1, hi128_1⟩ := at_T57 HR0.out (ji8) p128 q128; obtain rfl : ad125 = ad128 := (by injection e128); replace hx128_0 := (HB.out.cell (World.block_lt_of_cell? w _ hx128_0)).trans hx128_0; replace hx128_1 := (HB.out.cell (World.block_lt_of_cell? w _ hx128_1)).trans hx128_1; have HR128_1 := Aside0.mk hi128_1; have HC128_1 := Aside0.mk hl128_1; clear hi128_1 hl128_1; replace p128 := eq_true p128; replace q128 := eq_true q128)); try go_wp2_with (first | (go_at_call 49; (with_reducible refine (regattaref16_Check.calls k1 ((rd_T57 l0 x5_1).f0) _ _ ((rd_T57 l0 x5_1).f1) a1 true _ ?side1 ?side2 A5.out).mono ?_); (case side1 => repeat (first | exact (Kd.C_below HR125_1.out HB.out) | (with_reducible refine Kd.C_alloc ?_ _) | (with_reducible refine Kd.C_drewN ?_ _) | (with_reducible refine Kd.C_drew ?_))); (case side2 => exact HC125_1.out); rintro e w13 ⟨rfl, hb⟩; have n0_ := Aside0.mk (below_step (by repeat (first | (with_reducible first | exact HB.out | apply below_alloc | apply pw_below_drewN | apply below_drew1) | exact HB.out)) hb); clear HB; have HB := n0_; clear n0_; (try clear hb); (try clear hb2); (try clear hk); (try clear hi); have p127 : 0 ≤ (x5_1 : Int) := of_decide_eq_true (by first | (with_reducible assumption) | assumption); have q127 : x5_1 < (l0.length : Int) := of_decide_eq_true (by first | (with_reducible assumption) | assumption); obtain ⟨ad127, A127_1, c127_1, e127, hx127_0, hx127_1, hl127_1, hi127_1⟩ := at_T57 HR0.out x5_1 p127 q127; obtain rfl : ad125 = ad127 := (by injection e127); replace hx127_0 := (HB.out.cell (World.block_lt_of_cell? w _ hx127_0)).trans hx127_0; replace hx127_1 := (HB.out.cell (World.block_lt_of_cell? w _ hx127_1)).trans hx127_1; have HR127_1 := Aside0.mk hi127_1; have HC127_1 := Aside0.mk hl127_1; clear hi127_1 hl127_1; replace p127 := eq_true p127; replace q127 := eq_true q127; have p128 : 0 ≤ ((ji8) : Int) := of_decide_eq_true (by first | (with_reducible assumption) | assumption); have q128 : (ji8) < (l0.length : Int) := of_decide_eq_true (by first | (with_reducible assumption) | assumption); obtain ⟨ad128, A128_1, c128_1, e128, hx128_0, hx128_1, hl128_1, hi128_1⟩ := at_T57 HR0.out (ji8) p128 q128; obtain rfl : ad125 = ad128 := (by injection e128); replace hx128_0 := (HB.out.cell (World.block_lt_of_cell? w _ hx128_0)).trans hx128_0; replace hx128_1 := (HB.out.cell (World.block_lt_of_cell? w _ hx128_1)).trans hx128_1; have HR128_1 := Aside0.mk hi128_1; have HC128_1 := Aside0.mk hl128_1; clear hi128_1 hl128_1; replace p128 := eq_true p128; replace q128 := eq_true q128)))
                    go_ret
                    exact ⟨by first | rfl | (simp [errW_none, errW_some] <;> rfl) | (simp only [← hji8]; first | rfl | (simp [errW_none, errW_some] <;> rfl)) | (simp [*, errW_none, errW_some] <;> rfl), by repeat (first | (with_reducible first | exact HB.out | apply below_alloc | apply pw_below_drewN | apply below_drew1) | exact HB.out)⟩
                · rw [if_neg c10] at H
                  exact absurd H (by simp)
              · rw [if_neg c9] at H
                exact absurd H (by simp)
            · rw [if_neg c7] at H
              have c7b0 : decide (0 < x5_1) = false := decide_eq_false c7
              clear c7
              have H' := Aside0.mk H
              clear H
              have p125 : 0 ≤ (x5_1 : Int) := of_decide_eq_true (by first | (with_reducible assumption) | assumption)
              have q125 : x5_1 < (l0.length : Int) := of_decide_eq_true (by first | (with_reducible assumption) | assumption)
              obtain ⟨ad125, A125_1, c125_1, e125, hx125_0, hx125_1, hl125_1, hi125_1⟩ := at_T57 HR0.out x5_1 p125 q125
              cases e125
              replace hx125_0 := (HB.out.cell (World.block_lt_of_cell? w _ hx125_0)).trans hx125_0
              replace hx125_1 := (HB.out.cell (World.block_lt_of_cell? w _ hx125_1)).trans hx125_1
              have HR125_1 := Aside0.mk hi125_1
              have HC125_1 := Aside0.mk hl125_1
              clear hi125_1 hl125_1
              replace p125 := eq_true p125
              replace q125 := eq_true q125
              go_wp2_with (first | (go_at_call 49; (with_reducible refine (regattaref16_Check.calls k1 ((rd_T57 l0 x5_1).f0) _ _ ((rd_T57 l0 x5_1).f1) a1 true _ ?side1 ?side2 A5.out).mono ?_); (case side1 => repeat (first | exact (Kd.C_below HR125_1.out HB.out) | (with_reducible refine Kd.C_alloc ?_ _) | (with_reducible refine Kd.C_drewN ?_ _) | (with_reducible refine Kd.C_drew ?_))); (case side2 => exact HC125_1.out); rintro e w14 ⟨rfl, hb⟩; have n0_ := Aside0.mk (below_step (by repeat (first | (with_reducible first | exact HB.out | apply below_alloc | apply pw_below_drewN | apply below_drew1) | exact HB.out)) hb); clear HB; have HB := n0_; clear n0_; (try clear hb); (try clear hb2); (try clear hk); (try clear hi)))
              repeat (go_quiet (first | (go_at_call 49; (with_reducible refine (regattaref16_Check.calls k1 ((rd_T57 l0 x5_1).f0) _ _ ((rd_T57 l0 x5_1).f1) a1 true _ ?side1 ?side2 A5.out).mono ?_); (case side1 => repeat (first | exact (Kd.C_below HR125_1.out HB.out) | (with_reducible refine Kd.C_alloc ?_ _) | (with_reducible refine Kd.C_drewN ?_ _) | (with_reducible refine Kd.C_drew ?_))); (case side2 => exact HC125_1.out); rintro e w14 ⟨rfl, hb⟩; have n0_ := Aside0.mk (below_step (by repeat (first | (with_reducible first | exact HB.out | apply below_alloc | apply pw_below_drewN | apply below_drew1) | exact HB.out)) hb); clear HB; have HB := n0_; clear n0_; (try clear hb); (try clear hb2); (try clear hk); (try clear hi))); try go_wp2_with (first | (go_at_call 49; (with_reducible refine (regattaref16_Check.calls k1 ((rd_T57 l0 x5_1).f0) _ _ ((rd_T57 l0 x5_1).f1) a1 true _ ?side1 ?side2 A5.out).mono ?_); (case side1 => repeat (first | exact (Kd.C_below HR125_1.out HB.out) | (with_reducible refine Kd.C_alloc ?_ _) | (with_reducible refine Kd.C_drewN ?_ _) | (with_reducible refine Kd.C_drew ?_))); (case side2 => exact HC125_1.out); rintro e w14 ⟨rfl, hb⟩; have n0_ := Aside0.mk (below_step (by repeat (first | (with_reducible first | exact HB.out | apply below_alloc | apply pw_below_drewN | apply below_drew1) | exact HB.out)) hb); clear HB; have HB := n0_; clear n0_; (try clear hb); (try clear hb2); (try clear hk); (try clear hi))))
              go_roundg k1
              case measure => have := HK1.out; omega
              case rel => exact ⟨(wrap64 (x5_1 + 1)), (by first | rfl | (simp; done) | (simp [*]; done)), H', ⟨by have := HK1.out; omega⟩, ⟨by repeat (first | (with_reducible first | exact HB.out | apply below_alloc | apply pw_below_drewN | apply below_drew1) | exact HB.out)⟩⟩
          · replace c6 := Bool.eq_false_iff.mpr c6
            subst c6
            have H1 : (some false) = some r := by rw [if_neg (show ¬ (false = true) by decide)] at H; exact H
            clear H
            have H := H1
            clear H1
            obtain rfl := Option.some.inj H
            have p125 : 0 ≤ (x5_1 : Int) := of_decide_eq_true (by first | (with_reducible assumption) | assumption)
            have q125 : x5_1 < (l0.length : Int) := of_decide_eq_true (by first | (with_reducible assumption) | assumption)
            obtain ⟨ad125, A125_1, c125_1, e125, hx125_0, hx125_1, hl125_1, hi125_1⟩ := at_T57 HR0.out x5_1 p125 q125
            cases e125
            replace hx125_0 := (HB.out.cell (World.block_lt_of_cell? w _ hx125_0)).trans hx125_0
            replace hx125_1 := (HB.out.cell (World.block_lt_of_cell? w _ hx125_1)).trans hx125_1
            have HR125_1 := Aside0.mk hi125_1
            have HC125_1 := Aside0.mk hl125_1
            clear hi125_1 hl125_1
            replace p125 := eq_true p125
            replace q125 := eq_true q125
            go_wp2_with (first | (go_at_call 49; (with_reducible refine (regattaref16_Check.calls k1 ((rd_T57 l0 x5_1).f0) _ _ ((rd_T57 l0 x5_1).f1) a1 false _ ?side1 ?side2 A5.out).mono ?_); (case side1 => repeat (first | exact (Kd.C_below HR125_1.out HB.out) | (with_reducible refine Kd.C_alloc ?_ _) | (with_reducible refine Kd.C_drewN ?_ _) | (with_reducible refine Kd.C_drew ?_))); (case side2 => exact HC125_1.out); rintro e w15 ⟨rfl, hb⟩; have n0_ := Aside0.mk (below_step (by repeat (first | (with_reducible first | exact HB.out | apply below_alloc | apply pw_below_drewN | apply below_drew1) | exact HB.out)) hb); clear HB; have HB := n0_; clear n0_; (try clear hb); (try clear hb2); (try clear hk); (try clear hi)))
            repeat (go_quiet (first | (go_at_call 49; (with_reducible refine (regattaref16_Check.calls k1 ((rd_T57 l0 x5_1).f0) _ _ ((rd_T57 l0 x5_1).f1) a1 false _ ?side1 ?side2 A5.out).mono ?_); (case side1 => repeat (first | exact (Kd.C_below HR125_1.out HB.out) | (with_reducible refine Kd.C_alloc ?_ _) | (with_reducible refine Kd.C_drewN ?_ _) | (with_reducible refine Kd.C_drew ?_))); (case side2 => exact HC125_1.out); rintro e w15 ⟨rfl, hb⟩; have n0_ := Aside0.mk (below_step (by repeat (first | (with_reducible first | exact HB.out | apply below_alloc | apply pw_below_drewN | apply below_drew1) | exact HB.out)) hb); clear HB; have HB := n0_; clear n0_; (try clear hb); (try clear hb2); (try clear hk); (try clear hi))); try go_wp2_with (first | (go_at_call 49; (with_reducible refine (regattaref16_Check.calls k1 ((rd_T57 l0 x5_1).f0) _ _ ((rd_T57 l0 x5_1).f1) a1 false _ ?side1 ?side2 A5.out).mono ?_); (case side1 => repeat (first | exact (Kd.C_below HR125_1.out HB.out) | (with_reducible refine Kd.C_alloc ?_ _) | (with_reducible refine Kd.C_drewN ?_ _) | (with_reducible refine Kd.C_drew ?_))); (case side2 => exact HC125_1.out); rintro e w15 ⟨rfl, hb⟩; have n0_ := Aside0.mk (below_step (by repeat (first | (with_reducible first | exact HB.out | apply below_alloc | apply pw_below_drewN | apply below_drew1) | exact HB.out)) hb); clear HB; have HB := n0_; clear n0_; (try clear hb); (try clear hb2); (try clear hk); (try clear hi))))
            go_ret
            exact ⟨by first | rfl | (simp [errW_none, errW_some] <;> rfl) | (simp [*, errW_none, errW_some] <;> rfl), by repeat (first | (with_reducible first | exact HB.out | apply below_alloc | apply pw_below_drewN | apply below_drew1) | exact HB.out)⟩
        · rw [if_neg c4] at H
          exact absurd H (by simp)
      · rw [if_neg c3] at H
        have c3b0 : decide (x5_1 < (l0.length : Int)) = false := decide_eq_false c3
        clear c3
        obtain rfl := Option.some.inj H
        go_wp2
        repeat (go_quiet (fail); try go_wp2)
        go_ret
        exact ⟨by first | rfl | (simp [errW_none, errW_some] <;> rfl) | (simp [*, errW_none, errW_some] <;> rfl), by repeat (first | (with_reducible first | exact HB.out | apply below_alloc | apply pw_below_drewN | apply below_drew1) | exact HB.out)⟩

end Go.Proofs.Ytlblianpbjhmoaa.PGs
