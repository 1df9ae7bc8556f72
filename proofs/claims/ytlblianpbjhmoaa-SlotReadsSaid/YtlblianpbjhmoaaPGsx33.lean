-- Written by wip/rprint.py of this session's repo (the kit's printer with patches), out of the translation. Not trusted: Lean checks it.
import Derived.Test.YtlblianpbjhmoaaPGsx0
namespace Go.Proofs.Ytlblianpbjhmoaa.PGs
open Go.RowKit Go.Proofs.YtlblianpbjhmoaaW.PrintWords Go.Proofs.YtlblianpbjhmoaaW.PrintLast Go.Proofs.YtlblianpbjhmoaaW.PrintMore Go.Proofs.Ytlblianpbjhmoaa.MWords
attribute [local go_sem] max2_int min2_int max_two min_two max_three min_three max_four min_four   -- for this text's walks alone
set_option linter.unusedVariables false
set_option linter.unusedSimpArgs false

/-! ### regattaref16_Quanta: function 50 -/
mutual
def regattaref16_Quanta.l0 : Nat → List (S57) → Int → Int → Int → Option (Int)
  | 0, _, _, _, _ => none
  | k + 1, x0, x1, x5, x6 => if x6 < (x0.length : Int) then (regattaref16_Quanta.l1 k x0 x1 x5 x6 0) else (some x5)
def regattaref16_Quanta.l1 : Nat → List (S57) → Int → Int → Int → Int → Option (Int)
  | 0, _, _, _, _, _ => none
  | k + 1, x0, x1, x5, x6, x7 => if 0 ≤ x6 then (if x6 < (x0.length : Int) then (if x7 < (((rd_T57 x0 x6).f1).length : Int) then (if 0 ≤ x7 then (if ((rd_T59 ((rd_T57 x0 x6).f1) x7).f0) = x1 then (regattaref16_Quanta.l1 k x0 x1 (wrap64 (x5 + 1)) x6 (wrap64 (x7 + 1))) else (regattaref16_Quanta.l1 k x0 x1 x5 x6 (wrap64 (x7 + 1)))) else (none)) else (regattaref16_Quanta.l0 k x0 x1 x5 (wrap64 (x6 + 1)))) else (none)) else (none)
end
def regattaref16_Quanta.f (k : Nat) (l0 : List (S57)) (a1 : Int) : Option (Int) := regattaref16_Quanta.l0 k l0 a1 0 0
theorem regattaref16_Quanta.mono_l : ∀ k, (∀ y0 y1 y2 y3, LeO (regattaref16_Quanta.l0 k y0 y1 y2 y3) (regattaref16_Quanta.l0 (k + 1) y0 y1 y2 y3)) ∧ (∀ y0 y1 y2 y3 y4, LeO (regattaref16_Quanta.l1 k y0 y1 y2 y3 y4) (regattaref16_Quanta.l1 (k + 1) y0 y1 y2 y3 y4))
  | 0 => ⟨fun _ _ _ _ r h => by simp [regattaref16_Quanta.l0] at h, fun _ _ _ _ _ r h => by simp [regattaref16_Quanta.l1] at h⟩
  | k + 1 => by
    obtain ⟨ih0, ih1⟩ := regattaref16_Quanta.mono_l k
    refine ⟨?_, ?_⟩
    · intro y0 y1 y2 y3
      unfold regattaref16_Quanta.l0
      repeat' first
      | (with_reducible exact ih0 _ _ _ _)
      | (with_reducible exact ih1 _ _ _ _ _)
      | (with_reducible exact LeO.refl _)
      | (with_reducible exact LeO.none _)
      | (with_reducible refine LeO.ite ?_ ?_)
      | (with_reducible refine LeO.bind ?_ (fun _ => ?_))
      | exact ih0 _ _ _ _
      | exact ih1 _ _ _ _ _
      | exact LeO.none _
      | refine LeO.ite ?_ ?_
      | refine LeO.bind ?_ (fun _ => ?_)
    · intro y0 y1 y2 y3 y4
      unfold regattaref16_Quanta.l1
      repeat' first
      | (with_reducible exact ih0 _ _ _ _)
      | (with_reducible exact ih1 _ _ _ _ _)
      | (with_reducible exact LeO.refl _)
      | (with_reducible exact LeO.none _)
      | (with_reducible refine LeO.ite ?_ ?_)
      | (with_reducible refine LeO.bind ?_ (fun _ => ?_))
      | exact ih0 _ _ _ _
      | exact ih1 _ _ _ _ _
      | exact LeO.none _
      | refine LeO.ite ?_ ?_
      | refine LeO.bind ?_ (fun _ => ?_)
theorem regattaref16_Quanta.mono : ∀ a0 a1 k, LeO (regattaref16_Quanta.f k a0 a1) (regattaref16_Quanta.f (k + 1) a0 a1) := by
  intro a0 a1 k
  obtain ⟨ih0, ih1⟩ := regattaref16_Quanta.mono_l k
  unfold regattaref16_Quanta.f
  repeat' first
      | (with_reducible exact ih0 _ _ _ _)
      | (with_reducible exact ih1 _ _ _ _ _)
      | (with_reducible exact LeO.refl _)
      | (with_reducible exact LeO.none _)
      | (with_reducible refine LeO.ite ?_ ?_)
      | (with_reducible refine LeO.bind ?_ (fun _ => ?_))
      | exact ih0 _ _ _ _
      | exact ih1 _ _ _ _ _
      | exact LeO.none _
      | refine LeO.ite ?_ ?_
      | refine LeO.bind ?_ (fun _ => ?_)
set_option maxHeartbeats 8000000 in
set_option maxRecDepth 100000 in
theorem regattaref16_Quanta.calls (k : Nat) (A0 : Option Addr) (c0 : Nat) (l0 : List (S57)) (a1 : Int) (r : Int) (w : World) (hr0 : Kd.C k57 w A0 l0.length l0) (hc0 : l0.length ≤ c0) (h : regattaref16_Quanta.f k l0 a1 = some r) :
    Calls Try.prog 50 #[.slice A0 l0.length c0, .int .i64 a1] w fun e w' => e = .returned (.int .i64 r) ∧ Drawn0 w w' := by
  have HR0 := Aside0.mk hr0
  have HC0 := Aside0.mk hc0
  clear hr0 hc0
  have H : (regattaref16_Quanta.l0 k l0 a1 0 0) = some r := h
  clear h
  have H' := Aside0.mk H
  clear H
  go_enter Try.func50, Try.ntmps50
  go_wp2
  go_loopg [5, 6] k (fun kq v5 v6 w' => ∃ (x5_1 : Int) (x6_1 : Int), v5 = .int .i64 x5_1 ∧ v6 = .int .i64 x6_1 ∧ Aside0 (regattaref16_Quanta.l0 kq l0 a1 x5_1 x6_1 = some r) ∧ Aside0 (kq ≤ k) ∧ Drawn0 w w')
  case atStart => exact ⟨(0), (0), (by first | rfl | (simp; done) | (simp [*]; done)), (by first | rfl | (simp; done) | (simp [*]; done)), H', ⟨Nat.le_refl _⟩, by repeat (first | exact Drawn0.refl _ | apply Drawn0.step)⟩
  case round =>
    clear H'
    try clear p2
    obtain ⟨x5_1, x6_1, rfl, rfl, HA, HK1, ⟨m1, rfl⟩⟩ := hrel
    cases gk with
    | zero => exact absurd HA.out (by simp [regattaref16_Quanta.l0])
    | succ k1 =>
      have H := HA.out
      clear HA
      simp only [regattaref16_Quanta.l0] at H
      by_cases c3 : x6_1 < (l0.length : Int)
      · rw [if_pos c3] at H
        have c3b0 : decide (x6_1 < (l0.length : Int)) = true := decide_eq_true c3
        clear c3
        have H' := Aside0.mk H
        clear H
        go_wp2
        go_loopg [5, 7] k1 (fun kq v5 v7 w' => ∃ (x5_2 : Int) (x7_2 : Int), v5 = .int .i64 x5_2 ∧ v7 = .int .i64 x7_2 ∧ Aside0 (regattaref16_Quanta.l1 kq l0 a1 x5_2 x6_1 x7_2 = some r) ∧ Aside0 (kq ≤ k1) ∧ Drawn0 w w')
        case atStart => exact ⟨(x5_1), (0), (by first | rfl | (simp; done) | (simp [*]; done)), (by first | rfl | (simp; done) | (simp [*]; done)), H', ⟨Nat.le_refl _⟩, by repeat (first | exact Drawn0.refl _ | apply Drawn0.step)⟩
        case round =>
          clear H'
          try clear p2
          try clear c3
          try clear c3b0
          try clear p2
          obtain ⟨x5_2, x7_2, rfl, rfl, HA, HK2, ⟨m2, rfl⟩⟩ := hrel
          cases gk with
          | zero => exact absurd HA.out (by simp [regattaref16_Quanta.l1])
          | succ k2 =>
            have H := HA.out
            clear HA
            simp only [regattaref16_Quanta.l1] at H
            by_cases c4 : 0 ≤ x6_1
            · rw [if_pos c4] at H
              have c4b0 : decide (0 ≤ x6_1) = true := decide_eq_true c4
              clear c4
              by_cases c5 : x6_1 < (l0.length : Int)
              · rw [if_pos c5] at H
                have c5b0 : decide (x6_1 < (l0.length : Int)) = true := decide_eq_true c5
                clear c5
                by_cases c6 : x7_2 < (((rd_T57 l0 x6_1).f1).length : Int)
                · rw [if_pos c6] at H
                  have c6b0 : decide (x7_2 < (((rd_T57 l0 x6_1).f1).length : Int)) = true := decide_eq_true c6
                  clear c6
                  by_cases c7 : 0 ≤ x7_2
                  · rw [if_pos c7] at H
                    have c7b0 : decide (0 ≤ x7_2) = true := decide_eq_true c7
                    clear c7
                    by_cases c8 : ((rd_T59 ((rd_T57 l0 x6_1).f1) x7_2).f0) = a1
                    · rw [if_pos c8] at H
                      have c8b0 : (((rd_T59 ((rd_T57 l0 x6_1).f1) x7_2).f0) == a1) = true := beq_iff_eq.mpr c8
                      have c8b1 : (((rd_T59 ((rd_T57 l0 x6_1).f1) x7_2).f0) != a1) = false := bne_eq_false_iff_eq.mpr c8
                      clear c8
                      have H' := Aside0.mk H
                      clear H
                      have p268 : 0 ≤ (x6_1 : Int) := of_decide_eq_true (by first | (with_reducible assumption) | assumption)
                      have q268 : x6_1 < (l0.length : Int) := of_decide_eq_true (by first | (with_reducible assumption) | assumption)
                      obtain ⟨ad268, A268_1, c268_1, e268, hx268_0, hx268_1, hl268_1, hi268_1⟩ := at_T57 HR0.out x6_1 p268 q268
                      cases e268
                      have HR268_1 := Aside0.mk hi268_1
                      have HC268_1 := Aside0.mk hl268_1
                      clear hi268_1 hl268_1
                      replace p268 := eq_true p268
                      replace q268 := eq_true q268
                      have p269 : 0 ≤ (x6_1 : Int) := of_decide_eq_true (by first | (with_reducible assumption) | assumption)
                      have q269 : x6_1 < (l0.length : Int) := of_decide_eq_true (by first | (with_reducible assumption) | assumption)
                      obtain ⟨ad269, A269_1, c269_1, e269, hx269_0, hx269_1, hl269_1, hi269_1⟩ := at_T57 HR0.out x6_1 p269 q269
                      obtain rfl : ad268 = ad269 := (by injection e269)
                      have HR269_1 := Aside0.mk hi269_1
                      have HC269_1 := Aside0.mk hl269_1
                      clear hi269_1 hl269_1
                      replace p269 := eq_true p269
                      replace q269 := eq_true q269
                      have ea_ := Option.some.inj (hx268_1.symm.trans hx269_1)
                      injection ea_ with ea_ en_ ec_
                      subst ea_
                      subst ec_
                      clear en_
                      have p270 : 0 ≤ (x7_2 : Int) := of_decide_eq_true (by first | (with_reducible assumption) | assumption)
                      have q270 : x7_2 < (((rd_T57 l0 x6_1).f1).length : Int) := of_decide_eq_true (by first | (with_reducible assumption) | assumption)
                      obtain ⟨ad270, e270, hx270_0, hx270_1, hx270_2⟩ := at_T59 HR269_1.out x7_2 p270 q270
                      cases e270
                      replace p270 := eq_true p270
                      replace q270 := eq_true q270
                      go_wp2
                      go_roundg k2
                      case measure => have := HK1.out; have := HK2.out; omega
                      case rel => exact ⟨(wrap64 (x5_2 + 1)), (wrap64 (x7_2 + 1)), (by first | rfl | (simp; done) | (simp [*]; done)), (by first | rfl | (simp; done) | (simp [*]; done)), H', ⟨by have := HK1.out; have := HK2.out; omega⟩, by repeat (first | exact Drawn0.refl _ | apply Drawn0.step)⟩
                    · rw [if_neg c8] at H
                      have c8b0 : (((rd_T59 ((rd_T57 l0 x6_1).f1) x7_2).f0) == a1) = false := beq_eq_false_iff_ne.mpr c8
                      have c8b1 : (((rd_T59 ((rd_T57 l0 x6_1).f1) x7_2).f0) != a1) = true := bne_iff_ne.mpr c8
                      have H' := Aside0.mk H
                      clear H
                      have p268 : 0 ≤ (x6_1 : Int) := of_decide_eq_true (by first | (with_reducible assumption) | assumption)
                      have q268 : x6_1 < (l0.length : Int) := of_decide_eq_true (by first | (with_reducible assumption) | assumption)
                      obtain ⟨ad268, A268_1, c268_1, e268, hx268_0, hx268_1, hl268_1, hi268_1⟩ := at_T57 HR0.out x6_1 p268 q268
                      cases e268
                      have HR268_1 := Aside0.mk hi268_1
                      have HC268_1 := Aside0.mk hl268_1
                      clear hi268_1 hl268_1
                      replace p268 := eq_true p268
                      replace q268 := eq_true q268
                      have p269 : 0 ≤ (x6_1 : Int) := of_decide_eq_true (by first | (with_reducible assumption) | assumption)
                      have q269 : x6_1 < (l0.length : Int) := of_decide_eq_true (by first | (with_reducible assumption) | assumption)
                      obtain ⟨ad269, A269_1, c269_1, e269, hx269_0, hx269_1, hl269_1, hi269_1⟩ := at_T57 HR0.out x6_1 p269 q269
                      obtain rfl : ad268 = ad269 := (by injection e269)
                      have HR269_1 := Aside0.mk hi269_1
                      have HC269_1 := Aside0.mk hl269_1
                      clear hi269_1 hl269_1
                      replace p269 := eq_true p269
                      replace q269 := eq_true q269
                      have ea_ := Option.some.inj (hx268_1.symm.trans hx269_1)
                      injection ea_ with ea_ en_ ec_
                      subst ea_
                      subst ec_
                      clear en_
                      have p270 : 0 ≤ (x7_2 : Int) := of_decide_eq_true (by first | (with_reducible assumption) | assumption)
                      have q270 : x7_2 < (((rd_T57 l0 x6_1).f1).length : Int) := of_decide_eq_true (by first | (with_reducible assumption) | assumption)
                      obtain ⟨ad270, e270, hx270_0, hx270_1, hx270_2⟩ := at_T59 HR269_1.out x7_2 p270 q270
                      cases e270
                      replace p270 := eq_true p270
                      replace q270 := eq_true q270
                      go_wp2
                      go_roundg k2
                      case measure => have := HK1.out; have := HK2.out; omega
                      case rel => exact ⟨(x5_2), (wrap64 (x7_2 + 1)), (by first | rfl | (simp; done) | (simp [*]; done)), (by first | rfl | (simp; done) | (simp [*]; done)), H', ⟨by have := HK1.out; have := HK2.out; omega⟩, by repeat (first | exact Drawn0.refl _ | apply Drawn0.step)⟩
                  · rw [if_neg c7] at H
                    exact absurd H (by simp)
                · rw [if_neg c6] at H
                  have c6b0 : decide (x7_2 < (((rd_T57 l0 x6_1).f1).length : Int)) = false := decide_eq_false c6
                  clear c6
                  have H' := Aside0.mk H
                  clear H
                  have p268 : 0 ≤ (x6_1 : Int) := of_decide_eq_true (by first | (with_reducible assumption) | assumption)
                  have q268 : x6_1 < (l0.length : Int) := of_decide_eq_true (by first | (with_reducible assumption) | assumption)
                  obtain ⟨ad268, A268_1, c268_1, e268, hx268_0, hx268_1, hl268_1, hi268_1⟩ := at_T57 HR0.out x6_1 p268 q268
                  cases e268
                  have HR268_1 := Aside0.mk hi268_1
                  have HC268_1 := Aside0.mk hl268_1
                  clear hi268_1 hl268_1
                  replace p268 := eq_true p268
                  replace q268 := eq_true q268
                  go_wp2
                  go_roundg k2
                  case measure => have := HK1.out; have := HK2.out; omega
                  case rel => exact ⟨(x5_2), (wrap64 (x6_1 + 1)), (by first | rfl | (simp; done) | (simp [*]; done)), (by first | rfl | (simp; done) | (simp [*]; done)), H', ⟨by have := HK1.out; have := HK2.out; omega⟩, by repeat (first | exact Drawn0.refl _ | apply Drawn0.step)⟩
              · rw [if_neg c5] at H
                exact absurd H (by simp)
            · rw [if_neg c4] at H
              exact absurd H (by simp)
      · rw [if_neg c3] at H
        have c3b0 : decide (x6_1 < (l0.length : Int)) = false := decide_eq_false c3
        clear c3
        obtain rfl := Option.some.inj H
        go_wp2
        go_ret
        exact ⟨by first | rfl | (simp; done) | (simp [*]; done), by repeat (first | exact Drawn0.refl _ | apply Drawn0.step)⟩

end Go.Proofs.Ytlblianpbjhmoaa.PGs
