-- Written by wip/rprint.py of this session's repo (the kit's printer with patches), out of the translation. Not trusted: Lean checks it.
import Derived.Test.YtlblianpbjhmoaaPGsx0
import Derived.Test.YtlblianpbjhmoaaPGsx1
namespace Go.Proofs.Ytlblianpbjhmoaa.PGs
open Go.RowKit Go.Proofs.YtlblianpbjhmoaaW.PrintWords Go.Proofs.YtlblianpbjhmoaaW.PrintLast Go.Proofs.YtlblianpbjhmoaaW.PrintMore Go.Proofs.Ytlblianpbjhmoaa.MWords
attribute [local go_sem] max2_int min2_int max_two min_two max_three min_three max_four min_four   -- for this text's walks alone
set_option linter.unusedVariables false
set_option linter.unusedSimpArgs false

attribute [local go_sem high] eqA59
/-! ### regattaref16_Same: function 34 -/
mutual
def regattaref16_Same.l0 : Nat → List (S57) → List (S57) → Int → Option (Bool)
  | 0, _, _, _ => none
  | k + 1, x0, x1, x5 => if x5 < (x0.length : Int) then (if 0 ≤ x5 then (if x5 < (x1.length : Int) then (if ((rd_T57 x0 x5).f0) = ((rd_T57 x1 x5).f0) then (regattaref16_Same.j1 k x0 x1 x5 ((((rd_T57 x0 x5).f1).length : Int) != (((rd_T57 x1 x5).f1).length : Int))) else (regattaref16_Same.j1 k x0 x1 x5 true)) else (none)) else (none)) else (some true)
def regattaref16_Same.j1 : Nat → List (S57) → List (S57) → Int → Bool → Option (Bool)
  | 0, _, _, _, _ => none
  | k + 1, x0, x1, x5, x43 => if x43 = true then (some false) else (regattaref16_Same.l1 k x0 x1 x5 0)
def regattaref16_Same.l1 : Nat → List (S57) → List (S57) → Int → Int → Option (Bool)
  | 0, _, _, _, _ => none
  | k + 1, x0, x1, x5, x6 => if 0 ≤ x5 then (if x5 < (x0.length : Int) then (if x6 < (((rd_T57 x0 x5).f1).length : Int) then (if 0 ≤ x6 then (if x5 < (x1.length : Int) then (if x6 < (((rd_T57 x1 x5).f1).length : Int) then (if (!(((rd_T59 ((rd_T57 x0 x5).f1) x6).f0) == ((rd_T59 ((rd_T57 x1 x5).f1) x6).f0)) || (!(((rd_T59 ((rd_T57 x0 x5).f1) x6).f1) == ((rd_T59 ((rd_T57 x1 x5).f1) x6).f1)) || (!(((rd_T59 ((rd_T57 x0 x5).f1) x6).f2) == ((rd_T59 ((rd_T57 x1 x5).f1) x6).f2))))) = true then (some false) else (regattaref16_Same.l1 k x0 x1 x5 (wrap64 (x6 + 1)))) else (none)) else (none)) else (none)) else (regattaref16_Same.l0 k x0 x1 (wrap64 (x5 + 1)))) else (none)) else (none)
end
def regattaref16_Same.f (k : Nat) (l0 : List (S57)) (l1 : List (S57)) : Option (Bool) := if (l0.length : Int) = (l1.length : Int) then (regattaref16_Same.l0 k l0 l1 0) else (some false)
theorem regattaref16_Same.mono_l : ∀ k, (∀ y0 y1 y2, LeO (regattaref16_Same.l0 k y0 y1 y2) (regattaref16_Same.l0 (k + 1) y0 y1 y2)) ∧ (∀ y0 y1 y2 y3, LeO (regattaref16_Same.j1 k y0 y1 y2 y3) (regattaref16_Same.j1 (k + 1) y0 y1 y2 y3)) ∧ (∀ y0 y1 y2 y3, LeO (regattaref16_Same.l1 k y0 y1 y2 y3) (regattaref16_Same.l1 (k + 1) y0 y1 y2 y3))
  | 0 => ⟨fun _ _ _ r h => by simp [regattaref16_Same.l0] at h, fun _ _ _ _ r h => by simp [regattaref16_Same.j1] at h, fun _ _ _ _ r h => by simp [regattaref16_Same.l1] at h⟩
  | k + 1 => by
    obtain ⟨ih0, ih1, ih2⟩ := regattaref16_Same.mono_l k
    refine ⟨?_, ?_, ?_⟩
    · intro y0 y1 y2
      unfold regattaref16_Same.l0
      repeat' first
      | (with_reducible exact ih0 _ _ _)
      | (with_reducible exact ih1 _ _ _ _)
      | (with_reducible exact ih2 _ _ _ _)
      | (with_reducible exact LeO.refl _)
      | (with_reducible exact LeO.none _)
      | (with_reducible refine LeO.ite ?_ ?_)
      | (with_reducible refine LeO.bind ?_ (fun _ => ?_))
      | exact ih0 _ _ _
      | exact ih1 _ _ _ _
      | exact ih2 _ _ _ _
      | exact LeO.none _
      | refine LeO.ite ?_ ?_
      | refine LeO.bind ?_ (fun _ => ?_)
    · intro y0 y1 y2 y3
      unfold regattaref16_Same.j1
      repeat' first
      | (with_reducible exact ih0 _ _ _)
      | (with_reducible exact ih1 _ _ _ _)
      | (with_reducible exact ih2 _ _ _ _)
      | (with_reducible exact LeO.refl _)
      | (with_reducible exact LeO.none _)
      | (with_reducible refine LeO.ite ?_ ?_)
      | (with_reducible refine LeO.bind ?_ (fun _ => ?_))
      | exact ih0 _ _ _
      | exact ih1 _ _ _ _
      | exact ih2 _ _ _ _
      | exact LeO.none _
      | refine LeO.ite ?_ ?_
      | refine LeO.bind ?_ (fun _ => ?_)
    · intro y0 y1 y2 y3
      unfold regattaref16_Same.l1
      repeat' first
      | (with_reducible exact ih0 _ _ _)
      | (with_reducible exact ih1 _ _ _ _)
      | (with_reducible exact ih2 _ _ _ _)
      | (with_reducible exact LeO.refl _)
      | (with_reducible exact LeO.none _)
      | (with_reducible refine LeO.ite ?_ ?_)
      | (with_reducible refine LeO.bind ?_ (fun _ => ?_))
      | exact ih0 _ _ _
      | exact ih1 _ _ _ _
      | exact ih2 _ _ _ _
      | exact LeO.none _
      | refine LeO.ite ?_ ?_
      | refine LeO.bind ?_ (fun _ => ?_)
theorem regattaref16_Same.mono : ∀ a0 a1 k, LeO (regattaref16_Same.f k a0 a1) (regattaref16_Same.f (k + 1) a0 a1) := by
  intro a0 a1 k
  obtain ⟨ih0, ih1, ih2⟩ := regattaref16_Same.mono_l k
  unfold regattaref16_Same.f
  repeat' first
      | (with_reducible exact ih0 _ _ _)
      | (with_reducible exact ih1 _ _ _ _)
      | (with_reducible exact ih2 _ _ _ _)
      | (with_reducible exact LeO.refl _)
      | (with_reducible exact LeO.none _)
      | (with_reducible refine LeO.ite ?_ ?_)
      | (with_reducible refine LeO.bind ?_ (fun _ => ?_))
      | exact ih0 _ _ _
      | exact ih1 _ _ _ _
      | exact ih2 _ _ _ _
      | exact LeO.none _
      | refine LeO.ite ?_ ?_
      | refine LeO.bind ?_ (fun _ => ?_)
set_option maxHeartbeats 8000000 in
set_option maxRecDepth 100000 in
theorem regattaref16_Same.calls (k : Nat) (A0 : Option Addr) (c0 : Nat) (l0 : List (S57)) (A1 : Option Addr) (c1 : Nat) (l1 : List (S57)) (r : Bool) (w : World) (hr0 : Kd.C k57 w A0 l0.length l0) (hc0 : l0.length ≤ c0) (hr1 : Kd.C k57 w A1 l1.length l1) (hc1 : l1.length ≤ c1) (h : regattaref16_Same.f k l0 l1 = some r) :
    Calls Try.prog 34 #[.slice A0 l0.length c0, .slice A1 l1.length c1] w fun e w' => e = .returned (.bool r) ∧ Drawn0 w w' := by
  have hu59 := Try.underlying59
  have HR0 := Aside0.mk hr0
  have HC0 := Aside0.mk hc0
  clear hr0 hc0
  have HR1 := Aside0.mk hr1
  have HC1 := Aside0.mk hc1
  clear hr1 hc1
  have H : (if (l0.length : Int) = (l1.length : Int) then (regattaref16_Same.l0 k l0 l1 0) else (some false)) = some r := h
  clear h
  by_cases c3 : (l0.length : Int) = (l1.length : Int)
  · rw [if_pos c3] at H
    have c3b0 : ((l0.length : Int) == (l1.length : Int)) = true := beq_iff_eq.mpr c3
    have c3b1 : ((l0.length : Int) != (l1.length : Int)) = false := bne_eq_false_iff_eq.mpr c3
    have c3b2 : (l0.length == l1.length) = true := by first | simpa using c3 | (simp at c3 ⊢; omega)
    clear c3
    have H' := Aside0.mk H
    clear H
    go_enter Try.func34, Try.ntmps34
    go_wp2
    repeat (go_quiet (fail); try go_wp2)
    go_loopg [5] k (fun kq v5 w' => ∃ (x5_1 : Int), v5 = .int .i64 x5_1 ∧ Aside0 (regattaref16_Same.l0 kq l0 l1 x5_1 = some r) ∧ Aside0 (kq ≤ k) ∧ Drawn0 w w')
    case atStart => exact ⟨(0), (by first | rfl | (simp; done) | (simp [*]; done)), H', ⟨Nat.le_refl _⟩, by repeat (first | exact Drawn0.refl _ | apply Drawn0.step)⟩
    case round =>
      clear H'
      try clear c1
      try clear p2
      try clear c3
      try clear c3b0
      try clear c3b1
      try clear c3b2
      obtain ⟨x5_1, rfl, HA, HK1, ⟨m1, rfl⟩⟩ := hrel
      cases gk with
      | zero => exact absurd HA.out (by simp [regattaref16_Same.l0])
      | succ k1 =>
        have H := HA.out
        clear HA
        simp only [regattaref16_Same.l0] at H
        by_cases c4 : x5_1 < (l0.length : Int)
        · rw [if_pos c4] at H
          have c4b0 : decide (x5_1 < (l0.length : Int)) = true := decide_eq_true c4
          clear c4
          have HC5 := Aside0.mk H
          clear H
          go_upto_region 6 with (fail)
          repeat (go_quiet (fail); go_upto_region 6 with (fail))
          go_cut [43] (fun v43 wc => ∃ (kq : Nat) (x43_4 : Bool), v43 = .bool x43_4 ∧ Aside0 (regattaref16_Same.j1 kq l0 l1 x5_1 x43_4 = some r) ∧ Aside0 (kq ≤ k1) ∧ Drawn0 w wc)
          case first =>
            have H := HC5.out
            clear HC5
            by_cases c6 : 0 ≤ x5_1
            · rw [if_pos c6] at H
              have c6b0 : decide (0 ≤ x5_1) = true := decide_eq_true c6
              clear c6
              (first | rw [c6b0] | rw [c6b1] | (simp only [i64_w, i32_w]; rw [c6b0]) | skip)
              by_cases c7 : x5_1 < (l1.length : Int)
              · rw [if_pos c7] at H
                have c7b0 : decide (x5_1 < (l1.length : Int)) = true := decide_eq_true c7
                clear c7
                by_cases c8 : ((rd_T57 l0 x5_1).f0) = ((rd_T57 l1 x5_1).f0)
                · rw [if_pos c8] at H
                  have c8b0 : (((rd_T57 l0 x5_1).f0) == ((rd_T57 l1 x5_1).f0)) = true := beq_iff_eq.mpr c8
                  have c8b1 : (((rd_T57 l0 x5_1).f0) != ((rd_T57 l1 x5_1).f0)) = false := bne_eq_false_iff_eq.mpr c8
                  clear c8
                  have H' := Aside0.mk H
                  clear H
                  have p398 : 0 ≤ (x5_1 : Int) := of_decide_eq_true (by first | (with_reducible assumption) | assumption)
                  have q398 : x5_1 < (l0.length : Int) := of_decide_eq_true (by first | (with_reducible assumption) | assumption)
                  obtain ⟨ad398, A398_1, c398_1, e398, hx398_0, hx398_1, hl398_1, hi398_1⟩ := at_T57 HR0.out x5_1 p398 q398
                  cases e398
                  have HR398_1 := Aside0.mk hi398_1
                  have HC398_1 := Aside0.mk hl398_1
                  clear hi398_1 hl398_1
                  replace p398 := eq_true p398
                  replace q398 := eq_true q398
                  have p399 : 0 ≤ (x5_1 : Int) := of_decide_eq_true (by first | (with_reducible assumption) | assumption)
                  have q399 : x5_1 < (l1.length : Int) := of_decide_eq_true (by first | (with_reducible assumption) | assumption)
                  obtain ⟨ad399, A399_1, c399_1, e399, hx399_0, hx399_1, hl399_1, hi399_1⟩ := at_T57 HR1.out x5_1 p399 q399
                  cases e399
                  have HR399_1 := Aside0.mk hi399_1
                  have HC399_1 := Aside0.mk hl399_1
                  clear hi399_1 hl399_1
                  replace p399 := eq_true p399
                  replace q399 := eq_true q399
                  have p400 : 0 ≤ (x5_1 : Int) := of_decide_eq_true (by first | (with_reducible assumption) | assumption)
                  have q400 : x5_1 < (l0.length : Int) := of_decide_eq_true (by first | (with_reducible assumption) | assumption)
                  obtain ⟨ad400, A400_1, c400_1, e400, hx400_0, hx400_1, hl400_1, hi400_1⟩ := at_T57 HR0.out x5_1 p400 q400
                  obtain rfl : ad398 = ad400 := (by injection e400)
                  have HR400_1 := Aside0.mk hi400_1
                  have HC400_1 := Aside0.mk hl400_1
                  clear hi400_1 hl400_1
                  replace p400 := eq_true p400
                  replace q400 := eq_true q400
                  have ea_ := Option.some.inj (hx398_1.symm.trans hx400_1)
                  injection ea_ with ea_ en_ ec_
                  subst ea_
                  subst ec_
                  clear en_
                  have p401 : 0 ≤ (x5_1 : Int) := of_decide_eq_true (by first | (with_reducible assumption) | assumption)
                  have q401 : x5_1 < (l1.length : Int) := of_decide_eq_true (by first | (with_reducible assumption) | assumption)
                  obtain ⟨ad401, A401_1, c401_1, e401, hx401_0, hx401_1, hl401_1, hi401_1⟩ := at_T57 HR1.out x5_1 p401 q401
                  obtain rfl : ad399 = ad401 := (by injection e401)
                  have HR401_1 := Aside0.mk hi401_1
                  have HC401_1 := Aside0.mk hl401_1
                  clear hi401_1 hl401_1
                  replace p401 := eq_true p401
                  replace q401 := eq_true q401
                  have ea_ := Option.some.inj (hx399_1.symm.trans hx401_1)
                  injection ea_ with ea_ en_ ec_
                  subst ea_
                  subst ec_
                  clear en_
                  go_wp2
                  repeat (go_quiet (fail); try go_wp2)
                  go_meet
                  case rel => exact ⟨_, (((((rd_T57 l0 x5_1).f1).length : Int) != (((rd_T57 l1 x5_1).f1).length : Int))), (by first | rfl | (simp; done) | (simp [*]; done)), H', ⟨by have := HK1.out; first | omega | exact Nat.le_refl _⟩, by repeat (first | exact Drawn0.refl _ | apply Drawn0.step)⟩
                · rw [if_neg c8] at H
                  have c8b0 : (((rd_T57 l0 x5_1).f0) == ((rd_T57 l1 x5_1).f0)) = false := beq_eq_false_iff_ne.mpr c8
                  have c8b1 : (((rd_T57 l0 x5_1).f0) != ((rd_T57 l1 x5_1).f0)) = true := bne_iff_ne.mpr c8
                  have H' := Aside0.mk H
                  clear H
                  have p398 : 0 ≤ (x5_1 : Int) := of_decide_eq_true (by first | (with_reducible assumption) | assumption)
                  have q398 : x5_1 < (l0.length : Int) := of_decide_eq_true (by first | (with_reducible assumption) | assumption)
                  obtain ⟨ad398, A398_1, c398_1, e398, hx398_0, hx398_1, hl398_1, hi398_1⟩ := at_T57 HR0.out x5_1 p398 q398
                  cases e398
                  have HR398_1 := Aside0.mk hi398_1
                  have HC398_1 := Aside0.mk hl398_1
                  clear hi398_1 hl398_1
                  replace p398 := eq_true p398
                  replace q398 := eq_true q398
                  have p399 : 0 ≤ (x5_1 : Int) := of_decide_eq_true (by first | (with_reducible assumption) | assumption)
                  have q399 : x5_1 < (l1.length : Int) := of_decide_eq_true (by first | (with_reducible assumption) | assumption)
                  obtain ⟨ad399, A399_1, c399_1, e399, hx399_0, hx399_1, hl399_1, hi399_1⟩ := at_T57 HR1.out x5_1 p399 q399
                  cases e399
                  have HR399_1 := Aside0.mk hi399_1
                  have HC399_1 := Aside0.mk hl399_1
                  clear hi399_1 hl399_1
                  replace p399 := eq_true p399
                  replace q399 := eq_true q399
                  go_wp2
                  repeat (go_quiet (fail); try go_wp2)
                  go_meet
                  case rel => exact ⟨_, (true), (by first | rfl | (simp; done) | (simp [*]; done)), H', ⟨by have := HK1.out; first | omega | exact Nat.le_refl _⟩, by repeat (first | exact Drawn0.refl _ | apply Drawn0.step)⟩
              · rw [if_neg c7] at H
                exact absurd H (by simp)
            · rw [if_neg c6] at H
              exact absurd H (by simp)
          case rest =>
            clear HC5
            try clear c1
            try clear p2
            try clear c3
            try clear c3b0
            try clear c3b1
            try clear c3b2
            try clear p3
            try clear q3
            try clear hx3
            try clear c4
            try clear c4b0
            try clear p4
            try clear q4
            try clear hx4
            try clear c6
            try clear c6b0
            try clear c7
            try clear c7b0
            try clear c8
            try clear c8b0
            try clear c8b1
            try clear hx398_0
            try clear hx398_1
            try clear hx399_0
            try clear hx399_1
            try clear hx400_0
            try clear hx400_1
            try clear hx401_0
            try clear hx401_1
            try clear p2
            try clear p398
            try clear p399
            try clear p400
            try clear p401
            try clear q398
            try clear q399
            try clear q400
            try clear q401
            obtain ⟨kq, x43_4, rfl, HA, HJ4, ⟨mc4, rfl⟩⟩ := hcut
            cases kq with
            | zero => exact absurd HA.out (by simp [regattaref16_Same.j1])
            | succ kj4 =>
              have H := HA.out
              clear HA
              simp only [regattaref16_Same.j1] at H
              by_cases c9 : x43_4 = true
              · subst c9
                have H1 : (some false) = some r := by rw [if_pos rfl] at H; exact H
                clear H
                have H := H1
                clear H1
                obtain rfl := Option.some.inj H
                go_wp2
                repeat (go_quiet (fail); try go_wp2)
                go_ret
                exact ⟨by first | rfl | (simp; done) | (simp [*]; done), by repeat (first | exact Drawn0.refl _ | apply Drawn0.step)⟩
              · replace c9 := Bool.eq_false_iff.mpr c9
                subst c9
                have H1 : (regattaref16_Same.l1 kj4 l0 l1 x5_1 0) = some r := by rw [if_neg (show ¬ (false = true) by decide)] at H; exact H
                clear H
                have H := H1
                clear H1
                have H' := Aside0.mk H
                clear H
                go_wp2
                repeat (go_quiet (fail); try go_wp2)
                go_loopg [6] kj4 (fun kq v6 w' => ∃ (x6_3 : Int), v6 = .int .i64 x6_3 ∧ Aside0 (regattaref16_Same.l1 kq l0 l1 x5_1 x6_3 = some r) ∧ Aside0 (kq ≤ kj4) ∧ Drawn0 w w')
                case atStart => exact ⟨(0), (by first | rfl | (simp; done) | (simp [*]; done)), H', ⟨Nat.le_refl _⟩, by repeat (first | exact Drawn0.refl _ | apply Drawn0.step)⟩
                case round =>
                  clear H'
                  try clear c1
                  try clear p2
                  try clear c3
                  try clear c3b0
                  try clear c3b1
                  try clear c3b2
                  try clear p3
                  try clear q3
                  try clear hx3
                  try clear c4
                  try clear c4b0
                  try clear p4
                  try clear q4
                  try clear hx4
                  try clear c6
                  try clear c6b0
                  try clear c7
                  try clear c7b0
                  try clear c8
                  try clear c8b0
                  try clear c8b1
                  try clear c9
                  try clear hx398_0
                  try clear hx398_1
                  try clear hx399_0
                  try clear hx399_1
                  try clear hx400_0
                  try clear hx400_1
                  try clear hx401_0
                  try clear hx401_1
                  try clear p2
                  try clear p3
                  try clear p398
                  try clear p399
                  try clear p4
                  try clear p400
                  try clear p401
                  try clear q3
                  try clear q398
                  try clear q399
                  try clear q4
                  try clear q400
                  try clear q401
                  obtain ⟨x6_3, rfl, HA, HK3, ⟨m3, rfl⟩⟩ := hrel
                  cases gk with
                  | zero => exact absurd HA.out (by simp [regattaref16_Same.l1])
                  | succ k3 =>
                    have H := HA.out
                    clear HA
                    simp only [regattaref16_Same.l1] at H
                    by_cases c10 : 0 ≤ x5_1
                    · rw [if_pos c10] at H
                      have c10b0 : decide (0 ≤ x5_1) = true := decide_eq_true c10
                      clear c10
                      by_cases c11 : x5_1 < (l0.length : Int)
                      · rw [if_pos c11] at H
                        have c11b0 : decide (x5_1 < (l0.length : Int)) = true := decide_eq_true c11
                        clear c11
                        by_cases c12 : x6_3 < (((rd_T57 l0 x5_1).f1).length : Int)
                        · rw [if_pos c12] at H
                          have c12b0 : decide (x6_3 < (((rd_T57 l0 x5_1).f1).length : Int)) = true := decide_eq_true c12
                          clear c12
                          by_cases c13 : 0 ≤ x6_3
                          · rw [if_pos c13] at H
                            have c13b0 : decide (0 ≤ x6_3) = true := decide_eq_true c13
                            clear c13
                            by_cases c14 : x5_1 < (l1.length : Int)
                            · rw [if_pos c14] at H
                              have c14b0 : decide (x5_1 < (l1.length : Int)) = true := decide_eq_true c14
                              clear c14
                              by_cases c15 : x6_3 < (((rd_T57 l1 x5_1).f1).length : Int)
                              · rw [if_pos c15] at H
                                have c15b0 : decide (x6_3 < (((rd_T57 l1 x5_1).f1).length : Int)) = true := decide_eq_true c15
                                clear c15
                                by_cases c16 : (!(((rd_T59 ((rd_T57 l0 x5_1).f1) x6_3).f0) == ((rd_T59 ((rd_T57 l1 x5_1).f1) x6_3).f0)) || (!(((rd_T59 ((rd_T57 l0 x5_1).f1) x6_3).f1) == ((rd_T59 ((rd_T57 l1 x5_1).f1) x6_3).f1)) || (!(((rd_T59 ((rd_T57 l0 x5_1).f1) x6_3).f2) == ((rd_T59 ((rd_T57 l1 x5_1).f1) x6_3).f2))))) = true
                                · rw [if_pos c16] at H
                                  have c16b0 : (!(((rd_T59 ((rd_T57 l0 x5_1).f1) x6_3).f0) == ((rd_T59 ((rd_T57 l1 x5_1).f1) x6_3).f0)) || (!(((rd_T59 ((rd_T57 l0 x5_1).f1) x6_3).f1) == ((rd_T59 ((rd_T57 l1 x5_1).f1) x6_3).f1)) || (!(((rd_T59 ((rd_T57 l0 x5_1).f1) x6_3).f2) == ((rd_T59 ((rd_T57 l1 x5_1).f1) x6_3).f2))))) = true := c16
                                  clear c16
                                  obtain rfl := Option.some.inj H
                                  have p402 : 0 ≤ (x5_1 : Int) := of_decide_eq_true (by first | (with_reducible assumption) | assumption)
                                  have q402 : x5_1 < (l0.length : Int) := of_decide_eq_true (by first | (with_reducible assumption) | assumption)
                                  obtain ⟨ad402, A402_1, c402_1, e402, hx402_0, hx402_1, hl402_1, hi402_1⟩ := at_T57 HR0.out x5_1 p402 q402
                                  cases e402
                                  have HR402_1 := Aside0.mk hi402_1
                                  have HC402_1 := Aside0.mk hl402_1
                                  clear hi402_1 hl402_1
                                  replace p402 := eq_true p402
                                  replace q402 := eq_true q402
                                  have p403 : 0 ≤ (x5_1 : Int) := of_decide_eq_true (by first | (with_reducible assumption) | assumption)
                                  have q403 : x5_1 < (l0.length : Int) := of_decide_eq_true (by first | (with_reducible assumption) | assumption)
                                  obtain ⟨ad403, A403_1, c403_1, e403, hx403_0, hx403_1, hl403_1, hi403_1⟩ := at_T57 HR0.out x5_1 p403 q403
                                  obtain rfl : ad402 = ad403 := (by injection e403)
                                  have HR403_1 := Aside0.mk hi403_1
                                  have HC403_1 := Aside0.mk hl403_1
                                  clear hi403_1 hl403_1
                                  replace p403 := eq_true p403
                                  replace q403 := eq_true q403
                                  have ea_ := Option.some.inj (hx402_1.symm.trans hx403_1)
                                  injection ea_ with ea_ en_ ec_
                                  subst ea_
                                  subst ec_
                                  clear en_
                                  have p404 : 0 ≤ (x6_3 : Int) := of_decide_eq_true (by first | (with_reducible assumption) | assumption)
                                  have q404 : x6_3 < (((rd_T57 l0 x5_1).f1).length : Int) := of_decide_eq_true (by first | (with_reducible assumption) | assumption)
                                  obtain ⟨ad404, e404, hx404_0, hx404_1, hx404_2⟩ := at_T59 HR403_1.out x6_3 p404 q404
                                  cases e404
                                  replace p404 := eq_true p404
                                  replace q404 := eq_true q404
                                  have p405 : 0 ≤ (x5_1 : Int) := of_decide_eq_true (by first | (with_reducible assumption) | assumption)
                                  have q405 : x5_1 < (l1.length : Int) := of_decide_eq_true (by first | (with_reducible assumption) | assumption)
                                  obtain ⟨ad405, A405_1, c405_1, e405, hx405_0, hx405_1, hl405_1, hi405_1⟩ := at_T57 HR1.out x5_1 p405 q405
                                  cases e405
                                  have HR405_1 := Aside0.mk hi405_1
                                  have HC405_1 := Aside0.mk hl405_1
                                  clear hi405_1 hl405_1
                                  replace p405 := eq_true p405
                                  replace q405 := eq_true q405
                                  have p406 : 0 ≤ (x6_3 : Int) := of_decide_eq_true (by first | (with_reducible assumption) | assumption)
                                  have q406 : x6_3 < (((rd_T57 l1 x5_1).f1).length : Int) := of_decide_eq_true (by first | (with_reducible assumption) | assumption)
                                  obtain ⟨ad406, e406, hx406_0, hx406_1, hx406_2⟩ := at_T59 HR405_1.out x6_3 p406 q406
                                  cases e406
                                  replace p406 := eq_true p406
                                  replace q406 := eq_true q406
                                  go_wp2
                                  repeat (go_quiet (fail); try go_wp2)
                                  go_ret
                                  exact ⟨by first | rfl | (simp; done) | (simp [*]; done), by repeat (first | exact Drawn0.refl _ | apply Drawn0.step)⟩
                                · rw [if_neg c16] at H
                                  have c16b0 : (!(((rd_T59 ((rd_T57 l0 x5_1).f1) x6_3).f0) == ((rd_T59 ((rd_T57 l1 x5_1).f1) x6_3).f0)) || (!(((rd_T59 ((rd_T57 l0 x5_1).f1) x6_3).f1) == ((rd_T59 ((rd_T57 l1 x5_1).f1) x6_3).f1)) || (!(((rd_T59 ((rd_T57 l0 x5_1).f1) x6_3).f2) == ((rd_T59 ((rd_T57 l1 x5_1).f1) x6_3).f2))))) = false := by simpa using c16
                                  clear c16
                                  have H' := Aside0.mk H
                                  clear H
                                  have p402 : 0 ≤ (x5_1 : Int) := of_decide_eq_true (by first | (with_reducible assumption) | assumption)
                                  have q402 : x5_1 < (l0.length : Int) := of_decide_eq_true (by first | (with_reducible assumption) | assumption)
                                  obtain ⟨ad402, A402_1, c402_1, e402, hx402_0, hx402_1, hl402_1, hi402_1⟩ := at_T57 HR0.out x5_1 p402 q402
                                  cases e402
                                  have HR402_1 := Aside0.mk hi402_1
                                  have HC402_1 := Aside0.mk hl402_1
                                  clear hi402_1 hl402_1
                                  replace p402 := eq_true p402
                                  replace q402 := eq_true q402
                                  have p403 : 0 ≤ (x5_1 : Int) := of_decide_eq_true (by first | (with_reducible assumption) | assumption)
                                  have q403 : x5_1 < (l0.length : Int) := of_decide_eq_true (by first | (with_reducible assumption) | assumption)
                                  obtain ⟨ad403, A403_1, c403_1, e403, hx403_0, hx403_1, hl403_1, hi403_1⟩ := at_T57 HR0.out x5_1 p403 q403
                                  obtain rfl : ad402 = ad403 := (by injection e403)
                                  have HR403_1 := Aside0.mk hi403_1
                                  have HC403_1 := Aside0.mk hl403_1
                                  clear hi403_1 hl403_1
                                  replace p403 := eq_true p403
                                  replace q403 := eq_true q403
                                  have ea_ := Option.some.inj (hx402_1.symm.trans hx403_1)
                                  injection ea_ with ea_ en_ ec_
                                  subst ea_
                                  subst ec_
                                  clear en_
                                  have p404 : 0 ≤ (x6_3 : Int) := of_decide_eq_true (by first | (with_reducible assumption) | assumption)
                                  have q404 : x6_3 < (((rd_T57 l0 x5_1).f1).length : Int) := of_decide_eq_true (by first | (with_reducible assumption) | assumption)
                                  obtain ⟨ad404, e404, hx404_0, hx404_1, hx404_2⟩ := at_T59 HR403_1.out x6_3 p404 q404
                                  cases e404
                                  replace p404 := eq_true p404
                                  replace q404 := eq_true q404
                                  have p405 : 0 ≤ (x5_1 : Int) := of_decide_eq_true (by first | (with_reducible assumption) | assumption)
                                  have q405 : x5_1 < (l1.length : Int) := of_decide_eq_true (by first | (with_reducible assumption) | assumption)
                                  obtain ⟨ad405, A405_1, c405_1, e405, hx405_0, hx405_1, hl405_1, hi405_1⟩ := at_T57 HR1.out x5_1 p405 q405
                                  cases e405
                                  have HR405_1 := Aside0.mk hi405_1
                                  have HC405_1 := Aside0.mk hl405_1
                                  clear hi405_1 hl405_1
                                  replace p405 := eq_true p405
                                  replace q405 := eq_true q405
                                  have p406 : 0 ≤ (x6_3 : Int) := of_decide_eq_true (by first | (with_reducible assumption) | assumption)
                                  have q406 : x6_3 < (((rd_T57 l1 x5_1).f1).length : Int) := of_decide_eq_true (by first | (with_reducible assumption) | assumption)
                                  obtain ⟨ad406, e406, hx406_0, hx406_1, hx406_2⟩ := at_T59 HR405_1.out x6_3 p406 q406
                                  cases e406
                                  replace p406 := eq_true p406
                                  replace q406 := eq_true q406
                                  go_wp2
                                  repeat (go_quiet (fail); try go_wp2)
                                  go_roundg k3
                                  case measure => have := HK1.out; have := HJ4.out; have := HK3.out; omega
                                  case rel => exact ⟨(wrap64 (x6_3 + 1)), (by first | rfl | (simp; done) | (simp [*]; done)), H', ⟨by have := HK1.out; have := HJ4.out; have := HK3.out; omega⟩, by repeat (first | exact Drawn0.refl _ | apply Drawn0.step)⟩
                              · rw [if_neg c15] at H
                                exact absurd H (by simp)
                            · rw [if_neg c14] at H
                              exact absurd H (by simp)
                          · rw [if_neg c13] at H
                            exact absurd H (by simp)
                        · rw [if_neg c12] at H
                          have c12b0 : decide (x6_3 < (((rd_T57 l0 x5_1).f1).length : Int)) = false := decide_eq_false c12
                          clear c12
                          have H' := Aside0.mk H
                          clear H
                          have p402 : 0 ≤ (x5_1 : Int) := of_decide_eq_true (by first | (with_reducible assumption) | assumption)
                          have q402 : x5_1 < (l0.length : Int) := of_decide_eq_true (by first | (with_reducible assumption) | assumption)
                          obtain ⟨ad402, A402_1, c402_1, e402, hx402_0, hx402_1, hl402_1, hi402_1⟩ := at_T57 HR0.out x5_1 p402 q402
                          cases e402
                          have HR402_1 := Aside0.mk hi402_1
                          have HC402_1 := Aside0.mk hl402_1
                          clear hi402_1 hl402_1
                          replace p402 := eq_true p402
                          replace q402 := eq_true q402
                          go_wp2
                          repeat (go_quiet (fail); try go_wp2)
                          go_roundg k3
                          case measure => have := HK1.out; have := HJ4.out; have := HK3.out; omega
                          case rel => exact ⟨(wrap64 (x5_1 + 1)), (by first | rfl | (simp; done) | (simp [*]; done)), H', ⟨by have := HK1.out; have := HJ4.out; have := HK3.out; omega⟩, by repeat (first | exact Drawn0.refl _ | apply Drawn0.step)⟩
                      · rw [if_neg c11] at H
                        exact absurd H (by simp)
                    · rw [if_neg c10] at H
                      exact absurd H (by simp)
        · rw [if_neg c4] at H
          have c4b0 : decide (x5_1 < (l0.length : Int)) = false := decide_eq_false c4
          clear c4
          obtain rfl := Option.some.inj H
          go_wp2
          repeat (go_quiet (fail); try go_wp2)
          go_ret
          exact ⟨by first | rfl | (simp; done) | (simp [*]; done), by repeat (first | exact Drawn0.refl _ | apply Drawn0.step)⟩
  · rw [if_neg c3] at H
    have c3b0 : ((l0.length : Int) == (l1.length : Int)) = false := beq_eq_false_iff_ne.mpr c3
    have c3b1 : ((l0.length : Int) != (l1.length : Int)) = true := bne_iff_ne.mpr c3
    have c3b2 : (l0.length == l1.length) = false := by first | simpa using c3 | (simp at c3 ⊢; omega)
    obtain rfl := Option.some.inj H
    go_enter Try.func34, Try.ntmps34
    go_wp2
    repeat (go_quiet (fail); try go_wp2)
    go_ret
    exact ⟨by first | rfl | (simp; done) | (simp [*]; done), by repeat (first | exact Drawn0.refl _ | apply Drawn0.step)⟩

end Go.Proofs.Ytlblianpbjhmoaa.PGs
