-- Written by wip/rprint.py of this session's repo (the kit's printer with patches), out of the translation. Not trusted: Lean checks it.
import Derived.Test.YtcfliceeablckaaPNrx0
import Derived.Test.YtcfliceeablckaaPNrx14
import Derived.Test.YtcfliceeablckaaPNrx15
import Derived.Test.YtcfliceeablckaaPNrx16
import Derived.Test.YtcfliceeablckaaPNrx17
import Derived.Test.YtcfliceeablckaaPNrx19
namespace Go.Proofs.Ytcfliceeablckaa.PNr
open Go.RowKit Go.Proofs.YtcfliceeablckaaW.PrintWords Go.Proofs.YtcfliceeablckaaW.PrintLast Go.Proofs.YtcfliceeablckaaW.PrintMore Go.Proofs.Ytcfliceeablckaa.MWords
attribute [local go_sem] max2_int min2_int max_two min_two max_three min_three max_four min_four   -- for this text's walks alone
set_option linter.unusedVariables false
set_option linter.unusedSimpArgs false

/-! ### regattalaw03_RatioLeast: function 7 -/
mutual
def regattalaw03_RatioLeast.j0 : Nat → Int → Int → Bool → Option (Bool)
  | 0, _, _, _ => none
  | k + 1, x0, x1, x5 => (regattaref02_Of.f k (IntKind.u64.wrap (x0))).bind fun t675 => ((regattaref02_Of.f k (IntKind.u64.wrap (x1))).bind fun t678 => ((ratio_Least.f k t675 t678).bind fun bt682 => ((regattaref03_Little.f k bt682.1 bt682.2).bind fun bt689 => ((regattaref03_Little.f k t675 t678).bind fun bt693 => ((regattaref03_Least.f k bt693.1 bt693.2.1 bt693.2.2).bind fun bt696 => ((regattaref02_Of.f k bt696.1).bind fun t700 => ((regattaref02_Text.f k t700).bind fun t703 => (if bt696.2.1 = 1 then (regattalaw03_RatioLeast.j1 k x5 t703 t675 t678 bt682.1 bt682.2 bt689.1 bt689.2.1 bt689.2.2 bt696.1 bt696.2.1 bt696.2.2) else (if t703.size + 1 ≤ 9223372036854775807 then ((regattaref02_Of.f k bt696.2.1).bind fun t704 => ((regattaref02_Text.f k t704).bind fun t707 => (if t703.size + 1 + t707.size ≤ 9223372036854775807 then (regattalaw03_RatioLeast.j1 k x5 ((t703 ++ (⟨#[47]⟩ : ByteArray)) ++ t707) t675 t678 bt682.1 bt682.2 bt689.1 bt689.2.1 bt689.2.2 bt696.1 bt696.2.1 bt696.2.2) else (none)))) else (none))))))))))
def regattalaw03_RatioLeast.j1 : Nat → Bool → ByteArray → List Int → List Int → List Int → List Int → Int → Int → Bool → Int → Int → Bool → Option (Bool)
  | 0, _, _, _, _, _, _, _, _, _, _, _, _ => none
  | k + 1, x5, x10, x682000, x682001, x689000, x689001, x693000, x693001, x693002, x700000, x700001, x700002 => if x5 = true then (if x693002 = true then (if x693000 = x700000 then (if x693001 = x700001 then ((ratio_Text.f k x682000 x682001).bind fun t708 => (if t708.toList = x10.toList then ((ratio_Text.f k x689000 x689001).bind fun t709 => (if t709.toList = x10.toList then ((ratio_Least.f k x689000 x689001).bind fun bt710 => ((regattalaw03_same.f k bt710.1 bt710.2 x689000 x689001).bind fun t716 => (some t716))) else (some false))) else (some false))) else (some false)) else (some false)) else (some false)) else (some false)
end
def regattalaw03_RatioLeast.f (k : Nat) (a0 : Int) (a1 : Int) : Option (Bool) := (regattalaw03_awake.f k).bind fun t674 => (if a1 = 0 then (regattalaw03_RatioLeast.j0 k a0 1 t674) else (regattalaw03_RatioLeast.j0 k a0 a1 t674))
theorem regattalaw03_RatioLeast.mono_l : ∀ k, (∀ y0 y1 y2, LeO (regattalaw03_RatioLeast.j0 k y0 y1 y2) (regattalaw03_RatioLeast.j0 (k + 1) y0 y1 y2)) ∧ (∀ y0 y1 y2 y3 y4 y5 y6 y7 y8 y9 y10 y11, LeO (regattalaw03_RatioLeast.j1 k y0 y1 y2 y3 y4 y5 y6 y7 y8 y9 y10 y11) (regattalaw03_RatioLeast.j1 (k + 1) y0 y1 y2 y3 y4 y5 y6 y7 y8 y9 y10 y11))
  | 0 => ⟨fun _ _ _ r h => by simp [regattalaw03_RatioLeast.j0] at h, fun _ _ _ _ _ _ _ _ _ _ _ _ r h => by simp [regattalaw03_RatioLeast.j1] at h⟩
  | k + 1 => by
    obtain ⟨ih0, ih1⟩ := regattalaw03_RatioLeast.mono_l k
    refine ⟨?_, ?_⟩
    · intro y0 y1 y2
      unfold regattalaw03_RatioLeast.j0
      repeat' first
      | (with_reducible exact ih0 _ _ _)
      | (with_reducible exact ih1 _ _ _ _ _ _ _ _ _ _ _ _)
      | (with_reducible exact ratio_Least.mono _ _ _)
      | (with_reducible exact ratio_Text.mono _ _ _)
      | (with_reducible exact regattalaw03_awake.mono _)
      | (with_reducible exact regattalaw03_same.mono _ _ _ _ _)
      | (with_reducible exact regattaref02_Of.mono _ _)
      | (with_reducible exact regattaref02_Text.mono _ _)
      | (with_reducible exact regattaref03_Least.mono _ _ _ _)
      | (with_reducible exact regattaref03_Little.mono _ _ _)
      | (with_reducible exact LeO.refl _)
      | (with_reducible exact LeO.none _)
      | (with_reducible refine LeO.ite ?_ ?_)
      | (with_reducible refine LeO.bind ?_ (fun _ => ?_))
      | exact ih0 _ _ _
      | exact ih1 _ _ _ _ _ _ _ _ _ _ _ _
      | exact ratio_Least.mono _ _ _
      | exact ratio_Text.mono _ _ _
      | exact regattalaw03_awake.mono _
      | exact regattalaw03_same.mono _ _ _ _ _
      | exact regattaref02_Of.mono _ _
      | exact regattaref02_Text.mono _ _
      | exact regattaref03_Least.mono _ _ _ _
      | exact regattaref03_Little.mono _ _ _
      | exact LeO.none _
      | refine LeO.ite ?_ ?_
      | refine LeO.bind ?_ (fun _ => ?_)
    · intro y0 y1 y2 y3 y4 y5 y6 y7 y8 y9 y10 y11
      unfold regattalaw03_RatioLeast.j1
      repeat' first
      | (with_reducible exact ih0 _ _ _)
      | (with_reducible exact ih1 _ _ _ _ _ _ _ _ _ _ _ _)
      | (with_reducible exact ratio_Least.mono _ _ _)
      | (with_reducible exact ratio_Text.mono _ _ _)
      | (with_reducible exact regattalaw03_awake.mono _)
      | (with_reducible exact regattalaw03_same.mono _ _ _ _ _)
      | (with_reducible exact regattaref02_Of.mono _ _)
      | (with_reducible exact regattaref02_Text.mono _ _)
      | (with_reducible exact regattaref03_Least.mono _ _ _ _)
      | (with_reducible exact regattaref03_Little.mono _ _ _)
      | (with_reducible exact LeO.refl _)
      | (with_reducible exact LeO.none _)
      | (with_reducible refine LeO.ite ?_ ?_)
      | (with_reducible refine LeO.bind ?_ (fun _ => ?_))
      | exact ih0 _ _ _
      | exact ih1 _ _ _ _ _ _ _ _ _ _ _ _
      | exact ratio_Least.mono _ _ _
      | exact ratio_Text.mono _ _ _
      | exact regattalaw03_awake.mono _
      | exact regattalaw03_same.mono _ _ _ _ _
      | exact regattaref02_Of.mono _ _
      | exact regattaref02_Text.mono _ _
      | exact regattaref03_Least.mono _ _ _ _
      | exact regattaref03_Little.mono _ _ _
      | exact LeO.none _
      | refine LeO.ite ?_ ?_
      | refine LeO.bind ?_ (fun _ => ?_)
theorem regattalaw03_RatioLeast.mono : ∀ a0 a1 k, LeO (regattalaw03_RatioLeast.f k a0 a1) (regattalaw03_RatioLeast.f (k + 1) a0 a1) := by
  intro a0 a1 k
  obtain ⟨ih0, ih1⟩ := regattalaw03_RatioLeast.mono_l k
  unfold regattalaw03_RatioLeast.f
  repeat' first
      | (with_reducible exact ih0 _ _ _)
      | (with_reducible exact ih1 _ _ _ _ _ _ _ _ _ _ _ _)
      | (with_reducible exact ratio_Least.mono _ _ _)
      | (with_reducible exact ratio_Text.mono _ _ _)
      | (with_reducible exact regattalaw03_awake.mono _)
      | (with_reducible exact regattalaw03_same.mono _ _ _ _ _)
      | (with_reducible exact regattaref02_Of.mono _ _)
      | (with_reducible exact regattaref02_Text.mono _ _)
      | (with_reducible exact regattaref03_Least.mono _ _ _ _)
      | (with_reducible exact regattaref03_Little.mono _ _ _)
      | (with_reducible exact LeO.refl _)
      | (with_reducible exact LeO.none _)
      | (with_reducible refine LeO.ite ?_ ?_)
      | (with_reducible refine LeO.bind ?_ (fun _ => ?_))
      | exact ih0 _ _ _
      | exact ih1 _ _ _ _ _ _ _ _ _ _ _ _
      | exact ratio_Least.mono _ _ _
      | exact ratio_Text.mono _ _ _
      | exact regattalaw03_awake.mono _
      | exact regattalaw03_same.mono _ _ _ _ _
      | exact regattaref02_Of.mono _ _
      | exact regattaref02_Text.mono _ _
      | exact regattaref03_Least.mono _ _ _ _
      | exact regattaref03_Little.mono _ _ _
      | exact LeO.none _
      | refine LeO.ite ?_ ?_
      | refine LeO.bind ?_ (fun _ => ?_)
def regattalaw03_RatioLeast.T11 : Bool × List (List Nat × List Nat) := (true, [([], []), ([0], [0]), ([1], [1]), ([2, 1], [1, 2]), ([1, 3], [1, 3]), ([4, 1], [4]), ([5], [5]), ([6, 5], [5, 6]), ([5], [5]), ([8, 5], [5, 8]), ([7, 9, 5], [5, 7, 9]), ([5, 10], [5, 10]), ([11, 5], [11]), ([12], [12]), ([13, 12], [12, 13]), ([12], [12]), ([15, 12], [12, 15]), ([14, 16, 12], [12, 14, 16]), ([12, 17], [12, 17]), ([18, 12], [18]), ([19], [19]), ([20, 19, 19], [19, 20]), ([19], [19]), ([21, 22, 19], [19, 21, 22]), ([19, 23], [19, 23]), ([24, 21], [24]), ([25], [25]), ([26, 25, 25], [25, 26]), ([25], [25]), ([27, 28, 25], [25, 27, 28]), ([25, 29], [25, 29]), ([30, 27], [30]), ([31], [31]), ([32, 31, 31], [31, 32]), ([31], [31]), ([33, 34, 33, 31], [31, 33, 34]), ([31, 35], [31, 35]), ([36, 35, 0, 1, 2, 3, 4, 5, 6, 7, 8, 9, 10, 11, 12, 13, 14, 15, 16, 17, 18, 19, 20, 21, 22, 23, 24, 25, 26, 27, 28, 29, 30, 31, 32, 33, 34, 35, 36], [36])])
def regattalaw03_RatioLeast.B11 : List Nat := [0, 1, 3, 7, 15, 31, 63, 127, 63, 319, 1023, 2047, 4095, 8191, 16383, 8191, 40959, 131071, 262143, 524287, 1048575, 2097151, 1048575, 8388607, 16777215, 33554431, 67108863, 134217727, 67108863, 536870911, 1073741823, 2147483647, 4294967295, 8589934591, 4294967295, 34359738367, 68719476735, 137438953471]
theorem regattalaw03_RatioLeast.tab11 : rtab .any (opsOf Try.f7 11) = regattalaw03_RatioLeast.T11 := by kernel_rfl
theorem regattalaw03_RatioLeast.bits11 : waitsOk regattalaw03_RatioLeast.T11.2 regattalaw03_RatioLeast.B11 = true := by kernel_rfl
set_option maxHeartbeats 8000000 in
set_option maxRecDepth 100000 in
theorem regattalaw03_RatioLeast.calls (k : Nat) (a0 : Int) (a1 : Int) (r : Bool) (w : World) (hr_ : Aside0 (r = true)) (h : regattalaw03_RatioLeast.f k a0 a1 = some r) :
    Calls Try.prog 7 #[.int .u32 a0, .int .u32 a1] w fun e w' => e = .returned (.bool r) ∧ Below w.heap.size w w' := by
  have hu45 := Try.underlying45
  have hu48 := Try.underlying48
  have HB := Aside0.mk (Below.refl w.heap.size w)
  have H : ((regattalaw03_awake.f k).bind fun t674 => (if a1 = 0 then (regattalaw03_RatioLeast.j0 k a0 1 t674) else (regattalaw03_RatioLeast.j0 k a0 a1 t674))) = some r := h
  clear h
  replace H := Option.bind_eq_some_iff.mp H
  obtain ⟨t674, A30, H⟩ := H
  replace H : (if a1 = 0 then (regattalaw03_RatioLeast.j0 k a0 1 t674) else (regattalaw03_RatioLeast.j0 k a0 a1 t674)) = some r := H
  have A3 := Aside0.mk A30
  clear A30
  have HC4 := Aside0.mk H
  clear H
  go_enter Try.func7, Try.ntmps7
  go_upto_if 13 with (first | ((with_reducible refine gate_callee (f := 28) rfl ?_); refine goesL_ (some 11) rfl rfl Try.func28 (by kernel_rfl) rfl #[] rfl (by (try simp only [List.map_toArray, List.map_cons, List.map_nil]); first | done | rfl | (simp only [List.length_drop, List.length_take]; rfl)) ?_; (with_reducible refine (regattalaw03_awake.calls k  t674 _ A3.out).mono ?_); rintro e w5 ⟨rfl, hb⟩; refine ⟨_, rfl, ?_⟩; have n0_ := Aside0.mk (below_step (by repeat (first | (with_reducible first | exact HB.out | apply below_alloc | apply pw_below_drewN | apply below_drew1) | exact HB.out)) hb); clear HB; have HB := n0_; clear n0_; (try clear hb); (try clear hb2); (try clear hk); (try clear hi)))
  (try simp only [Act.put, List.setIfInBounds_toArray, List.set_cons_zero, List.set_cons_succ])
  go_cut [1] (fun v1 wc => ∃ (kq : Nat) (x1_3 : Int), v1 = .int .u32 x1_3 ∧ Aside0 (regattalaw03_RatioLeast.j0 kq a0 x1_3 t674 = some r) ∧ Aside0 (kq ≤ k) ∧ Aside0 (Below w.heap.size w wc))
  case first =>
    have H := HC4.out
    clear HC4
    by_cases c6 : a1 = 0
    · rw [if_pos c6] at H
      have c6b0 : (a1 == 0) = true := beq_iff_eq.mpr c6
      have c6b1 : (a1 != 0) = false := bne_eq_false_iff_eq.mpr c6
      clear c6
      (first | rw [c6b0] | (simp only [i64_w, i32_w]; rw [c6b0]) | skip)
      have H' := Aside0.mk H
      clear H
      go_wp2
      go_meet
      case rel => exact ⟨_, (1), (by first | rfl | (simp; done) | (simp [*]; done)), H', ⟨by first | omega | exact Nat.le_refl _⟩, ⟨by repeat (first | (with_reducible first | exact HB.out | apply below_alloc | apply pw_below_drewN | apply below_drew1) | exact HB.out)⟩⟩
    · rw [if_neg c6] at H
      have c6b0 : (a1 == 0) = false := beq_eq_false_iff_ne.mpr c6
      have c6b1 : (a1 != 0) = true := bne_iff_ne.mpr c6
      (first | rw [c6b0] | (simp only [i64_w, i32_w]; rw [c6b0]) | skip)
      have H' := Aside0.mk H
      clear H
      go_wp2
      go_meet
      case rel => exact ⟨_, (a1), (by first | rfl | (simp; done) | (simp [*]; done)), H', ⟨by first | omega | exact Nat.le_refl _⟩, ⟨by repeat (first | (with_reducible first | exact HB.out | apply below_alloc | apply pw_below_drewN | apply below_drew1) | exact HB.out)⟩⟩
  case rest =>
    clear HC4
    try clear c2
    try clear p2
    try clear c6
    try clear c6b0
    try clear c6b1
    obtain ⟨kq, x1_3, rfl, HA, HJ3, HB⟩ := hcut
    cases kq with
    | zero => exact absurd HA.out (by simp [regattalaw03_RatioLeast.j0])
    | succ kj3 =>
      have H := HA.out
      clear HA
      simp only [regattalaw03_RatioLeast.j0] at H
      replace H := Option.bind_eq_some_iff.mp H
      obtain ⟨t675, A70, H⟩ := H
      replace H : ((regattaref02_Of.f kj3 (IntKind.u64.wrap (x1_3))).bind fun t678 => ((ratio_Least.f kj3 t675 t678).bind fun bt682 => ((regattaref03_Little.f kj3 bt682.1 bt682.2).bind fun bt689 => ((regattaref03_Little.f kj3 t675 t678).bind fun bt693 => ((regattaref03_Least.f kj3 bt693.1 bt693.2.1 bt693.2.2).bind fun bt696 => ((regattaref02_Of.f kj3 bt696.1).bind fun t700 => ((regattaref02_Text.f kj3 t700).bind fun t703 => (if bt696.2.1 = 1 then (regattalaw03_RatioLeast.j1 kj3 t674 t703 t675 t678 bt682.1 bt682.2 bt689.1 bt689.2.1 bt689.2.2 bt696.1 bt696.2.1 bt696.2.2) else (if t703.size + 1 ≤ 9223372036854775807 then ((regattaref02_Of.f kj3 bt696.2.1).bind fun t704 => ((regattaref02_Text.f kj3 t704).bind fun t707 => (if t703.size + 1 + t707.size ≤ 9223372036854775807 then (regattalaw03_RatioLeast.j1 kj3 t674 ((t703 ++ (⟨#[47]⟩ : ByteArray)) ++ t707) t675 t678 bt682.1 bt682.2 bt689.1 bt689.2.1 bt689.2.2 bt696.1 bt696.2.1 bt696.2.2) else (none)))) else (none)))))))))) = some r := H
      have A7 := Aside0.mk A70
      clear A70
      replace H := Option.bind_eq_some_iff.mp H
      obtain ⟨t678, A80, H⟩ := H
      replace H : ((ratio_Least.f kj3 t675 t678).bind fun bt682 => ((regattaref03_Little.f kj3 bt682.1 bt682.2).bind fun bt689 => ((regattaref03_Little.f kj3 t675 t678).bind fun bt693 => ((regattaref03_Least.f kj3 bt693.1 bt693.2.1 bt693.2.2).bind fun bt696 => ((regattaref02_Of.f kj3 bt696.1).bind fun t700 => ((regattaref02_Text.f kj3 t700).bind fun t703 => (if bt696.2.1 = 1 then (regattalaw03_RatioLeast.j1 kj3 t674 t703 t675 t678 bt682.1 bt682.2 bt689.1 bt689.2.1 bt689.2.2 bt696.1 bt696.2.1 bt696.2.2) else (if t703.size + 1 ≤ 9223372036854775807 then ((regattaref02_Of.f kj3 bt696.2.1).bind fun t704 => ((regattaref02_Text.f kj3 t704).bind fun t707 => (if t703.size + 1 + t707.size ≤ 9223372036854775807 then (regattalaw03_RatioLeast.j1 kj3 t674 ((t703 ++ (⟨#[47]⟩ : ByteArray)) ++ t707) t675 t678 bt682.1 bt682.2 bt689.1 bt689.2.1 bt689.2.2 bt696.1 bt696.2.1 bt696.2.2) else (none)))) else (none))))))))) = some r := H
      have A8 := Aside0.mk A80
      clear A80
      replace H := Option.bind_eq_some_iff.mp H
      obtain ⟨⟨t682, t685⟩, A90, H⟩ := H
      replace H : ((regattaref03_Little.f kj3 t682 t685).bind fun bt689 => ((regattaref03_Little.f kj3 t675 t678).bind fun bt693 => ((regattaref03_Least.f kj3 bt693.1 bt693.2.1 bt693.2.2).bind fun bt696 => ((regattaref02_Of.f kj3 bt696.1).bind fun t700 => ((regattaref02_Text.f kj3 t700).bind fun t703 => (if bt696.2.1 = 1 then (regattalaw03_RatioLeast.j1 kj3 t674 t703 t675 t678 t682 t685 bt689.1 bt689.2.1 bt689.2.2 bt696.1 bt696.2.1 bt696.2.2) else (if t703.size + 1 ≤ 9223372036854775807 then ((regattaref02_Of.f kj3 bt696.2.1).bind fun t704 => ((regattaref02_Text.f kj3 t704).bind fun t707 => (if t703.size + 1 + t707.size ≤ 9223372036854775807 then (regattalaw03_RatioLeast.j1 kj3 t674 ((t703 ++ (⟨#[47]⟩ : ByteArray)) ++ t707) t675 t678 t682 t685 bt689.1 bt689.2.1 bt689.2.2 bt696.1 bt696.2.1 bt696.2.2) else (none)))) else (none)))))))) = some r := H
      have A9 := Aside0.mk A90
      clear A90
      replace H := Option.bind_eq_some_iff.mp H
      obtain ⟨⟨t689, t690, t691⟩, A100, H⟩ := H
      replace H : ((regattaref03_Little.f kj3 t675 t678).bind fun bt693 => ((regattaref03_Least.f kj3 bt693.1 bt693.2.1 bt693.2.2).bind fun bt696 => ((regattaref02_Of.f kj3 bt696.1).bind fun t700 => ((regattaref02_Text.f kj3 t700).bind fun t703 => (if bt696.2.1 = 1 then (regattalaw03_RatioLeast.j1 kj3 t674 t703 t675 t678 t682 t685 t689 t690 t691 bt696.1 bt696.2.1 bt696.2.2) else (if t703.size + 1 ≤ 9223372036854775807 then ((regattaref02_Of.f kj3 bt696.2.1).bind fun t704 => ((regattaref02_Text.f kj3 t704).bind fun t707 => (if t703.size + 1 + t707.size ≤ 9223372036854775807 then (regattalaw03_RatioLeast.j1 kj3 t674 ((t703 ++ (⟨#[47]⟩ : ByteArray)) ++ t707) t675 t678 t682 t685 t689 t690 t691 bt696.1 bt696.2.1 bt696.2.2) else (none)))) else (none))))))) = some r := H
      have A10 := Aside0.mk A100
      clear A100
      replace H := Option.bind_eq_some_iff.mp H
      obtain ⟨⟨t693, t694, t695⟩, A110, H⟩ := H
      replace H : ((regattaref03_Least.f kj3 t693 t694 t695).bind fun bt696 => ((regattaref02_Of.f kj3 bt696.1).bind fun t700 => ((regattaref02_Text.f kj3 t700).bind fun t703 => (if bt696.2.1 = 1 then (regattalaw03_RatioLeast.j1 kj3 t674 t703 t675 t678 t682 t685 t689 t690 t691 bt696.1 bt696.2.1 bt696.2.2) else (if t703.size + 1 ≤ 9223372036854775807 then ((regattaref02_Of.f kj3 bt696.2.1).bind fun t704 => ((regattaref02_Text.f kj3 t704).bind fun t707 => (if t703.size + 1 + t707.size ≤ 9223372036854775807 then (regattalaw03_RatioLeast.j1 kj3 t674 ((t703 ++ (⟨#[47]⟩ : ByteArray)) ++ t707) t675 t678 t682 t685 t689 t690 t691 bt696.1 bt696.2.1 bt696.2.2) else (none)))) else (none)))))) = some r := H
      have A11 := Aside0.mk A110
      clear A110
      replace H := Option.bind_eq_some_iff.mp H
      obtain ⟨⟨t696, t697, t698⟩, A120, H⟩ := H
      replace H : ((regattaref02_Of.f kj3 t696).bind fun t700 => ((regattaref02_Text.f kj3 t700).bind fun t703 => (if t697 = 1 then (regattalaw03_RatioLeast.j1 kj3 t674 t703 t675 t678 t682 t685 t689 t690 t691 t696 t697 t698) else (if t703.size + 1 ≤ 9223372036854775807 then ((regattaref02_Of.f kj3 t697).bind fun t704 => ((regattaref02_Text.f kj3 t704).bind fun t707 => (if t703.size + 1 + t707.size ≤ 9223372036854775807 then (regattalaw03_RatioLeast.j1 kj3 t674 ((t703 ++ (⟨#[47]⟩ : ByteArray)) ++ t707) t675 t678 t682 t685 t689 t690 t691 t696 t697 t698) else (none)))) else (none))))) = some r := H
      have A12 := Aside0.mk A120
      clear A120
      replace H := Option.bind_eq_some_iff.mp H
      obtain ⟨t700, A130, H⟩ := H
      replace H : ((regattaref02_Text.f kj3 t700).bind fun t703 => (if t697 = 1 then (regattalaw03_RatioLeast.j1 kj3 t674 t703 t675 t678 t682 t685 t689 t690 t691 t696 t697 t698) else (if t703.size + 1 ≤ 9223372036854775807 then ((regattaref02_Of.f kj3 t697).bind fun t704 => ((regattaref02_Text.f kj3 t704).bind fun t707 => (if t703.size + 1 + t707.size ≤ 9223372036854775807 then (regattalaw03_RatioLeast.j1 kj3 t674 ((t703 ++ (⟨#[47]⟩ : ByteArray)) ++ t707) t675 t678 t682 t685 t689 t690 t691 t696 t697 t698) else (none)))) else (none)))) = some r := H
      have A13 := Aside0.mk A130
      clear A130
      replace H := Option.bind_eq_some_iff.mp H
      obtain ⟨t703, A140, H⟩ := H
      replace H : (if t697 = 1 then (regattalaw03_RatioLeast.j1 kj3 t674 t703 t675 t678 t682 t685 t689 t690 t691 t696 t697 t698) else (if t703.size + 1 ≤ 9223372036854775807 then ((regattaref02_Of.f kj3 t697).bind fun t704 => ((regattaref02_Text.f kj3 t704).bind fun t707 => (if t703.size + 1 + t707.size ≤ 9223372036854775807 then (regattalaw03_RatioLeast.j1 kj3 t674 ((t703 ++ (⟨#[47]⟩ : ByteArray)) ++ t707) t675 t678 t682 t685 t689 t690 t691 t696 t697 t698) else (none)))) else (none))) = some r := H
      have A14 := Aside0.mk A140
      clear A140
      have HC15 := Aside0.mk H
      clear H
      go_upto_if 34 with (first | ((with_reducible refine gate_callee (f := 29) rfl ?_); refine goesL_ (some 16) rfl rfl Try.func29 (by kernel_rfl) rfl #[.int .u64 (IntKind.u64.wrap (a0))] rfl (by (try simp only [List.map_toArray, List.map_cons, List.map_nil]); first | done | rfl | (simp only [List.length_drop, List.length_take]; rfl)) ?_; (with_reducible refine (regattaref02_Of.calls kj3 (IntKind.u64.wrap (a0)) t675 _ A7.out).mono ?_); rintro e w16 ⟨v676, rfl, ho0, hb⟩; refine ⟨_, rfl, ?_⟩; have n0_ := Aside0.mk (Kd.R_lower ho0 (below_size (by repeat (first | (with_reducible first | exact HB.out | apply below_alloc | apply pw_below_drewN | apply below_drew1) | exact HB.out)))); have n1_ := Aside0.mk (below_step (by repeat (first | (with_reducible first | exact HB.out | apply below_alloc | apply pw_below_drewN | apply below_drew1) | exact HB.out)) hb); clear HB; have HO677 := n0_; have HB := n1_; clear n0_ n1_; (try clear hb); (try clear hb2); (try clear hk); (try clear hi); (try clear ho0)) | ((with_reducible refine gate_callee (f := 29) rfl ?_); refine goesL_ (some 19) rfl rfl Try.func29 (by kernel_rfl) rfl #[.int .u64 (IntKind.u64.wrap (x1_3))] rfl (by (try simp only [List.map_toArray, List.map_cons, List.map_nil]); first | done | rfl | (simp only [List.length_drop, List.length_take]; rfl)) ?_; (with_reducible refine (regattaref02_Of.calls kj3 (IntKind.u64.wrap (x1_3)) t678 _ A8.out).mono ?_); rintro e w17 ⟨v679, rfl, ho0, hb⟩; refine ⟨_, rfl, ?_⟩; have n0_ := Aside0.mk (Kd.R_elder' (by (with_reducible repeat (first | apply Kd.R_alloc | apply Kd.R_drewN | apply Kd.R_drew)); exact HO677.out) (Kd.R_base ho0) hb); have n1_ := Aside0.mk (Kd.R_lower (Kd.R_new' ho0 (Kd.R_lt (by (with_reducible repeat (first | apply Kd.R_alloc | apply Kd.R_drewN | apply Kd.R_drew)); exact HO677.out))) (below_size (by repeat (first | (with_reducible first | exact HB.out | apply below_alloc | apply pw_below_drewN | apply below_drew1) | exact HB.out)))); have n2_ := Aside0.mk (below_step (by repeat (first | (with_reducible first | exact HB.out | apply below_alloc | apply pw_below_drewN | apply below_drew1) | exact HB.out)) hb); clear HO677; clear HB; have HO677 := n0_; have HO680 := n1_; have HB := n2_; clear n0_ n1_ n2_; (try clear hb); (try clear hb2); (try clear hk); (try clear hi); (try clear ho0); obtain ⟨Ao18, co18, eo18⟩ := Kd.R_slice HO680.out; subst eo18; obtain ⟨Ao19, co19, eo19⟩ := Kd.R_slice HO677.out; subst eo19) | ((with_reducible refine gate_dst (N := 6) rfl ?_); refine box_event ?hg (N := 6) ?hd (cs := #[.slice none 0 0, .slice none 0 0]) (t := 45) ?hr ?_; (case hd => rfl); (case hg => rfl); (case hr => first | (go_simp; done) | (go_simp; rfl)); intro gb681 hg w20 hbox hb; have n0_ := Aside0.mk (Kd.R_below (by (with_reducible repeat (first | apply Kd.R_alloc | apply Kd.R_drewN | apply Kd.R_drew)); exact HO677.out) hb); have n1_ := Aside0.mk (Kd.R_below (by (with_reducible repeat (first | apply Kd.R_alloc | apply Kd.R_drewN | apply Kd.R_drew)); exact HO680.out) hb); have n2_ := Aside0.mk (below_step (by repeat (first | (with_reducible first | exact HB.out | apply below_alloc | apply pw_below_drewN | apply below_drew1) | exact HB.out)) hb); have n3_ := Aside0.mk (hbox); have n4_ := Aside0.mk ((by rw [hg]; exact (below_size (by repeat (first | (with_reducible first | exact HB.out | apply below_alloc | apply pw_below_drewN | apply below_drew1) | exact HB.out))) : w.heap.size ≤ gb681)); have n5_ := Aside0.mk ((by rw [hg]; exact (below_size (by repeat (first | (with_reducible first | exact HB.out | apply below_alloc | apply pw_below_drewN | apply below_drew1) | exact HB.out))) : w.heap.size ≤ gb681)); clear HO677; clear HO680; clear HB; have HO677 := n0_; have HO680 := n1_; have HB := n2_; have BK681 := n3_; have GW681 := n4_; have GE681 := n5_; clear n0_ n1_ n2_ n3_ n4_ n5_; clear hb hbox hg; have hcz21_0 : w20.cell? ⟨gb681, 0, none⟩ = some (.slice none 0 0) := (blk_cell BK681.out 0).trans rfl; have hcz21_1 : w20.cell? ⟨gb681, 1, none⟩ = some (.slice none 0 0) := (blk_cell BK681.out 1).trans rfl; have hfz21_0 := blk_frozen BK681.out 0; have hfz21_1 := blk_frozen BK681.out 1) | ((with_reducible refine gate_store (t := 45) (p := 6) rfl ?_); refine store_event (t := 45) (p := 6) (v := ?vo_w22) (w1 := ((w20.setCell ⟨gb681, 0, none⟩ (.slice Ao19 t675.length co19)).setCell ⟨gb681, 1, none⟩ (.slice Ao18 t678.length co18))) ?hg ?ho ?hn ?hr ?_; (case ho => rfl); (case hg => rfl); (case hn => rfl); (case hr => first | (go_simp; done) | (go_simp; rfl)); intro w22 hw; have n0_ : Aside0 (Kd.R (Kd.int .u32) 30 w22 w.heap.size (fun k_ => some k_ ≠ (.slice Ao18 t678.length co18 : Value).ownBlock) (.slice Ao19 t675.length co19) t675) := ⟨(by rw [hw]; exact (by (with_reducible repeat (first | apply Kd.R_alloc | apply Kd.R_drewN | apply Kd.R_drew)); exact Kd.R_mono (Kd.R_far (p := ⟨gb681, 1, none⟩) (Kd.R_far (p := ⟨gb681, 0, none⟩) (Kd.R_types HO677.out BK681.out (by decide)) (fun _ hk => hk.2) (.slice Ao19 t675.length co19)) (fun _ hk => hk.2) (.slice Ao18 t678.length co18)) (fun _ hk => hk.1.2)))⟩; have n1_ : Aside0 (Kd.R (Kd.int .u32) 30 w22 w.heap.size (fun k_ => some k_ ≠ (.slice Ao19 t675.length co19 : Value).ownBlock) (.slice Ao18 t678.length co18) t678) := ⟨(by rw [hw]; exact (by (with_reducible repeat (first | apply Kd.R_alloc | apply Kd.R_drewN | apply Kd.R_drew)); exact Kd.R_mono (Kd.R_far (p := ⟨gb681, 1, none⟩) (Kd.R_far (p := ⟨gb681, 0, none⟩) (Kd.R_types HO680.out BK681.out (by decide)) (fun _ hk => hk.2) (.slice Ao19 t675.length co19)) (fun _ hk => hk.2) (.slice Ao18 t678.length co18)) (fun _ hk => hk.1.2)))⟩; have n2_ : Aside0 (w22.heap[gb681]? = some (.cells #[.slice Ao19 t675.length co19, .slice Ao18 t678.length co18] 45 (0, 0))) := ⟨(by rw [hw]; exact (by (with_reducible repeat (first | refine blk_drewN ?_ _ | refine blk_drew ?_ | refine blk_alloc ?_ _)); refine blk_put (cs := #[.slice Ao19 t675.length co19, .slice none 0 0]) ?_ 1 _ rfl; (with_reducible repeat (first | refine blk_drewN ?_ _ | refine blk_drew ?_ | refine blk_alloc ?_ _)); refine blk_put (cs := #[.slice none 0 0, .slice none 0 0]) ?_ 0 _ rfl; (with_reducible repeat (first | refine blk_drewN ?_ _ | refine blk_drew ?_ | refine blk_alloc ?_ _)); exact BK681.out))⟩; have n3_ : Aside0 (Below w.heap.size w w22) := ⟨(by rw [hw]; exact (by repeat (first | (with_reducible first | exact HB.out | apply below_alloc | apply pw_below_drewN | apply below_drew1 | refine below_set ?_ GE681.out) | exact HB.out)))⟩; clear hw; clear HO677; clear HO680; clear BK681; clear HB; have HO677 := n0_; have HO680 := n1_; have BK681 := n2_; have HB := n3_; clear n0_ n1_ n2_ n3_; have hcz23_0 : w22.cell? ⟨gb681, 0, none⟩ = some (.slice Ao19 t675.length co19) := (blk_cell BK681.out 0).trans rfl; have hcz23_1 : w22.cell? ⟨gb681, 1, none⟩ = some (.slice Ao18 t678.length co18) := (blk_cell BK681.out 1).trans rfl; have hfz23_0 := blk_frozen BK681.out 0; have hfz23_1 := blk_frozen BK681.out 1) | ((with_reducible refine gate_callee (f := 30) rfl ?_); refine goesL_ (some 22) rfl rfl Try.func30 (by kernel_rfl) rfl #[.agg #[.slice Ao19 t675.length co19, .slice Ao18 t678.length co18]] rfl (by (try simp only [List.map_toArray, List.map_cons, List.map_nil]); first | done | rfl | (simp only [List.length_drop, List.length_take]; rfl)) ?_; (with_reducible refine (ratio_Least.calls kj3 (fun k_ => some k_ = (.slice Ao19 t675.length co19 : Value).ownBlock) _ _ t675 (fun k_ => some k_ = (.slice Ao18 t678.length co18 : Value).ownBlock) _ _ t678 t682 t685 _ ?side1 ?side2 A9.out).mono ?_); (case side1 => exact Kd.R_V (Kd.R_tight rfl (Kd.R_types (HO677.out) BK681.out (by decide)))); (case side2 => exact Kd.R_V (Kd.R_tight rfl (Kd.R_types (HO680.out) BK681.out (by decide)))); rintro e w24 ⟨v683, v686, rfl, ho0, ho1, hb⟩; refine ⟨_, rfl, ?_⟩; have n0_ := Aside0.mk (Kd.R_below (by (with_reducible repeat (first | apply Kd.R_alloc | apply Kd.R_drewN | apply Kd.R_drew)); exact HO677.out) hb); have n1_ := Aside0.mk (Kd.R_below (by (with_reducible repeat (first | apply Kd.R_alloc | apply Kd.R_drewN | apply Kd.R_drew)); exact HO680.out) hb); have n2_ := Aside0.mk (Kd.V_lower (Kd.V_mono (ok' := fun k_ => k_ ≠ gb681) ho0 (fun k_ hk_ => Or.elim hk_ (fun hs_ => Or.elim hs_ (fun hs_ => ((Kd.R_types (HO677.out) BK681.out (by decide)).1 k_ hs_.symm).2) (fun hs_ => ((Kd.R_types (HO680.out) BK681.out (by decide)).1 k_ hs_.symm).2)) (fun hn_ => (Kd.freshB (g := gb681) (o := .cells #[.slice Ao19 t675.length co19, .slice Ao18 t678.length co18] 45 (0, 0)) (by (with_reducible repeat (first | refine blk_drewN ?_ _ | refine blk_drew ?_ | refine blk_alloc ?_ _)); exact BK681.out) k_ hn_)))) (below_size (by repeat (first | (with_reducible first | exact HB.out | apply below_alloc | apply pw_below_drewN | apply below_drew1 | refine below_set ?_ GE681.out) | exact HB.out)))); have n3_ := Aside0.mk (Kd.V_lower (Kd.V_mono (ok' := fun k_ => k_ ≠ gb681) ho1 (fun k_ hk_ => Or.elim hk_ (fun hs_ => Or.elim hs_ (fun hs_ => ((Kd.R_types (HO677.out) BK681.out (by decide)).1 k_ hs_.symm).2) (fun hs_ => ((Kd.R_types (HO680.out) BK681.out (by decide)).1 k_ hs_.symm).2)) (fun hn_ => (Kd.freshB (g := gb681) (o := .cells #[.slice Ao19 t675.length co19, .slice Ao18 t678.length co18] 45 (0, 0)) (by (with_reducible repeat (first | refine blk_drewN ?_ _ | refine blk_drew ?_ | refine blk_alloc ?_ _)); exact BK681.out) k_ hn_)))) (below_size (by repeat (first | (with_reducible first | exact HB.out | apply below_alloc | apply pw_below_drewN | apply below_drew1 | refine below_set ?_ GE681.out) | exact HB.out)))); have n4_ := Aside0.mk (blk_below (g := gb681) (o := .cells #[.slice Ao19 t675.length co19, .slice Ao18 t678.length co18] 45 (0, 0)) (by (with_reducible repeat (first | refine blk_drewN ?_ _ | refine blk_drew ?_ | refine blk_alloc ?_ _)); exact BK681.out) hb); have n5_ := Aside0.mk (below_step (by repeat (first | (with_reducible first | exact HB.out | apply below_alloc | apply pw_below_drewN | apply below_drew1 | refine below_set ?_ GE681.out) | exact HB.out)) hb); clear HO677; clear HO680; clear BK681; clear HB; have HO677 := n0_; have HO680 := n1_; have HO684 := n2_; have HO687 := n3_; have BK681 := n4_; have HB := n5_; clear n0_ n1_ n2_ n3_ n4_ n5_; (try clear hb); (try clear hb2); (try clear hk); (try clear hi); (try clear ho0); (try clear ho1)) | ((with_reducible refine gate_dst (N := 7) rfl ?_); refine box_event ?hg (N := 7) ?hd (cs := #[.slice none 0 0, .slice none 0 0]) (t := 45) ?hr ?_; (case hd => rfl); (case hg => rfl); (case hr => first | (go_simp; done) | (go_simp; rfl)); intro gb688 hg w25 hbox hb; have n0_ := Aside0.mk (Kd.R_below (by (with_reducible repeat (first | apply Kd.R_alloc | apply Kd.R_drewN | apply Kd.R_drew)); exact HO677.out) hb); have n1_ := Aside0.mk (Kd.R_below (by (with_reducible repeat (first | apply Kd.R_alloc | apply Kd.R_drewN | apply Kd.R_drew)); exact HO680.out) hb); have n2_ := Aside0.mk (Kd.V_below (Kd.V_elderB (by (with_reducible repeat (first | apply Kd.V_alloc | apply Kd.V_drewN | apply Kd.V_drew)); exact HO684.out) gb688 (Nat.le_of_eq hg.symm)) hb); have n3_ := Aside0.mk (Kd.V_below (Kd.V_elderB (by (with_reducible repeat (first | apply Kd.V_alloc | apply Kd.V_drewN | apply Kd.V_drew)); exact HO687.out) gb688 (Nat.le_of_eq hg.symm)) hb); have n4_ := Aside0.mk (blk_below (g := gb681) (o := .cells #[.slice Ao19 t675.length co19, .slice Ao18 t678.length co18] 45 (0, 0)) (by (with_reducible repeat (first | refine blk_drewN ?_ _ | refine blk_drew ?_ | refine blk_alloc ?_ _)); exact BK681.out) hb); have n5_ := Aside0.mk (below_step (by repeat (first | (with_reducible first | exact HB.out | apply below_alloc | apply pw_below_drewN | apply below_drew1 | refine below_set ?_ GE681.out) | exact HB.out)) hb); have n6_ := Aside0.mk (hbox); have n7_ := Aside0.mk ((by rw [hg]; exact (below_size (by repeat (first | (with_reducible first | exact HB.out | apply below_alloc | apply pw_below_drewN | apply below_drew1 | refine below_set ?_ GE681.out) | exact HB.out))) : w.heap.size ≤ gb688)); have n8_ := Aside0.mk ((by rw [hg]; exact (below_size (by repeat (first | (with_reducible first | exact HB.out | apply below_alloc | apply pw_below_drewN | apply below_drew1 | refine below_set ?_ GE681.out) | exact HB.out))) : w.heap.size ≤ gb688)); have n9_ := Aside0.mk ((by rw [hg]; exact Nat.ne_of_lt (blk_lt (g := gb681) (o := .cells #[.slice Ao19 t675.length co19, .slice Ao18 t678.length co18] 45 (0, 0)) (by (with_reducible repeat (first | refine blk_drewN ?_ _ | refine blk_drew ?_ | refine blk_alloc ?_ _)); exact BK681.out)) : gb681 ≠ gb688)); have n10_ := Aside0.mk ((by rw [hg]; exact Nat.ne_of_gt (blk_lt (g := gb681) (o := .cells #[.slice Ao19 t675.length co19, .slice Ao18 t678.length co18] 45 (0, 0)) (by (with_reducible repeat (first | refine blk_drewN ?_ _ | refine blk_drew ?_ | refine blk_alloc ?_ _)); exact BK681.out)) : gb688 ≠ gb681)); clear HO677; clear HO680; clear HO684; clear HO687; clear BK681; clear HB; have HO677 := n0_; have HO680 := n1_; have HO684 := n2_; have HO687 := n3_; have BK681 := n4_; have HB := n5_; have BK688 := n6_; have GW688 := n7_; have GE688 := n8_; have NB681_688 := n9_; have NB688_681 := n10_; clear n0_ n1_ n2_ n3_ n4_ n5_ n6_ n7_ n8_ n9_ n10_; clear hb hbox hg; obtain ⟨Ao26, co26, eo26⟩ := Kd.V_slice HO684.out; subst eo26; have hnb27 := NB688_681.out; have hnc27 := NB681_688.out; have hcz28_0 : w25.cell? ⟨gb688, 0, none⟩ = some (.slice none 0 0) := (blk_cell BK688.out 0).trans rfl; have hcz28_1 : w25.cell? ⟨gb688, 1, none⟩ = some (.slice none 0 0) := (blk_cell BK688.out 1).trans rfl; have hfz28_0 := blk_frozen BK688.out 0; have hfz28_1 := blk_frozen BK688.out 1; obtain ⟨Ao29, co29, eo29⟩ := Kd.V_slice HO687.out; subst eo29) | ((with_reducible refine gate_callee (f := 31) rfl ?_); refine goesL_ (some 24) rfl rfl Try.func31 (by kernel_rfl) rfl #[.agg #[.slice Ao26 t682.length co26, .slice Ao29 t685.length co29]] rfl (by (try simp only [List.map_toArray, List.map_cons, List.map_nil]); first | done | rfl | (simp only [List.length_drop, List.length_take]; rfl)) ?_; (with_reducible refine (regattaref03_Little.calls kj3 _ _ t682 _ _ t685 t689 t690 t691 _ ?side1 ?side2 ?side3 ?side4 A10.out).mono ?_); (case side1 => refine (Kd.V_reads' (e := 30) (base := w.heap.size) (ok := fun k_ => (k_ ≠ gb681 ∧ k_ ≠ gb688)) (n := t682.length) (c := co26) ?_).2.2; exact (by (with_reducible repeat (first | apply Kd.V_alloc | apply Kd.V_drewN | apply Kd.V_drew)); exact (Kd.V_mono (Kd.V_far (p := ⟨gb688, 1, none⟩) (Kd.V_far (p := ⟨gb688, 0, none⟩) (Kd.V_mono HO684.out (fun k_ hk => (⟨hk, hk.2⟩ : _ ∧ k_ ≠ gb688))) (fun _ hk => hk.2) (.slice Ao26 t682.length co26)) (fun _ hk => hk.2) (.slice Ao29 t685.length co29)) (fun _ h_ => h_.1)))); (case side2 => exact (Kd.V_reads' HO684.out).2.1); (case side3 => refine (Kd.V_reads' (e := 30) (base := w.heap.size) (ok := fun k_ => (k_ ≠ gb681 ∧ k_ ≠ gb688)) (n := t685.length) (c := co29) ?_).2.2; exact (by (with_reducible repeat (first | apply Kd.V_alloc | apply Kd.V_drewN | apply Kd.V_drew)); exact (Kd.V_mono (Kd.V_far (p := ⟨gb688, 1, none⟩) (Kd.V_far (p := ⟨gb688, 0, none⟩) (Kd.V_mono HO687.out (fun k_ hk => (⟨hk, hk.2⟩ : _ ∧ k_ ≠ gb688))) (fun _ hk => hk.2) (.slice Ao26 t682.length co26)) (fun _ hk => hk.2) (.slice Ao29 t685.length co29)) (fun _ h_ => h_.1)))); (case side4 => exact (Kd.V_reads' HO687.out).2.1); rintro e w30 ⟨rfl, hb⟩; refine ⟨_, rfl, ?_⟩; have n0_ := Aside0.mk (Kd.R_below (by (with_reducible repeat (first | apply Kd.R_alloc | apply Kd.R_drewN | apply Kd.R_drew)); exact (Kd.R_mono (Kd.R_far (p := ⟨gb688, 1, none⟩) (Kd.R_far (p := ⟨gb688, 0, none⟩) (Kd.R_types HO677.out BK688.out (by decide)) (fun _ hk => hk.2) (.slice Ao26 t682.length co26)) (fun _ hk => hk.2) (.slice Ao29 t685.length co29)) (fun _ h_ => h_.1))) hb); have n1_ := Aside0.mk (Kd.R_below (by (with_reducible repeat (first | apply Kd.R_alloc | apply Kd.R_drewN | apply Kd.R_drew)); exact (Kd.R_mono (Kd.R_far (p := ⟨gb688, 1, none⟩) (Kd.R_far (p := ⟨gb688, 0, none⟩) (Kd.R_types HO680.out BK688.out (by decide)) (fun _ hk => hk.2) (.slice Ao26 t682.length co26)) (fun _ hk => hk.2) (.slice Ao29 t685.length co29)) (fun _ h_ => h_.1))) hb); have n2_ := Aside0.mk (Kd.V_below (by (with_reducible repeat (first | apply Kd.V_alloc | apply Kd.V_drewN | apply Kd.V_drew)); exact (Kd.V_mono (Kd.V_far (p := ⟨gb688, 1, none⟩) (Kd.V_far (p := ⟨gb688, 0, none⟩) (Kd.V_mono HO684.out (fun k_ hk => (⟨hk, hk.2⟩ : _ ∧ k_ ≠ gb688))) (fun _ hk => hk.2) (.slice Ao26 t682.length co26)) (fun _ hk => hk.2) (.slice Ao29 t685.length co29)) (fun _ h_ => h_.1))) hb); have n3_ := Aside0.mk (Kd.V_below (by (with_reducible repeat (first | apply Kd.V_alloc | apply Kd.V_drewN | apply Kd.V_drew)); exact (Kd.V_mono (Kd.V_far (p := ⟨gb688, 1, none⟩) (Kd.V_far (p := ⟨gb688, 0, none⟩) (Kd.V_mono HO687.out (fun k_ hk => (⟨hk, hk.2⟩ : _ ∧ k_ ≠ gb688))) (fun _ hk => hk.2) (.slice Ao26 t682.length co26)) (fun _ hk => hk.2) (.slice Ao29 t685.length co29)) (fun _ h_ => h_.1))) hb); have n4_ := Aside0.mk (blk_below (g := gb681) (o := .cells #[.slice Ao19 t675.length co19, .slice Ao18 t678.length co18] 45 (0, 0)) (by (with_reducible repeat (first | refine blk_drewN ?_ _ | refine blk_drew ?_ | refine blk_alloc ?_ _)); refine blk_far ?_ NB681_688.out _; (with_reducible repeat (first | refine blk_drewN ?_ _ | refine blk_drew ?_ | refine blk_alloc ?_ _)); refine blk_far ?_ NB681_688.out _; (with_reducible repeat (first | refine blk_drewN ?_ _ | refine blk_drew ?_ | refine blk_alloc ?_ _)); exact BK681.out) hb); have n5_ := Aside0.mk (blk_below (g := gb688) (o := .cells #[.slice Ao26 t682.length co26, .slice Ao29 t685.length co29] 45 (0, 0)) (by (with_reducible repeat (first | refine blk_drewN ?_ _ | refine blk_drew ?_ | refine blk_alloc ?_ _)); refine blk_put (cs := #[.slice Ao26 t682.length co26, .slice none 0 0]) ?_ 1 _ rfl; (with_reducible repeat (first | refine blk_drewN ?_ _ | refine blk_drew ?_ | refine blk_alloc ?_ _)); refine blk_put (cs := #[.slice none 0 0, .slice none 0 0]) ?_ 0 _ rfl; (with_reducible repeat (first | refine blk_drewN ?_ _ | refine blk_drew ?_ | refine blk_alloc ?_ _)); exact BK688.out) hb); have n6_ := Aside0.mk (below_step (by repeat (first | (with_reducible first | exact HB.out | apply below_alloc | apply pw_below_drewN | apply below_drew1 | refine below_set ?_ GE681.out | refine below_set ?_ GE688.out) | exact HB.out)) hb); clear HO677; clear HO680; clear HO684; clear HO687; clear BK681; clear BK688; clear HB; have HO677 := n0_; have HO680 := n1_; have HO684 := n2_; have HO687 := n3_; have BK681 := n4_; have BK688 := n5_; have HB := n6_; clear n0_ n1_ n2_ n3_ n4_ n5_ n6_; (try clear hb); (try clear hb2); (try clear hk); (try clear hi)) | ((with_reducible refine gate_dst (N := 8) rfl ?_); refine box_event ?hg (N := 8) ?hd (cs := #[.int .u64 0, .int .u64 0, .bool false]) (t := 48) ?hr ?_; (case hd => rfl); (case hg => rfl); (case hr => first | (go_simp; done) | (go_simp; rfl)); intro gb692 hg w31 hbox hb; have n0_ := Aside0.mk (Kd.R_below (by (with_reducible repeat (first | apply Kd.R_alloc | apply Kd.R_drewN | apply Kd.R_drew)); exact HO677.out) hb); have n1_ := Aside0.mk (Kd.R_below (by (with_reducible repeat (first | apply Kd.R_alloc | apply Kd.R_drewN | apply Kd.R_drew)); exact HO680.out) hb); have n2_ := Aside0.mk (Kd.V_below (Kd.V_elderB (by (with_reducible repeat (first | apply Kd.V_alloc | apply Kd.V_drewN | apply Kd.V_drew)); exact HO684.out) gb692 (Nat.le_of_eq hg.symm)) hb); have n3_ := Aside0.mk (Kd.V_below (Kd.V_elderB (by (with_reducible repeat (first | apply Kd.V_alloc | apply Kd.V_drewN | apply Kd.V_drew)); exact HO687.out) gb692 (Nat.le_of_eq hg.symm)) hb); have n4_ := Aside0.mk (blk_below (g := gb681) (o := .cells #[.slice Ao19 t675.length co19, .slice Ao18 t678.length co18] 45 (0, 0)) (by (with_reducible repeat (first | refine blk_drewN ?_ _ | refine blk_drew ?_ | refine blk_alloc ?_ _)); exact BK681.out) hb); have n5_ := Aside0.mk (blk_below (g := gb688) (o := .cells #[.slice Ao26 t682.length co26, .slice Ao29 t685.length co29] 45 (0, 0)) (by (with_reducible repeat (first | refine blk_drewN ?_ _ | refine blk_drew ?_ | refine blk_alloc ?_ _)); exact BK688.out) hb); have n6_ := Aside0.mk (below_step (by repeat (first | (with_reducible first | exact HB.out | apply below_alloc | apply pw_below_drewN | apply below_drew1 | refine below_set ?_ GE681.out | refine below_set ?_ GE688.out) | exact HB.out)) hb); have n7_ := Aside0.mk (hbox); have n8_ := Aside0.mk ((by rw [hg]; exact (below_size (by repeat (first | (with_reducible first | exact HB.out | apply below_alloc | apply pw_below_drewN | apply below_drew1 | refine below_set ?_ GE681.out | refine below_set ?_ GE688.out) | exact HB.out))) : w.heap.size ≤ gb692)); have n9_ := Aside0.mk ((by rw [hg]; exact (below_size (by repeat (first | (with_reducible first | exact HB.out | apply below_alloc | apply pw_below_drewN | apply below_drew1 | refine below_set ?_ GE681.out | refine below_set ?_ GE688.out) | exact HB.out))) : w.heap.size ≤ gb692)); have n10_ := Aside0.mk ((by rw [hg]; exact Nat.ne_of_lt (blk_lt (g := gb681) (o := .cells #[.slice Ao19 t675.length co19, .slice Ao18 t678.length co18] 45 (0, 0)) (by (with_reducible repeat (first | refine blk_drewN ?_ _ | refine blk_drew ?_ | refine blk_alloc ?_ _)); exact BK681.out)) : gb681 ≠ gb692)); have n11_ := Aside0.mk ((by rw [hg]; exact Nat.ne_of_gt (blk_lt (g := gb681) (o := .cells #[.slice Ao19 t675.length co19, .slice Ao18 t678.length co18] 45 (0, 0)) (by (with_reducible repeat (first | refine blk_drewN ?_ _ | refine blk_drew ?_ | refine blk_alloc ?_ _)); exact BK681.out)) : gb692 ≠ gb681)); have n12_ := Aside0.mk ((by rw [hg]; exact Nat.ne_of_lt (blk_lt (g := gb688) (o := .cells #[.slice Ao26 t682.length co26, .slice Ao29 t685.length co29] 45 (0, 0)) (by (with_reducible repeat (first | refine blk_drewN ?_ _ | refine blk_drew ?_ | refine blk_alloc ?_ _)); exact BK688.out)) : gb688 ≠ gb692)); have n13_ := Aside0.mk ((by rw [hg]; exact Nat.ne_of_gt (blk_lt (g := gb688) (o := .cells #[.slice Ao26 t682.length co26, .slice Ao29 t685.length co29] 45 (0, 0)) (by (with_reducible repeat (first | refine blk_drewN ?_ _ | refine blk_drew ?_ | refine blk_alloc ?_ _)); exact BK688.out)) : gb692 ≠ gb688)); clear HO677; clear HO680; clear HO684; clear HO687; clear BK681; clear BK688; clear HB; have HO677 := n0_; have HO680 := n1_; have HO684 := n2_; have HO687 := n3_; have BK681 := n4_; have BK688 := n5_; have HB := n6_; have BK692 := n7_; have GW692 := n8_; have GE692 := n9_; have NB681_692 := n10_; have NB692_681 := n11_; have NB688_692 := n12_; have NB692_688 := n13_; clear n0_ n1_ n2_ n3_ n4_ n5_ n6_ n7_ n8_ n9_ n10_ n11_ n12_ n13_; clear hb hbox hg; have hnb32 := NB692_681.out; have hnc32 := NB681_692.out; have hnb33 := NB692_688.out; have hnc33 := NB688_692.out; have hcz34_0 : w31.cell? ⟨gb692, 0, none⟩ = some (.int .u64 0) := (blk_cell BK692.out 0).trans rfl; have hcz34_1 : w31.cell? ⟨gb692, 1, none⟩ = some (.int .u64 0) := (blk_cell BK692.out 1).trans rfl; have hcz34_2 : w31.cell? ⟨gb692, 2, none⟩ = some (.bool false) := (blk_cell BK692.out 2).trans rfl; have hfz34_0 := blk_frozen BK692.out 0; have hfz34_1 := blk_frozen BK692.out 1; have hfz34_2 := blk_frozen BK692.out 2; have hcz35_0 : w31.cell? ⟨gb681, 0, none⟩ = some (.slice Ao19 t675.length co19) := (blk_cell BK681.out 0).trans rfl; have hcz35_1 : w31.cell? ⟨gb681, 1, none⟩ = some (.slice Ao18 t678.length co18) := (blk_cell BK681.out 1).trans rfl; have hfz35_0 := blk_frozen BK681.out 0; have hfz35_1 := blk_frozen BK681.out 1) | ((with_reducible refine gate_callee (f := 31) rfl ?_); refine goesL_ (some 26) rfl rfl Try.func31 (by kernel_rfl) rfl #[.agg #[.slice Ao19 t675.length co19, .slice Ao18 t678.length co18]] rfl (by (try simp only [List.map_toArray, List.map_cons, List.map_nil]); first | done | rfl | (simp only [List.length_drop, List.length_take]; rfl)) ?_; (with_reducible refine (regattaref03_Little.calls kj3 _ _ t675 _ _ t678 t693 t694 t695 _ ?side1 ?side2 ?side3 ?side4 A11.out).mono ?_); (case side1 => refine (Kd.R_reads' (e := 30) (base := w.heap.size) (ok := fun k_ => some k_ ≠ (.slice Ao18 t678.length co18 : Value).ownBlock) (n := t675.length) (c := co19) ?_).2.2; exact (by (with_reducible repeat (first | apply Kd.R_alloc | apply Kd.R_drewN | apply Kd.R_drew)); exact (Kd.R_mono (Kd.R_far (p := ⟨gb692, 2, none⟩) (Kd.R_far (p := ⟨gb692, 1, none⟩) (Kd.R_far (p := ⟨gb692, 0, none⟩) (Kd.R_types HO677.out BK692.out (by decide)) (fun _ hk => hk.2) (.int .u64 t689)) (fun _ hk => hk.2) (.int .u64 t690)) (fun _ hk => hk.2) (.bool t691)) (fun _ h_ => h_.1)))); (case side2 => exact (Kd.R_reads' HO677.out).2.1); (case side3 => refine (Kd.R_reads' (e := 30) (base := w.heap.size) (ok := fun k_ => some k_ ≠ (.slice Ao19 t675.length co19 : Value).ownBlock) (n := t678.length) (c := co18) ?_).2.2; exact (by (with_reducible repeat (first | apply Kd.R_alloc | apply Kd.R_drewN | apply Kd.R_drew)); exact (Kd.R_mono (Kd.R_far (p := ⟨gb692, 2, none⟩) (Kd.R_far (p := ⟨gb692, 1, none⟩) (Kd.R_far (p := ⟨gb692, 0, none⟩) (Kd.R_types HO680.out BK692.out (by decide)) (fun _ hk => hk.2) (.int .u64 t689)) (fun _ hk => hk.2) (.int .u64 t690)) (fun _ hk => hk.2) (.bool t691)) (fun _ h_ => h_.1)))); (case side4 => exact (Kd.R_reads' HO680.out).2.1); rintro e w36 ⟨rfl, hb⟩; refine ⟨_, rfl, ?_⟩; have n0_ := Aside0.mk (Kd.R_below (by (with_reducible repeat (first | apply Kd.R_alloc | apply Kd.R_drewN | apply Kd.R_drew)); exact (Kd.R_mono (Kd.R_far (p := ⟨gb692, 2, none⟩) (Kd.R_far (p := ⟨gb692, 1, none⟩) (Kd.R_far (p := ⟨gb692, 0, none⟩) (Kd.R_types HO677.out BK692.out (by decide)) (fun _ hk => hk.2) (.int .u64 t689)) (fun _ hk => hk.2) (.int .u64 t690)) (fun _ hk => hk.2) (.bool t691)) (fun _ h_ => h_.1))) hb); have n1_ := Aside0.mk (Kd.R_below (by (with_reducible repeat (first | apply Kd.R_alloc | apply Kd.R_drewN | apply Kd.R_drew)); exact (Kd.R_mono (Kd.R_far (p := ⟨gb692, 2, none⟩) (Kd.R_far (p := ⟨gb692, 1, none⟩) (Kd.R_far (p := ⟨gb692, 0, none⟩) (Kd.R_types HO680.out BK692.out (by decide)) (fun _ hk => hk.2) (.int .u64 t689)) (fun _ hk => hk.2) (.int .u64 t690)) (fun _ hk => hk.2) (.bool t691)) (fun _ h_ => h_.1))) hb); have n2_ := Aside0.mk (Kd.V_below (by (with_reducible repeat (first | apply Kd.V_alloc | apply Kd.V_drewN | apply Kd.V_drew)); exact (Kd.V_mono (Kd.V_far (p := ⟨gb692, 2, none⟩) (Kd.V_far (p := ⟨gb692, 1, none⟩) (Kd.V_far (p := ⟨gb692, 0, none⟩) (Kd.V_mono HO684.out (fun k_ hk => (⟨hk, hk.2⟩ : _ ∧ k_ ≠ gb692))) (fun _ hk => hk.2) (.int .u64 t689)) (fun _ hk => hk.2) (.int .u64 t690)) (fun _ hk => hk.2) (.bool t691)) (fun _ h_ => h_.1))) hb); have n3_ := Aside0.mk (Kd.V_below (by (with_reducible repeat (first | apply Kd.V_alloc | apply Kd.V_drewN | apply Kd.V_drew)); exact (Kd.V_mono (Kd.V_far (p := ⟨gb692, 2, none⟩) (Kd.V_far (p := ⟨gb692, 1, none⟩) (Kd.V_far (p := ⟨gb692, 0, none⟩) (Kd.V_mono HO687.out (fun k_ hk => (⟨hk, hk.2⟩ : _ ∧ k_ ≠ gb692))) (fun _ hk => hk.2) (.int .u64 t689)) (fun _ hk => hk.2) (.int .u64 t690)) (fun _ hk => hk.2) (.bool t691)) (fun _ h_ => h_.1))) hb); have n4_ := Aside0.mk (blk_below (g := gb681) (o := .cells #[.slice Ao19 t675.length co19, .slice Ao18 t678.length co18] 45 (0, 0)) (by (with_reducible repeat (first | refine blk_drewN ?_ _ | refine blk_drew ?_ | refine blk_alloc ?_ _)); refine blk_far ?_ NB681_692.out _; (with_reducible repeat (first | refine blk_drewN ?_ _ | refine blk_drew ?_ | refine blk_alloc ?_ _)); refine blk_far ?_ NB681_692.out _; (with_reducible repeat (first | refine blk_drewN ?_ _ | refine blk_drew ?_ | refine blk_alloc ?_ _)); refine blk_far ?_ NB681_692.out _; (with_reducible repeat (first | refine blk_drewN ?_ _ | refine blk_drew ?_ | refine blk_alloc ?_ _)); exact BK681.out) hb); have n5_ := Aside0.mk (blk_below (g := gb688) (o := .cells #[.slice Ao26 t682.length co26, .slice Ao29 t685.length co29] 45 (0, 0)) (by (with_reducible repeat (first | refine blk_drewN ?_ _ | refine blk_drew ?_ | refine blk_alloc ?_ _)); refine blk_far ?_ NB688_692.out _; (with_reducible repeat (first | refine blk_drewN ?_ _ | refine blk_drew ?_ | refine blk_alloc ?_ _)); refine blk_far ?_ NB688_692.out _; (with_reducible repeat (first | refine blk_drewN ?_ _ | refine blk_drew ?_ | refine blk_alloc ?_ _)); refine blk_far ?_ NB688_692.out _; (with_reducible repeat (first | refine blk_drewN ?_ _ | refine blk_drew ?_ | refine blk_alloc ?_ _)); exact BK688.out) hb); have n6_ := Aside0.mk (blk_below (g := gb692) (o := .cells #[.int .u64 t689, .int .u64 t690, .bool t691] 48 (0, 0)) (by (with_reducible repeat (first | refine blk_drewN ?_ _ | refine blk_drew ?_ | refine blk_alloc ?_ _)); refine blk_put (cs := #[.int .u64 t689, .int .u64 t690, .bool false]) ?_ 2 _ rfl; (with_reducible repeat (first | refine blk_drewN ?_ _ | refine blk_drew ?_ | refine blk_alloc ?_ _)); refine blk_put (cs := #[.int .u64 t689, .int .u64 0, .bool false]) ?_ 1 _ rfl; (with_reducible repeat (first | refine blk_drewN ?_ _ | refine blk_drew ?_ | refine blk_alloc ?_ _)); refine blk_put (cs := #[.int .u64 0, .int .u64 0, .bool false]) ?_ 0 _ rfl; (with_reducible repeat (first | refine blk_drewN ?_ _ | refine blk_drew ?_ | refine blk_alloc ?_ _)); exact BK692.out) hb); have n7_ := Aside0.mk (below_step (by repeat (first | (with_reducible first | exact HB.out | apply below_alloc | apply pw_below_drewN | apply below_drew1 | refine below_set ?_ GE681.out | refine below_set ?_ GE688.out | refine below_set ?_ GE692.out) | exact HB.out)) hb); clear HO677; clear HO680; clear HO684; clear HO687; clear BK681; clear BK688; clear BK692; clear HB; have HO677 := n0_; have HO680 := n1_; have HO684 := n2_; have HO687 := n3_; have BK681 := n4_; have BK688 := n5_; have BK692 := n6_; have HB := n7_; clear n0_ n1_ n2_ n3_ n4_ n5_ n6_ n7_; (try clear hb); (try clear hb2); (try clear hk); (try clear hi)) | ((with_reducible refine gate_callee (f := 32) rfl ?_); refine goesL_ (some 27) rfl rfl Try.func32 (by kernel_rfl) rfl #[.agg #[.int .u64 t693, .int .u64 t694, .bool t695]] rfl (by (try simp only [List.map_toArray, List.map_cons, List.map_nil]); first | done | rfl | (simp only [List.length_drop, List.length_take]; rfl)) ?_; (with_reducible refine (regattaref03_Least.calls kj3 t693 t694 t695 t696 t697 t698 _ A12.out).mono ?_); rintro e w37 ⟨rfl, hb⟩; refine ⟨_, rfl, ?_⟩; have n0_ := Aside0.mk (Kd.R_below (by (with_reducible repeat (first | apply Kd.R_alloc | apply Kd.R_drewN | apply Kd.R_drew)); exact HO677.out) hb); have n1_ := Aside0.mk (Kd.R_below (by (with_reducible repeat (first | apply Kd.R_alloc | apply Kd.R_drewN | apply Kd.R_drew)); exact HO680.out) hb); have n2_ := Aside0.mk (Kd.V_below (by (with_reducible repeat (first | apply Kd.V_alloc | apply Kd.V_drewN | apply Kd.V_drew)); exact HO684.out) hb); have n3_ := Aside0.mk (Kd.V_below (by (with_reducible repeat (first | apply Kd.V_alloc | apply Kd.V_drewN | apply Kd.V_drew)); exact HO687.out) hb); have n4_ := Aside0.mk (blk_below (g := gb681) (o := .cells #[.slice Ao19 t675.length co19, .slice Ao18 t678.length co18] 45 (0, 0)) (by (with_reducible repeat (first | refine blk_drewN ?_ _ | refine blk_drew ?_ | refine blk_alloc ?_ _)); exact BK681.out) hb); have n5_ := Aside0.mk (blk_below (g := gb688) (o := .cells #[.slice Ao26 t682.length co26, .slice Ao29 t685.length co29] 45 (0, 0)) (by (with_reducible repeat (first | refine blk_drewN ?_ _ | refine blk_drew ?_ | refine blk_alloc ?_ _)); exact BK688.out) hb); have n6_ := Aside0.mk (blk_below (g := gb692) (o := .cells #[.int .u64 t689, .int .u64 t690, .bool t691] 48 (0, 0)) (by (with_reducible repeat (first | refine blk_drewN ?_ _ | refine blk_drew ?_ | refine blk_alloc ?_ _)); exact BK692.out) hb); have n7_ := Aside0.mk (below_step (by repeat (first | (with_reducible first | exact HB.out | apply below_alloc | apply pw_below_drewN | apply below_drew1 | refine below_set ?_ GE681.out | refine below_set ?_ GE688.out | refine below_set ?_ GE692.out) | exact HB.out)) hb); clear HO677; clear HO680; clear HO684; clear HO687; clear BK681; clear BK688; clear BK692; clear HB; have HO677 := n0_; have HO680 := n1_; have HO684 := n2_; have HO687 := n3_; have BK681 := n4_; have BK688 := n5_; have BK692 := n6_; have HB := n7_; clear n0_ n1_ n2_ n3_ n4_ n5_ n6_ n7_; (try clear hb); (try clear hb2); (try clear hk); (try clear hi)) | ((with_reducible refine gate_dst (N := 9) rfl ?_); refine box_event ?hg (N := 9) ?hd (cs := #[.int .u64 0, .int .u64 0, .bool false]) (t := 48) ?hr ?_; (case hd => rfl); (case hg => rfl); (case hr => first | (go_simp; done) | (go_simp; rfl)); intro gb699 hg w38 hbox hb; have n0_ := Aside0.mk (Kd.R_below (by (with_reducible repeat (first | apply Kd.R_alloc | apply Kd.R_drewN | apply Kd.R_drew)); exact HO677.out) hb); have n1_ := Aside0.mk (Kd.R_below (by (with_reducible repeat (first | apply Kd.R_alloc | apply Kd.R_drewN | apply Kd.R_drew)); exact HO680.out) hb); have n2_ := Aside0.mk (Kd.V_below (Kd.V_elderB (by (with_reducible repeat (first | apply Kd.V_alloc | apply Kd.V_drewN | apply Kd.V_drew)); exact HO684.out) gb699 (Nat.le_of_eq hg.symm)) hb); have n3_ := Aside0.mk (Kd.V_below (Kd.V_elderB (by (with_reducible repeat (first | apply Kd.V_alloc | apply Kd.V_drewN | apply Kd.V_drew)); exact HO687.out) gb699 (Nat.le_of_eq hg.symm)) hb); have n4_ := Aside0.mk (blk_below (g := gb681) (o := .cells #[.slice Ao19 t675.length co19, .slice Ao18 t678.length co18] 45 (0, 0)) (by (with_reducible repeat (first | refine blk_drewN ?_ _ | refine blk_drew ?_ | refine blk_alloc ?_ _)); exact BK681.out) hb); have n5_ := Aside0.mk (blk_below (g := gb688) (o := .cells #[.slice Ao26 t682.length co26, .slice Ao29 t685.length co29] 45 (0, 0)) (by (with_reducible repeat (first | refine blk_drewN ?_ _ | refine blk_drew ?_ | refine blk_alloc ?_ _)); exact BK688.out) hb); have n6_ := Aside0.mk (blk_below (g := gb692) (o := .cells #[.int .u64 t689, .int .u64 t690, .bool t691] 48 (0, 0)) (by (with_reducible repeat (first | refine blk_drewN ?_ _ | refine blk_drew ?_ | refine blk_alloc ?_ _)); exact BK692.out) hb); have n7_ := Aside0.mk (below_step (by repeat (first | (with_reducible first | exact HB.out | apply below_alloc | apply pw_below_drewN | apply below_drew1 | refine below_set ?_ GE681.out | refine below_set ?_ GE688.out | refine below_set ?_ GE692.out) | exact HB.out)) hb); have n8_ := Aside0.mk (hbox); have n9_ := Aside0.mk ((by rw [hg]; exact (below_size (by repeat (first | (with_reducible first | exact HB.out | apply below_alloc | apply pw_below_drewN | apply below_drew1 | refine below_set ?_ GE681.out | refine below_set ?_ GE688.out | refine below_set ?_ GE692.out) | exact HB.out))) : w.heap.size ≤ gb699)); have n10_ := Aside0.mk ((by rw [hg]; exact (below_size (by repeat (first | (with_reducible first | exact HB.out | apply below_alloc | apply pw_below_drewN | apply below_drew1 | refine below_set ?_ GE681.out | refine below_set ?_ GE688.out | refine below_set ?_ GE692.out) | exact HB.out))) : w.heap.size ≤ gb699)); have n11_ := Aside0.mk ((by rw [hg]; exact Nat.ne_of_lt (blk_lt (g := gb681) (o := .cells #[.slice Ao19 t675.length co19, .slice Ao18 t678.length co18] 45 (0, 0)) (by (with_reducible repeat (first | refine blk_drewN ?_ _ | refine blk_drew ?_ | refine blk_alloc ?_ _)); exact BK681.out)) : gb681 ≠ gb699)); have n12_ := Aside0.mk ((by rw [hg]; exact Nat.ne_of_gt (blk_lt (g := gb681) (o := .cells #[.slice Ao19 t675.length co19, .slice Ao18 t678.length co18] 45 (0, 0)) (by (with_reducible repeat (first | refine blk_drewN ?_ _ | refine blk_drew ?_ | refine blk_alloc ?_ _)); exact BK681.out)) : gb699 ≠ gb681)); have n13_ := Aside0.mk ((by rw [hg]; exact Nat.ne_of_lt (blk_lt (g := gb688) (o := .cells #[.slice Ao26 t682.length co26, .slice Ao29 t685.length co29] 45 (0, 0)) (by (with_reducible repeat (first | refine blk_drewN ?_ _ | refine blk_drew ?_ | refine blk_alloc ?_ _)); exact BK688.out)) : gb688 ≠ gb699)); have n14_ := Aside0.mk ((by rw [hg]; exact Nat.ne_of_gt (blk_lt (g := gb688) (o := .cells #[.slice Ao26 t682.length co26, .slice Ao29 t685.length co29] 45 (0, 0)) (by (with_reducible repeat (first | refine blk_drewN ?_ _ | refine blk_drew ?_ | refine blk_alloc ?_ _)); exact BK688.out)) : gb699 ≠ gb688)); have n15_ := Aside0.mk ((by rw [hg]; exact Nat.ne_of_lt (blk_lt (g := gb692) (o := .cells #[.int .u64 t689, .int .u64 t690, .bool t691] 48 (0, 0)) (by (with_reducible repeat (first | refine blk_drewN ?_ _ | refine blk_drew ?_ | refine blk_alloc ?_ _)); exact BK692.out)) : gb692 ≠ gb699)); have n16_ := Aside0.mk ((by rw [hg]; exact Nat.ne_of_gt (blk_lt (g := gb692) (o := .cells #[.int .u64 t689, .int .u64 t690, .bool t691] 48 (0, 0)) (by (with_reducible repeat (first | refine blk_drewN ?_ _ | refine blk_drew ?_ | refine blk_alloc ?_ _)); exact BK692.out)) : gb699 ≠ gb692)); clear HO677; clear HO680; clear HO684; clear HO687; clear BK681; clear BK688; clear BK692; clear HB; have HO677 := n0_; have HO680 := n1_; have HO684 := n2_; have HO687 := n3_; have BK681 := n4_; have BK688 := n5_; have BK692 := n6_; have HB := n7_; have BK699 := n8_; have GW699 := n9_; have GE699 := n10_; have NB681_699 := n11_; have NB699_681 := n12_; have NB688_699 := n13_; have NB699_688 := n14_; have NB692_699 := n15_; have NB699_692 := n16_; clear n0_ n1_ n2_ n3_ n4_ n5_ n6_ n7_ n8_ n9_ n10_ n11_ n12_ n13_ n14_ n15_ n16_; clear hb hbox hg; have hnb39 := NB699_681.out; have hnc39 := NB681_699.out; have hnb40 := NB699_688.out; have hnc40 := NB688_699.out; have hnb41 := NB699_692.out; have hnc41 := NB692_699.out; have hcz42_0 : w38.cell? ⟨gb699, 0, none⟩ = some (.int .u64 0) := (blk_cell BK699.out 0).trans rfl; have hcz42_1 : w38.cell? ⟨gb699, 1, none⟩ = some (.int .u64 0) := (blk_cell BK699.out 1).trans rfl; have hcz42_2 : w38.cell? ⟨gb699, 2, none⟩ = some (.bool false) := (blk_cell BK699.out 2).trans rfl; have hfz42_0 := blk_frozen BK699.out 0; have hfz42_1 := blk_frozen BK699.out 1; have hfz42_2 := blk_frozen BK699.out 2) | ((with_reducible refine gate_callee (f := 29) rfl ?_); refine goesL_ (some 30) rfl rfl Try.func29 (by kernel_rfl) rfl #[.int .u64 t696] rfl (by (try simp only [List.map_toArray, List.map_cons, List.map_nil]); first | done | rfl | (simp only [List.length_drop, List.length_take]; rfl)) ?_; (with_reducible refine (regattaref02_Of.calls kj3 t696 t700 _ A13.out).mono ?_); rintro e w43 ⟨v701, rfl, ho0, hb⟩; refine ⟨_, rfl, ?_⟩; have n0_ := Aside0.mk (Kd.R_elder' (by (with_reducible repeat (first | apply Kd.R_alloc | apply Kd.R_drewN | apply Kd.R_drew)); exact (Kd.R_mono (Kd.R_far (p := ⟨gb699, 2, none⟩) (Kd.R_far (p := ⟨gb699, 1, none⟩) (Kd.R_far (p := ⟨gb699, 0, none⟩) (Kd.R_types HO677.out BK699.out (by decide)) (fun _ hk => hk.2) (.int .u64 t696)) (fun _ hk => hk.2) (.int .u64 t697)) (fun _ hk => hk.2) (.bool t698)) (fun _ h_ => h_.1))) (Kd.R_base ho0) hb); have n1_ := Aside0.mk (Kd.R_elder' (by (with_reducible repeat (first | apply Kd.R_alloc | apply Kd.R_drewN | apply Kd.R_drew)); exact (Kd.R_mono (Kd.R_far (p := ⟨gb699, 2, none⟩) (Kd.R_far (p := ⟨gb699, 1, none⟩) (Kd.R_far (p := ⟨gb699, 0, none⟩) (Kd.R_types HO680.out BK699.out (by decide)) (fun _ hk => hk.2) (.int .u64 t696)) (fun _ hk => hk.2) (.int .u64 t697)) (fun _ hk => hk.2) (.bool t698)) (fun _ h_ => h_.1))) (Kd.R_base ho0) hb); have n2_ := Aside0.mk (Kd.V_elder' (by (with_reducible repeat (first | apply Kd.V_alloc | apply Kd.V_drewN | apply Kd.V_drew)); exact (Kd.V_mono (Kd.V_far (p := ⟨gb699, 2, none⟩) (Kd.V_far (p := ⟨gb699, 1, none⟩) (Kd.V_far (p := ⟨gb699, 0, none⟩) (Kd.V_mono HO684.out (fun k_ hk => (⟨hk, hk.2⟩ : _ ∧ k_ ≠ gb699))) (fun _ hk => hk.2) (.int .u64 t696)) (fun _ hk => hk.2) (.int .u64 t697)) (fun _ hk => hk.2) (.bool t698)) (fun _ h_ => h_.1))) (Kd.R_base ho0) hb); have n3_ := Aside0.mk (Kd.V_elder' (by (with_reducible repeat (first | apply Kd.V_alloc | apply Kd.V_drewN | apply Kd.V_drew)); exact (Kd.V_mono (Kd.V_far (p := ⟨gb699, 2, none⟩) (Kd.V_far (p := ⟨gb699, 1, none⟩) (Kd.V_far (p := ⟨gb699, 0, none⟩) (Kd.V_mono HO687.out (fun k_ hk => (⟨hk, hk.2⟩ : _ ∧ k_ ≠ gb699))) (fun _ hk => hk.2) (.int .u64 t696)) (fun _ hk => hk.2) (.int .u64 t697)) (fun _ hk => hk.2) (.bool t698)) (fun _ h_ => h_.1))) (Kd.R_base ho0) hb); have n4_ := Aside0.mk (Kd.R_lower (Kd.R_new' (Kd.R_new' ho0 (Kd.R_lt (by (with_reducible repeat (first | apply Kd.R_alloc | apply Kd.R_drewN | apply Kd.R_drew)); exact (Kd.R_mono (Kd.R_far (p := ⟨gb699, 2, none⟩) (Kd.R_far (p := ⟨gb699, 1, none⟩) (Kd.R_far (p := ⟨gb699, 0, none⟩) (Kd.R_types HO677.out BK699.out (by decide)) (fun _ hk => hk.2) (.int .u64 t696)) (fun _ hk => hk.2) (.int .u64 t697)) (fun _ hk => hk.2) (.bool t698)) (fun _ h_ => h_.1))))) (Kd.R_lt (by (with_reducible repeat (first | apply Kd.R_alloc | apply Kd.R_drewN | apply Kd.R_drew)); exact (Kd.R_mono (Kd.R_far (p := ⟨gb699, 2, none⟩) (Kd.R_far (p := ⟨gb699, 1, none⟩) (Kd.R_far (p := ⟨gb699, 0, none⟩) (Kd.R_types HO680.out BK699.out (by decide)) (fun _ hk => hk.2) (.int .u64 t696)) (fun _ hk => hk.2) (.int .u64 t697)) (fun _ hk => hk.2) (.bool t698)) (fun _ h_ => h_.1))))) (below_size (by repeat (first | (with_reducible first | exact HB.out | apply below_alloc | apply pw_below_drewN | apply below_drew1 | refine below_set ?_ GE681.out | refine below_set ?_ GE688.out | refine below_set ?_ GE692.out | refine below_set ?_ GE699.out) | exact HB.out)))); have n5_ := Aside0.mk (blk_below (g := gb681) (o := .cells #[.slice Ao19 t675.length co19, .slice Ao18 t678.length co18] 45 (0, 0)) (by (with_reducible repeat (first | refine blk_drewN ?_ _ | refine blk_drew ?_ | refine blk_alloc ?_ _)); refine blk_far ?_ NB681_699.out _; (with_reducible repeat (first | refine blk_drewN ?_ _ | refine blk_drew ?_ | refine blk_alloc ?_ _)); refine blk_far ?_ NB681_699.out _; (with_reducible repeat (first | refine blk_drewN ?_ _ | refine blk_drew ?_ | refine blk_alloc ?_ _)); refine blk_far ?_ NB681_699.out _; (with_reducible repeat (first | refine blk_drewN ?_ _ | refine blk_drew ?_ | refine blk_alloc ?_ _)); exact BK681.out) hb); have n6_ := Aside0.mk (blk_below (g := gb688) (o := .cells #[.slice Ao26 t682.length co26, .slice Ao29 t685.length co29] 45 (0, 0)) (by (with_reducible repeat (first | refine blk_drewN ?_ _ | refine blk_drew ?_ | refine blk_alloc ?_ _)); refine blk_far ?_ NB688_699.out _; (with_reducible repeat (first | refine blk_drewN ?_ _ | refine blk_drew ?_ | refine blk_alloc ?_ _)); refine blk_far ?_ NB688_699.out _; (with_reducible repeat (first | refine blk_drewN ?_ _ | refine blk_drew ?_ | refine blk_alloc ?_ _)); refine blk_far ?_ NB688_699.out _; (with_reducible repeat (first | refine blk_drewN ?_ _ | refine blk_drew ?_ | refine blk_alloc ?_ _)); exact BK688.out) hb); have n7_ := Aside0.mk (blk_below (g := gb692) (o := .cells #[.int .u64 t689, .int .u64 t690, .bool t691] 48 (0, 0)) (by (with_reducible repeat (first | refine blk_drewN ?_ _ | refine blk_drew ?_ | refine blk_alloc ?_ _)); refine blk_far ?_ NB692_699.out _; (with_reducible repeat (first | refine blk_drewN ?_ _ | refine blk_drew ?_ | refine blk_alloc ?_ _)); refine blk_far ?_ NB692_699.out _; (with_reducible repeat (first | refine blk_drewN ?_ _ | refine blk_drew ?_ | refine blk_alloc ?_ _)); refine blk_far ?_ NB692_699.out _; (with_reducible repeat (first | refine blk_drewN ?_ _ | refine blk_drew ?_ | refine blk_alloc ?_ _)); exact BK692.out) hb); have n8_ := Aside0.mk (blk_below (g := gb699) (o := .cells #[.int .u64 t696, .int .u64 t697, .bool t698] 48 (0, 0)) (by (with_reducible repeat (first | refine blk_drewN ?_ _ | refine blk_drew ?_ | refine blk_alloc ?_ _)); refine blk_put (cs := #[.int .u64 t696, .int .u64 t697, .bool false]) ?_ 2 _ rfl; (with_reducible repeat (first | refine blk_drewN ?_ _ | refine blk_drew ?_ | refine blk_alloc ?_ _)); refine blk_put (cs := #[.int .u64 t696, .int .u64 0, .bool false]) ?_ 1 _ rfl; (with_reducible repeat (first | refine blk_drewN ?_ _ | refine blk_drew ?_ | refine blk_alloc ?_ _)); refine blk_put (cs := #[.int .u64 0, .int .u64 0, .bool false]) ?_ 0 _ rfl; (with_reducible repeat (first | refine blk_drewN ?_ _ | refine blk_drew ?_ | refine blk_alloc ?_ _)); exact BK699.out) hb); have n9_ := Aside0.mk (below_step (by repeat (first | (with_reducible first | exact HB.out | apply below_alloc | apply pw_below_drewN | apply below_drew1 | refine below_set ?_ GE681.out | refine below_set ?_ GE688.out | refine below_set ?_ GE692.out | refine below_set ?_ GE699.out) | exact HB.out)) hb); clear HO677; clear HO680; clear HO684; clear HO687; clear BK681; clear BK688; clear BK692; clear BK699; clear HB; have HO677 := n0_; have HO680 := n1_; have HO684 := n2_; have HO687 := n3_; have HO702 := n4_; have BK681 := n5_; have BK688 := n6_; have BK692 := n7_; have BK699 := n8_; have HB := n9_; clear n0_ n1_ n2_ n3_ n4_ n5_ n6_ n7_ n8_ n9_; (try clear hb); (try clear hb2); (try clear hk); (try clear hi); (try clear ho0); obtain ⟨Ao44, co44, eo44⟩ := Kd.R_slice HO702.out; subst eo44) | ((with_reducible refine gate_callee (f := 33) rfl ?_); refine goesL_ (some 31) rfl rfl Try.func33 (by kernel_rfl) rfl #[.slice Ao44 t700.length co44] rfl (by (try simp only [List.map_toArray, List.map_cons, List.map_nil]); first | done | rfl | (simp only [List.length_drop, List.length_take]; rfl)) ?_; (with_reducible refine (regattaref02_Text.calls kj3 _ _ t700 t703 _ ?side1 ?side2 A14.out).mono ?_); (case side1 => repeat (first | exact (Kd.R_reads' HO702.out).2.2 | (with_reducible refine Kd.C_alloc ?_ _) | (with_reducible refine Kd.C_drewN ?_ _) | (with_reducible refine Kd.C_drew ?_))); (case side2 => exact (Kd.R_reads' HO702.out).2.1); rintro e w45 ⟨rfl, hb⟩; refine ⟨_, rfl, ?_⟩; have n0_ := Aside0.mk (Kd.R_below (by (with_reducible repeat (first | apply Kd.R_alloc | apply Kd.R_drewN | apply Kd.R_drew)); exact HO677.out) hb); have n1_ := Aside0.mk (Kd.R_below (by (with_reducible repeat (first | apply Kd.R_alloc | apply Kd.R_drewN | apply Kd.R_drew)); exact HO680.out) hb); have n2_ := Aside0.mk (Kd.V_below (by (with_reducible repeat (first | apply Kd.V_alloc | apply Kd.V_drewN | apply Kd.V_drew)); exact HO684.out) hb); have n3_ := Aside0.mk (Kd.V_below (by (with_reducible repeat (first | apply Kd.V_alloc | apply Kd.V_drewN | apply Kd.V_drew)); exact HO687.out) hb); have n4_ := Aside0.mk (Kd.R_below (by (with_reducible repeat (first | apply Kd.R_alloc | apply Kd.R_drewN | apply Kd.R_drew)); exact HO702.out) hb); have n5_ := Aside0.mk (blk_below (g := gb681) (o := .cells #[.slice Ao19 t675.length co19, .slice Ao18 t678.length co18] 45 (0, 0)) (by (with_reducible repeat (first | refine blk_drewN ?_ _ | refine blk_drew ?_ | refine blk_alloc ?_ _)); exact BK681.out) hb); have n6_ := Aside0.mk (blk_below (g := gb688) (o := .cells #[.slice Ao26 t682.length co26, .slice Ao29 t685.length co29] 45 (0, 0)) (by (with_reducible repeat (first | refine blk_drewN ?_ _ | refine blk_drew ?_ | refine blk_alloc ?_ _)); exact BK688.out) hb); have n7_ := Aside0.mk (blk_below (g := gb692) (o := .cells #[.int .u64 t689, .int .u64 t690, .bool t691] 48 (0, 0)) (by (with_reducible repeat (first | refine blk_drewN ?_ _ | refine blk_drew ?_ | refine blk_alloc ?_ _)); exact BK692.out) hb); have n8_ := Aside0.mk (blk_below (g := gb699) (o := .cells #[.int .u64 t696, .int .u64 t697, .bool t698] 48 (0, 0)) (by (with_reducible repeat (first | refine blk_drewN ?_ _ | refine blk_drew ?_ | refine blk_alloc ?_ _)); exact BK699.out) hb); have n9_ := Aside0.mk (below_step (by repeat (first | (with_reducible first | exact HB.out | apply below_alloc | apply pw_below_drewN | apply below_drew1 | refine below_set ?_ GE681.out | refine below_set ?_ GE688.out | refine below_set ?_ GE692.out | refine below_set ?_ GE699.out) | exact HB.out)) hb); clear HO677; clear HO680; clear HO684; clear HO687; clear HO702; clear BK681; clear BK688; clear BK692; clear BK699; clear HB; have HO677 := n0_; have HO680 := n1_; have HO684 := n2_; have HO687 := n3_; have HO702 := n4_; have BK681 := n5_; have BK688 := n6_; have BK692 := n7_; have BK699 := n8_; have HB := n9_; clear n0_ n1_ n2_ n3_ n4_ n5_ n6_ n7_ n8_ n9_; (try clear hb); (try clear hb2); (try clear hk); (try clear hi); have hcz46_0 : w45.cell? ⟨gb699, 0, none⟩ = some (.int .u64 t696) := (blk_cell BK699.out 0).trans rfl; have hcz46_1 : w45.cell? ⟨gb699, 1, none⟩ = some (.int .u64 t697) := (blk_cell BK699.out 1).trans rfl; have hcz46_2 : w45.cell? ⟨gb699, 2, none⟩ = some (.bool t698) := (blk_cell BK699.out 2).trans rfl; have hfz46_0 := blk_frozen BK699.out 0; have hfz46_1 := blk_frozen BK699.out 1; have hfz46_2 := blk_frozen BK699.out 2))
      (try simp only [Act.put, List.setIfInBounds_toArray, List.set_cons_zero, List.set_cons_succ])
      go_cut [10] (fun v10 wc => ∃ (kq : Nat) (x10_14 : ByteArray), v10 = .string x10_14 ∧ Aside0 (regattalaw03_RatioLeast.j1 kq t674 x10_14 t675 t678 t682 t685 t689 t690 t691 t696 t697 t698 = some r) ∧ Aside0 (kq ≤ kj3) ∧ Aside0 (Kd.R (Kd.int .u32) 30 wc w.heap.size (fun k_ => some k_ ≠ ((.slice Ao18 t678.length co18) : Value).ownBlock) (.slice Ao19 t675.length co19) t675) ∧ Aside0 (Kd.R (Kd.int .u32) 30 wc w.heap.size (fun k_ => some k_ ≠ ((.slice Ao19 t675.length co19) : Value).ownBlock) (.slice Ao18 t678.length co18) t678) ∧ Aside0 (Kd.V (Kd.int .u32) 30 wc w.heap.size (fun k_ => k_ ≠ gb681 ∧ k_ ≠ gb688 ∧ k_ ≠ gb692 ∧ k_ ≠ gb699) (.slice Ao26 t682.length co26) t682) ∧ Aside0 (Kd.V (Kd.int .u32) 30 wc w.heap.size (fun k_ => k_ ≠ gb681 ∧ k_ ≠ gb688 ∧ k_ ≠ gb692 ∧ k_ ≠ gb699) (.slice Ao29 t685.length co29) t685) ∧ Aside0 (wc.heap[gb681]? = some (.cells #[(.slice Ao19 t675.length co19), (.slice Ao18 t678.length co18)] 45 (0, 0))) ∧ Aside0 (wc.heap[gb688]? = some (.cells #[(.slice Ao26 t682.length co26), (.slice Ao29 t685.length co29)] 45 (0, 0))) ∧ Aside0 (wc.heap[gb692]? = some (.cells #[.int .u64 t689, .int .u64 t690, .bool t691] 48 (0, 0))) ∧ Aside0 (wc.heap[gb699]? = some (.cells #[.int .u64 t696, .int .u64 t697, .bool t698] 48 (0, 0))) ∧ Aside0 (Below w.heap.size w wc))
      case first =>
        have H := HC15.out
        clear HC15
        by_cases c47 : t697 = 1
        · rw [if_pos c47] at H
          have c47b0 : (t697 == 1) = true := beq_iff_eq.mpr c47
          have c47b1 : (t697 != 1) = false := bne_eq_false_iff_eq.mpr c47
          clear c47
          (first | rw [c47b0] | (simp only [i64_w, i32_w]; rw [c47b0]) | skip)
          have H' := Aside0.mk H
          clear H
          go_wp2
          go_meet
          case rel => exact ⟨_, (t703), (by first | rfl | (simp; done) | (simp [*]; done)), H', ⟨by have := HJ3.out; first | omega | exact Nat.le_refl _⟩, ⟨by (with_reducible repeat (first | apply Kd.R_alloc | apply Kd.R_drewN | apply Kd.R_drew)); exact Kd.R_mono HO677.out (fun _ hk => hk.1)⟩, ⟨by (with_reducible repeat (first | apply Kd.R_alloc | apply Kd.R_drewN | apply Kd.R_drew)); exact Kd.R_mono HO680.out (fun _ hk => hk.1)⟩, ⟨by (with_reducible repeat (first | apply Kd.V_alloc | apply Kd.V_drewN | apply Kd.V_drew)); exact Kd.V_mono HO684.out (fun _ hk => ⟨hk.1.1.1.1, ⟨hk.1.1.1.2, ⟨hk.1.1.2, hk.1.2⟩⟩⟩)⟩, ⟨by (with_reducible repeat (first | apply Kd.V_alloc | apply Kd.V_drewN | apply Kd.V_drew)); exact Kd.V_mono HO687.out (fun _ hk => ⟨hk.1.1.1.1, ⟨hk.1.1.1.2, ⟨hk.1.1.2, hk.1.2⟩⟩⟩)⟩, ⟨by (with_reducible repeat (first | refine blk_drewN ?_ _ | refine blk_drew ?_ | refine blk_alloc ?_ _)); exact BK681.out⟩, ⟨by (with_reducible repeat (first | refine blk_drewN ?_ _ | refine blk_drew ?_ | refine blk_alloc ?_ _)); exact BK688.out⟩, ⟨by (with_reducible repeat (first | refine blk_drewN ?_ _ | refine blk_drew ?_ | refine blk_alloc ?_ _)); exact BK692.out⟩, ⟨by (with_reducible repeat (first | refine blk_drewN ?_ _ | refine blk_drew ?_ | refine blk_alloc ?_ _)); exact BK699.out⟩, ⟨by repeat (first | (with_reducible first | exact HB.out | apply below_alloc | apply pw_below_drewN | apply below_drew1 | refine below_set ?_ GE681.out | refine below_set ?_ GE688.out | refine below_set ?_ GE692.out | refine below_set ?_ GE699.out) | exact HB.out)⟩⟩
        · rw [if_neg c47] at H
          have c47b0 : (t697 == 1) = false := beq_eq_false_iff_ne.mpr c47
          have c47b1 : (t697 != 1) = true := bne_iff_ne.mpr c47
          (first | rw [c47b0] | (simp only [i64_w, i32_w]; rw [c47b0]) | skip)
          by_cases c48 : t703.size + 1 ≤ 9223372036854775807
          · rw [if_pos c48] at H
            have c48b0 := eq_true c48
            have c48b1 : decide (t703.size + 1 ≤ 9223372036854775807) = true := decide_eq_true c48
            try have c48b2 : (9223372036854775807 < t703.size + 1) = False := eq_false (Nat.not_lt.2 c48)
            replace H := Option.bind_eq_some_iff.mp H
            obtain ⟨t704, A490, H⟩ := H
            replace H : ((regattaref02_Text.f kj3 t704).bind fun t707 => (if t703.size + 1 + t707.size ≤ 9223372036854775807 then (regattalaw03_RatioLeast.j1 kj3 t674 ((t703 ++ (⟨#[47]⟩ : ByteArray)) ++ t707) t675 t678 t682 t685 t689 t690 t691 t696 t697 t698) else (none))) = some r := H
            have A49 := Aside0.mk A490
            clear A490
            replace H := Option.bind_eq_some_iff.mp H
            obtain ⟨t707, A500, H⟩ := H
            replace H : (if t703.size + 1 + t707.size ≤ 9223372036854775807 then (regattalaw03_RatioLeast.j1 kj3 t674 ((t703 ++ (⟨#[47]⟩ : ByteArray)) ++ t707) t675 t678 t682 t685 t689 t690 t691 t696 t697 t698) else (none)) = some r := H
            have A50 := Aside0.mk A500
            clear A500
            by_cases c51 : t703.size + 1 + t707.size ≤ 9223372036854775807
            · rw [if_pos c51] at H
              have c51b0 := eq_true c51
              have c51b1 : decide (t703.size + 1 + t707.size ≤ 9223372036854775807) = true := decide_eq_true c51
              try have c51b2 : (9223372036854775807 < t703.size + 1 + t707.size) = False := eq_false (Nat.not_lt.2 c51)
              have H' := Aside0.mk H
              clear H
              have hnb52 := NB699_681.out
              have hnc52 := NB681_699.out
              have hnb53 := NB699_688.out
              have hnc53 := NB688_699.out
              have hnb54 := NB699_692.out
              have hnc54 := NB692_699.out
              have hcz55_0 : w45.cell? ⟨gb699, 0, none⟩ = some (.int .u64 t696) := (blk_cell BK699.out 0).trans rfl
              have hcz55_1 : w45.cell? ⟨gb699, 1, none⟩ = some (.int .u64 t697) := (blk_cell BK699.out 1).trans rfl
              have hcz55_2 : w45.cell? ⟨gb699, 2, none⟩ = some (.bool t698) := (blk_cell BK699.out 2).trans rfl
              have hfz55_0 := blk_frozen BK699.out 0
              have hfz55_1 := blk_frozen BK699.out 1
              have hfz55_2 := blk_frozen BK699.out 2
              go_wp2_with (first | ((with_reducible refine gate_callee (f := 29) rfl ?_); refine goesL_ (some 39) rfl rfl Try.func29 (by kernel_rfl) rfl #[.int .u64 t697] rfl (by (try simp only [List.map_toArray, List.map_cons, List.map_nil]); first | done | rfl | (simp only [List.length_drop, List.length_take]; rfl)) ?_; (with_reducible refine (regattaref02_Of.calls kj3 t697 t704 _ A49.out).mono ?_); rintro e w56 ⟨v705, rfl, ho0, hb⟩; refine ⟨_, rfl, ?_⟩; have n0_ := Aside0.mk (Kd.R_elder' (by (with_reducible repeat (first | apply Kd.R_alloc | apply Kd.R_drewN | apply Kd.R_drew)); exact HO677.out) (Kd.R_base ho0) hb); have n1_ := Aside0.mk (Kd.R_elder' (by (with_reducible repeat (first | apply Kd.R_alloc | apply Kd.R_drewN | apply Kd.R_drew)); exact HO680.out) (Kd.R_base ho0) hb); have n2_ := Aside0.mk (Kd.V_elder' (by (with_reducible repeat (first | apply Kd.V_alloc | apply Kd.V_drewN | apply Kd.V_drew)); exact HO684.out) (Kd.R_base ho0) hb); have n3_ := Aside0.mk (Kd.V_elder' (by (with_reducible repeat (first | apply Kd.V_alloc | apply Kd.V_drewN | apply Kd.V_drew)); exact HO687.out) (Kd.R_base ho0) hb); have n4_ := Aside0.mk (Kd.R_elder' (by (with_reducible repeat (first | apply Kd.R_alloc | apply Kd.R_drewN | apply Kd.R_drew)); exact HO702.out) (Kd.R_base ho0) hb); have n5_ := Aside0.mk (Kd.R_lower (Kd.R_new' (Kd.R_new' (Kd.R_new' ho0 (Kd.R_lt (by (with_reducible repeat (first | apply Kd.R_alloc | apply Kd.R_drewN | apply Kd.R_drew)); exact HO677.out))) (Kd.R_lt (by (with_reducible repeat (first | apply Kd.R_alloc | apply Kd.R_drewN | apply Kd.R_drew)); exact HO680.out))) (Kd.R_lt (by (with_reducible repeat (first | apply Kd.R_alloc | apply Kd.R_drewN | apply Kd.R_drew)); exact HO702.out))) (below_size (by repeat (first | (with_reducible first | exact HB.out | apply below_alloc | apply pw_below_drewN | apply below_drew1 | refine below_set ?_ GE681.out | refine below_set ?_ GE688.out | refine below_set ?_ GE692.out | refine below_set ?_ GE699.out) | exact HB.out)))); have n6_ := Aside0.mk (blk_below (g := gb681) (o := .cells #[.slice Ao19 t675.length co19, .slice Ao18 t678.length co18] 45 (0, 0)) (by (with_reducible repeat (first | refine blk_drewN ?_ _ | refine blk_drew ?_ | refine blk_alloc ?_ _)); exact BK681.out) hb); have n7_ := Aside0.mk (blk_below (g := gb688) (o := .cells #[.slice Ao26 t682.length co26, .slice Ao29 t685.length co29] 45 (0, 0)) (by (with_reducible repeat (first | refine blk_drewN ?_ _ | refine blk_drew ?_ | refine blk_alloc ?_ _)); exact BK688.out) hb); have n8_ := Aside0.mk (blk_below (g := gb692) (o := .cells #[.int .u64 t689, .int .u64 t690, .bool t691] 48 (0, 0)) (by (with_reducible repeat (first | refine blk_drewN ?_ _ | refine blk_drew ?_ | refine blk_alloc ?_ _)); exact BK692.out) hb); have n9_ := Aside0.mk (blk_below (g := gb699) (o := .cells #[.int .u64 t696, .int .u64 t697, .bool t698] 48 (0, 0)) (by (with_reducible repeat (first | refine blk_drewN ?_ _ | refine blk_drew ?_ | refine blk_alloc ?_ _)); exact BK699.out) hb); have n10_ := Aside0.mk (below_step (by repeat (first | (with_reducible first | exact HB.out | apply below_alloc | apply pw_below_drewN | apply below_drew1 | refine below_set ?_ GE681.out | refine below_set ?_ GE688.out | refine below_set ?_ GE692.out | refine below_set ?_ GE699.out) | exact HB.out)) hb); clear HO677; clear HO680; clear HO684; clear HO687; clear HO702; clear BK681; clear BK688; clear BK692; clear BK699; clear HB; have HO677 := n0_; have HO680 := n1_; have HO684 := n2_; have HO687 := n3_; have HO702 := n4_; have HO706 := n5_; have BK681 := n6_; have BK688 := n7_; have BK692 := n8_; have BK699 := n9_; have HB := n10_; clear n0_ n1_ n2_ n3_ n4_ n5_ n6_ n7_ n8_ n9_ n10_; (try clear hb); (try clear hb2); (try clear hk); (try clear hi); (try clear ho0); obtain ⟨Ao57, co57, eo57⟩ := Kd.R_slice HO706.out; subst eo57) | ((with_reducible refine gate_callee (f := 33) rfl ?_); refine goesL_ (some 40) rfl rfl Try.func33 (by kernel_rfl) rfl #[.slice Ao57 t704.length co57] rfl (by (try simp only [List.map_toArray, List.map_cons, List.map_nil]); first | done | rfl | (simp only [List.length_drop, List.length_take]; rfl)) ?_; (with_reducible refine (regattaref02_Text.calls kj3 _ _ t704 t707 _ ?side1 ?side2 A50.out).mono ?_); (case side1 => repeat (first | exact (Kd.R_reads' HO706.out).2.2 | (with_reducible refine Kd.C_alloc ?_ _) | (with_reducible refine Kd.C_drewN ?_ _) | (with_reducible refine Kd.C_drew ?_))); (case side2 => exact (Kd.R_reads' HO706.out).2.1); rintro e w58 ⟨rfl, hb⟩; refine ⟨_, rfl, ?_⟩; have n0_ := Aside0.mk (Kd.R_below (by (with_reducible repeat (first | apply Kd.R_alloc | apply Kd.R_drewN | apply Kd.R_drew)); exact HO677.out) hb); have n1_ := Aside0.mk (Kd.R_below (by (with_reducible repeat (first | apply Kd.R_alloc | apply Kd.R_drewN | apply Kd.R_drew)); exact HO680.out) hb); have n2_ := Aside0.mk (Kd.V_below (by (with_reducible repeat (first | apply Kd.V_alloc | apply Kd.V_drewN | apply Kd.V_drew)); exact HO684.out) hb); have n3_ := Aside0.mk (Kd.V_below (by (with_reducible repeat (first | apply Kd.V_alloc | apply Kd.V_drewN | apply Kd.V_drew)); exact HO687.out) hb); have n4_ := Aside0.mk (Kd.R_below (by (with_reducible repeat (first | apply Kd.R_alloc | apply Kd.R_drewN | apply Kd.R_drew)); exact HO702.out) hb); have n5_ := Aside0.mk (Kd.R_below (by (with_reducible repeat (first | apply Kd.R_alloc | apply Kd.R_drewN | apply Kd.R_drew)); exact HO706.out) hb); have n6_ := Aside0.mk (blk_below (g := gb681) (o := .cells #[.slice Ao19 t675.length co19, .slice Ao18 t678.length co18] 45 (0, 0)) (by (with_reducible repeat (first | refine blk_drewN ?_ _ | refine blk_drew ?_ | refine blk_alloc ?_ _)); exact BK681.out) hb); have n7_ := Aside0.mk (blk_below (g := gb688) (o := .cells #[.slice Ao26 t682.length co26, .slice Ao29 t685.length co29] 45 (0, 0)) (by (with_reducible repeat (first | refine blk_drewN ?_ _ | refine blk_drew ?_ | refine blk_alloc ?_ _)); exact BK688.out) hb); have n8_ := Aside0.mk (blk_below (g := gb692) (o := .cells #[.int .u64 t689, .int .u64 t690, .bool t691] 48 (0, 0)) (by (with_reducible repeat (first | refine blk_drewN ?_ _ | refine blk_drew ?_ | refine blk_alloc ?_ _)); exact BK692.out) hb); have n9_ := Aside0.mk (blk_below (g := gb699) (o := .cells #[.int .u64 t696, .int .u64 t697, .bool t698] 48 (0, 0)) (by (with_reducible repeat (first | refine blk_drewN ?_ _ | refine blk_drew ?_ | refine blk_alloc ?_ _)); exact BK699.out) hb); have n10_ := Aside0.mk (below_step (by repeat (first | (with_reducible first | exact HB.out | apply below_alloc | apply pw_below_drewN | apply below_drew1 | refine below_set ?_ GE681.out | refine below_set ?_ GE688.out | refine below_set ?_ GE692.out | refine below_set ?_ GE699.out) | exact HB.out)) hb); clear HO677; clear HO680; clear HO684; clear HO687; clear HO702; clear HO706; clear BK681; clear BK688; clear BK692; clear BK699; clear HB; have HO677 := n0_; have HO680 := n1_; have HO684 := n2_; have HO687 := n3_; have HO702 := n4_; have HO706 := n5_; have BK681 := n6_; have BK688 := n7_; have BK692 := n8_; have BK699 := n9_; have HB := n10_; clear n0_ n1_ n2_ n3_ n4_ n5_ n6_ n7_ n8_ n9_ n10_; (try clear hb); (try clear hb2); (try clear hk); (try clear hi)))
              go_meet
              case rel => exact ⟨_, ((t703 ++ (⟨#[47]⟩ : ByteArray)) ++ t707), (by first | rfl | (simp; done) | (simp [*]; done)), H', ⟨by have := HJ3.out; first | omega | exact Nat.le_refl _⟩, ⟨by (with_reducible repeat (first | apply Kd.R_alloc | apply Kd.R_drewN | apply Kd.R_drew)); exact Kd.R_mono HO677.out (fun _ hk => hk.1.1)⟩, ⟨by (with_reducible repeat (first | apply Kd.R_alloc | apply Kd.R_drewN | apply Kd.R_drew)); exact Kd.R_mono HO680.out (fun _ hk => hk.1.1)⟩, ⟨by (with_reducible repeat (first | apply Kd.V_alloc | apply Kd.V_drewN | apply Kd.V_drew)); exact Kd.V_mono HO684.out (fun _ hk => ⟨hk.1.1.1.1.1, ⟨hk.1.1.1.1.2, ⟨hk.1.1.1.2, hk.1.1.2⟩⟩⟩)⟩, ⟨by (with_reducible repeat (first | apply Kd.V_alloc | apply Kd.V_drewN | apply Kd.V_drew)); exact Kd.V_mono HO687.out (fun _ hk => ⟨hk.1.1.1.1.1, ⟨hk.1.1.1.1.2, ⟨hk.1.1.1.2, hk.1.1.2⟩⟩⟩)⟩, ⟨by (with_reducible repeat (first | refine blk_drewN ?_ _ | refine blk_drew ?_ | refine blk_alloc ?_ _)); exact BK681.out⟩, ⟨by (with_reducible repeat (first | refine blk_drewN ?_ _ | refine blk_drew ?_ | refine blk_alloc ?_ _)); exact BK688.out⟩, ⟨by (with_reducible repeat (first | refine blk_drewN ?_ _ | refine blk_drew ?_ | refine blk_alloc ?_ _)); exact BK692.out⟩, ⟨by (with_reducible repeat (first | refine blk_drewN ?_ _ | refine blk_drew ?_ | refine blk_alloc ?_ _)); exact BK699.out⟩, ⟨by repeat (first | (with_reducible first | exact HB.out | apply below_alloc | apply pw_below_drewN | apply below_drew1 | refine below_set ?_ GE681.out | refine below_set ?_ GE688.out | refine below_set ?_ GE692.out | refine below_set ?_ GE699.out) | exact HB.out)⟩⟩
            · rw [if_neg c51] at H
              exact absurd H (by simp)
          · rw [if_neg c48] at H
            exact absurd H (by simp)
      case rest =>
        clear HC15
        try clear c2
        try clear p2
        try clear c3
        try clear c4
        try clear c5
        try clear c6
        try clear c6b0
        try clear c6b1
        try clear c7
        try clear c27
        try clear c28
        try clear c29
        try clear c30
        try clear c31
        try clear c32
        try clear c33
        try clear c39
        try clear c40
        try clear c41
        try clear c47
        try clear c47b0
        try clear c47b1
        try clear c48
        try clear c48b0
        try clear c48b1
        try clear c48b2
        try clear c51
        try clear c51b0
        try clear c51b1
        try clear c51b2
        try clear c52
        try clear c53
        try clear c54
        try clear hcz21_0
        try clear hcz21_1
        try clear hcz23_0
        try clear hcz23_1
        try clear hcz28_0
        try clear hcz28_1
        try clear hcz34_0
        try clear hcz34_1
        try clear hcz34_2
        try clear hcz35_0
        try clear hcz35_1
        try clear hcz42_0
        try clear hcz42_1
        try clear hcz42_2
        try clear hcz46_0
        try clear hcz46_1
        try clear hcz46_2
        try clear hcz55_0
        try clear hcz55_1
        try clear hcz55_2
        try clear hfz21_0
        try clear hfz21_1
        try clear hfz23_0
        try clear hfz23_1
        try clear hfz28_0
        try clear hfz28_1
        try clear hfz34_0
        try clear hfz34_1
        try clear hfz34_2
        try clear hfz35_0
        try clear hfz35_1
        try clear hfz42_0
        try clear hfz42_1
        try clear hfz42_2
        try clear hfz46_0
        try clear hfz46_1
        try clear hfz46_2
        try clear hfz55_0
        try clear hfz55_1
        try clear hfz55_2
        try clear p2
        obtain ⟨kq, x10_14, rfl, HA, HJ14, HO_682000, HO_682001, HO_689000, HO_689001, BK681, BK688, BK692, BK699, HB⟩ := hcut
        cases kq with
        | zero => exact absurd HA.out (by simp [regattalaw03_RatioLeast.j1])
        | succ kj14 =>
          have H := HA.out
          clear HA
          simp only [regattalaw03_RatioLeast.j1] at H
          by_cases c59 : t674 = true
          · subst c59
            have H1 : (if t691 = true then (if t689 = t696 then (if t690 = t697 then ((ratio_Text.f kj14 t675 t678).bind fun t708 => (if t708.toList = x10_14.toList then ((ratio_Text.f kj14 t682 t685).bind fun t709 => (if t709.toList = x10_14.toList then ((ratio_Least.f kj14 t682 t685).bind fun bt710 => ((regattalaw03_same.f kj14 bt710.1 bt710.2 t682 t685).bind fun t716 => (some t716))) else (some false))) else (some false))) else (some false)) else (some false)) else (some false)) = some r := by rw [if_pos rfl] at H; exact H
            clear H
            have H := H1
            clear H1
            by_cases c60 : t691 = true
            · subst c60
              have H1 : (if t689 = t696 then (if t690 = t697 then ((ratio_Text.f kj14 t675 t678).bind fun t708 => (if t708.toList = x10_14.toList then ((ratio_Text.f kj14 t682 t685).bind fun t709 => (if t709.toList = x10_14.toList then ((ratio_Least.f kj14 t682 t685).bind fun bt710 => ((regattalaw03_same.f kj14 bt710.1 bt710.2 t682 t685).bind fun t716 => (some t716))) else (some false))) else (some false))) else (some false)) else (some false)) = some r := by rw [if_pos rfl] at H; exact H
              clear H
              have H := H1
              clear H1
              by_cases c61 : t689 = t696
              · rw [if_pos c61] at H
                have c61b0 : (t689 == t696) = true := beq_iff_eq.mpr c61
                have c61b1 : (t689 != t696) = false := bne_eq_false_iff_eq.mpr c61
                clear c61
                by_cases c62 : t690 = t697
                · rw [if_pos c62] at H
                  have c62b0 : (t690 == t697) = true := beq_iff_eq.mpr c62
                  have c62b1 : (t690 != t697) = false := bne_eq_false_iff_eq.mpr c62
                  clear c62
                  replace H := Option.bind_eq_some_iff.mp H
                  obtain ⟨t708, A630, H⟩ := H
                  replace H : (if t708.toList = x10_14.toList then ((ratio_Text.f kj14 t682 t685).bind fun t709 => (if t709.toList = x10_14.toList then ((ratio_Least.f kj14 t682 t685).bind fun bt710 => ((regattalaw03_same.f kj14 bt710.1 bt710.2 t682 t685).bind fun t716 => (some t716))) else (some false))) else (some false)) = some r := H
                  have A63 := Aside0.mk A630
                  clear A630
                  by_cases c64 : t708.toList = x10_14.toList
                  · rw [if_pos c64] at H
                    have c64b0 : (t708.toList == x10_14.toList) = true := beq_iff_eq.mpr c64
                    have c64b1 : (t708.toList != x10_14.toList) = false := bne_eq_false_iff_eq.mpr c64
                    clear c64
                    replace H := Option.bind_eq_some_iff.mp H
                    obtain ⟨t709, A650, H⟩ := H
                    replace H : (if t709.toList = x10_14.toList then ((ratio_Least.f kj14 t682 t685).bind fun bt710 => ((regattalaw03_same.f kj14 bt710.1 bt710.2 t682 t685).bind fun t716 => (some t716))) else (some false)) = some r := H
                    have A65 := Aside0.mk A650
                    clear A650
                    by_cases c66 : t709.toList = x10_14.toList
                    · rw [if_pos c66] at H
                      have c66b0 : (t709.toList == x10_14.toList) = true := beq_iff_eq.mpr c66
                      have c66b1 : (t709.toList != x10_14.toList) = false := bne_eq_false_iff_eq.mpr c66
                      clear c66
                      replace H := Option.bind_eq_some_iff.mp H
                      obtain ⟨⟨t710, t713⟩, A670, H⟩ := H
                      replace H : ((regattalaw03_same.f kj14 t710 t713 t682 t685).bind fun t716 => (some t716)) = some r := H
                      have A67 := Aside0.mk A670
                      clear A670
                      replace H := Option.bind_eq_some_iff.mp H
                      obtain ⟨t716, A680, H⟩ := H
                      replace H : (some t716) = some r := H
                      have A68 := Aside0.mk A680
                      clear A680
                      obtain rfl := Option.some.inj H
                      try go_wp2
                      have n0_ := Aside0.mk (Kd.R_drew HO_682000.out)
                      have n1_ := Aside0.mk (Kd.R_drew HO_682001.out)
                      have n2_ := Aside0.mk (Kd.V_drew HO_689000.out)
                      have n3_ := Aside0.mk (Kd.V_drew HO_689001.out)
                      have n4_ := Aside0.mk (blk_drew BK681.out)
                      have n5_ := Aside0.mk (blk_drew BK688.out)
                      have n6_ := Aside0.mk (blk_drew BK692.out)
                      have n7_ := Aside0.mk (blk_drew BK699.out)
                      have n8_ := Aside0.mk (below_drew1 HB.out)
                      clear HO_682000
                      clear HO_682001
                      clear HO_689000
                      clear HO_689001
                      clear BK681
                      clear BK688
                      clear BK692
                      clear BK699
                      clear HB
                      have HO_682000 := n0_
                      have HO_682001 := n1_
                      have HO_689000 := n2_
                      have HO_689001 := n3_
                      have BK681 := n4_
                      have BK688 := n5_
                      have BK692 := n6_
                      have BK699 := n7_
                      have HB := n8_
                      clear n0_ n1_ n2_ n3_ n4_ n5_ n6_ n7_ n8_
                      refine start_ (n := 38) (S := fun w' => w'.cell? ⟨gb692, 0, none⟩ = some (.int .u64 t689) ∧ w'.cell? ⟨gb692, 1, none⟩ = some (.int .u64 t690) ∧ w'.cell? ⟨gb692, 2, none⟩ = some (.bool true) ∧ w'.cell? ⟨gb699, 0, none⟩ = some (.int .u64 t696) ∧ w'.cell? ⟨gb699, 1, none⟩ = some (.int .u64 t697) ∧ w'.cell? ⟨gb699, 2, none⟩ = some (.bool t698) ∧ w'.cell? ⟨gb681, 0, none⟩ = some (.slice Ao19 t675.length co19) ∧ w'.cell? ⟨gb681, 1, none⟩ = some (.slice Ao18 t678.length co18) ∧ w'.cell? ⟨gb688, 0, none⟩ = some (.slice Ao26 t682.length co26) ∧ w'.cell? ⟨gb688, 1, none⟩ = some (.slice Ao29 t685.length co29)) (ds := []) #[false, false, false, false, false, false, false, false, false, false, false, false, false, false, false, false, false, false, false, false, false, false, false, false, false, false, false, false, false, false, false, false, false, false, false, false, false, false] (by kernel_rfl) rfl rfl ⟨(blk_cell BK692.out 0).trans rfl, (blk_cell BK692.out 1).trans rfl, (blk_cell BK692.out 2).trans rfl, (blk_cell BK699.out 0).trans rfl, (blk_cell BK699.out 1).trans rfl, (blk_cell BK699.out 2).trans rfl, (blk_cell BK681.out 0).trans rfl, (blk_cell BK681.out 1).trans rfl, (blk_cell BK688.out 0).trans rfl, (blk_cell BK688.out 1).trans rfl⟩ (fun hHeld => ?_); refine with_tabW regattalaw03_RatioLeast.tab11 regattalaw03_RatioLeast.bits11 (fun HT_ HW_ => ?_)
                      generalize wc.drew = w69 at HO_682000 HO_682001 HO_689000 HO_689001 BK681 BK688 BK692 BK699 HB hHeld ⊢
                      refine pure_ (i := 0) (N := some 42) (v := ?_) (a' := ?_) #[true, false, false, false, false, false, false, false, false, false, false, false, false, false, false, false, false, false, false, false, false, false, false, false, false, false, false, false, false, false, false, false, false, false, false, false, false, false] rfl rfl (any_of HT_.out (by kernel_rfl)) (fun _ _ _ h => h) (Or.inl ⟨by rfl, ?_⟩) ?_ ?_
                      rotate_left
                      · intro w'
                        go_simp
                        with_reducible rfl
                      rotate_left
                      · simp only [Act.put, List.setIfInBounds_toArray, List.set_cons_zero, List.set_cons_succ, i64_w, i32_w]
                        rfl
                      refine pure_ (i := 1) (N := some 43) (v := ?_) (a' := ?_) #[true, true, false, false, false, false, false, false, false, false, false, false, false, false, false, false, false, false, false, false, false, false, false, false, false, false, false, false, false, false, false, false, false, false, false, false, false, false] rfl rfl (any_of HT_.out (by kernel_rfl)) (fun _ _ _ h => h) (Or.inl ⟨by rfl, ?_⟩) ?_ ?_
                      rotate_left
                      · intro w'
                        go_simp
                        with_reducible rfl
                      rotate_left
                      · simp only [Act.put, List.setIfInBounds_toArray, List.set_cons_zero, List.set_cons_succ, i64_w, i32_w]
                        rfl
                      refine pure_ (i := 2) (N := some 44) (v := ?_) (a' := ?_) #[true, true, true, false, false, false, false, false, false, false, false, false, false, false, false, false, false, false, false, false, false, false, false, false, false, false, false, false, false, false, false, false, false, false, false, false, false, false] rfl rfl (any_of HT_.out (by kernel_rfl)) (fun _ _ _ h => h) (Or.inl ⟨by rfl, ?_⟩) ?_ ?_
                      rotate_left
                      · intro w'
                        go_simp
                        with_reducible rfl
                      rotate_left
                      · simp only [Act.put, List.setIfInBounds_toArray, List.set_cons_zero, List.set_cons_succ, i64_w, i32_w]
                        rfl
                      refine take_ (i := 3) (N := some 45) (v := ?_) (a' := ?_) #[true, true, true, true, false, false, false, false, false, false, false, false, false, false, false, false, false, false, false, false, false, false, false, false, false, false, false, false, false, false, false, false, false, false, false, false, false, false] rfl rfl (take_ofW HT_.out HW_.out (by kernel_rfl)) (fun _ _ _ h => h) (Or.inl ⟨by rfl, ?_⟩) hHeld ?_ ?_
                      rotate_left
                      · rintro w' ⟨s0, s1, s2, s3, s4, s5, s6, s7, s8, s9⟩
                        go_simp
                        with_reducible rfl
                      rotate_left
                      · simp only [Act.put, List.setIfInBounds_toArray, List.set_cons_zero, List.set_cons_succ, i64_w, i32_w]
                        rfl
                      refine pure_ (i := 4) (N := some 46) (v := ?_) (a' := ?_) #[true, true, true, true, true, false, false, false, false, false, false, false, false, false, false, false, false, false, false, false, false, false, false, false, false, false, false, false, false, false, false, false, false, false, false, false, false, false] rfl rfl (any_of HT_.out (by kernel_rfl)) (fun _ _ _ h => h) (Or.inl ⟨by rfl, ?_⟩) ?_ ?_
                      rotate_left
                      · intro w'
                        go_simp
                        with_reducible rfl
                      rotate_left
                      · simp only [Act.put, List.setIfInBounds_toArray, List.set_cons_zero, List.set_cons_succ, i64_w, i32_w]
                        rfl
                      refine pure_ (i := 5) (N := some 47) (v := ?_) (a' := ?_) #[true, true, true, true, true, true, false, false, false, false, false, false, false, false, false, false, false, false, false, false, false, false, false, false, false, false, false, false, false, false, false, false, false, false, false, false, false, false] rfl rfl (any_of HT_.out (by kernel_rfl)) (fun _ _ _ h => h) (Or.inl ⟨by rfl, ?_⟩) ?_ ?_
                      rotate_left
                      · intro w'
                        go_simp
                        with_reducible rfl
                      rotate_left
                      · simp only [Act.put, List.setIfInBounds_toArray, List.set_cons_zero, List.set_cons_succ, i64_w, i32_w]
                        rfl
                      refine pure_ (i := 6) (N := some 48) (v := ?_) (a' := ?_) #[true, true, true, true, true, true, true, false, false, false, false, false, false, false, false, false, false, false, false, false, false, false, false, false, false, false, false, false, false, false, false, false, false, false, false, false, false, false] rfl rfl (any_of HT_.out (by kernel_rfl)) (fun _ _ _ h => h) (Or.inl ⟨by rfl, ?_⟩) ?_ ?_
                      rotate_left
                      · intro w'
                        go_simp
                        with_reducible rfl
                      rotate_left
                      · simp only [Act.put, List.setIfInBounds_toArray, List.set_cons_zero, List.set_cons_succ, i64_w, i32_w]
                        rfl
                      refine pure_ (i := 8) (N := some 50) (v := ?_) (a' := ?_) #[true, true, true, true, true, true, true, false, true, false, false, false, false, false, false, false, false, false, false, false, false, false, false, false, false, false, false, false, false, false, false, false, false, false, false, false, false, false] rfl rfl (any_of HT_.out (by kernel_rfl)) (fun _ _ _ h => h) (Or.inl ⟨by rfl, ?_⟩) ?_ ?_
                      rotate_left
                      · intro w'
                        go_simp
                        with_reducible rfl
                      rotate_left
                      · simp only [Act.put, List.setIfInBounds_toArray, List.set_cons_zero, List.set_cons_succ, i64_w, i32_w]
                        rfl
                      refine take_ (i := 7) (N := some 49) (v := ?_) (a' := ?_) #[true, true, true, true, true, true, true, true, true, false, false, false, false, false, false, false, false, false, false, false, false, false, false, false, false, false, false, false, false, false, false, false, false, false, false, false, false, false] rfl rfl (take_ofW HT_.out HW_.out (by kernel_rfl)) (fun _ _ _ h => h) (Or.inl ⟨by rfl, ?_⟩) hHeld ?_ ?_
                      rotate_left
                      · rintro w' ⟨s0, s1, s2, s3, s4, s5, s6, s7, s8, s9⟩
                        go_simp
                        with_reducible rfl
                      rotate_left
                      · simp only [Act.put, List.setIfInBounds_toArray, List.set_cons_zero, List.set_cons_succ, i64_w, i32_w]
                        rfl
                      refine take_ (i := 9) (N := some 51) (v := ?_) (a' := ?_) #[true, true, true, true, true, true, true, true, true, true, false, false, false, false, false, false, false, false, false, false, false, false, false, false, false, false, false, false, false, false, false, false, false, false, false, false, false, false] rfl rfl (take_ofW HT_.out HW_.out (by kernel_rfl)) (fun _ _ _ h => h) (Or.inl ⟨by rfl, ?_⟩) hHeld ?_ ?_
                      rotate_left
                      · rintro w' ⟨s0, s1, s2, s3, s4, s5, s6, s7, s8, s9⟩
                        go_simp
                        with_reducible rfl
                      rotate_left
                      · simp only [Act.put, List.setIfInBounds_toArray, List.set_cons_zero, List.set_cons_succ, i64_w, i32_w]
                        rfl
                      refine pure_ (i := 10) (N := some 52) (v := ?_) (a' := ?_) #[true, true, true, true, true, true, true, true, true, true, true, false, false, false, false, false, false, false, false, false, false, false, false, false, false, false, false, false, false, false, false, false, false, false, false, false, false, false] rfl rfl (any_of HT_.out (by kernel_rfl)) (fun _ _ _ h => h) (Or.inl ⟨by rfl, ?_⟩) ?_ ?_
                      rotate_left
                      · intro w'
                        go_simp
                        with_reducible rfl
                      rotate_left
                      · simp only [Act.put, List.setIfInBounds_toArray, List.set_cons_zero, List.set_cons_succ, i64_w, i32_w]
                        rfl
                      refine pure_ (i := 11) (N := some 53) (v := ?_) (a' := ?_) #[true, true, true, true, true, true, true, true, true, true, true, true, false, false, false, false, false, false, false, false, false, false, false, false, false, false, false, false, false, false, false, false, false, false, false, false, false, false] rfl rfl (any_of HT_.out (by kernel_rfl)) (fun _ _ _ h => h) (Or.inl ⟨by rfl, ?_⟩) ?_ ?_
                      rotate_left
                      · intro w'
                        go_simp
                        with_reducible rfl
                      rotate_left
                      · simp only [Act.put, List.setIfInBounds_toArray, List.set_cons_zero, List.set_cons_succ, i64_w, i32_w]
                        rfl
                      refine pure_ (i := 12) (N := some 54) (v := ?_) (a' := ?_) #[true, true, true, true, true, true, true, true, true, true, true, true, true, false, false, false, false, false, false, false, false, false, false, false, false, false, false, false, false, false, false, false, false, false, false, false, false, false] rfl rfl (any_of HT_.out (by kernel_rfl)) (fun _ _ _ h => h) (Or.inl ⟨by rfl, ?_⟩) ?_ ?_
                      rotate_left
                      · intro w'
                        go_simp
                        with_reducible rfl
                      rotate_left
                      · simp only [Act.put, List.setIfInBounds_toArray, List.set_cons_zero, List.set_cons_succ, i64_w, i32_w]
                        rfl
                      refine pure_ (i := 13) (N := some 55) (v := ?_) (a' := ?_) #[true, true, true, true, true, true, true, true, true, true, true, true, true, true, false, false, false, false, false, false, false, false, false, false, false, false, false, false, false, false, false, false, false, false, false, false, false, false] rfl rfl (any_of HT_.out (by kernel_rfl)) (fun _ _ _ h => h) (Or.inl ⟨by rfl, ?_⟩) ?_ ?_
                      rotate_left
                      · intro w'
                        go_simp
                        with_reducible rfl
                      rotate_left
                      · simp only [Act.put, List.setIfInBounds_toArray, List.set_cons_zero, List.set_cons_succ, i64_w, i32_w]
                        rfl
                      refine pure_ (i := 15) (N := some 57) (v := ?_) (a' := ?_) #[true, true, true, true, true, true, true, true, true, true, true, true, true, true, false, true, false, false, false, false, false, false, false, false, false, false, false, false, false, false, false, false, false, false, false, false, false, false] rfl rfl (any_of HT_.out (by kernel_rfl)) (fun _ _ _ h => h) (Or.inl ⟨by rfl, ?_⟩) ?_ ?_
                      rotate_left
                      · intro w'
                        go_simp
                        with_reducible rfl
                      rotate_left
                      · simp only [Act.put, List.setIfInBounds_toArray, List.set_cons_zero, List.set_cons_succ, i64_w, i32_w]
                        rfl
                      refine take_ (i := 14) (N := some 56) (v := ?_) (a' := ?_) #[true, true, true, true, true, true, true, true, true, true, true, true, true, true, true, true, false, false, false, false, false, false, false, false, false, false, false, false, false, false, false, false, false, false, false, false, false, false] rfl rfl (take_ofW HT_.out HW_.out (by kernel_rfl)) (fun _ _ _ h => h) (Or.inl ⟨by rfl, ?_⟩) hHeld ?_ ?_
                      rotate_left
                      · rintro w' ⟨s0, s1, s2, s3, s4, s5, s6, s7, s8, s9⟩
                        go_simp
                        with_reducible rfl
                      rotate_left
                      · simp only [Act.put, List.setIfInBounds_toArray, List.set_cons_zero, List.set_cons_succ, i64_w, i32_w]
                        rfl
                      refine take_ (i := 16) (N := some 58) (v := ?_) (a' := ?_) #[true, true, true, true, true, true, true, true, true, true, true, true, true, true, true, true, true, false, false, false, false, false, false, false, false, false, false, false, false, false, false, false, false, false, false, false, false, false] rfl rfl (take_ofW HT_.out HW_.out (by kernel_rfl)) (fun _ _ _ h => h) (Or.inl ⟨by rfl, ?_⟩) hHeld ?_ ?_
                      rotate_left
                      · rintro w' ⟨s0, s1, s2, s3, s4, s5, s6, s7, s8, s9⟩
                        go_simp
                        with_reducible rfl
                      rotate_left
                      · simp only [Act.put, List.setIfInBounds_toArray, List.set_cons_zero, List.set_cons_succ, i64_w, i32_w]
                        rfl
                      refine pure_ (i := 17) (N := some 59) (v := ?_) (a' := ?_) #[true, true, true, true, true, true, true, true, true, true, true, true, true, true, true, true, true, true, false, false, false, false, false, false, false, false, false, false, false, false, false, false, false, false, false, false, false, false] rfl rfl (any_of HT_.out (by kernel_rfl)) (fun _ _ _ h => h) (Or.inl ⟨by rfl, ?_⟩) ?_ ?_
                      rotate_left
                      · intro w'
                        go_simp
                        with_reducible rfl
                      rotate_left
                      · simp only [Act.put, List.setIfInBounds_toArray, List.set_cons_zero, List.set_cons_succ, i64_w, i32_w]
                        rfl
                      refine pure_ (i := 18) (N := some 60) (v := ?_) (a' := ?_) #[true, true, true, true, true, true, true, true, true, true, true, true, true, true, true, true, true, true, true, false, false, false, false, false, false, false, false, false, false, false, false, false, false, false, false, false, false, false] rfl rfl (any_of HT_.out (by kernel_rfl)) (fun _ _ _ h => h) (Or.inl ⟨by rfl, ?_⟩) ?_ ?_
                      rotate_left
                      · intro w'
                        go_simp
                        with_reducible rfl
                      rotate_left
                      · simp only [Act.put, List.setIfInBounds_toArray, List.set_cons_zero, List.set_cons_succ, i64_w, i32_w]
                        rfl
                      refine pure_ (i := 19) (N := some 61) (v := ?_) (a' := ?_) #[true, true, true, true, true, true, true, true, true, true, true, true, true, true, true, true, true, true, true, true, false, false, false, false, false, false, false, false, false, false, false, false, false, false, false, false, false, false] rfl rfl (any_of HT_.out (by kernel_rfl)) (fun _ _ _ h => h) (Or.inl ⟨by rfl, ?_⟩) ?_ ?_
                      rotate_left
                      · intro w'
                        go_simp
                        with_reducible rfl
                      rotate_left
                      · simp only [Act.put, List.setIfInBounds_toArray, List.set_cons_zero, List.set_cons_succ, i64_w, i32_w]
                        rfl
                      refine pure_ (i := 22) (N := some 64) (v := ?_) (a' := ?_) #[true, true, true, true, true, true, true, true, true, true, true, true, true, true, true, true, true, true, true, true, false, false, true, false, false, false, false, false, false, false, false, false, false, false, false, false, false, false] rfl rfl (any_of HT_.out (by kernel_rfl)) (fun _ _ _ h => h) (Or.inl ⟨by rfl, ?_⟩) ?_ ?_
                      rotate_left
                      · intro w'
                        go_simp
                        with_reducible rfl
                      rotate_left
                      · simp only [Act.put, List.setIfInBounds_toArray, List.set_cons_zero, List.set_cons_succ, i64_w, i32_w]
                        rfl
                      refine take_ (i := 20) (N := some 62) (v := ?_) (a' := ?_) #[true, true, true, true, true, true, true, true, true, true, true, true, true, true, true, true, true, true, true, true, true, false, true, false, false, false, false, false, false, false, false, false, false, false, false, false, false, false] rfl rfl (take_ofW HT_.out HW_.out (by kernel_rfl)) (fun _ _ _ h => h) (Or.inl ⟨by rfl, ?_⟩) hHeld ?_ ?_
                      rotate_left
                      · rintro w' ⟨s0, s1, s2, s3, s4, s5, s6, s7, s8, s9⟩
                        go_simp
                        with_reducible rfl
                      rotate_left
                      · simp only [Act.put, List.setIfInBounds_toArray, List.set_cons_zero, List.set_cons_succ, i64_w, i32_w]
                        rfl
                      refine one_ (i := 21) (N := some 63) #[true, true, true, true, true, true, true, true, true, true, true, true, true, true, true, true, true, true, true, true, true, true, true, false, false, false, false, false, false, false, false, false, false, false, false, false, false, false] rfl rfl (one_of HT_.out (by kernel_rfl)) (by decide) (fun K hK => ?_)
                      refine goes_ Try.func34 (by kernel_rfl) rfl #[.agg #[.slice Ao19 t675.length co19, .slice Ao18 t678.length co18]] (by rfl) rfl rfl (by (try simp only [List.map_toArray, List.map_cons, List.map_nil]); first | done | rfl | (simp only [List.length_drop, List.length_take]; rfl)) ?_
                      with_reducible refine (ratio_Text.calls kj14 _ _ t675 _ _ t678 t708 _ ?side1 ?side2 ?side3 ?side4 A63.out).mono ?_
                      (case side1 => repeat (first | exact (Kd.R_reads' HO_682000.out).2.2 | (with_reducible refine Kd.C_alloc ?_ _) | (with_reducible refine Kd.C_drewN ?_ _) | (with_reducible refine Kd.C_drew ?_)))
                      (case side2 => exact (Kd.R_reads' HO_682000.out).2.1)
                      (case side3 => repeat (first | exact (Kd.R_reads' HO_682001.out).2.2 | (with_reducible refine Kd.C_alloc ?_ _) | (with_reducible refine Kd.C_drewN ?_ _) | (with_reducible refine Kd.C_drew ?_)))
                      (case side4 => exact (Kd.R_reads' HO_682001.out).2.1)
                      rintro e w70 ⟨rfl, hb⟩
                      refine ⟨_, rfl, ?_⟩
                      have n0_ := Aside0.mk (Kd.R_below (by (with_reducible repeat (first | apply Kd.R_alloc | apply Kd.R_drewN | apply Kd.R_drew)); exact HO_682000.out) hb)
                      have n1_ := Aside0.mk (Kd.R_below (by (with_reducible repeat (first | apply Kd.R_alloc | apply Kd.R_drewN | apply Kd.R_drew)); exact HO_682001.out) hb)
                      have n2_ := Aside0.mk (Kd.V_below (by (with_reducible repeat (first | apply Kd.V_alloc | apply Kd.V_drewN | apply Kd.V_drew)); exact HO_689000.out) hb)
                      have n3_ := Aside0.mk (Kd.V_below (by (with_reducible repeat (first | apply Kd.V_alloc | apply Kd.V_drewN | apply Kd.V_drew)); exact HO_689001.out) hb)
                      have n4_ := Aside0.mk (blk_below (g := gb681) (o := .cells #[.slice Ao19 t675.length co19, .slice Ao18 t678.length co18] 45 (0, 0)) (by (with_reducible repeat (first | refine blk_drewN ?_ _ | refine blk_drew ?_ | refine blk_alloc ?_ _)); exact BK681.out) hb)
                      have n5_ := Aside0.mk (blk_below (g := gb688) (o := .cells #[.slice Ao26 t682.length co26, .slice Ao29 t685.length co29] 45 (0, 0)) (by (with_reducible repeat (first | refine blk_drewN ?_ _ | refine blk_drew ?_ | refine blk_alloc ?_ _)); exact BK688.out) hb)
                      have n6_ := Aside0.mk (blk_below (g := gb692) (o := .cells #[.int .u64 t689, .int .u64 t690, .bool true] 48 (0, 0)) (by (with_reducible repeat (first | refine blk_drewN ?_ _ | refine blk_drew ?_ | refine blk_alloc ?_ _)); exact BK692.out) hb)
                      have n7_ := Aside0.mk (blk_below (g := gb699) (o := .cells #[.int .u64 t696, .int .u64 t697, .bool t698] 48 (0, 0)) (by (with_reducible repeat (first | refine blk_drewN ?_ _ | refine blk_drew ?_ | refine blk_alloc ?_ _)); exact BK699.out) hb)
                      have n8_ := Aside0.mk (below_step (by repeat (first | (with_reducible first | exact HB.out | apply below_alloc | apply pw_below_drewN | apply below_drew1 | refine below_set ?_ GE681.out | refine below_set ?_ GE688.out | refine below_set ?_ GE692.out | refine below_set ?_ GE699.out) | exact HB.out)) hb)
                      clear HO_682000
                      clear HO_682001
                      clear HO_689000
                      clear HO_689001
                      clear BK681
                      clear BK688
                      clear BK692
                      clear BK699
                      clear HB
                      have HO_682000 := n0_
                      have HO_682001 := n1_
                      have HO_689000 := n2_
                      have HO_689001 := n3_
                      have BK681 := n4_
                      have BK688 := n5_
                      have BK692 := n6_
                      have BK699 := n7_
                      have HB := n8_
                      clear n0_ n1_ n2_ n3_ n4_ n5_ n6_ n7_ n8_
                      (try clear hb)
                      (try clear hb2)
                      (try clear hk)
                      (try clear hi)
                      refine hK.out _ _ ⟨(blk_cell BK692.out 0).trans rfl, (blk_cell BK692.out 1).trans rfl, (blk_cell BK692.out 2).trans rfl, (blk_cell BK699.out 0).trans rfl, (blk_cell BK699.out 1).trans rfl, (blk_cell BK699.out 2).trans rfl, (blk_cell BK681.out 0).trans rfl, (blk_cell BK681.out 1).trans rfl, (blk_cell BK688.out 0).trans rfl, (blk_cell BK688.out 1).trans rfl⟩ (fun hHeld => ?_)
                      clear hK K
                      refine norm_ (a' := ?_) ?_ ?_
                      rotate_left
                      · show Act.put _ (some 63) _ = _
                        simp only [Act.put, List.setIfInBounds_toArray, List.set_cons_zero, List.set_cons_succ, i64_w, i32_w]
                        rfl
                      refine pure_ (i := 23) (N := some 65) (v := ?_) (a' := ?_) #[true, true, true, true, true, true, true, true, true, true, true, true, true, true, true, true, true, true, true, true, true, true, true, true, false, false, false, false, false, false, false, false, false, false, false, false, false, false] rfl rfl (any_of HT_.out (by kernel_rfl)) (fun _ _ _ h => h) (Or.inl ⟨by rfl, ?_⟩) ?_ ?_
                      rotate_left
                      · intro w'
                        go_simp
                        with_reducible rfl
                      rotate_left
                      · simp only [Act.put, List.setIfInBounds_toArray, List.set_cons_zero, List.set_cons_succ, i64_w, i32_w]
                        rfl
                      refine pure_ (i := 24) (N := some 66) (v := ?_) (a' := ?_) #[true, true, true, true, true, true, true, true, true, true, true, true, true, true, true, true, true, true, true, true, true, true, true, true, true, false, false, false, false, false, false, false, false, false, false, false, false, false] rfl rfl (any_of HT_.out (by kernel_rfl)) (fun _ _ _ h => h) (Or.inl ⟨by rfl, ?_⟩) ?_ ?_
                      rotate_left
                      · intro w'
                        go_simp
                        with_reducible rfl
                      rotate_left
                      · simp only [Act.put, List.setIfInBounds_toArray, List.set_cons_zero, List.set_cons_succ, i64_w, i32_w]
                        rfl
                      refine pure_ (i := 25) (N := some 67) (v := ?_) (a' := ?_) #[true, true, true, true, true, true, true, true, true, true, true, true, true, true, true, true, true, true, true, true, true, true, true, true, true, true, false, false, false, false, false, false, false, false, false, false, false, false] rfl rfl (any_of HT_.out (by kernel_rfl)) (fun _ _ _ h => h) (Or.inl ⟨by rfl, ?_⟩) ?_ ?_
                      rotate_left
                      · intro w'
                        go_simp
                        with_reducible rfl
                      rotate_left
                      · simp only [Act.put, List.setIfInBounds_toArray, List.set_cons_zero, List.set_cons_succ, i64_w, i32_w]
                        rfl
                      refine pure_ (i := 28) (N := some 70) (v := ?_) (a' := ?_) #[true, true, true, true, true, true, true, true, true, true, true, true, true, true, true, true, true, true, true, true, true, true, true, true, true, true, false, false, true, false, false, false, false, false, false, false, false, false] rfl rfl (any_of HT_.out (by kernel_rfl)) (fun _ _ _ h => h) (Or.inl ⟨by rfl, ?_⟩) ?_ ?_
                      rotate_left
                      · intro w'
                        go_simp
                        with_reducible rfl
                      rotate_left
                      · simp only [Act.put, List.setIfInBounds_toArray, List.set_cons_zero, List.set_cons_succ, i64_w, i32_w]
                        rfl
                      refine take_ (i := 26) (N := some 68) (v := ?_) (a' := ?_) #[true, true, true, true, true, true, true, true, true, true, true, true, true, true, true, true, true, true, true, true, true, true, true, true, true, true, true, false, true, false, false, false, false, false, false, false, false, false] rfl rfl (take_ofW HT_.out HW_.out (by kernel_rfl)) (fun _ _ _ h => h) (Or.inl ⟨by rfl, ?_⟩) hHeld ?_ ?_
                      rotate_left
                      · rintro w' ⟨s0, s1, s2, s3, s4, s5, s6, s7, s8, s9⟩
                        go_simp
                        with_reducible rfl
                      rotate_left
                      · simp only [Act.put, List.setIfInBounds_toArray, List.set_cons_zero, List.set_cons_succ, i64_w, i32_w]
                        rfl
                      refine one_ (i := 27) (N := some 69) #[true, true, true, true, true, true, true, true, true, true, true, true, true, true, true, true, true, true, true, true, true, true, true, true, true, true, true, true, true, false, false, false, false, false, false, false, false, false] rfl rfl (one_of HT_.out (by kernel_rfl)) (by decide) (fun K hK => ?_)
                      refine goes_ Try.func34 (by kernel_rfl) rfl #[.agg #[.slice Ao26 t682.length co26, .slice Ao29 t685.length co29]] (by rfl) rfl rfl (by (try simp only [List.map_toArray, List.map_cons, List.map_nil]); first | done | rfl | (simp only [List.length_drop, List.length_take]; rfl)) ?_
                      with_reducible refine (ratio_Text.calls kj14 _ _ t682 _ _ t685 t709 _ ?side1 ?side2 ?side3 ?side4 A65.out).mono ?_
                      (case side1 => repeat (first | exact (Kd.V_reads' HO_689000.out).2.2 | (with_reducible refine Kd.C_alloc ?_ _) | (with_reducible refine Kd.C_drewN ?_ _) | (with_reducible refine Kd.C_drew ?_)))
                      (case side2 => exact (Kd.V_reads' HO_689000.out).2.1)
                      (case side3 => repeat (first | exact (Kd.V_reads' HO_689001.out).2.2 | (with_reducible refine Kd.C_alloc ?_ _) | (with_reducible refine Kd.C_drewN ?_ _) | (with_reducible refine Kd.C_drew ?_)))
                      (case side4 => exact (Kd.V_reads' HO_689001.out).2.1)
                      rintro e w71 ⟨rfl, hb⟩
                      refine ⟨_, rfl, ?_⟩
                      have n0_ := Aside0.mk (Kd.R_below (by (with_reducible repeat (first | apply Kd.R_alloc | apply Kd.R_drewN | apply Kd.R_drew)); exact HO_682000.out) hb)
                      have n1_ := Aside0.mk (Kd.R_below (by (with_reducible repeat (first | apply Kd.R_alloc | apply Kd.R_drewN | apply Kd.R_drew)); exact HO_682001.out) hb)
                      have n2_ := Aside0.mk (Kd.V_below (by (with_reducible repeat (first | apply Kd.V_alloc | apply Kd.V_drewN | apply Kd.V_drew)); exact HO_689000.out) hb)
                      have n3_ := Aside0.mk (Kd.V_below (by (with_reducible repeat (first | apply Kd.V_alloc | apply Kd.V_drewN | apply Kd.V_drew)); exact HO_689001.out) hb)
                      have n4_ := Aside0.mk (blk_below (g := gb681) (o := .cells #[.slice Ao19 t675.length co19, .slice Ao18 t678.length co18] 45 (0, 0)) (by (with_reducible repeat (first | refine blk_drewN ?_ _ | refine blk_drew ?_ | refine blk_alloc ?_ _)); exact BK681.out) hb)
                      have n5_ := Aside0.mk (blk_below (g := gb688) (o := .cells #[.slice Ao26 t682.length co26, .slice Ao29 t685.length co29] 45 (0, 0)) (by (with_reducible repeat (first | refine blk_drewN ?_ _ | refine blk_drew ?_ | refine blk_alloc ?_ _)); exact BK688.out) hb)
                      have n6_ := Aside0.mk (blk_below (g := gb692) (o := .cells #[.int .u64 t689, .int .u64 t690, .bool true] 48 (0, 0)) (by (with_reducible repeat (first | refine blk_drewN ?_ _ | refine blk_drew ?_ | refine blk_alloc ?_ _)); exact BK692.out) hb)
                      have n7_ := Aside0.mk (blk_below (g := gb699) (o := .cells #[.int .u64 t696, .int .u64 t697, .bool t698] 48 (0, 0)) (by (with_reducible repeat (first | refine blk_drewN ?_ _ | refine blk_drew ?_ | refine blk_alloc ?_ _)); exact BK699.out) hb)
                      have n8_ := Aside0.mk (below_step (by repeat (first | (with_reducible first | exact HB.out | apply below_alloc | apply pw_below_drewN | apply below_drew1 | refine below_set ?_ GE681.out | refine below_set ?_ GE688.out | refine below_set ?_ GE692.out | refine below_set ?_ GE699.out) | exact HB.out)) hb)
                      clear HO_682000
                      clear HO_682001
                      clear HO_689000
                      clear HO_689001
                      clear BK681
                      clear BK688
                      clear BK692
                      clear BK699
                      clear HB
                      have HO_682000 := n0_
                      have HO_682001 := n1_
                      have HO_689000 := n2_
                      have HO_689001 := n3_
                      have BK681 := n4_
                      have BK688 := n5_
                      have BK692 := n6_
                      have BK699 := n7_
                      have HB := n8_
                      clear n0_ n1_ n2_ n3_ n4_ n5_ n6_ n7_ n8_
                      (try clear hb)
                      (try clear hb2)
                      (try clear hk)
                      (try clear hi)
                      refine hK.out _ _ ⟨(blk_cell BK692.out 0).trans rfl, (blk_cell BK692.out 1).trans rfl, (blk_cell BK692.out 2).trans rfl, (blk_cell BK699.out 0).trans rfl, (blk_cell BK699.out 1).trans rfl, (blk_cell BK699.out 2).trans rfl, (blk_cell BK681.out 0).trans rfl, (blk_cell BK681.out 1).trans rfl, (blk_cell BK688.out 0).trans rfl, (blk_cell BK688.out 1).trans rfl⟩ (fun hHeld => ?_)
                      clear hK K
                      refine norm_ (a' := ?_) ?_ ?_
                      rotate_left
                      · show Act.put _ (some 69) _ = _
                        simp only [Act.put, List.setIfInBounds_toArray, List.set_cons_zero, List.set_cons_succ, i64_w, i32_w]
                        rfl
                      refine pure_ (i := 29) (N := some 71) (v := ?_) (a' := ?_) #[true, true, true, true, true, true, true, true, true, true, true, true, true, true, true, true, true, true, true, true, true, true, true, true, true, true, true, true, true, true, false, false, false, false, false, false, false, false] rfl rfl (any_of HT_.out (by kernel_rfl)) (fun _ _ _ h => h) (Or.inl ⟨by rfl, ?_⟩) ?_ ?_
                      rotate_left
                      · intro w'
                        go_simp
                        with_reducible rfl
                      rotate_left
                      · simp only [Act.put, List.setIfInBounds_toArray, List.set_cons_zero, List.set_cons_succ, i64_w, i32_w]
                        rfl
                      refine pure_ (i := 30) (N := some 72) (v := ?_) (a' := ?_) #[true, true, true, true, true, true, true, true, true, true, true, true, true, true, true, true, true, true, true, true, true, true, true, true, true, true, true, true, true, true, true, false, false, false, false, false, false, false] rfl rfl (any_of HT_.out (by kernel_rfl)) (fun _ _ _ h => h) (Or.inl ⟨by rfl, ?_⟩) ?_ ?_
                      rotate_left
                      · intro w'
                        go_simp
                        with_reducible rfl
                      rotate_left
                      · simp only [Act.put, List.setIfInBounds_toArray, List.set_cons_zero, List.set_cons_succ, i64_w, i32_w]
                        rfl
                      refine pure_ (i := 31) (N := some 73) (v := ?_) (a' := ?_) #[true, true, true, true, true, true, true, true, true, true, true, true, true, true, true, true, true, true, true, true, true, true, true, true, true, true, true, true, true, true, true, true, false, false, false, false, false, false] rfl rfl (any_of HT_.out (by kernel_rfl)) (fun _ _ _ h => h) (Or.inl ⟨by rfl, ?_⟩) ?_ ?_
                      rotate_left
                      · intro w'
                        go_simp
                        with_reducible rfl
                      rotate_left
                      · simp only [Act.put, List.setIfInBounds_toArray, List.set_cons_zero, List.set_cons_succ, i64_w, i32_w]
                        rfl
                      refine take_ (i := 32) (N := some 74) (v := ?_) (a' := ?_) #[true, true, true, true, true, true, true, true, true, true, true, true, true, true, true, true, true, true, true, true, true, true, true, true, true, true, true, true, true, true, true, true, true, false, false, false, false, false] rfl rfl (take_ofW HT_.out HW_.out (by kernel_rfl)) (fun _ _ _ h => h) (Or.inl ⟨by rfl, ?_⟩) hHeld ?_ ?_
                      rotate_left
                      · rintro w' ⟨s0, s1, s2, s3, s4, s5, s6, s7, s8, s9⟩
                        go_simp
                        with_reducible rfl
                      rotate_left
                      · simp only [Act.put, List.setIfInBounds_toArray, List.set_cons_zero, List.set_cons_succ, i64_w, i32_w]
                        rfl
                      refine take_ (i := 34) (N := some 76) (v := ?_) (a' := ?_) #[true, true, true, true, true, true, true, true, true, true, true, true, true, true, true, true, true, true, true, true, true, true, true, true, true, true, true, true, true, true, true, true, true, false, true, false, false, false] rfl rfl (take_ofW HT_.out HW_.out (by kernel_rfl)) (fun _ _ _ h => h) (Or.inl ⟨by rfl, ?_⟩) hHeld ?_ ?_
                      rotate_left
                      · rintro w' ⟨s0, s1, s2, s3, s4, s5, s6, s7, s8, s9⟩
                        go_simp
                        with_reducible rfl
                      rotate_left
                      · simp only [Act.put, List.setIfInBounds_toArray, List.set_cons_zero, List.set_cons_succ, i64_w, i32_w]
                        rfl
                      refine one_ (i := 33) (N := some 75) #[true, true, true, true, true, true, true, true, true, true, true, true, true, true, true, true, true, true, true, true, true, true, true, true, true, true, true, true, true, true, true, true, true, true, true, false, false, false] rfl rfl (one_of HT_.out (by kernel_rfl)) (by decide) (fun K hK => ?_)
                      refine goes_ Try.func30 (by kernel_rfl) rfl #[.agg #[.slice Ao26 t682.length co26, .slice Ao29 t685.length co29]] (by rfl) rfl rfl (by (try simp only [List.map_toArray, List.map_cons, List.map_nil]); first | done | rfl | (simp only [List.length_drop, List.length_take]; rfl)) ?_
                      with_reducible refine (ratio_Least.calls kj14 (fun k_ => (k_ ≠ gb681 ∧ (k_ ≠ gb688 ∧ (k_ ≠ gb692 ∧ k_ ≠ gb699)))) _ _ t682 (fun k_ => (k_ ≠ gb681 ∧ (k_ ≠ gb688 ∧ (k_ ≠ gb692 ∧ k_ ≠ gb699)))) _ _ t685 t710 t713 _ ?side1 ?side2 A67.out).mono ?_
                      (case side1 => exact HO_689000.out)
                      (case side2 => exact HO_689001.out)
                      rintro e w72 ⟨v711, v714, rfl, ho0, ho1, hb⟩
                      refine ⟨_, rfl, ?_⟩
                      have n0_ := Aside0.mk (Kd.R_below (by (with_reducible repeat (first | apply Kd.R_alloc | apply Kd.R_drewN | apply Kd.R_drew)); exact HO_682000.out) hb)
                      have n1_ := Aside0.mk (Kd.R_below (by (with_reducible repeat (first | apply Kd.R_alloc | apply Kd.R_drewN | apply Kd.R_drew)); exact HO_682001.out) hb)
                      have n2_ := Aside0.mk (Kd.V_below (by (with_reducible repeat (first | apply Kd.V_alloc | apply Kd.V_drewN | apply Kd.V_drew)); exact HO_689000.out) hb)
                      have n3_ := Aside0.mk (Kd.V_below (by (with_reducible repeat (first | apply Kd.V_alloc | apply Kd.V_drewN | apply Kd.V_drew)); exact HO_689001.out) hb)
                      have n4_ := Aside0.mk (Kd.V_lower (Kd.V_mono (ok' := fun k_ => k_ ≠ gb681 ∧ k_ ≠ gb688 ∧ k_ ≠ gb692 ∧ k_ ≠ gb699) ho0 (fun k_ hk_ => ⟨Or.elim hk_ (fun hs_ => Or.elim hs_ (fun hs_ => hs_.1) (fun hs_ => hs_.1)) (fun hn_ => (Kd.freshB (g := gb681) (o := .cells #[.slice Ao19 t675.length co19, .slice Ao18 t678.length co18] 45 (0, 0)) (by (with_reducible repeat (first | refine blk_drewN ?_ _ | refine blk_drew ?_ | refine blk_alloc ?_ _)); exact BK681.out) k_ hn_)), Or.elim hk_ (fun hs_ => Or.elim hs_ (fun hs_ => hs_.2.1) (fun hs_ => hs_.2.1)) (fun hn_ => (Kd.freshB (g := gb688) (o := .cells #[.slice Ao26 t682.length co26, .slice Ao29 t685.length co29] 45 (0, 0)) (by (with_reducible repeat (first | refine blk_drewN ?_ _ | refine blk_drew ?_ | refine blk_alloc ?_ _)); exact BK688.out) k_ hn_)), Or.elim hk_ (fun hs_ => Or.elim hs_ (fun hs_ => hs_.2.2.1) (fun hs_ => hs_.2.2.1)) (fun hn_ => (Kd.freshB (g := gb692) (o := .cells #[.int .u64 t689, .int .u64 t690, .bool true] 48 (0, 0)) (by (with_reducible repeat (first | refine blk_drewN ?_ _ | refine blk_drew ?_ | refine blk_alloc ?_ _)); exact BK692.out) k_ hn_)), Or.elim hk_ (fun hs_ => Or.elim hs_ (fun hs_ => hs_.2.2.2) (fun hs_ => hs_.2.2.2)) (fun hn_ => (Kd.freshB (g := gb699) (o := .cells #[.int .u64 t696, .int .u64 t697, .bool t698] 48 (0, 0)) (by (with_reducible repeat (first | refine blk_drewN ?_ _ | refine blk_drew ?_ | refine blk_alloc ?_ _)); exact BK699.out) k_ hn_))⟩)) (below_size (by repeat (first | (with_reducible first | exact HB.out | apply below_alloc | apply pw_below_drewN | apply below_drew1 | refine below_set ?_ GE681.out | refine below_set ?_ GE688.out | refine below_set ?_ GE692.out | refine below_set ?_ GE699.out) | exact HB.out))))
                      have n5_ := Aside0.mk (Kd.V_lower (Kd.V_mono (ok' := fun k_ => k_ ≠ gb681 ∧ k_ ≠ gb688 ∧ k_ ≠ gb692 ∧ k_ ≠ gb699) ho1 (fun k_ hk_ => ⟨Or.elim hk_ (fun hs_ => Or.elim hs_ (fun hs_ => hs_.1) (fun hs_ => hs_.1)) (fun hn_ => (Kd.freshB (g := gb681) (o := .cells #[.slice Ao19 t675.length co19, .slice Ao18 t678.length co18] 45 (0, 0)) (by (with_reducible repeat (first | refine blk_drewN ?_ _ | refine blk_drew ?_ | refine blk_alloc ?_ _)); exact BK681.out) k_ hn_)), Or.elim hk_ (fun hs_ => Or.elim hs_ (fun hs_ => hs_.2.1) (fun hs_ => hs_.2.1)) (fun hn_ => (Kd.freshB (g := gb688) (o := .cells #[.slice Ao26 t682.length co26, .slice Ao29 t685.length co29] 45 (0, 0)) (by (with_reducible repeat (first | refine blk_drewN ?_ _ | refine blk_drew ?_ | refine blk_alloc ?_ _)); exact BK688.out) k_ hn_)), Or.elim hk_ (fun hs_ => Or.elim hs_ (fun hs_ => hs_.2.2.1) (fun hs_ => hs_.2.2.1)) (fun hn_ => (Kd.freshB (g := gb692) (o := .cells #[.int .u64 t689, .int .u64 t690, .bool true] 48 (0, 0)) (by (with_reducible repeat (first | refine blk_drewN ?_ _ | refine blk_drew ?_ | refine blk_alloc ?_ _)); exact BK692.out) k_ hn_)), Or.elim hk_ (fun hs_ => Or.elim hs_ (fun hs_ => hs_.2.2.2) (fun hs_ => hs_.2.2.2)) (fun hn_ => (Kd.freshB (g := gb699) (o := .cells #[.int .u64 t696, .int .u64 t697, .bool t698] 48 (0, 0)) (by (with_reducible repeat (first | refine blk_drewN ?_ _ | refine blk_drew ?_ | refine blk_alloc ?_ _)); exact BK699.out) k_ hn_))⟩)) (below_size (by repeat (first | (with_reducible first | exact HB.out | apply below_alloc | apply pw_below_drewN | apply below_drew1 | refine below_set ?_ GE681.out | refine below_set ?_ GE688.out | refine below_set ?_ GE692.out | refine below_set ?_ GE699.out) | exact HB.out))))
                      have n6_ := Aside0.mk (blk_below (g := gb681) (o := .cells #[.slice Ao19 t675.length co19, .slice Ao18 t678.length co18] 45 (0, 0)) (by (with_reducible repeat (first | refine blk_drewN ?_ _ | refine blk_drew ?_ | refine blk_alloc ?_ _)); exact BK681.out) hb)
                      have n7_ := Aside0.mk (blk_below (g := gb688) (o := .cells #[.slice Ao26 t682.length co26, .slice Ao29 t685.length co29] 45 (0, 0)) (by (with_reducible repeat (first | refine blk_drewN ?_ _ | refine blk_drew ?_ | refine blk_alloc ?_ _)); exact BK688.out) hb)
                      have n8_ := Aside0.mk (blk_below (g := gb692) (o := .cells #[.int .u64 t689, .int .u64 t690, .bool true] 48 (0, 0)) (by (with_reducible repeat (first | refine blk_drewN ?_ _ | refine blk_drew ?_ | refine blk_alloc ?_ _)); exact BK692.out) hb)
                      have n9_ := Aside0.mk (blk_below (g := gb699) (o := .cells #[.int .u64 t696, .int .u64 t697, .bool t698] 48 (0, 0)) (by (with_reducible repeat (first | refine blk_drewN ?_ _ | refine blk_drew ?_ | refine blk_alloc ?_ _)); exact BK699.out) hb)
                      have n10_ := Aside0.mk (below_step (by repeat (first | (with_reducible first | exact HB.out | apply below_alloc | apply pw_below_drewN | apply below_drew1 | refine below_set ?_ GE681.out | refine below_set ?_ GE688.out | refine below_set ?_ GE692.out | refine below_set ?_ GE699.out) | exact HB.out)) hb)
                      clear HO_682000
                      clear HO_682001
                      clear HO_689000
                      clear HO_689001
                      clear BK681
                      clear BK688
                      clear BK692
                      clear BK699
                      clear HB
                      have HO_682000 := n0_
                      have HO_682001 := n1_
                      have HO_689000 := n2_
                      have HO_689001 := n3_
                      have HO712 := n4_
                      have HO715 := n5_
                      have BK681 := n6_
                      have BK688 := n7_
                      have BK692 := n8_
                      have BK699 := n9_
                      have HB := n10_
                      clear n0_ n1_ n2_ n3_ n4_ n5_ n6_ n7_ n8_ n9_ n10_
                      (try clear hb)
                      (try clear hb2)
                      (try clear hk)
                      (try clear hi)
                      (try clear ho0)
                      (try clear ho1)
                      obtain ⟨Ao73, co73, eo73⟩ := Kd.V_slice HO712.out
                      (first | subst eo73 | (injection eo73 with f1_ f2_ f3_; have f4_ := f1_.symm; have f5_ := f3_.symm; clear f1_ f2_ f3_; subst f4_; subst f5_))
                      obtain ⟨Ao74, co74, eo74⟩ := Kd.V_slice HO715.out
                      (first | subst eo74 | (injection eo74 with f1_ f2_ f3_; have f4_ := f1_.symm; have f5_ := f3_.symm; clear f1_ f2_ f3_; subst f4_; subst f5_))
                      refine hK.out _ _ ⟨(blk_cell BK692.out 0).trans rfl, (blk_cell BK692.out 1).trans rfl, (blk_cell BK692.out 2).trans rfl, (blk_cell BK699.out 0).trans rfl, (blk_cell BK699.out 1).trans rfl, (blk_cell BK699.out 2).trans rfl, (blk_cell BK681.out 0).trans rfl, (blk_cell BK681.out 1).trans rfl, (blk_cell BK688.out 0).trans rfl, (blk_cell BK688.out 1).trans rfl⟩ (fun hHeld => ?_)
                      clear hK K
                      refine norm_ (a' := ?_) ?_ ?_
                      rotate_left
                      · show Act.put _ (some 75) _ = _
                        simp only [Act.put, List.setIfInBounds_toArray, List.set_cons_zero, List.set_cons_succ, i64_w, i32_w]
                        rfl
                      refine one_ (i := 35) (N := some 77) #[true, true, true, true, true, true, true, true, true, true, true, true, true, true, true, true, true, true, true, true, true, true, true, true, true, true, true, true, true, true, true, true, true, true, true, true, false, false] rfl rfl (one_of HT_.out (by kernel_rfl)) (by decide) (fun K hK => ?_)
                      refine goes_ Try.func35 (by kernel_rfl) rfl #[.agg #[.slice Ao73 t710.length co73, .slice Ao74 t713.length co74], .agg #[.slice Ao26 t682.length co26, .slice Ao29 t685.length co29]] (by rfl) rfl rfl (by (try simp only [List.map_toArray, List.map_cons, List.map_nil]); first | done | rfl | (simp only [List.length_drop, List.length_take]; rfl)) ?_
                      with_reducible refine (regattalaw03_same.calls kj14 _ _ t710 _ _ t713 _ _ t682 _ _ t685 t716 _ ?side1 ?side2 ?side3 ?side4 ?side5 ?side6 ?side7 ?side8 A68.out).mono ?_
                      (case side1 => repeat (first | exact (Kd.V_reads' HO712.out).2.2 | (with_reducible refine Kd.C_alloc ?_ _) | (with_reducible refine Kd.C_drewN ?_ _) | (with_reducible refine Kd.C_drew ?_)))
                      (case side2 => exact (Kd.V_reads' HO712.out).2.1)
                      (case side3 => repeat (first | exact (Kd.V_reads' HO715.out).2.2 | (with_reducible refine Kd.C_alloc ?_ _) | (with_reducible refine Kd.C_drewN ?_ _) | (with_reducible refine Kd.C_drew ?_)))
                      (case side4 => exact (Kd.V_reads' HO715.out).2.1)
                      (case side5 => repeat (first | exact (Kd.V_reads' HO_689000.out).2.2 | (with_reducible refine Kd.C_alloc ?_ _) | (with_reducible refine Kd.C_drewN ?_ _) | (with_reducible refine Kd.C_drew ?_)))
                      (case side6 => exact (Kd.V_reads' HO_689000.out).2.1)
                      (case side7 => repeat (first | exact (Kd.V_reads' HO_689001.out).2.2 | (with_reducible refine Kd.C_alloc ?_ _) | (with_reducible refine Kd.C_drewN ?_ _) | (with_reducible refine Kd.C_drew ?_)))
                      (case side8 => exact (Kd.V_reads' HO_689001.out).2.1)
                      rintro e w75 ⟨rfl, hb⟩
                      refine ⟨_, rfl, ?_⟩
                      have n0_ := Aside0.mk (Kd.R_below (by (with_reducible repeat (first | apply Kd.R_alloc | apply Kd.R_drewN | apply Kd.R_drew)); exact HO_682000.out) hb)
                      have n1_ := Aside0.mk (Kd.R_below (by (with_reducible repeat (first | apply Kd.R_alloc | apply Kd.R_drewN | apply Kd.R_drew)); exact HO_682001.out) hb)
                      have n2_ := Aside0.mk (Kd.V_below (by (with_reducible repeat (first | apply Kd.V_alloc | apply Kd.V_drewN | apply Kd.V_drew)); exact HO_689000.out) hb)
                      have n3_ := Aside0.mk (Kd.V_below (by (with_reducible repeat (first | apply Kd.V_alloc | apply Kd.V_drewN | apply Kd.V_drew)); exact HO_689001.out) hb)
                      have n4_ := Aside0.mk (Kd.V_below (by (with_reducible repeat (first | apply Kd.V_alloc | apply Kd.V_drewN | apply Kd.V_drew)); exact HO712.out) hb)
                      have n5_ := Aside0.mk (Kd.V_below (by (with_reducible repeat (first | apply Kd.V_alloc | apply Kd.V_drewN | apply Kd.V_drew)); exact HO715.out) hb)
                      have n6_ := Aside0.mk (blk_below (g := gb681) (o := .cells #[.slice Ao19 t675.length co19, .slice Ao18 t678.length co18] 45 (0, 0)) (by (with_reducible repeat (first | refine blk_drewN ?_ _ | refine blk_drew ?_ | refine blk_alloc ?_ _)); exact BK681.out) hb)
                      have n7_ := Aside0.mk (blk_below (g := gb688) (o := .cells #[.slice Ao26 t682.length co26, .slice Ao29 t685.length co29] 45 (0, 0)) (by (with_reducible repeat (first | refine blk_drewN ?_ _ | refine blk_drew ?_ | refine blk_alloc ?_ _)); exact BK688.out) hb)
                      have n8_ := Aside0.mk (blk_below (g := gb692) (o := .cells #[.int .u64 t689, .int .u64 t690, .bool true] 48 (0, 0)) (by (with_reducible repeat (first | refine blk_drewN ?_ _ | refine blk_drew ?_ | refine blk_alloc ?_ _)); exact BK692.out) hb)
                      have n9_ := Aside0.mk (blk_below (g := gb699) (o := .cells #[.int .u64 t696, .int .u64 t697, .bool t698] 48 (0, 0)) (by (with_reducible repeat (first | refine blk_drewN ?_ _ | refine blk_drew ?_ | refine blk_alloc ?_ _)); exact BK699.out) hb)
                      have n10_ := Aside0.mk (below_step (by repeat (first | (with_reducible first | exact HB.out | apply below_alloc | apply pw_below_drewN | apply below_drew1 | refine below_set ?_ GE681.out | refine below_set ?_ GE688.out | refine below_set ?_ GE692.out | refine below_set ?_ GE699.out) | exact HB.out)) hb)
                      clear HO_682000
                      clear HO_682001
                      clear HO_689000
                      clear HO_689001
                      clear HO712
                      clear HO715
                      clear BK681
                      clear BK688
                      clear BK692
                      clear BK699
                      clear HB
                      have HO_682000 := n0_
                      have HO_682001 := n1_
                      have HO_689000 := n2_
                      have HO_689001 := n3_
                      have HO712 := n4_
                      have HO715 := n5_
                      have BK681 := n6_
                      have BK688 := n7_
                      have BK692 := n8_
                      have BK699 := n9_
                      have HB := n10_
                      clear n0_ n1_ n2_ n3_ n4_ n5_ n6_ n7_ n8_ n9_ n10_
                      (try clear hb)
                      (try clear hb2)
                      (try clear hk)
                      (try clear hi)
                      refine hK.out _ _ ⟨(blk_cell BK692.out 0).trans rfl, (blk_cell BK692.out 1).trans rfl, (blk_cell BK692.out 2).trans rfl, (blk_cell BK699.out 0).trans rfl, (blk_cell BK699.out 1).trans rfl, (blk_cell BK699.out 2).trans rfl, (blk_cell BK681.out 0).trans rfl, (blk_cell BK681.out 1).trans rfl, (blk_cell BK688.out 0).trans rfl, (blk_cell BK688.out 1).trans rfl⟩ (fun hHeld => ?_)
                      clear hK K
                      refine norm_ (a' := ?_) ?_ ?_
                      rotate_left
                      · show Act.put _ (some 77) _ = _
                        simp only [Act.put, List.setIfInBounds_toArray, List.set_cons_zero, List.set_cons_succ, i64_w, i32_w]
                        rfl
                      refine pure_ (i := 36) (N := some 78) (v := ?_) (a' := ?_) #[true, true, true, true, true, true, true, true, true, true, true, true, true, true, true, true, true, true, true, true, true, true, true, true, true, true, true, true, true, true, true, true, true, true, true, true, true, false] rfl rfl (any_of HT_.out (by kernel_rfl)) (fun _ _ _ h => h) (Or.inl ⟨by rfl, ?_⟩) ?_ ?_
                      rotate_left
                      · intro w'
                        go_simp
                        with_reducible rfl
                      rotate_left
                      · simp only [Act.put, List.setIfInBounds_toArray, List.set_cons_zero, List.set_cons_succ, i64_w, i32_w]
                        rfl
                      refine pure_ (i := 37) (N := some 4) (v := ?_) (a' := ?_) #[true, true, true, true, true, true, true, true, true, true, true, true, true, true, true, true, true, true, true, true, true, true, true, true, true, true, true, true, true, true, true, true, true, true, true, true, true, true] rfl rfl (any_of HT_.out (by kernel_rfl)) (fun _ _ _ h => h) (Or.inl ⟨by rfl, ?_⟩) ?_ ?_
                      rotate_left
                      · intro w'
                        go_simp
                        with_reducible rfl
                      rotate_left
                      · simp only [Act.put, List.setIfInBounds_toArray, List.set_cons_zero, List.set_cons_succ, i64_w, i32_w]
                        rfl
                      refine done_ (done_of HT_.out (by kernel_rfl)) ?_
                      try go_wp2
                      go_ret
                      exact ⟨by first | rfl | (simp [errW_none, errW_some] <;> rfl) | (simp [*, errW_none, errW_some] <;> rfl), by repeat (first | (with_reducible first | exact HB.out | apply below_alloc | apply pw_below_drewN | apply below_drew1 | refine below_set ?_ GE681.out | refine below_set ?_ GE688.out | refine below_set ?_ GE692.out | refine below_set ?_ GE699.out) | exact HB.out)⟩
                    · rw [if_neg c66] at H
                      have c66b0 : (t709.toList == x10_14.toList) = false := beq_eq_false_iff_ne.mpr c66
                      have c66b1 : (t709.toList != x10_14.toList) = true := bne_iff_ne.mpr c66
                      exact absurd ((Option.some.inj H).trans hr_.out) (by simp)
                  · rw [if_neg c64] at H
                    have c64b0 : (t708.toList == x10_14.toList) = false := beq_eq_false_iff_ne.mpr c64
                    have c64b1 : (t708.toList != x10_14.toList) = true := bne_iff_ne.mpr c64
                    exact absurd ((Option.some.inj H).trans hr_.out) (by simp)
                · rw [if_neg c62] at H
                  have c62b0 : (t690 == t697) = false := beq_eq_false_iff_ne.mpr c62
                  have c62b1 : (t690 != t697) = true := bne_iff_ne.mpr c62
                  exact absurd ((Option.some.inj H).trans hr_.out) (by simp)
              · rw [if_neg c61] at H
                have c61b0 : (t689 == t696) = false := beq_eq_false_iff_ne.mpr c61
                have c61b1 : (t689 != t696) = true := bne_iff_ne.mpr c61
                exact absurd ((Option.some.inj H).trans hr_.out) (by simp)
            · replace c60 := Bool.eq_false_iff.mpr c60
              subst c60
              have H1 : (some false) = some r := by rw [if_neg (show ¬ (false = true) by decide)] at H; exact H
              clear H
              have H := H1
              clear H1
              exact absurd ((Option.some.inj H).trans hr_.out) (by simp)
          · replace c59 := Bool.eq_false_iff.mpr c59
            subst c59
            have H1 : (some false) = some r := by rw [if_neg (show ¬ (false = true) by decide)] at H; exact H
            clear H
            have H := H1
            clear H1
            exact absurd ((Option.some.inj H).trans hr_.out) (by simp)

/-- THE ONE PURE STATEMENT of regattalaw03_RatioLeast: yours. -/
def regattalaw03_RatioLeast.Pure : Prop := ∀ (a0 : Int) (a1 : Int), (Lit.int .u32 a0).wf = true → (Lit.int .u32 a1).wf = true → ∃ k, regattalaw03_RatioLeast.f k a0 a1 = some true
theorem regattalaw03_RatioLeast.walk (P : regattalaw03_RatioLeast.Pure) (a0 : Int) (a1 : Int) (w : World) (w0 : (Lit.int .u32 a0).wf = true) (w1 : (Lit.int .u32 a1).wf = true) :
    Calls Try.prog 7 #[.int .u32 a0, .int .u32 a1] w fun e w' => e = .returned (.bool true) ∧ Below w.heap.size w w' := by
  obtain ⟨k, h⟩ := P a0 a1 w0 w1
  refine (regattalaw03_RatioLeast.calls k a0 a1 true w ⟨rfl⟩ h).mono ?_
  rintro e w' ⟨rfl, hd⟩
  exact ⟨rfl, hd⟩

end Go.Proofs.Ytcfliceeablckaa.PNr
