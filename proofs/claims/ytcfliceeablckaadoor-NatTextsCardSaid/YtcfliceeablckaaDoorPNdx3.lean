-- Written by wip/rprint.py of this session's repo (the kit's printer with patches), out of the translation. Not trusted: Lean checks it.
import Derived.Test.YtcfliceeablckaaDoorPNdx0
namespace Go.Proofs.YtcfliceeablckaaDoor.PNd
open Go.RowKit Go.Proofs.YtcfliceeablckaaDoorW.PrintWords Go.Proofs.YtcfliceeablckaaDoorW.PrintLast Go.Proofs.YtcfliceeablckaaDoorW.PrintMore Go.Proofs.YtcfliceeablckaaDoor.MWords
attribute [local go_sem] max2_int min2_int max_two min_two max_three min_three max_four min_four   -- for this text's walks alone
set_option linter.unusedVariables false
set_option linter.unusedSimpArgs false

/-! ### regattalaw02_made: function 6 -/
mutual
def regattalaw02_made.j0 : Nat → List Int → Option (List Int)
  | 0, _ => none
  | k + 1, x0 => regattalaw02_made.l0 k x0
def regattalaw02_made.l0 : Nat → List Int → Option (List Int)
  | 0, _ => none
  | k + 1, x0 => if (x0.length : Int) > 0 then (if 0 ≤ (wrap64 ((x0.length : Int) - 1)) then (if (wrap64 ((x0.length : Int) - 1)) < (x0.length : Int) then (if (rd x0 (wrap64 ((x0.length : Int) - 1))) = 0 then (if (wrap64 ((x0.length : Int) - 1)) ≤ (x0.length : Int) then (regattalaw02_made.l0 k (x0.take ((wrap64 ((x0.length : Int) - 1)) : Int).toNat)) else (none)) else (some x0)) else (none)) else (none)) else (some x0)
end
def regattalaw02_made.f (k : Nat) (l0 : List Int) : Option (List Int) := if (l0.length : Int) > 6 then (if 6 ≤ (l0.length : Int) then (regattalaw02_made.j0 k (l0.take 6)) else (none)) else (regattalaw02_made.j0 k l0)
theorem regattalaw02_made.mono_l : ∀ k, (∀ y0, LeO (regattalaw02_made.j0 k y0) (regattalaw02_made.j0 (k + 1) y0)) ∧ (∀ y0, LeO (regattalaw02_made.l0 k y0) (regattalaw02_made.l0 (k + 1) y0))
  | 0 => ⟨fun _ r h => by simp [regattalaw02_made.j0] at h, fun _ r h => by simp [regattalaw02_made.l0] at h⟩
  | k + 1 => by
    obtain ⟨ih0, ih1⟩ := regattalaw02_made.mono_l k
    refine ⟨?_, ?_⟩
    · intro y0
      unfold regattalaw02_made.j0
      repeat' first
      | (with_reducible exact ih0 _)
      | (with_reducible exact ih1 _)
      | (with_reducible exact LeO.refl _)
      | (with_reducible exact LeO.none _)
      | (with_reducible refine LeO.ite ?_ ?_)
      | (with_reducible refine LeO.bind ?_ (fun _ => ?_))
      | exact ih0 _
      | exact ih1 _
      | exact LeO.none _
      | refine LeO.ite ?_ ?_
      | refine LeO.bind ?_ (fun _ => ?_)
    · intro y0
      unfold regattalaw02_made.l0
      repeat' first
      | (with_reducible exact ih0 _)
      | (with_reducible exact ih1 _)
      | (with_reducible exact LeO.refl _)
      | (with_reducible exact LeO.none _)
      | (with_reducible refine LeO.ite ?_ ?_)
      | (with_reducible refine LeO.bind ?_ (fun _ => ?_))
      | exact ih0 _
      | exact ih1 _
      | exact LeO.none _
      | refine LeO.ite ?_ ?_
      | refine LeO.bind ?_ (fun _ => ?_)
theorem regattalaw02_made.mono : ∀ a0 k, LeO (regattalaw02_made.f k a0) (regattalaw02_made.f (k + 1) a0) := by
  intro a0 k
  obtain ⟨ih0, ih1⟩ := regattalaw02_made.mono_l k
  unfold regattalaw02_made.f
  repeat' first
      | (with_reducible exact ih0 _)
      | (with_reducible exact ih1 _)
      | (with_reducible exact LeO.refl _)
      | (with_reducible exact LeO.none _)
      | (with_reducible refine LeO.ite ?_ ?_)
      | (with_reducible refine LeO.bind ?_ (fun _ => ?_))
      | exact ih0 _
      | exact ih1 _
      | exact LeO.none _
      | refine LeO.ite ?_ ?_
      | refine LeO.bind ?_ (fun _ => ?_)
set_option maxHeartbeats 8000000 in
set_option maxRecDepth 100000 in
theorem regattalaw02_made.calls (k : Nat) (P0_ : Nat → Prop) (A0 : Option Addr) (c0 : Nat) (l0 : List Int) (r : List Int) (w : World) (hs0 : Kd.V (Kd.int .u32) 35 w w.heap.size (fun k_ => P0_ k_) (.slice A0 l0.length c0) l0) (h : regattalaw02_made.f k l0 = some r) :
    Calls Tryd.prog 6 #[.slice A0 l0.length c0] w fun e w' => ∃ v0_ : Value, e = .returned (v0_) ∧ Kd.V (Kd.int .u32) 35 w' w.heap.size (fun k_ => (P0_ k_ ∨ w.heap.size ≤ k_)) v0_ r ∧ Below w.heap.size w w' := by
  have HO0 := Aside0.mk (show Kd.V (Kd.int .u32) 35 w w.heap.size (fun k_ => (P0_ k_ ∨ w.heap.size ≤ k_)) (.slice A0 l0.length c0) l0 from Kd.V_mono hs0 (fun k_ hk => .inl hk))
  have HB := Aside0.mk (Below.refl w.heap.size w)
  have H : (if (l0.length : Int) > 6 then (if 6 ≤ (l0.length : Int) then (regattalaw02_made.j0 k (l0.take 6)) else (none)) else (regattalaw02_made.j0 k l0)) = some r := h
  clear h
  have HC2 := Aside0.mk H
  clear H
  go_enter Tryd.func6, Tryd.ntmps6
  go_upto_if 5 with (fail)
  go_cut [0] (fun v0 wc => ∃ (kq : Nat) (x0_1 : List Int), Aside0 (regattalaw02_made.j0 kq x0_1 = some r) ∧ Aside0 (kq ≤ k) ∧ Aside0 (Kd.V (Kd.int .u32) 35 wc w.heap.size (fun k_ => (P0_ k_ ∨ w.heap.size ≤ k_)) v0 x0_1) ∧ Aside0 (Below w.heap.size w wc))
  case first =>
    have H := HC2.out
    clear HC2
    by_cases c3 : (l0.length : Int) > 6
    · rw [if_pos c3] at H
      have c3b0 : decide (6 < (l0.length : Int)) = true := decide_eq_true c3
      have c3b1 : decide (6 < l0.length) = true := decide_eq_true (by omega)
      clear c3
      (first | rw [c3b0] | rw [c3b1] | (simp only [i64_w, i32_w]; rw [c3b0]) | skip)
      by_cases c4 : 6 ≤ (l0.length : Int)
      · rw [if_pos c4] at H
        have c4b0 := eq_true c4
        have c4b1 : decide (6 ≤ (l0.length : Int)) = true := decide_eq_true c4
        clear c4
        obtain ⟨y135, hy135⟩ : ∃ y_ : List Int, y_ = (l0.take 6) := ⟨_, rfl⟩
        replace H : (regattalaw02_made.j0 k y135) = some r := by first | (rw [hy135]; with_reducible exact H) | (have H2_ := (Option.bind_some _ _).symm.trans H; rw [hy135]; with_reducible exact H2_) | (have H2_ := (Option.bind_some _ _).symm.trans H; with_reducible exact H2_) | with_reducible exact H | (rw [hy135]; exact H) | exact H
        have Ny135 := Aside0.mk hy135
        clear hy135
        have H' := Aside0.mk H
        clear H
        have q5 : (6 : Int) ≤ ((l0.length : Int) : Int) := of_decide_eq_true (by first | (with_reducible assumption) | assumption)
        obtain ⟨i05, hi05, _, hsz5, _⟩ := info_parts info35
        have hroom5 : l0.length ≤ c0 := (Kd.V_reads' HO0.out).2.1
        have hC5 : Kd.F (Kd.int .u32) _ _ A0 l0.length l0 := (Kd.V_at (base := w.heap.size) HO0.out).2.2
        have hcut5 := cut_to (P := Tryd.prog) 22 35 .i64 Tryd.underlying22 hi05 A0 l0.length c0 6 (by omega) q5 hroom5
        have hr5 := Kd.F_take (m := 6) hC5 (by omega)
        have hy5 : y135.length = (6 : Int).toNat := (by rw [Ny135.out, List.length_take]; omega)
        rw [← Ny135.out] at hr5
        rw [← hy5] at hcut5
        have HO139 := Aside0.mk (show Kd.V (Kd.int .u32) 35 _ w.heap.size _ (.slice A0 y135.length c0) y135 from Kd.V_mk (by omega) hr5)
        have HC139 := Aside0.mk (show y135.length ≤ c0 from by omega)
        clear hr5 hC5 hroom5 hi05 hsz5
        have KY5 := Aside0.mk hy5
        clear hy5
        replace q5 := eq_true q5
        go_wp2
        go_meet
        case rel => exact ⟨_, (y135), H', ⟨by first | omega | exact Nat.le_refl _⟩, ⟨by (with_reducible repeat (first | apply Kd.V_alloc | apply Kd.V_drewN | apply Kd.V_drew)); exact HO139.out⟩, ⟨by repeat (first | (with_reducible first | exact HB.out | apply below_alloc | apply pw_below_drewN | apply below_drew1) | exact HB.out)⟩⟩
      · rw [if_neg c4] at H
        exact absurd H (by simp)
    · rw [if_neg c3] at H
      have c3b0 : decide (6 < (l0.length : Int)) = false := decide_eq_false c3
      have c3b1 : decide (6 < l0.length) = false := decide_eq_false (by omega)
      clear c3
      (first | rw [c3b0] | rw [c3b1] | (simp only [i64_w, i32_w]; rw [c3b0]) | skip)
      have H' := Aside0.mk H
      clear H
      go_wp2
      go_meet
      case rel => exact ⟨_, (l0), H', ⟨by first | omega | exact Nat.le_refl _⟩, ⟨by (with_reducible repeat (first | apply Kd.V_alloc | apply Kd.V_drewN | apply Kd.V_drew)); exact HO0.out⟩, ⟨by repeat (first | (with_reducible first | exact HB.out | apply below_alloc | apply pw_below_drewN | apply below_drew1) | exact HB.out)⟩⟩
  case rest =>
    clear HC2
    try clear p2
    try clear c3
    try clear c3b0
    try clear c3b1
    try clear c4
    try clear c4b0
    try clear c4b1
    try clear q5
    try clear q5
    obtain ⟨kq, x0_1, HA, HJ1, HO_0, HB⟩ := hcut
    cases kq with
    | zero => exact absurd HA.out (by simp [regattalaw02_made.j0])
    | succ kj1 =>
      have H := HA.out
      clear HA
      simp only [regattalaw02_made.j0] at H
      have H' := Aside0.mk H
      clear H
      go_wp2
      go_loopg [0] kj1 (fun kq v0 w' => ∃ (x0_2 : List Int), Aside0 (regattalaw02_made.l0 kq x0_2 = some r) ∧ Aside0 (kq ≤ kj1) ∧ Aside0 (Kd.V (Kd.int .u32) 35 w' w.heap.size (fun k_ => (P0_ k_ ∨ w.heap.size ≤ k_)) v0 x0_2) ∧ Aside0 (Below w.heap.size w w'))
      case atStart => exact ⟨(x0_1), H', ⟨Nat.le_refl _⟩, ⟨by (with_reducible repeat (first | apply Kd.V_alloc | apply Kd.V_drewN | apply Kd.V_drew)); exact HO_0.out⟩, ⟨by repeat (first | (with_reducible first | exact HB.out | apply below_alloc | apply pw_below_drewN | apply below_drew1) | exact HB.out)⟩⟩
      case round =>
        clear H'
        try clear p2
        try clear c3
        try clear c3b0
        try clear c3b1
        try clear c4
        try clear c4b0
        try clear c4b1
        try clear q5
        try clear p2
        try clear q5
        obtain ⟨x0_2, HA, HK2, HO_0, HB⟩ := hrel
        cases gk with
        | zero => exact absurd HA.out (by simp [regattalaw02_made.l0])
        | succ k2 =>
          have H := HA.out
          clear HA
          simp only [regattalaw02_made.l0] at H
          by_cases c6 : (x0_2.length : Int) > 0
          · rw [if_pos c6] at H
            have c6b0 : decide (0 < (x0_2.length : Int)) = true := decide_eq_true c6
            have c6b1 : decide (0 < x0_2.length) = true := decide_eq_true (by omega)
            clear c6
            obtain ⟨ji7, hji7⟩ : ∃ j_ : Int, (wrap64 ((x0_2.length : Int) - 1)) = j_ := ⟨_, rfl⟩
            replace H : (if 0 ≤ (ji7) then (if (ji7) < (x0_2.length : Int) then (if (rd x0_2 (ji7)) = 0 then (if (ji7) ≤ (x0_2.length : Int) then (regattalaw02_made.l0 k2 (x0_2.take ((ji7) : Int).toNat)) else (none)) else (some x0_2)) else (none)) else (none)) = some r := by first | (rw [hji7] at H; exact H) | (simp only [hji7] at H ⊢; exact H)
            have hji7w : (IntKind.i64.wrap ((x0_2.length : Int) - 1)) = ji7 := (i64_w _).trans hji7
            by_cases c8 : 0 ≤ (ji7)
            · rw [if_pos c8] at H
              have c8b0 : decide (0 ≤ (ji7)) = true := decide_eq_true c8
              clear c8
              by_cases c9 : (ji7) < (x0_2.length : Int)
              · rw [if_pos c9] at H
                have c9b0 : decide ((ji7) < (x0_2.length : Int)) = true := decide_eq_true c9
                clear c9
                by_cases c10 : (rd x0_2 (ji7)) = 0
                · rw [if_pos c10] at H
                  have c10b0 : ((rd x0_2 (ji7)) == 0) = true := beq_iff_eq.mpr c10
                  have c10b1 : ((rd x0_2 (ji7)) != 0) = false := bne_eq_false_iff_eq.mpr c10
                  clear c10
                  have c11b0 := eq_true (of_decide_eq_true (by first | (with_reducible assumption) | assumption) : 0 ≤ (ji7))
                  by_cases c12 : (ji7) ≤ (x0_2.length : Int)
                  · rw [if_pos c12] at H
                    have c12b0 := eq_true c12
                    have c12b1 : decide ((ji7) ≤ (x0_2.length : Int)) = true := decide_eq_true c12
                    clear c12
                    obtain ⟨y141, hy141⟩ : ∃ y_ : List Int, y_ = (x0_2.take ((ji7) : Int).toNat) := ⟨_, rfl⟩
                    replace H : (regattalaw02_made.l0 k2 y141) = some r := by first | (rw [hy141]; with_reducible exact H) | (have H2_ := (Option.bind_some _ _).symm.trans H; rw [hy141]; with_reducible exact H2_) | (have H2_ := (Option.bind_some _ _).symm.trans H; with_reducible exact H2_) | with_reducible exact H | (rw [hy141]; exact H) | exact H
                    have Ny141 := Aside0.mk hy141
                    clear hy141
                    have H' := Aside0.mk H
                    clear H
                    obtain ⟨Ao13, co13, eo13⟩ := Kd.V_slice HO_0.out
                    subst eo13
                    have p140 : 0 ≤ ((ji7) : Int) := of_decide_eq_true (by first | (with_reducible assumption) | assumption)
                    have q140 : (ji7) < (x0_2.length : Int) := of_decide_eq_true (by first | (with_reducible assumption) | assumption)
                    obtain ⟨ad140, e140, hx140_0⟩ := Kd.at_int (Kd.V_reads' HO_0.out).2.2 (ji7) p140 q140
                    cases e140
                    replace p140 := eq_true p140
                    replace q140 := eq_true q140
                    have q14 : ((ji7) : Int) ≤ ((x0_2.length : Int) : Int) := of_decide_eq_true (by first | (with_reducible assumption) | assumption)
                    obtain ⟨i014, hi014, _, hsz14, _⟩ := info_parts info35
                    have hroom14 : x0_2.length ≤ co13 := (Kd.V_reads' HO_0.out).2.1
                    have hC14 : Kd.F (Kd.int .u32) _ _ (some ad140) x0_2.length x0_2 := (Kd.V_at (base := w.heap.size) HO_0.out).2.2
                    have hcut14 := cut_to (P := Tryd.prog) 22 35 .i64 Tryd.underlying22 hi014 (some ad140) x0_2.length co13 (ji7) (of_decide_eq_true (by first | (with_reducible assumption) | assumption)) q14 hroom14
                    have hr14 := Kd.F_take (m := ((ji7) : Int).toNat) hC14 (by omega)
                    have hy14 : y141.length = ((ji7) : Int).toNat := (by rw [Ny141.out, List.length_take]; omega)
                    rw [← Ny141.out] at hr14
                    rw [← hy14] at hcut14
                    have HO145 := Aside0.mk (show Kd.V (Kd.int .u32) 35 _ w.heap.size _ (.slice (some ad140) y141.length co13) y141 from Kd.V_mk (by omega) hr14)
                    have HC145 := Aside0.mk (show y141.length ≤ co13 from by omega)
                    clear hr14 hC14 hroom14 hi014 hsz14
                    have KY14 := Aside0.mk hy14
                    clear hy14
                    replace q14 := eq_true q14
                    go_wp2
                    go_roundg k2
                    case measure => have := HJ1.out; have := HK2.out; omega
                    case rel => exact ⟨(y141), H', ⟨by have := HJ1.out; have := HK2.out; omega⟩, ⟨by (with_reducible repeat (first | apply Kd.V_alloc | apply Kd.V_drewN | apply Kd.V_drew)); exact HO145.out⟩, ⟨by repeat (first | (with_reducible first | exact HB.out | apply below_alloc | apply pw_below_drewN | apply below_drew1) | exact HB.out)⟩⟩
                  · rw [if_neg c12] at H
                    exact absurd H (by simp)
                · rw [if_neg c10] at H
                  have c10b0 : ((rd x0_2 (ji7)) == 0) = false := beq_eq_false_iff_ne.mpr c10
                  have c10b1 : ((rd x0_2 (ji7)) != 0) = true := bne_iff_ne.mpr c10
                  obtain rfl := Option.some.inj H
                  obtain ⟨Ao15, co15, eo15⟩ := Kd.V_slice HO_0.out
                  subst eo15
                  have p140 : 0 ≤ ((ji7) : Int) := of_decide_eq_true (by first | (with_reducible assumption) | assumption)
                  have q140 : (ji7) < (x0_2.length : Int) := of_decide_eq_true (by first | (with_reducible assumption) | assumption)
                  obtain ⟨ad140, e140, hx140_0⟩ := Kd.at_int (Kd.V_reads' HO_0.out).2.2 (ji7) p140 q140
                  cases e140
                  replace p140 := eq_true p140
                  replace q140 := eq_true q140
                  go_wp2
                  go_ret
                  exact ⟨_, by first | rfl | (simp [errW_none, errW_some] <;> rfl) | (simp only [← hji7]; first | rfl | (simp [errW_none, errW_some] <;> rfl)) | (simp [*, errW_none, errW_some] <;> rfl), by (with_reducible repeat (first | apply Kd.V_alloc | apply Kd.V_drewN | apply Kd.V_drew)); exact HO_0.out, by repeat (first | (with_reducible first | exact HB.out | apply below_alloc | apply pw_below_drewN | apply below_drew1) | exact HB.out)⟩
              · rw [if_neg c9] at H
                exact absurd H (by simp)
            · rw [if_neg c8] at H
              exact absurd H (by simp)
          · rw [if_neg c6] at H
            have c6b0 : decide (0 < (x0_2.length : Int)) = false := decide_eq_false c6
            have c6b1 : decide (0 < x0_2.length) = false := decide_eq_false (by omega)
            clear c6
            obtain rfl := Option.some.inj H
            obtain ⟨Ao16, co16, eo16⟩ := Kd.V_slice HO_0.out
            subst eo16
            go_wp2
            go_ret
            exact ⟨_, by first | rfl | (simp [errW_none, errW_some] <;> rfl) | (simp [*, errW_none, errW_some] <;> rfl), by (with_reducible repeat (first | apply Kd.V_alloc | apply Kd.V_drewN | apply Kd.V_drew)); exact HO_0.out, by repeat (first | (with_reducible first | exact HB.out | apply below_alloc | apply pw_below_drewN | apply below_drew1) | exact HB.out)⟩

end Go.Proofs.YtcfliceeablckaaDoor.PNd
