-- Written by wip/rprint.py of this session's repo (the kit's printer with patches), out of the translation. Not trusted: Lean checks it.
import Derived.Test.YtlblianpbjhmoaaPGsx0
import Derived.Test.YtlblianpbjhmoaaPGsx12
import Derived.Test.YtlblianpbjhmoaaPGsx31
namespace Go.Proofs.Ytlblianpbjhmoaa.PGs
open Go.RowKit Go.Proofs.YtlblianpbjhmoaaW.PrintWords Go.Proofs.YtlblianpbjhmoaaW.PrintLast Go.Proofs.YtlblianpbjhmoaaW.PrintMore Go.Proofs.Ytlblianpbjhmoaa.MWords
attribute [local go_sem] max2_int min2_int max_two min_two max_three min_three max_four min_four   -- for this text's walks alone
set_option linter.unusedVariables false
set_option linter.unusedSimpArgs false

/-! ### regattaref16_Bytes: function 31 -/
mutual
def regattaref16_Bytes.j0 : Nat → List (S57) → Int → Option (ByteArray)
  | 0, _, _ => none
  | k + 1, x0, x4 => (regattaref16_Number.f k (x0.length : Int)).bind fun t257 => ((regattaref16_Number.f k x4).bind fun t258 => (if t257.size + t258.size ≤ 9223372036854775807 then (regattaref16_Bytes.l0 k x0 (t257 ++ t258) 0) else (none)))
def regattaref16_Bytes.l0 : Nat → List (S57) → ByteArray → Int → Option (ByteArray)
  | 0, _, _, _ => none
  | k + 1, x0, x5, x6 => if x6 < (x0.length : Int) then (if 0 ≤ x6 then ((regattaref16_Number.f k (((rd_T57 x0 x6).f1).length : Int)).bind fun t260 => (if x5.size + t260.size ≤ 9223372036854775807 then (regattaref16_Bytes.l1 k x0 (x5 ++ t260) x6 0 0) else (none))) else (none)) else (some x5)
def regattaref16_Bytes.l1 : Nat → List (S57) → ByteArray → Int → Int → Int → Option (ByteArray)
  | 0, _, _, _, _, _ => none
  | k + 1, x0, x5, x6, x7, x8 => if 0 ≤ x6 then (if x6 < (x0.length : Int) then (if x8 < (((rd_T57 x0 x6).f1).length : Int) then (if 0 ≤ x8 then ((regattaref16_Number.f k (wrap64 (((rd_T59 ((rd_T57 x0 x6).f1) x8).f1) - x7))).bind fun t265 => (if x5.size + t265.size ≤ 9223372036854775807 then ((regattaref16_Number.f k ((rd_T59 ((rd_T57 x0 x6).f1) x8).f0)).bind fun t266 => (if x5.size + t265.size + t266.size ≤ 9223372036854775807 then ((regattaref16_Number.f k ((rd_T59 ((rd_T57 x0 x6).f1) x8).f2)).bind fun t267 => (if x5.size + t265.size + t266.size + t267.size ≤ 9223372036854775807 then (regattaref16_Bytes.l1 k x0 (((x5 ++ t265) ++ t266) ++ t267) x6 ((rd_T59 ((rd_T57 x0 x6).f1) x8).f1) (wrap64 (x8 + 1))) else (none))) else (none))) else (none))) else (none)) else (regattaref16_Bytes.l0 k x0 x5 (wrap64 (x6 + 1)))) else (none)) else (none)
end
def regattaref16_Bytes.f (k : Nat) (l0 : List (S57)) : Option (ByteArray) := (regattaref16_Row.f k l0 1024).bind fun t255 => (if t255 = true then (if (l0.length : Int) > 0 then (if 0 < (l0.length : Int) then (regattaref16_Bytes.j0 k l0 ((rd_T57 l0 0).f0)) else (none)) else (regattaref16_Bytes.j0 k l0 0)) else (some (⟨#[]⟩ : ByteArray)))
theorem regattaref16_Bytes.mono_l : ∀ k, (∀ y0 y1, LeO (regattaref16_Bytes.j0 k y0 y1) (regattaref16_Bytes.j0 (k + 1) y0 y1)) ∧ (∀ y0 y1 y2, LeO (regattaref16_Bytes.l0 k y0 y1 y2) (regattaref16_Bytes.l0 (k + 1) y0 y1 y2)) ∧ (∀ y0 y1 y2 y3 y4, LeO (regattaref16_Bytes.l1 k y0 y1 y2 y3 y4) (regattaref16_Bytes.l1 (k + 1) y0 y1 y2 y3 y4))
  | 0 => ⟨fun _ _ r h => by simp [regattaref16_Bytes.j0] at h, fun _ _ _ r h => by simp [regattaref16_Bytes.l0] at h, fun _ _ _ _ _ r h => by simp [regattaref16_Bytes.l1] at h⟩
  | k + 1 => by
    obtain ⟨ih0, ih1, ih2⟩ := regattaref16_Bytes.mono_l k
    refine ⟨?_, ?_, ?_⟩
    · intro y0 y1
      unfold regattaref16_Bytes.j0
      repeat' first
      | (with_reducible exact ih0 _ _)
      | (with_reducible exact ih1 _ _ _)
      | (with_reducible exact ih2 _ _ _ _ _)
      | (with_reducible exact regattaref16_Number.mono _ _)
      | (with_reducible exact regattaref16_Row.mono _ _ _)
      | (with_reducible exact LeO.refl _)
      | (with_reducible exact LeO.none _)
      | (with_reducible refine LeO.ite ?_ ?_)
      | (with_reducible refine LeO.bind ?_ (fun _ => ?_))
      | exact ih0 _ _
      | exact ih1 _ _ _
      | exact ih2 _ _ _ _ _
      | exact regattaref16_Number.mono _ _
      | exact regattaref16_Row.mono _ _ _
      | exact LeO.none _
      | refine LeO.ite ?_ ?_
      | refine LeO.bind ?_ (fun _ => ?_)
    · intro y0 y1 y2
      unfold regattaref16_Bytes.l0
      repeat' first
      | (with_reducible exact ih0 _ _)
      | (with_reducible exact ih1 _ _ _)
      | (with_reducible exact ih2 _ _ _ _ _)
      | (with_reducible exact regattaref16_Number.mono _ _)
      | (with_reducible exact regattaref16_Row.mono _ _ _)
      | (with_reducible exact LeO.refl _)
      | (with_reducible exact LeO.none _)
      | (with_reducible refine LeO.ite ?_ ?_)
      | (with_reducible refine LeO.bind ?_ (fun _ => ?_))
      | exact ih0 _ _
      | exact ih1 _ _ _
      | exact ih2 _ _ _ _ _
      | exact regattaref16_Number.mono _ _
      | exact regattaref16_Row.mono _ _ _
      | exact LeO.none _
      | refine LeO.ite ?_ ?_
      | refine LeO.bind ?_ (fun _ => ?_)
    · intro y0 y1 y2 y3 y4
      unfold regattaref16_Bytes.l1
      repeat' first
      | (with_reducible exact ih0 _ _)
      | (with_reducible exact ih1 _ _ _)
      | (with_reducible exact ih2 _ _ _ _ _)
      | (with_reducible exact regattaref16_Number.mono _ _)
      | (with_reducible exact regattaref16_Row.mono _ _ _)
      | (with_reducible exact LeO.refl _)
      | (with_reducible exact LeO.none _)
      | (with_reducible refine LeO.ite ?_ ?_)
      | (with_reducible refine LeO.bind ?_ (fun _ => ?_))
      | exact ih0 _ _
      | exact ih1 _ _ _
      | exact ih2 _ _ _ _ _
      | exact regattaref16_Number.mono _ _
      | exact regattaref16_Row.mono _ _ _
      | exact LeO.none _
      | refine LeO.ite ?_ ?_
      | refine LeO.bind ?_ (fun _ => ?_)
theorem regattaref16_Bytes.mono : ∀ a0 k, LeO (regattaref16_Bytes.f k a0) (regattaref16_Bytes.f (k + 1) a0) := by
  intro a0 k
  obtain ⟨ih0, ih1, ih2⟩ := regattaref16_Bytes.mono_l k
  unfold regattaref16_Bytes.f
  repeat' first
      | (with_reducible exact ih0 _ _)
      | (with_reducible exact ih1 _ _ _)
      | (with_reducible exact ih2 _ _ _ _ _)
      | (with_reducible exact regattaref16_Number.mono _ _)
      | (with_reducible exact regattaref16_Row.mono _ _ _)
      | (with_reducible exact LeO.refl _)
      | (with_reducible exact LeO.none _)
      | (with_reducible refine LeO.ite ?_ ?_)
      | (with_reducible refine LeO.bind ?_ (fun _ => ?_))
      | exact ih0 _ _
      | exact ih1 _ _ _
      | exact ih2 _ _ _ _ _
      | exact regattaref16_Number.mono _ _
      | exact regattaref16_Row.mono _ _ _
      | exact LeO.none _
      | refine LeO.ite ?_ ?_
      | refine LeO.bind ?_ (fun _ => ?_)
def regattaref16_Bytes.T17 : Bool × List (List Nat × List Nat) := (true, [([], []), ([], []), ([1], [1]), ([], []), ([2, 3], [2, 3]), ([4], [4]), ([0, 5], [0, 5]), ([], []), ([7], [7]), ([8, 5], [8]), ([6, 9], [6, 9]), ([], []), ([11], [11]), ([12, 9], [12]), ([10, 13], [10, 13]), ([14, 13, 0, 1, 2, 3, 4, 5, 6, 7, 8, 9, 10, 11, 12, 13, 14], [0, 14])])
def regattaref16_Bytes.B17 : List Nat := [0, 0, 2, 0, 14, 30, 63, 0, 128, 446, 1023, 0, 2048, 7102, 16383, 32767]
theorem regattaref16_Bytes.tab17 : rtab .any (opsOf Try.f31 17) = regattaref16_Bytes.T17 := by kernel_rfl
theorem regattaref16_Bytes.bits17 : waitsOk regattaref16_Bytes.T17.2 regattaref16_Bytes.B17 = true := by kernel_rfl
set_option maxHeartbeats 8000000 in
set_option maxRecDepth 100000 in
theorem regattaref16_Bytes.calls (k : Nat) (A0 : Option Addr) (c0 : Nat) (l0 : List (S57)) (r : ByteArray) (w : World) (hr0 : Kd.C k57 w A0 l0.length l0) (hc0 : l0.length ≤ c0) (h : regattaref16_Bytes.f k l0 = some r) :
    Calls Try.prog 31 #[.slice A0 l0.length c0] w fun e w' => e = .returned (.string r) ∧ Below w.heap.size w w' := by
  have hu59 := Try.underlying59
  have HR0 := Aside0.mk hr0
  have HC0 := Aside0.mk hc0
  clear hr0 hc0
  have HB := Aside0.mk (Below.refl w.heap.size w)
  have H : ((regattaref16_Row.f k l0 1024).bind fun t255 => (if t255 = true then (if (l0.length : Int) > 0 then (if 0 < (l0.length : Int) then (regattaref16_Bytes.j0 k l0 ((rd_T57 l0 0).f0)) else (none)) else (regattaref16_Bytes.j0 k l0 0)) else (some (⟨#[]⟩ : ByteArray)))) = some r := h
  clear h
  replace H := Option.bind_eq_some_iff.mp H
  obtain ⟨t255, A20, H⟩ := H
  replace H : (if t255 = true then (if (l0.length : Int) > 0 then (if 0 < (l0.length : Int) then (regattaref16_Bytes.j0 k l0 ((rd_T57 l0 0).f0)) else (none)) else (regattaref16_Bytes.j0 k l0 0)) else (some (⟨#[]⟩ : ByteArray))) = some r := H
  have A2 := Aside0.mk A20
  clear A20
  by_cases c3 : t255 = true
  · subst c3
    have H1 : (if (l0.length : Int) > 0 then (if 0 < (l0.length : Int) then (regattaref16_Bytes.j0 k l0 ((rd_T57 l0 0).f0)) else (none)) else (regattaref16_Bytes.j0 k l0 0)) = some r := by rw [if_pos rfl] at H; exact H
    clear H
    have H := H1
    clear H1
    have HC4 := Aside0.mk H
    clear H
    go_enter Try.func31, Try.ntmps31
    go_upto_if 16 with (first | ((with_reducible refine gate_callee (f := 47) rfl ?_); refine goesL_ (some 11) rfl rfl Try.func47 (by kernel_rfl) rfl #[.slice A0 l0.length c0, .int .i64 1024] rfl (by (try simp only [List.map_toArray, List.map_cons, List.map_nil]); first | done | rfl | (simp only [List.length_drop, List.length_take]; rfl)) ?_; (with_reducible refine (regattaref16_Row.calls k _ _ l0 1024 true _ ?side1 ?side2 A2.out).mono ?_); (case side1 => repeat (first | exact HR0.out | (with_reducible refine Kd.C_alloc ?_ _) | (with_reducible refine Kd.C_drewN ?_ _) | (with_reducible refine Kd.C_drew ?_))); (case side2 => exact HC0.out); rintro e w5 ⟨rfl, hb⟩; refine ⟨_, rfl, ?_⟩; have n0_ := Aside0.mk (below_step (by repeat (first | (with_reducible first | exact HB.out | apply below_alloc | apply pw_below_drewN | apply below_drew1) | exact HB.out)) hb); clear HB; have HB := n0_; clear n0_; (try clear hb); (try clear hb2); (try clear hk); (try clear hi)))
    (try simp only [Act.put, List.setIfInBounds_toArray, List.set_cons_zero, List.set_cons_succ])
    go_cut [4] (fun v4 wc => ∃ (kq : Nat) (x4_3 : Int), v4 = .int .i64 x4_3 ∧ Aside0 (regattaref16_Bytes.j0 kq l0 x4_3 = some r) ∧ Aside0 (kq ≤ k) ∧ Aside0 (Below w.heap.size w wc))
    case first =>
      have H := HC4.out
      clear HC4
      by_cases c6 : (l0.length : Int) > 0
      · rw [if_pos c6] at H
        have c6b0 : decide (0 < (l0.length : Int)) = true := decide_eq_true c6
        have c6b1 : decide (0 < l0.length) = true := decide_eq_true (by omega)
        clear c6
        (first | rw [c6b0] | rw [c6b1] | (simp only [i64_w, i32_w]; rw [c6b0]) | skip)
        by_cases c7 : 0 < (l0.length : Int)
        · rw [if_pos c7] at H
          have c7b0 : decide (0 < (l0.length : Int)) = true := decide_eq_true c7
          have c7b1 : decide (0 < l0.length) = true := decide_eq_true (by omega)
          clear c7
          have H' := Aside0.mk H
          clear H
          have p256 : 0 ≤ (0 : Int) := (by omega)
          have q256 : 0 < (l0.length : Int) := of_decide_eq_true (by first | (with_reducible assumption) | assumption)
          obtain ⟨ad256, A256_1, c256_1, e256, hx256_0, hx256_1, hl256_1, hi256_1⟩ := at_T57 HR0.out 0 p256 q256
          cases e256
          have qi256 : (0 < l0.length) = True := eq_true (by omega)
          (try rw [show ((0 : Int)).toNat = 0 from rfl] at hx256_0)
          (try rw [show 0 * 2 = 0 from rfl] at hx256_0)
          (try rw [Addr.add_zero'] at hx256_0)
          (try rw [show ((0 : Int)).toNat = 0 from rfl] at hx256_1)
          (try rw [show 0 * 2 = 0 from rfl] at hx256_1)
          (try rw [Addr.add_zero'] at hx256_1)
          replace hx256_0 := (HB.out.cell (World.block_lt_of_cell? w _ hx256_0)).trans hx256_0
          replace hx256_1 := (HB.out.cell (World.block_lt_of_cell? w _ hx256_1)).trans hx256_1
          have HR256_1 := Aside0.mk hi256_1
          have HC256_1 := Aside0.mk hl256_1
          clear hi256_1 hl256_1
          replace p256 := eq_true p256
          replace q256 := eq_true q256
          go_wp2
          go_meet
          case rel => exact ⟨_, ((rd_T57 l0 0).f0), (by first | rfl | (simp; done) | (simp [*]; done)), H', ⟨by first | omega | exact Nat.le_refl _⟩, ⟨by repeat (first | (with_reducible first | exact HB.out | apply below_alloc | apply pw_below_drewN | apply below_drew1) | exact HB.out)⟩⟩
        · rw [if_neg c7] at H
          exact absurd H (by simp)
      · rw [if_neg c6] at H
        have c6b0 : decide (0 < (l0.length : Int)) = false := decide_eq_false c6
        have c6b1 : decide (0 < l0.length) = false := decide_eq_false (by omega)
        clear c6
        (first | rw [c6b0] | rw [c6b1] | (simp only [i64_w, i32_w]; rw [c6b0]) | skip)
        have H' := Aside0.mk H
        clear H
        go_wp2
        go_meet
        case rel => exact ⟨_, (0), (by first | rfl | (simp; done) | (simp [*]; done)), H', ⟨by first | omega | exact Nat.le_refl _⟩, ⟨by repeat (first | (with_reducible first | exact HB.out | apply below_alloc | apply pw_below_drewN | apply below_drew1) | exact HB.out)⟩⟩
    case rest =>
      clear HC4
      try clear c2
      try clear p2
      try clear q2
      try clear hx2
      try clear qi2
      try clear c3
      try clear c4
      try clear c6
      try clear c6b0
      try clear c6b1
      try clear c7
      try clear c7b0
      try clear c7b1
      try clear hx256_0
      try clear hx256_1
      try clear p256
      try clear q256
      obtain ⟨kq, x4_3, rfl, HA, HJ3, HB⟩ := hcut
      cases kq with
      | zero => exact absurd HA.out (by simp [regattaref16_Bytes.j0])
      | succ kj3 =>
        have H := HA.out
        clear HA
        simp only [regattaref16_Bytes.j0] at H
        replace H := Option.bind_eq_some_iff.mp H
        obtain ⟨t257, A80, H⟩ := H
        replace H : ((regattaref16_Number.f kj3 x4_3).bind fun t258 => (if t257.size + t258.size ≤ 9223372036854775807 then (regattaref16_Bytes.l0 kj3 l0 (t257 ++ t258) 0) else (none))) = some r := H
        have A8 := Aside0.mk A80
        clear A80
        replace H := Option.bind_eq_some_iff.mp H
        obtain ⟨t258, A90, H⟩ := H
        replace H : (if t257.size + t258.size ≤ 9223372036854775807 then (regattaref16_Bytes.l0 kj3 l0 (t257 ++ t258) 0) else (none)) = some r := H
        have A9 := Aside0.mk A90
        clear A90
        by_cases c10 : t257.size + t258.size ≤ 9223372036854775807
        · rw [if_pos c10] at H
          have c10b0 := eq_true c10
          have c10b1 : decide (t257.size + t258.size ≤ 9223372036854775807) = true := decide_eq_true c10
          try have c10b2 : (9223372036854775807 < t257.size + t258.size) = False := eq_false (Nat.not_lt.2 c10)
          have H' := Aside0.mk H
          clear H
          go_wp2_with (first | ((with_reducible refine gate_callee (f := 54) rfl ?_); refine goesL_ (some 23) rfl rfl Try.func54 (by kernel_rfl) rfl #[.int .i64 (l0.length : Int)] rfl (by (try simp only [List.map_toArray, List.map_cons, List.map_nil]); first | done | rfl | (simp only [List.length_drop, List.length_take]; rfl)) ?_; (with_reducible refine (regattaref16_Number.calls kj3 (l0.length : Int) t257 _ A8.out).mono ?_); rintro e w11 ⟨rfl, hb⟩; refine ⟨_, rfl, ?_⟩; have n0_ := Aside0.mk (below_step (by repeat (first | (with_reducible first | exact HB.out | apply below_alloc | apply pw_below_drewN | apply below_drew1) | exact HB.out)) hb); clear HB; have HB := n0_; clear n0_; (try clear hb); (try clear hb2); (try clear hk); (try clear hi); (try clear A8)) | ((with_reducible refine gate_callee (f := 54) rfl ?_); refine goesL_ (some 25) rfl rfl Try.func54 (by kernel_rfl) rfl #[.int .i64 x4_3] rfl (by (try simp only [List.map_toArray, List.map_cons, List.map_nil]); first | done | rfl | (simp only [List.length_drop, List.length_take]; rfl)) ?_; (with_reducible refine (regattaref16_Number.calls kj3 x4_3 t258 _ A9.out).mono ?_); rintro e w12 ⟨rfl, hb⟩; refine ⟨_, rfl, ?_⟩; have n0_ := Aside0.mk (below_step (by repeat (first | (with_reducible first | exact HB.out | apply below_alloc | apply pw_below_drewN | apply below_drew1) | exact HB.out)) hb); clear HB; have HB := n0_; clear n0_; (try clear hb); (try clear hb2); (try clear hk); (try clear hi); (try clear A9)))
          go_loopg [5, 6] kj3 (fun kq v5 v6 w' => ∃ (x5_2 : ByteArray) (x6_2 : Int), v5 = .string x5_2 ∧ v6 = .int .i64 x6_2 ∧ Aside0 (regattaref16_Bytes.l0 kq l0 x5_2 x6_2 = some r) ∧ Aside0 (kq ≤ kj3) ∧ Aside0 (Below w.heap.size w w'))
          case atStart => exact ⟨(t257 ++ t258), (0), (by first | rfl | (simp; done) | (simp [*]; done)), (by first | rfl | (simp; done) | (simp [*]; done)), H', ⟨Nat.le_refl _⟩, ⟨by repeat (first | (with_reducible first | exact HB.out | apply below_alloc | apply pw_below_drewN | apply below_drew1) | exact HB.out)⟩⟩
          case round =>
            clear H'
            try clear c1
            try clear c2
            try clear p2
            try clear q2
            try clear hx2
            try clear qi2
            try clear c3
            try clear c4
            try clear c5
            try clear c6
            try clear c6b0
            try clear c6b1
            try clear c7
            try clear c7b0
            try clear c7b1
            try clear c10
            try clear c10b0
            try clear c10b1
            try clear c10b2
            try clear hx256_0
            try clear hx256_1
            try clear p2
            try clear p256
            try clear q2
            try clear q256
            obtain ⟨x5_2, x6_2, rfl, rfl, HA, HK2, HB⟩ := hrel
            cases gk with
            | zero => exact absurd HA.out (by simp [regattaref16_Bytes.l0])
            | succ k2 =>
              have H := HA.out
              clear HA
              simp only [regattaref16_Bytes.l0] at H
              by_cases c13 : x6_2 < (l0.length : Int)
              · rw [if_pos c13] at H
                have c13b0 : decide (x6_2 < (l0.length : Int)) = true := decide_eq_true c13
                clear c13
                by_cases c14 : 0 ≤ x6_2
                · rw [if_pos c14] at H
                  have c14b0 : decide (0 ≤ x6_2) = true := decide_eq_true c14
                  clear c14
                  replace H := Option.bind_eq_some_iff.mp H
                  obtain ⟨t260, A150, H⟩ := H
                  replace H : (if x5_2.size + t260.size ≤ 9223372036854775807 then (regattaref16_Bytes.l1 k2 l0 (x5_2 ++ t260) x6_2 0 0) else (none)) = some r := H
                  have A15 := Aside0.mk A150
                  clear A150
                  by_cases c16 : x5_2.size + t260.size ≤ 9223372036854775807
                  · rw [if_pos c16] at H
                    have c16b0 := eq_true c16
                    have c16b1 : decide (x5_2.size + t260.size ≤ 9223372036854775807) = true := decide_eq_true c16
                    try have c16b2 : (9223372036854775807 < x5_2.size + t260.size) = False := eq_false (Nat.not_lt.2 c16)
                    have H' := Aside0.mk H
                    clear H
                    have p259 : 0 ≤ (x6_2 : Int) := of_decide_eq_true (by first | (with_reducible assumption) | assumption)
                    have q259 : x6_2 < (l0.length : Int) := of_decide_eq_true (by first | (with_reducible assumption) | assumption)
                    obtain ⟨ad259, A259_1, c259_1, e259, hx259_0, hx259_1, hl259_1, hi259_1⟩ := at_T57 HR0.out x6_2 p259 q259
                    cases e259
                    replace hx259_0 := (HB.out.cell (World.block_lt_of_cell? w _ hx259_0)).trans hx259_0
                    replace hx259_1 := (HB.out.cell (World.block_lt_of_cell? w _ hx259_1)).trans hx259_1
                    have HR259_1 := Aside0.mk hi259_1
                    have HC259_1 := Aside0.mk hl259_1
                    clear hi259_1 hl259_1
                    replace p259 := eq_true p259
                    replace q259 := eq_true q259
                    go_wp2_with (first | ((with_reducible refine gate_callee (f := 54) rfl ?_); refine goesL_ (some 40) rfl rfl Try.func54 (by kernel_rfl) rfl #[.int .i64 (((rd_T57 l0 x6_2).f1).length : Int)] rfl (by (try simp only [List.map_toArray, List.map_cons, List.map_nil]); first | done | rfl | (simp only [List.length_drop, List.length_take]; rfl)) ?_; (with_reducible refine (regattaref16_Number.calls k2 (((rd_T57 l0 x6_2).f1).length : Int) t260 _ A15.out).mono ?_); rintro e w17 ⟨rfl, hb⟩; refine ⟨_, rfl, ?_⟩; have n0_ := Aside0.mk (below_step (by repeat (first | (with_reducible first | exact HB.out | apply below_alloc | apply pw_below_drewN | apply below_drew1) | exact HB.out)) hb); clear HB; have HB := n0_; clear n0_; (try clear hb); (try clear hb2); (try clear hk); (try clear hi)))
                    go_loopg [5, 7, 8] k2 (fun kq v5 v7 v8 w' => ∃ (x5_3 : ByteArray) (x7_3 : Int) (x8_3 : Int), v5 = .string x5_3 ∧ v7 = .int .i64 x7_3 ∧ v8 = .int .i64 x8_3 ∧ Aside0 (regattaref16_Bytes.l1 kq l0 x5_3 x6_2 x7_3 x8_3 = some r) ∧ Aside0 (kq ≤ k2) ∧ Aside0 (Below w.heap.size w w'))
                    case atStart => exact ⟨(x5_2 ++ t260), (0), (0), (by first | rfl | (simp; done) | (simp [*]; done)), (by first | rfl | (simp; done) | (simp [*]; done)), (by first | rfl | (simp; done) | (simp [*]; done)), H', ⟨Nat.le_refl _⟩, ⟨by repeat (first | (with_reducible first | exact HB.out | apply below_alloc | apply pw_below_drewN | apply below_drew1) | exact HB.out)⟩⟩
                    case round =>
                      clear H'
                      try clear c1
                      try clear c2
                      try clear p2
                      try clear q2
                      try clear hx2
                      try clear qi2
                      try clear c3
                      try clear c4
                      try clear c5
                      try clear c6
                      try clear c6b0
                      try clear c6b1
                      try clear c7
                      try clear c7b0
                      try clear c7b1
                      try clear c10
                      try clear c10b0
                      try clear c10b1
                      try clear c10b2
                      try clear c13
                      try clear c13b0
                      try clear c14
                      try clear c14b0
                      try clear c16
                      try clear c16b0
                      try clear c16b1
                      try clear c16b2
                      try clear hx256_0
                      try clear hx256_1
                      try clear hx259_0
                      try clear hx259_1
                      try clear p2
                      try clear p256
                      try clear p259
                      try clear q2
                      try clear q256
                      try clear q259
                      obtain ⟨x5_3, x7_3, x8_3, rfl, rfl, rfl, HA, HK3, HB⟩ := hrel
                      cases gk with
                      | zero => exact absurd HA.out (by simp [regattaref16_Bytes.l1])
                      | succ k3 =>
                        have H := HA.out
                        clear HA
                        simp only [regattaref16_Bytes.l1] at H
                        by_cases c18 : 0 ≤ x6_2
                        · rw [if_pos c18] at H
                          have c18b0 : decide (0 ≤ x6_2) = true := decide_eq_true c18
                          clear c18
                          by_cases c19 : x6_2 < (l0.length : Int)
                          · rw [if_pos c19] at H
                            have c19b0 : decide (x6_2 < (l0.length : Int)) = true := decide_eq_true c19
                            clear c19
                            by_cases c20 : x8_3 < (((rd_T57 l0 x6_2).f1).length : Int)
                            · rw [if_pos c20] at H
                              have c20b0 : decide (x8_3 < (((rd_T57 l0 x6_2).f1).length : Int)) = true := decide_eq_true c20
                              clear c20
                              by_cases c21 : 0 ≤ x8_3
                              · rw [if_pos c21] at H
                                have c21b0 : decide (0 ≤ x8_3) = true := decide_eq_true c21
                                clear c21
                                replace H := Option.bind_eq_some_iff.mp H
                                obtain ⟨t265, A220, H⟩ := H
                                replace H : (if x5_3.size + t265.size ≤ 9223372036854775807 then ((regattaref16_Number.f k3 ((rd_T59 ((rd_T57 l0 x6_2).f1) x8_3).f0)).bind fun t266 => (if x5_3.size + t265.size + t266.size ≤ 9223372036854775807 then ((regattaref16_Number.f k3 ((rd_T59 ((rd_T57 l0 x6_2).f1) x8_3).f2)).bind fun t267 => (if x5_3.size + t265.size + t266.size + t267.size ≤ 9223372036854775807 then (regattaref16_Bytes.l1 k3 l0 (((x5_3 ++ t265) ++ t266) ++ t267) x6_2 ((rd_T59 ((rd_T57 l0 x6_2).f1) x8_3).f1) (wrap64 (x8_3 + 1))) else (none))) else (none))) else (none)) = some r := H
                                have A22 := Aside0.mk A220
                                clear A220
                                by_cases c23 : x5_3.size + t265.size ≤ 9223372036854775807
                                · rw [if_pos c23] at H
                                  have c23b0 := eq_true c23
                                  have c23b1 : decide (x5_3.size + t265.size ≤ 9223372036854775807) = true := decide_eq_true c23
                                  try have c23b2 : (9223372036854775807 < x5_3.size + t265.size) = False := eq_false (Nat.not_lt.2 c23)
                                  replace H := Option.bind_eq_some_iff.mp H
                                  obtain ⟨t266, A240, H⟩ := H
                                  replace H : (if x5_3.size + t265.size + t266.size ≤ 9223372036854775807 then ((regattaref16_Number.f k3 ((rd_T59 ((rd_T57 l0 x6_2).f1) x8_3).f2)).bind fun t267 => (if x5_3.size + t265.size + t266.size + t267.size ≤ 9223372036854775807 then (regattaref16_Bytes.l1 k3 l0 (((x5_3 ++ t265) ++ t266) ++ t267) x6_2 ((rd_T59 ((rd_T57 l0 x6_2).f1) x8_3).f1) (wrap64 (x8_3 + 1))) else (none))) else (none)) = some r := H
                                  have A24 := Aside0.mk A240
                                  clear A240
                                  by_cases c25 : x5_3.size + t265.size + t266.size ≤ 9223372036854775807
                                  · rw [if_pos c25] at H
                                    have c25b0 := eq_true c25
                                    have c25b1 : decide (x5_3.size + t265.size + t266.size ≤ 9223372036854775807) = true := decide_eq_true c25
                                    try have c25b2 : (9223372036854775807 < x5_3.size + t265.size + t266.size) = False := eq_false (Nat.not_lt.2 c25)
                                    replace H := Option.bind_eq_some_iff.mp H
                                    obtain ⟨t267, A260, H⟩ := H
                                    replace H : (if x5_3.size + t265.size + t266.size + t267.size ≤ 9223372036854775807 then (regattaref16_Bytes.l1 k3 l0 (((x5_3 ++ t265) ++ t266) ++ t267) x6_2 ((rd_T59 ((rd_T57 l0 x6_2).f1) x8_3).f1) (wrap64 (x8_3 + 1))) else (none)) = some r := H
                                    have A26 := Aside0.mk A260
                                    clear A260
                                    by_cases c27 : x5_3.size + t265.size + t266.size + t267.size ≤ 9223372036854775807
                                    · rw [if_pos c27] at H
                                      have c27b0 := eq_true c27
                                      have c27b1 : decide (x5_3.size + t265.size + t266.size + t267.size ≤ 9223372036854775807) = true := decide_eq_true c27
                                      try have c27b2 : (9223372036854775807 < x5_3.size + t265.size + t266.size + t267.size) = False := eq_false (Nat.not_lt.2 c27)
                                      have H' := Aside0.mk H
                                      clear H
                                      have p261 : 0 ≤ (x6_2 : Int) := of_decide_eq_true (by first | (with_reducible assumption) | assumption)
                                      have q261 : x6_2 < (l0.length : Int) := of_decide_eq_true (by first | (with_reducible assumption) | assumption)
                                      obtain ⟨ad261, A261_1, c261_1, e261, hx261_0, hx261_1, hl261_1, hi261_1⟩ := at_T57 HR0.out x6_2 p261 q261
                                      obtain rfl : ad259 = ad261 := (by injection e261)
                                      replace hx261_0 := (HB.out.cell (World.block_lt_of_cell? w _ hx261_0)).trans hx261_0
                                      replace hx261_1 := (HB.out.cell (World.block_lt_of_cell? w _ hx261_1)).trans hx261_1
                                      have HR261_1 := Aside0.mk hi261_1
                                      have HC261_1 := Aside0.mk hl261_1
                                      clear hi261_1 hl261_1
                                      replace p261 := eq_true p261
                                      replace q261 := eq_true q261
                                      have p262 : 0 ≤ (x6_2 : Int) := of_decide_eq_true (by first | (with_reducible assumption) | assumption)
                                      have q262 : x6_2 < (l0.length : Int) := of_decide_eq_true (by first | (with_reducible assumption) | assumption)
                                      obtain ⟨ad262, A262_1, c262_1, e262, hx262_0, hx262_1, hl262_1, hi262_1⟩ := at_T57 HR0.out x6_2 p262 q262
                                      obtain rfl : ad259 = ad262 := (by injection e262)
                                      replace hx262_0 := (HB.out.cell (World.block_lt_of_cell? w _ hx262_0)).trans hx262_0
                                      replace hx262_1 := (HB.out.cell (World.block_lt_of_cell? w _ hx262_1)).trans hx262_1
                                      have HR262_1 := Aside0.mk hi262_1
                                      have HC262_1 := Aside0.mk hl262_1
                                      clear hi262_1 hl262_1
                                      replace p262 := eq_true p262
                                      replace q262 := eq_true q262
                                      have ea_ := Option.some.inj (hx261_1.symm.trans hx262_1)
                                      injection ea_ with ea_ en_ ec_
                                      subst ea_
                                      subst ec_
                                      clear en_
                                      have p263 : 0 ≤ (x8_3 : Int) := of_decide_eq_true (by first | (with_reducible assumption) | assumption)
                                      have q263 : x8_3 < (((rd_T57 l0 x6_2).f1).length : Int) := of_decide_eq_true (by first | (with_reducible assumption) | assumption)
                                      obtain ⟨ad263, e263, hx263_0, hx263_1, hx263_2⟩ := at_T59 HR262_1.out x8_3 p263 q263
                                      cases e263
                                      replace hx263_0 := (HB.out.cell (World.block_lt_of_cell? w _ hx263_0)).trans hx263_0
                                      replace hx263_1 := (HB.out.cell (World.block_lt_of_cell? w _ hx263_1)).trans hx263_1
                                      replace hx263_2 := (HB.out.cell (World.block_lt_of_cell? w _ hx263_2)).trans hx263_2
                                      replace p263 := eq_true p263
                                      replace q263 := eq_true q263
                                      try go_wp2_with (first | ((with_reducible refine gate_dst (N := 9) rfl ?_); refine box_event ?hg (N := 9) ?hd (cs := #[.int .i64 0, .int .i64 0, .int .i64 0]) (t := 59) ?hr ?_; (case hd => rfl); (case hg => rfl); (case hr => first | (go_simp; done) | (go_simp; rfl)); intro gb264 hg w28 hbox hb; have n0_ := Aside0.mk (below_step (by repeat (first | (with_reducible first | exact HB.out | apply below_alloc | apply pw_below_drewN | apply below_drew1) | exact HB.out)) hb); have n1_ := Aside0.mk (hbox); have n2_ := Aside0.mk ((by rw [hg]; exact (below_size (by repeat (first | (with_reducible first | exact HB.out | apply below_alloc | apply pw_below_drewN | apply below_drew1) | exact HB.out))) : w.heap.size ≤ gb264)); have n3_ := Aside0.mk ((by rw [hg]; exact (below_size (by repeat (first | (with_reducible first | exact HB.out | apply below_alloc | apply pw_below_drewN | apply below_drew1) | exact HB.out))) : w.heap.size ≤ gb264)); clear HB; have HB := n0_; have BK264 := n1_; have GW264 := n2_; have GE264 := n3_; clear n0_ n1_ n2_ n3_; clear hb hbox hg; have hcz29_0 : w28.cell? ⟨gb264, 0, none⟩ = some (.int .i64 0) := (blk_cell BK264.out 0).trans rfl; have hcz29_1 : w28.cell? ⟨gb264, 1, none⟩ = some (.int .i64 0) := (blk_cell BK264.out 1).trans rfl; have hcz29_2 : w28.cell? ⟨gb264, 2, none⟩ = some (.int .i64 0) := (blk_cell BK264.out 2).trans rfl; have hfz29_0 := blk_frozen BK264.out 0; have hfz29_1 := blk_frozen BK264.out 1; have hfz29_2 := blk_frozen BK264.out 2))
                                      have n0_ : Aside0 ((((w28.setCell ⟨gb264, 0, none⟩ (.int .i64 ((rd_T59 ((rd_T57 l0 x6_2).f1) x8_3).f0))).setCell ⟨gb264, 1, none⟩ (.int .i64 ((rd_T59 ((rd_T57 l0 x6_2).f1) x8_3).f1))).setCell ⟨gb264, 2, none⟩ (.int .i64 ((rd_T59 ((rd_T57 l0 x6_2).f1) x8_3).f2))).heap[gb264]? = some (.cells #[.int .i64 ((rd_T59 ((rd_T57 l0 x6_2).f1) x8_3).f0), .int .i64 ((rd_T59 ((rd_T57 l0 x6_2).f1) x8_3).f1), .int .i64 ((rd_T59 ((rd_T57 l0 x6_2).f1) x8_3).f2)] 59 (0, 0))) := ⟨by (with_reducible repeat (first | refine blk_drewN ?_ _ | refine blk_drew ?_ | refine blk_alloc ?_ _)); refine blk_put (cs := #[.int .i64 ((rd_T59 ((rd_T57 l0 x6_2).f1) x8_3).f0), .int .i64 ((rd_T59 ((rd_T57 l0 x6_2).f1) x8_3).f1), .int .i64 0]) ?_ 2 _ rfl; (with_reducible repeat (first | refine blk_drewN ?_ _ | refine blk_drew ?_ | refine blk_alloc ?_ _)); refine blk_put (cs := #[.int .i64 ((rd_T59 ((rd_T57 l0 x6_2).f1) x8_3).f0), .int .i64 0, .int .i64 0]) ?_ 1 _ rfl; (with_reducible repeat (first | refine blk_drewN ?_ _ | refine blk_drew ?_ | refine blk_alloc ?_ _)); refine blk_put (cs := #[.int .i64 0, .int .i64 0, .int .i64 0]) ?_ 0 _ rfl; (with_reducible repeat (first | refine blk_drewN ?_ _ | refine blk_drew ?_ | refine blk_alloc ?_ _)); exact BK264.out⟩
                                      have n1_ : Aside0 (Below w.heap.size w (((w28.setCell ⟨gb264, 0, none⟩ (.int .i64 ((rd_T59 ((rd_T57 l0 x6_2).f1) x8_3).f0))).setCell ⟨gb264, 1, none⟩ (.int .i64 ((rd_T59 ((rd_T57 l0 x6_2).f1) x8_3).f1))).setCell ⟨gb264, 2, none⟩ (.int .i64 ((rd_T59 ((rd_T57 l0 x6_2).f1) x8_3).f2)))) := ⟨by repeat (first | (with_reducible first | exact HB.out | apply below_alloc | apply pw_below_drewN | apply below_drew1 | refine below_set ?_ GE264.out) | exact HB.out)⟩
                                      (try clear BK264)
                                      (try clear HB)
                                      generalize (((w28.setCell ⟨gb264, 0, none⟩ (.int .i64 ((rd_T59 ((rd_T57 l0 x6_2).f1) x8_3).f0))).setCell ⟨gb264, 1, none⟩ (.int .i64 ((rd_T59 ((rd_T57 l0 x6_2).f1) x8_3).f1))).setCell ⟨gb264, 2, none⟩ (.int .i64 ((rd_T59 ((rd_T57 l0 x6_2).f1) x8_3).f2))) = w30 at n0_ n1_ ⊢
                                      have BK264 := n0_
                                      have HB := n1_
                                      clear n0_ n1_
                                      have n0_ := Aside0.mk (blk_drew BK264.out)
                                      have n1_ := Aside0.mk (below_drew1 HB.out)
                                      clear BK264
                                      clear HB
                                      have BK264 := n0_
                                      have HB := n1_
                                      clear n0_ n1_
                                      refine start_ (n := 16) (S := fun w' => w'.cell? ⟨gb264, 0, none⟩ = some (.int .i64 ((rd_T59 ((rd_T57 l0 x6_2).f1) x8_3).f0)) ∧ w'.cell? ⟨gb264, 1, none⟩ = some (.int .i64 ((rd_T59 ((rd_T57 l0 x6_2).f1) x8_3).f1)) ∧ w'.cell? ⟨gb264, 2, none⟩ = some (.int .i64 ((rd_T59 ((rd_T57 l0 x6_2).f1) x8_3).f2))) (ds := []) #[false, false, false, false, false, false, false, false, false, false, false, false, false, false, false, false] (by kernel_rfl) rfl rfl ⟨(blk_cell BK264.out 0).trans rfl, (blk_cell BK264.out 1).trans rfl, (blk_cell BK264.out 2).trans rfl⟩ (fun hHeld => ?_); refine with_tabW regattaref16_Bytes.tab17 regattaref16_Bytes.bits17 (fun HT_ HW_ => ?_)
                                      generalize w30.drew = w31 at BK264 HB hHeld ⊢
                                      refine pure_ (i := 0) (N := some 60) (v := ?_) (a' := ?_) #[true, false, false, false, false, false, false, false, false, false, false, false, false, false, false, false] rfl rfl (any_of HT_.out (by kernel_rfl)) (fun _ _ _ h => h) (Or.inl ⟨by rfl, ?_⟩) ?_ ?_
                                      rotate_left
                                      · intro w'
                                        go_simp
                                        with_reducible rfl
                                      rotate_left
                                      · simp only [Act.put, List.setIfInBounds_toArray, List.set_cons_zero, List.set_cons_succ, i64_w, i32_w]
                                        rfl
                                      refine pure_ (i := 1) (N := some 61) (v := ?_) (a' := ?_) #[true, true, false, false, false, false, false, false, false, false, false, false, false, false, false, false] rfl rfl (any_of HT_.out (by kernel_rfl)) (fun _ _ _ h => h) (Or.inl ⟨by rfl, ?_⟩) ?_ ?_
                                      rotate_left
                                      · intro w'
                                        go_simp
                                        with_reducible rfl
                                      rotate_left
                                      · simp only [Act.put, List.setIfInBounds_toArray, List.set_cons_zero, List.set_cons_succ, i64_w, i32_w]
                                        rfl
                                      refine pure_ (i := 3) (N := some 63) (v := ?_) (a' := ?_) #[true, true, false, true, false, false, false, false, false, false, false, false, false, false, false, false] rfl rfl (any_of HT_.out (by kernel_rfl)) (fun _ _ _ h => h) (Or.inl ⟨by rfl, ?_⟩) ?_ ?_
                                      rotate_left
                                      · intro w'
                                        go_simp
                                        with_reducible rfl
                                      rotate_left
                                      · simp only [Act.put, List.setIfInBounds_toArray, List.set_cons_zero, List.set_cons_succ, i64_w, i32_w]
                                        rfl
                                      refine pure_ (i := 7) (N := some 67) (v := ?_) (a' := ?_) #[true, true, false, true, false, false, false, true, false, false, false, false, false, false, false, false] rfl rfl (any_of HT_.out (by kernel_rfl)) (fun _ _ _ h => h) (Or.inl ⟨by rfl, ?_⟩) ?_ ?_
                                      rotate_left
                                      · intro w'
                                        go_simp
                                        with_reducible rfl
                                      rotate_left
                                      · simp only [Act.put, List.setIfInBounds_toArray, List.set_cons_zero, List.set_cons_succ, i64_w, i32_w]
                                        rfl
                                      refine pure_ (i := 11) (N := some 71) (v := ?_) (a' := ?_) #[true, true, false, true, false, false, false, true, false, false, false, true, false, false, false, false] rfl rfl (any_of HT_.out (by kernel_rfl)) (fun _ _ _ h => h) (Or.inl ⟨by rfl, ?_⟩) ?_ ?_
                                      rotate_left
                                      · intro w'
                                        go_simp
                                        with_reducible rfl
                                      rotate_left
                                      · simp only [Act.put, List.setIfInBounds_toArray, List.set_cons_zero, List.set_cons_succ, i64_w, i32_w]
                                        rfl
                                      refine take_ (i := 2) (N := some 62) (v := ?_) (a' := ?_) #[true, true, true, true, false, false, false, true, false, false, false, true, false, false, false, false] rfl rfl (take_ofW HT_.out HW_.out (by kernel_rfl)) (fun _ _ _ h => h) (Or.inl ⟨by rfl, ?_⟩) hHeld ?_ ?_
                                      rotate_left
                                      · rintro w' ⟨s0, s1, s2⟩
                                        go_simp
                                        with_reducible rfl
                                      rotate_left
                                      · simp only [Act.put, List.setIfInBounds_toArray, List.set_cons_zero, List.set_cons_succ, i64_w, i32_w]
                                        rfl
                                      refine pure_ (i := 4) (N := some 64) (v := ?_) (a' := ?_) #[true, true, true, true, true, false, false, true, false, false, false, true, false, false, false, false] rfl rfl (any_of HT_.out (by kernel_rfl)) (fun _ _ _ h => h) (Or.inl ⟨by rfl, ?_⟩) ?_ ?_
                                      rotate_left
                                      · intro w'
                                        go_simp
                                        with_reducible rfl
                                      rotate_left
                                      · simp only [Act.put, List.setIfInBounds_toArray, List.set_cons_zero, List.set_cons_succ, i64_w, i32_w]
                                        rfl
                                      refine take_ (i := 8) (N := some 68) (v := ?_) (a' := ?_) #[true, true, true, true, true, false, false, true, true, false, false, true, false, false, false, false] rfl rfl (take_ofW HT_.out HW_.out (by kernel_rfl)) (fun _ _ _ h => h) (Or.inl ⟨by rfl, ?_⟩) hHeld ?_ ?_
                                      rotate_left
                                      · rintro w' ⟨s0, s1, s2⟩
                                        go_simp
                                        with_reducible rfl
                                      rotate_left
                                      · simp only [Act.put, List.setIfInBounds_toArray, List.set_cons_zero, List.set_cons_succ, i64_w, i32_w]
                                        rfl
                                      refine take_ (i := 12) (N := some 72) (v := ?_) (a' := ?_) #[true, true, true, true, true, false, false, true, true, false, false, true, true, false, false, false] rfl rfl (take_ofW HT_.out HW_.out (by kernel_rfl)) (fun _ _ _ h => h) (Or.inl ⟨by rfl, ?_⟩) hHeld ?_ ?_
                                      rotate_left
                                      · rintro w' ⟨s0, s1, s2⟩
                                        go_simp
                                        with_reducible rfl
                                      rotate_left
                                      · simp only [Act.put, List.setIfInBounds_toArray, List.set_cons_zero, List.set_cons_succ, i64_w, i32_w]
                                        rfl
                                      refine one_ (i := 5) (N := some 65) #[true, true, true, true, true, true, false, true, true, false, false, true, true, false, false, false] rfl rfl (one_of HT_.out (by kernel_rfl)) (by decide) (fun K hK => ?_)
                                      refine goes_ Try.func54 (by kernel_rfl) rfl #[.int .i64 (wrap64 (((rd_T59 ((rd_T57 l0 x6_2).f1) x8_3).f1) - x7_3))] (by rfl) rfl rfl (by (try simp only [List.map_toArray, List.map_cons, List.map_nil]); first | done | rfl | (simp only [List.length_drop, List.length_take]; rfl)) ?_
                                      with_reducible refine (regattaref16_Number.calls k3 (wrap64 (((rd_T59 ((rd_T57 l0 x6_2).f1) x8_3).f1) - x7_3)) t265 _ A22.out).mono ?_
                                      rintro e w32 ⟨rfl, hb⟩
                                      refine ⟨_, rfl, ?_⟩
                                      have n0_ := Aside0.mk (blk_below (g := gb264) (o := .cells #[.int .i64 ((rd_T59 ((rd_T57 l0 x6_2).f1) x8_3).f0), .int .i64 ((rd_T59 ((rd_T57 l0 x6_2).f1) x8_3).f1), .int .i64 ((rd_T59 ((rd_T57 l0 x6_2).f1) x8_3).f2)] 59 (0, 0)) (by (with_reducible repeat (first | refine blk_drewN ?_ _ | refine blk_drew ?_ | refine blk_alloc ?_ _)); exact BK264.out) hb)
                                      have n1_ := Aside0.mk (below_step (by repeat (first | (with_reducible first | exact HB.out | apply below_alloc | apply pw_below_drewN | apply below_drew1 | refine below_set ?_ GE264.out) | exact HB.out)) hb)
                                      clear BK264
                                      clear HB
                                      have BK264 := n0_
                                      have HB := n1_
                                      clear n0_ n1_
                                      (try clear hb)
                                      (try clear hb2)
                                      (try clear hk)
                                      (try clear hi)
                                      refine hK.out _ _ ⟨(blk_cell BK264.out 0).trans rfl, (blk_cell BK264.out 1).trans rfl, (blk_cell BK264.out 2).trans rfl⟩ (fun hHeld => ?_)
                                      clear hK K
                                      refine norm_ (a' := ?_) ?_ ?_
                                      rotate_left
                                      · show Act.put _ (some 65) _ = _
                                        simp only [Act.put, List.setIfInBounds_toArray, List.set_cons_zero, List.set_cons_succ, i64_w, i32_w]
                                        rfl
                                      refine pure_ (i := 6) (N := some 66) (v := ?_) (a' := ?_) #[true, true, true, true, true, true, true, true, true, false, false, true, true, false, false, false] rfl rfl (any_of HT_.out (by kernel_rfl)) (fun _ _ _ h => h) (Or.inl ⟨by rfl, ?_⟩) ?_ ?_
                                      rotate_left
                                      · intro w'
                                        go_simp
                                        with_reducible rfl
                                      rotate_left
                                      · simp only [Act.put, List.setIfInBounds_toArray, List.set_cons_zero, List.set_cons_succ, i64_w, i32_w]
                                        rfl
                                      refine one_ (i := 9) (N := some 69) #[true, true, true, true, true, true, true, true, true, true, false, true, true, false, false, false] rfl rfl (one_of HT_.out (by kernel_rfl)) (by decide) (fun K hK => ?_)
                                      refine goes_ Try.func54 (by kernel_rfl) rfl #[.int .i64 ((rd_T59 ((rd_T57 l0 x6_2).f1) x8_3).f0)] (by rfl) rfl rfl (by (try simp only [List.map_toArray, List.map_cons, List.map_nil]); first | done | rfl | (simp only [List.length_drop, List.length_take]; rfl)) ?_
                                      with_reducible refine (regattaref16_Number.calls k3 ((rd_T59 ((rd_T57 l0 x6_2).f1) x8_3).f0) t266 _ A24.out).mono ?_
                                      rintro e w33 ⟨rfl, hb⟩
                                      refine ⟨_, rfl, ?_⟩
                                      have n0_ := Aside0.mk (blk_below (g := gb264) (o := .cells #[.int .i64 ((rd_T59 ((rd_T57 l0 x6_2).f1) x8_3).f0), .int .i64 ((rd_T59 ((rd_T57 l0 x6_2).f1) x8_3).f1), .int .i64 ((rd_T59 ((rd_T57 l0 x6_2).f1) x8_3).f2)] 59 (0, 0)) (by (with_reducible repeat (first | refine blk_drewN ?_ _ | refine blk_drew ?_ | refine blk_alloc ?_ _)); exact BK264.out) hb)
                                      have n1_ := Aside0.mk (below_step (by repeat (first | (with_reducible first | exact HB.out | apply below_alloc | apply pw_below_drewN | apply below_drew1 | refine below_set ?_ GE264.out) | exact HB.out)) hb)
                                      clear BK264
                                      clear HB
                                      have BK264 := n0_
                                      have HB := n1_
                                      clear n0_ n1_
                                      (try clear hb)
                                      (try clear hb2)
                                      (try clear hk)
                                      (try clear hi)
                                      refine hK.out _ _ ⟨(blk_cell BK264.out 0).trans rfl, (blk_cell BK264.out 1).trans rfl, (blk_cell BK264.out 2).trans rfl⟩ (fun hHeld => ?_)
                                      clear hK K
                                      refine norm_ (a' := ?_) ?_ ?_
                                      rotate_left
                                      · show Act.put _ (some 69) _ = _
                                        simp only [Act.put, List.setIfInBounds_toArray, List.set_cons_zero, List.set_cons_succ, i64_w, i32_w]
                                        rfl
                                      refine pure_ (i := 10) (N := some 70) (v := ?_) (a' := ?_) #[true, true, true, true, true, true, true, true, true, true, true, true, true, false, false, false] rfl rfl (any_of HT_.out (by kernel_rfl)) (fun _ _ _ h => h) (Or.inl ⟨by rfl, ?_⟩) ?_ ?_
                                      rotate_left
                                      · intro w'
                                        go_simp
                                        with_reducible rfl
                                      rotate_left
                                      · simp only [Act.put, List.setIfInBounds_toArray, List.set_cons_zero, List.set_cons_succ, i64_w, i32_w]
                                        rfl
                                      refine one_ (i := 13) (N := some 73) #[true, true, true, true, true, true, true, true, true, true, true, true, true, true, false, false] rfl rfl (one_of HT_.out (by kernel_rfl)) (by decide) (fun K hK => ?_)
                                      refine goes_ Try.func54 (by kernel_rfl) rfl #[.int .i64 ((rd_T59 ((rd_T57 l0 x6_2).f1) x8_3).f2)] (by rfl) rfl rfl (by (try simp only [List.map_toArray, List.map_cons, List.map_nil]); first | done | rfl | (simp only [List.length_drop, List.length_take]; rfl)) ?_
                                      with_reducible refine (regattaref16_Number.calls k3 ((rd_T59 ((rd_T57 l0 x6_2).f1) x8_3).f2) t267 _ A26.out).mono ?_
                                      rintro e w34 ⟨rfl, hb⟩
                                      refine ⟨_, rfl, ?_⟩
                                      have n0_ := Aside0.mk (blk_below (g := gb264) (o := .cells #[.int .i64 ((rd_T59 ((rd_T57 l0 x6_2).f1) x8_3).f0), .int .i64 ((rd_T59 ((rd_T57 l0 x6_2).f1) x8_3).f1), .int .i64 ((rd_T59 ((rd_T57 l0 x6_2).f1) x8_3).f2)] 59 (0, 0)) (by (with_reducible repeat (first | refine blk_drewN ?_ _ | refine blk_drew ?_ | refine blk_alloc ?_ _)); exact BK264.out) hb)
                                      have n1_ := Aside0.mk (below_step (by repeat (first | (with_reducible first | exact HB.out | apply below_alloc | apply pw_below_drewN | apply below_drew1 | refine below_set ?_ GE264.out) | exact HB.out)) hb)
                                      clear BK264
                                      clear HB
                                      have BK264 := n0_
                                      have HB := n1_
                                      clear n0_ n1_
                                      (try clear hb)
                                      (try clear hb2)
                                      (try clear hk)
                                      (try clear hi)
                                      refine hK.out _ _ ⟨(blk_cell BK264.out 0).trans rfl, (blk_cell BK264.out 1).trans rfl, (blk_cell BK264.out 2).trans rfl⟩ (fun hHeld => ?_)
                                      clear hK K
                                      refine norm_ (a' := ?_) ?_ ?_
                                      rotate_left
                                      · show Act.put _ (some 73) _ = _
                                        simp only [Act.put, List.setIfInBounds_toArray, List.set_cons_zero, List.set_cons_succ, i64_w, i32_w]
                                        rfl
                                      refine pure_ (i := 14) (N := some 74) (v := ?_) (a' := ?_) #[true, true, true, true, true, true, true, true, true, true, true, true, true, true, true, false] rfl rfl (any_of HT_.out (by kernel_rfl)) (fun _ _ _ h => h) (Or.inl ⟨by rfl, ?_⟩) ?_ ?_
                                      rotate_left
                                      · intro w'
                                        go_simp
                                        with_reducible rfl
                                      rotate_left
                                      · simp only [Act.put, List.setIfInBounds_toArray, List.set_cons_zero, List.set_cons_succ, i64_w, i32_w]
                                        rfl
                                      refine pure_ (i := 15) (N := some 5) (v := ?_) (a' := ?_) #[true, true, true, true, true, true, true, true, true, true, true, true, true, true, true, true] rfl rfl (any_of HT_.out (by kernel_rfl)) (fun _ _ _ h => h) (Or.inl ⟨by rfl, ?_⟩) ?_ ?_
                                      rotate_left
                                      · intro w'
                                        go_simp
                                        with_reducible rfl
                                      rotate_left
                                      · simp only [Act.put, List.setIfInBounds_toArray, List.set_cons_zero, List.set_cons_succ, i64_w, i32_w]
                                        rfl
                                      refine done_ (done_of HT_.out (by kernel_rfl)) ?_
                                      have hcz35_0 : w34.cell? ⟨gb264, 0, none⟩ = some (.int .i64 ((rd_T59 ((rd_T57 l0 x6_2).f1) x8_3).f0)) := (blk_cell BK264.out 0).trans rfl
                                      have hcz35_1 : w34.cell? ⟨gb264, 1, none⟩ = some (.int .i64 ((rd_T59 ((rd_T57 l0 x6_2).f1) x8_3).f1)) := (blk_cell BK264.out 1).trans rfl
                                      have hcz35_2 : w34.cell? ⟨gb264, 2, none⟩ = some (.int .i64 ((rd_T59 ((rd_T57 l0 x6_2).f1) x8_3).f2)) := (blk_cell BK264.out 2).trans rfl
                                      have hfz35_0 := blk_frozen BK264.out 0
                                      have hfz35_1 := blk_frozen BK264.out 1
                                      have hfz35_2 := blk_frozen BK264.out 2
                                      try go_wp2
                                      go_roundg k3
                                      case measure => have := HJ3.out; have := HK2.out; have := HK3.out; omega
                                      case rel => exact ⟨(((x5_3 ++ t265) ++ t266) ++ t267), ((rd_T59 ((rd_T57 l0 x6_2).f1) x8_3).f1), (wrap64 (x8_3 + 1)), (by first | rfl | (simp; done) | (simp [*]; done)), (by first | rfl | (simp; done) | (simp [*]; done)), (by first | rfl | (simp; done) | (simp [*]; done)), H', ⟨by have := HJ3.out; have := HK2.out; have := HK3.out; omega⟩, ⟨by repeat (first | (with_reducible first | exact HB.out | apply below_alloc | apply pw_below_drewN | apply below_drew1 | refine below_set ?_ GE264.out) | exact HB.out)⟩⟩
                                    · rw [if_neg c27] at H
                                      exact absurd H (by simp)
                                  · rw [if_neg c25] at H
                                    exact absurd H (by simp)
                                · rw [if_neg c23] at H
                                  exact absurd H (by simp)
                              · rw [if_neg c21] at H
                                exact absurd H (by simp)
                            · rw [if_neg c20] at H
                              have c20b0 : decide (x8_3 < (((rd_T57 l0 x6_2).f1).length : Int)) = false := decide_eq_false c20
                              clear c20
                              have H' := Aside0.mk H
                              clear H
                              have p261 : 0 ≤ (x6_2 : Int) := of_decide_eq_true (by first | (with_reducible assumption) | assumption)
                              have q261 : x6_2 < (l0.length : Int) := of_decide_eq_true (by first | (with_reducible assumption) | assumption)
                              obtain ⟨ad261, A261_1, c261_1, e261, hx261_0, hx261_1, hl261_1, hi261_1⟩ := at_T57 HR0.out x6_2 p261 q261
                              obtain rfl : ad259 = ad261 := (by injection e261)
                              replace hx261_0 := (HB.out.cell (World.block_lt_of_cell? w _ hx261_0)).trans hx261_0
                              replace hx261_1 := (HB.out.cell (World.block_lt_of_cell? w _ hx261_1)).trans hx261_1
                              have HR261_1 := Aside0.mk hi261_1
                              have HC261_1 := Aside0.mk hl261_1
                              clear hi261_1 hl261_1
                              replace p261 := eq_true p261
                              replace q261 := eq_true q261
                              go_wp2
                              go_roundg k3
                              case measure => have := HJ3.out; have := HK2.out; have := HK3.out; omega
                              case rel => exact ⟨(x5_3), (wrap64 (x6_2 + 1)), (by first | rfl | (simp; done) | (simp [*]; done)), (by first | rfl | (simp; done) | (simp [*]; done)), H', ⟨by have := HJ3.out; have := HK2.out; have := HK3.out; omega⟩, ⟨by repeat (first | (with_reducible first | exact HB.out | apply below_alloc | apply pw_below_drewN | apply below_drew1) | exact HB.out)⟩⟩
                          · rw [if_neg c19] at H
                            exact absurd H (by simp)
                        · rw [if_neg c18] at H
                          exact absurd H (by simp)
                  · rw [if_neg c16] at H
                    exact absurd H (by simp)
                · rw [if_neg c14] at H
                  exact absurd H (by simp)
              · rw [if_neg c13] at H
                have c13b0 : decide (x6_2 < (l0.length : Int)) = false := decide_eq_false c13
                clear c13
                obtain rfl := Option.some.inj H
                go_wp2
                go_ret
                exact ⟨by first | rfl | (simp [errW_none, errW_some] <;> rfl) | (simp [*, errW_none, errW_some] <;> rfl), by repeat (first | (with_reducible first | exact HB.out | apply below_alloc | apply pw_below_drewN | apply below_drew1) | exact HB.out)⟩
        · rw [if_neg c10] at H
          exact absurd H (by simp)
  · replace c3 := Bool.eq_false_iff.mpr c3
    subst c3
    have H1 : (some (⟨#[]⟩ : ByteArray)) = some r := by rw [if_neg (show ¬ (false = true) by decide)] at H; exact H
    clear H
    have H := H1
    clear H1
    obtain rfl := Option.some.inj H
    go_enter Try.func31, Try.ntmps31
    go_wp2_with (first | ((with_reducible refine gate_callee (f := 47) rfl ?_); refine goesL_ (some 11) rfl rfl Try.func47 (by kernel_rfl) rfl #[.slice A0 l0.length c0, .int .i64 1024] rfl (by (try simp only [List.map_toArray, List.map_cons, List.map_nil]); first | done | rfl | (simp only [List.length_drop, List.length_take]; rfl)) ?_; (with_reducible refine (regattaref16_Row.calls k _ _ l0 1024 false _ ?side1 ?side2 A2.out).mono ?_); (case side1 => repeat (first | exact HR0.out | (with_reducible refine Kd.C_alloc ?_ _) | (with_reducible refine Kd.C_drewN ?_ _) | (with_reducible refine Kd.C_drew ?_))); (case side2 => exact HC0.out); rintro e w36 ⟨rfl, hb⟩; refine ⟨_, rfl, ?_⟩; have n0_ := Aside0.mk (below_step (by repeat (first | (with_reducible first | exact HB.out | apply below_alloc | apply pw_below_drewN | apply below_drew1) | exact HB.out)) hb); clear HB; have HB := n0_; clear n0_; (try clear hb); (try clear hb2); (try clear hk); (try clear hi)))
    go_ret
    exact ⟨by first | rfl | (simp [errW_none, errW_some] <;> rfl) | (simp [*, errW_none, errW_some] <;> rfl), by repeat (first | (with_reducible first | exact HB.out | apply below_alloc | apply pw_below_drewN | apply below_drew1) | exact HB.out)⟩

end Go.Proofs.Ytlblianpbjhmoaa.PGs
