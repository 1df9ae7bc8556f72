-- Written by wip/rprint.py of this session's repo (the kit's printer with patches), out of the translation. Not trusted: Lean checks it.
import Derived.Test.YtlblianpbjhmoaaPGsx0
import Derived.Test.YtlblianpbjhmoaaPGsx25
import Derived.Test.YtlblianpbjhmoaaPGsx27
import Derived.Test.YtlblianpbjhmoaaPGsx29
import Derived.Test.YtlblianpbjhmoaaPGsx30
import Derived.Test.YtlblianpbjhmoaaPGsx37
namespace Go.Proofs.Ytlblianpbjhmoaa.PGs
open Go.RowKit Go.Proofs.YtlblianpbjhmoaaW.PrintWords Go.Proofs.YtlblianpbjhmoaaW.PrintLast Go.Proofs.YtlblianpbjhmoaaW.PrintMore Go.Proofs.Ytlblianpbjhmoaa.MWords
attribute [local go_sem] max2_int min2_int max_two min_two max_three min_three max_four min_four   -- for this text's walks alone
set_option linter.unusedVariables false
set_option linter.unusedSimpArgs false

/-! ### regattalaw16_SlotCounts: function 7 -/
def regattalaw16_SlotCounts.l0 : Nat → Bool → List (S57) → Int → Int → Int → Option (Bool)
  | 0, _, _, _, _, _ => none
  | k + 1, x7, x8, x9, x10, x11 => if x11 < 256 then ((slot_Quanta.f k x8 x11).bind fun t345 => ((slot_Moves.f k x8 x11).bind fun t346 => (if t346 < 0 then (some false) else (if t345 = 0 then (if t346 = 0 then (if t345 > 0 then (if t346 > (wrap64 (t345 - 1)) then (some false) else (regattalaw16_SlotCounts.l0 k x7 x8 x9 (wrap64 (x10 + t345)) (wrap64 (x11 + 1)))) else (regattalaw16_SlotCounts.l0 k x7 x8 x9 (wrap64 (x10 + t345)) (wrap64 (x11 + 1)))) else (some false)) else (if t345 > 0 then (if t346 > (wrap64 (t345 - 1)) then (some false) else (regattalaw16_SlotCounts.l0 k x7 x8 x9 (wrap64 (x10 + t345)) (wrap64 (x11 + 1)))) else (regattalaw16_SlotCounts.l0 k x7 x8 x9 (wrap64 (x10 + t345)) (wrap64 (x11 + 1)))))))) else (if x7 = true then (some (x10 == (wrap64 (x9 * (x8.length : Int))))) else (some false))
def regattalaw16_SlotCounts.f (k : Nat) (a0 : Int) (l1 : List (List Int)) (a2 : Int) : Option (Bool) := (regattalaw16_awake.f k).bind fun t340 => ((regattalaw16_made.f k a0 l1).bind fun t341 => ((slot_Empty.f k t341 (wrap64 (64 + (Go.bits .and .i64 a2 15)))).bind fun t344 => (regattalaw16_SlotCounts.l0 k t340 t341 (wrap64 (64 + (Go.bits .and .i64 a2 15))) t344 0)))
theorem regattalaw16_SlotCounts.mono_l : ∀ k, (∀ y0 y1 y2 y3 y4, LeO (regattalaw16_SlotCounts.l0 k y0 y1 y2 y3 y4) (regattalaw16_SlotCounts.l0 (k + 1) y0 y1 y2 y3 y4))
  | 0 => fun _ _ _ _ _ r h => by simp [regattalaw16_SlotCounts.l0] at h
  | k + 1 => by
    have ih0 := regattalaw16_SlotCounts.mono_l k
    · intro y0 y1 y2 y3 y4
      unfold regattalaw16_SlotCounts.l0
      repeat' first
      | (with_reducible exact ih0 _ _ _ _ _)
      | (with_reducible exact regattalaw16_awake.mono _)
      | (with_reducible exact regattalaw16_made.mono _ _ _)
      | (with_reducible exact slot_Empty.mono _ _ _)
      | (with_reducible exact slot_Moves.mono _ _ _)
      | (with_reducible exact slot_Quanta.mono _ _ _)
      | (with_reducible exact LeO.refl _)
      | (with_reducible exact LeO.none _)
      | (with_reducible refine LeO.ite ?_ ?_)
      | (with_reducible refine LeO.bind ?_ (fun _ => ?_))
      | exact ih0 _ _ _ _ _
      | exact regattalaw16_awake.mono _
      | exact regattalaw16_made.mono _ _ _
      | exact slot_Empty.mono _ _ _
      | exact slot_Moves.mono _ _ _
      | exact slot_Quanta.mono _ _ _
      | exact LeO.none _
      | refine LeO.ite ?_ ?_
      | refine LeO.bind ?_ (fun _ => ?_)
theorem regattalaw16_SlotCounts.mono : ∀ a0 a1 a2 k, LeO (regattalaw16_SlotCounts.f k a0 a1 a2) (regattalaw16_SlotCounts.f (k + 1) a0 a1 a2) := by
  intro a0 a1 a2 k
  have ih0 := regattalaw16_SlotCounts.mono_l k
  unfold regattalaw16_SlotCounts.f
  repeat' first
      | (with_reducible exact ih0 _ _ _ _ _)
      | (with_reducible exact regattalaw16_awake.mono _)
      | (with_reducible exact regattalaw16_made.mono _ _ _)
      | (with_reducible exact slot_Empty.mono _ _ _)
      | (with_reducible exact slot_Moves.mono _ _ _)
      | (with_reducible exact slot_Quanta.mono _ _ _)
      | (with_reducible exact LeO.refl _)
      | (with_reducible exact LeO.none _)
      | (with_reducible refine LeO.ite ?_ ?_)
      | (with_reducible refine LeO.bind ?_ (fun _ => ?_))
      | exact ih0 _ _ _ _ _
      | exact regattalaw16_awake.mono _
      | exact regattalaw16_made.mono _ _ _
      | exact slot_Empty.mono _ _ _
      | exact slot_Moves.mono _ _ _
      | exact slot_Quanta.mono _ _ _
      | exact LeO.none _
      | refine LeO.ite ?_ ?_
      | refine LeO.bind ?_ (fun _ => ?_)
set_option maxHeartbeats 8000000 in
set_option maxRecDepth 100000 in
theorem regattalaw16_SlotCounts.calls (k : Nat) (a0 : Int) (A1 : Option Addr) (c1 : Nat) (l1 : List (List Int)) (a2 : Int) (r : Bool) (w : World) (hr_ : Aside0 (r = true)) (hr1 : Kd.C (Kd.slice 3 (Kd.int .i64)) w A1 l1.length l1) (hc1 : l1.length ≤ c1) (h : regattalaw16_SlotCounts.f k a0 l1 a2 = some r) :
    Calls Try.prog 7 #[.int .i64 a0, .slice A1 l1.length c1, .int .i64 a2] w fun e w' => e = .returned (.bool r) ∧ Below w.heap.size w w' := by
  have HR1 := Aside0.mk hr1
  have HC1 := Aside0.mk hc1
  clear hr1 hc1
  have HB := Aside0.mk (Below.refl w.heap.size w)
  have H : ((regattalaw16_awake.f k).bind fun t340 => ((regattalaw16_made.f k a0 l1).bind fun t341 => ((slot_Empty.f k t341 (wrap64 (64 + (Go.bits .and .i64 a2 15)))).bind fun t344 => (regattalaw16_SlotCounts.l0 k t340 t341 (wrap64 (64 + (Go.bits .and .i64 a2 15))) t344 0)))) = some r := h
  clear h
  replace H := Option.bind_eq_some_iff.mp H
  obtain ⟨t340, A40, H⟩ := H
  replace H : ((regattalaw16_made.f k a0 l1).bind fun t341 => ((slot_Empty.f k t341 (wrap64 (64 + (Go.bits .and .i64 a2 15)))).bind fun t344 => (regattalaw16_SlotCounts.l0 k t340 t341 (wrap64 (64 + (Go.bits .and .i64 a2 15))) t344 0))) = some r := H
  have A4 := Aside0.mk A40
  clear A40
  replace H := Option.bind_eq_some_iff.mp H
  obtain ⟨t341, A50, H⟩ := H
  replace H : ((slot_Empty.f k t341 (wrap64 (64 + (Go.bits .and .i64 a2 15)))).bind fun t344 => (regattalaw16_SlotCounts.l0 k t340 t341 (wrap64 (64 + (Go.bits .and .i64 a2 15))) t344 0)) = some r := H
  have A5 := Aside0.mk A50
  clear A50
  replace H := Option.bind_eq_some_iff.mp H
  obtain ⟨t344, A60, H⟩ := H
  replace H : (regattalaw16_SlotCounts.l0 k t340 t341 (wrap64 (64 + (Go.bits .and .i64 a2 15))) t344 0) = some r := H
  have A6 := Aside0.mk A60
  clear A60
  have H' := Aside0.mk H
  clear H
  go_enter Try.func7, Try.ntmps7
  go_wp2_with (first | ((with_reducible refine gate_callee (f := 23) rfl ?_); refine goesL_ (some 14) rfl rfl Try.func23 (by kernel_rfl) rfl #[] rfl (by (try simp only [List.map_toArray, List.map_cons, List.map_nil]); first | done | rfl | (simp only [List.length_drop, List.length_take]; rfl)) ?_; (with_reducible refine (regattalaw16_awake.calls k  t340 _ A4.out).mono ?_); rintro e w7 ⟨rfl, hb⟩; refine ⟨_, rfl, ?_⟩; have n0_ := Aside0.mk (below_step (by repeat (first | (with_reducible first | exact HB.out | apply below_alloc | apply pw_below_drewN | apply below_drew1) | exact HB.out)) hb); clear HB; have HB := n0_; clear n0_; (try clear hb); (try clear hb2); (try clear hk); (try clear hi)) | ((with_reducible refine gate_callee (f := 26) rfl ?_); refine goesL_ (some 17) rfl rfl Try.func26 (by kernel_rfl) rfl #[.int .i64 a0, .slice A1 l1.length c1] rfl (by (try simp only [List.map_toArray, List.map_cons, List.map_nil]); first | done | rfl | (simp only [List.length_drop, List.length_take]; rfl)) ?_; (with_reducible refine (regattalaw16_made.calls k a0 _ _ l1 t341 _ ?side1 ?side2 A5.out).mono ?_); (case side1 => repeat (first | exact (Kd.C_below HR1.out HB.out) | (with_reducible refine Kd.C_alloc ?_ _) | (with_reducible refine Kd.C_drewN ?_ _) | (with_reducible refine Kd.C_drew ?_))); (case side2 => exact HC1.out); rintro e w8 ⟨v342, rfl, ho0, hb⟩; refine ⟨_, rfl, ?_⟩; have n0_ := Aside0.mk (Kd.S_lower ho0 (below_size (by repeat (first | (with_reducible first | exact HB.out | apply below_alloc | apply pw_below_drewN | apply below_drew1) | exact HB.out)))); have n1_ := Aside0.mk (below_step (by repeat (first | (with_reducible first | exact HB.out | apply below_alloc | apply pw_below_drewN | apply below_drew1) | exact HB.out)) hb); clear HB; have HO343 := n0_; have HB := n1_; clear n0_ n1_; (try clear hb); (try clear hb2); (try clear hk); (try clear hi); (try clear ho0); obtain ⟨Ao9, co9, eo9⟩ := Kd.S_slice HO343.out; subst eo9) | ((with_reducible refine gate_callee (f := 27) rfl ?_); refine goesL_ (some 23) rfl rfl Try.func27 (by kernel_rfl) rfl #[.slice Ao9 t341.length co9, .int .i64 (wrap64 (64 + (Go.bits .and .i64 a2 15)))] rfl (by (try simp only [List.map_toArray, List.map_cons, List.map_nil]); first | done | rfl | (simp only [List.length_drop, List.length_take]; rfl)) ?_; (with_reducible refine (slot_Empty.calls k _ _ t341 (wrap64 (64 + (Go.bits .and .i64 a2 15))) t344 _ ?side1 ?side2 A6.out).mono ?_); (case side1 => repeat (first | exact (Kd.S_reads' HO343.out).2.2 | (with_reducible refine Kd.C_alloc ?_ _) | (with_reducible refine Kd.C_drewN ?_ _) | (with_reducible refine Kd.C_drew ?_))); (case side2 => exact (Kd.S_reads' HO343.out).2.1); rintro e w10 ⟨rfl, hb⟩; refine ⟨_, rfl, ?_⟩; have n0_ := Aside0.mk (Kd.S_below (by (with_reducible repeat (first | apply Kd.S_alloc | apply Kd.S_drewN | apply Kd.S_drew)); exact HO343.out) hb); have n1_ := Aside0.mk (below_step (by repeat (first | (with_reducible first | exact HB.out | apply below_alloc | apply pw_below_drewN | apply below_drew1) | exact HB.out)) hb); clear HO343; clear HB; have HO343 := n0_; have HB := n1_; clear n0_ n1_; (try clear hb); (try clear hb2); (try clear hk); (try clear hi)))
  go_loopg [10, 11] k (fun kq v10 v11 w' => ∃ (x10_1 : Int) (x11_1 : Int), v10 = .int .i64 x10_1 ∧ v11 = .int .i64 x11_1 ∧ Aside0 (regattalaw16_SlotCounts.l0 kq t340 t341 (wrap64 (64 + (Go.bits .and .i64 a2 15))) x10_1 x11_1 = some r) ∧ Aside0 (kq ≤ k) ∧ Aside0 (Kd.S k57 57 w' w.heap.size (fun _ => True) (.slice Ao9 t341.length co9) t341) ∧ Aside0 (Below w.heap.size w w'))
  case atStart => exact ⟨(t344), (0), (by first | rfl | (simp; done) | (simp [*]; done)), (by first | rfl | (simp; done) | (simp [*]; done)), H', ⟨Nat.le_refl _⟩, ⟨by (with_reducible repeat (first | apply Kd.S_alloc | apply Kd.S_drewN | apply Kd.S_drew)); exact HO343.out⟩, ⟨by repeat (first | (with_reducible first | exact HB.out | apply below_alloc | apply pw_below_drewN | apply below_drew1) | exact HB.out)⟩⟩
  case round =>
    clear H'
    try clear c1
    try clear c2
    try clear p2
    try clear p6
    try clear c7
    obtain ⟨x10_1, x11_1, rfl, rfl, HA, HK1, HO_8, HB⟩ := hrel
    cases gk with
    | zero => exact absurd HA.out (by simp [regattalaw16_SlotCounts.l0])
    | succ k1 =>
      have H := HA.out
      clear HA
      simp only [regattalaw16_SlotCounts.l0] at H
      by_cases c11 : x11_1 < 256
      · rw [if_pos c11] at H
        have c11b0 : decide (x11_1 < 256) = true := decide_eq_true c11
        clear c11
        replace H := Option.bind_eq_some_iff.mp H
        obtain ⟨t345, A120, H⟩ := H
        replace H : ((slot_Moves.f k1 t341 x11_1).bind fun t346 => (if t346 < 0 then (some false) else (if t345 = 0 then (if t346 = 0 then (if t345 > 0 then (if t346 > (wrap64 (t345 - 1)) then (some false) else (regattalaw16_SlotCounts.l0 k1 t340 t341 (wrap64 (64 + (Go.bits .and .i64 a2 15))) (wrap64 (x10_1 + t345)) (wrap64 (x11_1 + 1)))) else (regattalaw16_SlotCounts.l0 k1 t340 t341 (wrap64 (64 + (Go.bits .and .i64 a2 15))) (wrap64 (x10_1 + t345)) (wrap64 (x11_1 + 1)))) else (some false)) else (if t345 > 0 then (if t346 > (wrap64 (t345 - 1)) then (some false) else (regattalaw16_SlotCounts.l0 k1 t340 t341 (wrap64 (64 + (Go.bits .and .i64 a2 15))) (wrap64 (x10_1 + t345)) (wrap64 (x11_1 + 1)))) else (regattalaw16_SlotCounts.l0 k1 t340 t341 (wrap64 (64 + (Go.bits .and .i64 a2 15))) (wrap64 (x10_1 + t345)) (wrap64 (x11_1 + 1))))))) = some r := H
        have A12 := Aside0.mk A120
        clear A120
        replace H := Option.bind_eq_some_iff.mp H
        obtain ⟨t346, A130, H⟩ := H
        replace H : (if t346 < 0 then (some false) else (if t345 = 0 then (if t346 = 0 then (if t345 > 0 then (if t346 > (wrap64 (t345 - 1)) then (some false) else (regattalaw16_SlotCounts.l0 k1 t340 t341 (wrap64 (64 + (Go.bits .and .i64 a2 15))) (wrap64 (x10_1 + t345)) (wrap64 (x11_1 + 1)))) else (regattalaw16_SlotCounts.l0 k1 t340 t341 (wrap64 (64 + (Go.bits .and .i64 a2 15))) (wrap64 (x10_1 + t345)) (wrap64 (x11_1 + 1)))) else (some false)) else (if t345 > 0 then (if t346 > (wrap64 (t345 - 1)) then (some false) else (regattalaw16_SlotCounts.l0 k1 t340 t341 (wrap64 (64 + (Go.bits .and .i64 a2 15))) (wrap64 (x10_1 + t345)) (wrap64 (x11_1 + 1)))) else (regattalaw16_SlotCounts.l0 k1 t340 t341 (wrap64 (64 + (Go.bits .and .i64 a2 15))) (wrap64 (x10_1 + t345)) (wrap64 (x11_1 + 1)))))) = some r := H
        have A13 := Aside0.mk A130
        clear A130
        by_cases c14 : t346 < 0
        · rw [if_pos c14] at H
          have c14b0 : decide (t346 < 0) = true := decide_eq_true c14
          clear c14
          exact absurd ((Option.some.inj H).trans hr_.out) (by simp)
        · rw [if_neg c14] at H
          have c14b0 : decide (t346 < 0) = false := decide_eq_false c14
          clear c14
          by_cases c15 : t345 = 0
          · rw [if_pos c15] at H
            have c15b0 : (t345 == 0) = true := beq_iff_eq.mpr c15
            have c15b1 : (t345 != 0) = false := bne_eq_false_iff_eq.mpr c15
            clear c15
            by_cases c16 : t346 = 0
            · rw [if_pos c16] at H
              have c16b0 : (t346 == 0) = true := beq_iff_eq.mpr c16
              have c16b1 : (t346 != 0) = false := bne_eq_false_iff_eq.mpr c16
              clear c16
              by_cases c17 : t345 > 0
              · rw [if_pos c17] at H
                have c17b0 : decide (0 < t345) = true := decide_eq_true c17
                clear c17
                by_cases c18 : t346 > (wrap64 (t345 - 1))
                · rw [if_pos c18] at H
                  have c18b0 : decide ((wrap64 (t345 - 1)) < t346) = true := decide_eq_true c18
                  clear c18
                  exact absurd ((Option.some.inj H).trans hr_.out) (by simp)
                · rw [if_neg c18] at H
                  have c18b0 : decide ((wrap64 (t345 - 1)) < t346) = false := decide_eq_false c18
                  clear c18
                  have H' := Aside0.mk H
                  clear H
                  go_wp2_with (first | ((with_reducible refine gate_callee (f := 28) rfl ?_); refine goesL_ (some 30) rfl rfl Try.func28 (by kernel_rfl) rfl #[.slice Ao9 t341.length co9, .int .i64 x11_1] rfl (by (try simp only [List.map_toArray, List.map_cons, List.map_nil]); first | done | rfl | (simp only [List.length_drop, List.length_take]; rfl)) ?_; (with_reducible refine (slot_Quanta.calls k1 _ _ t341 x11_1 t345 _ ?side1 ?side2 A12.out).mono ?_); (case side1 => repeat (first | exact (Kd.S_reads' HO_8.out).2.2 | (with_reducible refine Kd.C_alloc ?_ _) | (with_reducible refine Kd.C_drewN ?_ _) | (with_reducible refine Kd.C_drew ?_))); (case side2 => exact (Kd.S_reads' HO_8.out).2.1); rintro e w19 ⟨rfl, hb⟩; refine ⟨_, rfl, ?_⟩; have n0_ := Aside0.mk (Kd.S_below (by (with_reducible repeat (first | apply Kd.S_alloc | apply Kd.S_drewN | apply Kd.S_drew)); exact HO_8.out) hb); have n1_ := Aside0.mk (below_step (by repeat (first | (with_reducible first | exact HB.out | apply below_alloc | apply pw_below_drewN | apply below_drew1) | exact HB.out)) hb); clear HO_8; clear HB; have HO_8 := n0_; have HB := n1_; clear n0_ n1_; (try clear hb); (try clear hb2); (try clear hk); (try clear hi)) | ((with_reducible refine gate_callee (f := 29) rfl ?_); refine goesL_ (some 33) rfl rfl Try.func29 (by kernel_rfl) rfl #[.slice Ao9 t341.length co9, .int .i64 x11_1] rfl (by (try simp only [List.map_toArray, List.map_cons, List.map_nil]); first | done | rfl | (simp only [List.length_drop, List.length_take]; rfl)) ?_; (with_reducible refine (slot_Moves.calls k1 _ _ t341 x11_1 t346 _ ?side1 ?side2 A13.out).mono ?_); (case side1 => repeat (first | exact (Kd.S_reads' HO_8.out).2.2 | (with_reducible refine Kd.C_alloc ?_ _) | (with_reducible refine Kd.C_drewN ?_ _) | (with_reducible refine Kd.C_drew ?_))); (case side2 => exact (Kd.S_reads' HO_8.out).2.1); rintro e w20 ⟨rfl, hb⟩; refine ⟨_, rfl, ?_⟩; have n0_ := Aside0.mk (Kd.S_below (by (with_reducible repeat (first | apply Kd.S_alloc | apply Kd.S_drewN | apply Kd.S_drew)); exact HO_8.out) hb); have n1_ := Aside0.mk (below_step (by repeat (first | (with_reducible first | exact HB.out | apply below_alloc | apply pw_below_drewN | apply below_drew1) | exact HB.out)) hb); clear HO_8; clear HB; have HO_8 := n0_; have HB := n1_; clear n0_ n1_; (try clear hb); (try clear hb2); (try clear hk); (try clear hi)))
                  go_roundg k1
                  case measure => have := HK1.out; omega
                  case rel => exact ⟨(wrap64 (x10_1 + t345)), (wrap64 (x11_1 + 1)), (by first | rfl | (simp; done) | (simp [*]; done)), (by first | rfl | (simp; done) | (simp [*]; done)), H', ⟨by have := HK1.out; omega⟩, ⟨by (with_reducible repeat (first | apply Kd.S_alloc | apply Kd.S_drewN | apply Kd.S_drew)); exact HO_8.out⟩, ⟨by repeat (first | (with_reducible first | exact HB.out | apply below_alloc | apply pw_below_drewN | apply below_drew1) | exact HB.out)⟩⟩
              · rw [if_neg c17] at H
                have c17b0 : decide (0 < t345) = false := decide_eq_false c17
                clear c17
                have H' := Aside0.mk H
                clear H
                go_wp2_with (first | ((with_reducible refine gate_callee (f := 28) rfl ?_); refine goesL_ (some 30) rfl rfl Try.func28 (by kernel_rfl) rfl #[.slice Ao9 t341.length co9, .int .i64 x11_1] rfl (by (try simp only [List.map_toArray, List.map_cons, List.map_nil]); first | done | rfl | (simp only [List.length_drop, List.length_take]; rfl)) ?_; (with_reducible refine (slot_Quanta.calls k1 _ _ t341 x11_1 t345 _ ?side1 ?side2 A12.out).mono ?_); (case side1 => repeat (first | exact (Kd.S_reads' HO_8.out).2.2 | (with_reducible refine Kd.C_alloc ?_ _) | (with_reducible refine Kd.C_drewN ?_ _) | (with_reducible refine Kd.C_drew ?_))); (case side2 => exact (Kd.S_reads' HO_8.out).2.1); rintro e w21 ⟨rfl, hb⟩; refine ⟨_, rfl, ?_⟩; have n0_ := Aside0.mk (Kd.S_below (by (with_reducible repeat (first | apply Kd.S_alloc | apply Kd.S_drewN | apply Kd.S_drew)); exact HO_8.out) hb); have n1_ := Aside0.mk (below_step (by repeat (first | (with_reducible first | exact HB.out | apply below_alloc | apply pw_below_drewN | apply below_drew1) | exact HB.out)) hb); clear HO_8; clear HB; have HO_8 := n0_; have HB := n1_; clear n0_ n1_; (try clear hb); (try clear hb2); (try clear hk); (try clear hi)) | ((with_reducible refine gate_callee (f := 29) rfl ?_); refine goesL_ (some 33) rfl rfl Try.func29 (by kernel_rfl) rfl #[.slice Ao9 t341.length co9, .int .i64 x11_1] rfl (by (try simp only [List.map_toArray, List.map_cons, List.map_nil]); first | done | rfl | (simp only [List.length_drop, List.length_take]; rfl)) ?_; (with_reducible refine (slot_Moves.calls k1 _ _ t341 x11_1 t346 _ ?side1 ?side2 A13.out).mono ?_); (case side1 => repeat (first | exact (Kd.S_reads' HO_8.out).2.2 | (with_reducible refine Kd.C_alloc ?_ _) | (with_reducible refine Kd.C_drewN ?_ _) | (with_reducible refine Kd.C_drew ?_))); (case side2 => exact (Kd.S_reads' HO_8.out).2.1); rintro e w22 ⟨rfl, hb⟩; refine ⟨_, rfl, ?_⟩; have n0_ := Aside0.mk (Kd.S_below (by (with_reducible repeat (first | apply Kd.S_alloc | apply Kd.S_drewN | apply Kd.S_drew)); exact HO_8.out) hb); have n1_ := Aside0.mk (below_step (by repeat (first | (with_reducible first | exact HB.out | apply below_alloc | apply pw_below_drewN | apply below_drew1) | exact HB.out)) hb); clear HO_8; clear HB; have HO_8 := n0_; have HB := n1_; clear n0_ n1_; (try clear hb); (try clear hb2); (try clear hk); (try clear hi)))
                go_roundg k1
                case measure => have := HK1.out; omega
                case rel => exact ⟨(wrap64 (x10_1 + t345)), (wrap64 (x11_1 + 1)), (by first | rfl | (simp; done) | (simp [*]; done)), (by first | rfl | (simp; done) | (simp [*]; done)), H', ⟨by have := HK1.out; omega⟩, ⟨by (with_reducible repeat (first | apply Kd.S_alloc | apply Kd.S_drewN | apply Kd.S_drew)); exact HO_8.out⟩, ⟨by repeat (first | (with_reducible first | exact HB.out | apply below_alloc | apply pw_below_drewN | apply below_drew1) | exact HB.out)⟩⟩
            · rw [if_neg c16] at H
              have c16b0 : (t346 == 0) = false := beq_eq_false_iff_ne.mpr c16
              have c16b1 : (t346 != 0) = true := bne_iff_ne.mpr c16
              exact absurd ((Option.some.inj H).trans hr_.out) (by simp)
          · rw [if_neg c15] at H
            have c15b0 : (t345 == 0) = false := beq_eq_false_iff_ne.mpr c15
            have c15b1 : (t345 != 0) = true := bne_iff_ne.mpr c15
            by_cases c23 : t345 > 0
            · rw [if_pos c23] at H
              have c23b0 : decide (0 < t345) = true := decide_eq_true c23
              clear c23
              by_cases c24 : t346 > (wrap64 (t345 - 1))
              · rw [if_pos c24] at H
                have c24b0 : decide ((wrap64 (t345 - 1)) < t346) = true := decide_eq_true c24
                clear c24
                exact absurd ((Option.some.inj H).trans hr_.out) (by simp)
              · rw [if_neg c24] at H
                have c24b0 : decide ((wrap64 (t345 - 1)) < t346) = false := decide_eq_false c24
                clear c24
                have H' := Aside0.mk H
                clear H
                go_wp2_with (first | ((with_reducible refine gate_callee (f := 28) rfl ?_); refine goesL_ (some 30) rfl rfl Try.func28 (by kernel_rfl) rfl #[.slice Ao9 t341.length co9, .int .i64 x11_1] rfl (by (try simp only [List.map_toArray, List.map_cons, List.map_nil]); first | done | rfl | (simp only [List.length_drop, List.length_take]; rfl)) ?_; (with_reducible refine (slot_Quanta.calls k1 _ _ t341 x11_1 t345 _ ?side1 ?side2 A12.out).mono ?_); (case side1 => repeat (first | exact (Kd.S_reads' HO_8.out).2.2 | (with_reducible refine Kd.C_alloc ?_ _) | (with_reducible refine Kd.C_drewN ?_ _) | (with_reducible refine Kd.C_drew ?_))); (case side2 => exact (Kd.S_reads' HO_8.out).2.1); rintro e w25 ⟨rfl, hb⟩; refine ⟨_, rfl, ?_⟩; have n0_ := Aside0.mk (Kd.S_below (by (with_reducible repeat (first | apply Kd.S_alloc | apply Kd.S_drewN | apply Kd.S_drew)); exact HO_8.out) hb); have n1_ := Aside0.mk (below_step (by repeat (first | (with_reducible first | exact HB.out | apply below_alloc | apply pw_below_drewN | apply below_drew1) | exact HB.out)) hb); clear HO_8; clear HB; have HO_8 := n0_; have HB := n1_; clear n0_ n1_; (try clear hb); (try clear hb2); (try clear hk); (try clear hi)) | ((with_reducible refine gate_callee (f := 29) rfl ?_); refine goesL_ (some 33) rfl rfl Try.func29 (by kernel_rfl) rfl #[.slice Ao9 t341.length co9, .int .i64 x11_1] rfl (by (try simp only [List.map_toArray, List.map_cons, List.map_nil]); first | done | rfl | (simp only [List.length_drop, List.length_take]; rfl)) ?_; (with_reducible refine (slot_Moves.calls k1 _ _ t341 x11_1 t346 _ ?side1 ?side2 A13.out).mono ?_); (case side1 => repeat (first | exact (Kd.S_reads' HO_8.out).2.2 | (with_reducible refine Kd.C_alloc ?_ _) | (with_reducible refine Kd.C_drewN ?_ _) | (with_reducible refine Kd.C_drew ?_))); (case side2 => exact (Kd.S_reads' HO_8.out).2.1); rintro e w26 ⟨rfl, hb⟩; refine ⟨_, rfl, ?_⟩; have n0_ := Aside0.mk (Kd.S_below (by (with_reducible repeat (first | apply Kd.S_alloc | apply Kd.S_drewN | apply Kd.S_drew)); exact HO_8.out) hb); have n1_ := Aside0.mk (below_step (by repeat (first | (with_reducible first | exact HB.out | apply below_alloc | apply pw_below_drewN | apply below_drew1) | exact HB.out)) hb); clear HO_8; clear HB; have HO_8 := n0_; have HB := n1_; clear n0_ n1_; (try clear hb); (try clear hb2); (try clear hk); (try clear hi)))
                go_roundg k1
                case measure => have := HK1.out; omega
                case rel => exact ⟨(wrap64 (x10_1 + t345)), (wrap64 (x11_1 + 1)), (by first | rfl | (simp; done) | (simp [*]; done)), (by first | rfl | (simp; done) | (simp [*]; done)), H', ⟨by have := HK1.out; omega⟩, ⟨by (with_reducible repeat (first | apply Kd.S_alloc | apply Kd.S_drewN | apply Kd.S_drew)); exact HO_8.out⟩, ⟨by repeat (first | (with_reducible first | exact HB.out | apply below_alloc | apply pw_below_drewN | apply below_drew1) | exact HB.out)⟩⟩
            · rw [if_neg c23] at H
              have c23b0 : decide (0 < t345) = false := decide_eq_false c23
              clear c23
              have H' := Aside0.mk H
              clear H
              go_wp2_with (first | ((with_reducible refine gate_callee (f := 28) rfl ?_); refine goesL_ (some 30) rfl rfl Try.func28 (by kernel_rfl) rfl #[.slice Ao9 t341.length co9, .int .i64 x11_1] rfl (by (try simp only [List.map_toArray, List.map_cons, List.map_nil]); first | done | rfl | (simp only [List.length_drop, List.length_take]; rfl)) ?_; (with_reducible refine (slot_Quanta.calls k1 _ _ t341 x11_1 t345 _ ?side1 ?side2 A12.out).mono ?_); (case side1 => repeat (first | exact (Kd.S_reads' HO_8.out).2.2 | (with_reducible refine Kd.C_alloc ?_ _) | (with_reducible refine Kd.C_drewN ?_ _) | (with_reducible refine Kd.C_drew ?_))); (case side2 => exact (Kd.S_reads' HO_8.out).2.1); rintro e w27 ⟨rfl, hb⟩; refine ⟨_, rfl, ?_⟩; have n0_ := Aside0.mk (Kd.S_below (by (with_reducible repeat (first | apply Kd.S_alloc | apply Kd.S_drewN | apply Kd.S_drew)); exact HO_8.out) hb); have n1_ := Aside0.mk (below_step (by repeat (first | (with_reducible first | exact HB.out | apply below_alloc | apply pw_below_drewN | apply below_drew1) | exact HB.out)) hb); clear HO_8; clear HB; have HO_8 := n0_; have HB := n1_; clear n0_ n1_; (try clear hb); (try clear hb2); (try clear hk); (try clear hi)) | ((with_reducible refine gate_callee (f := 29) rfl ?_); refine goesL_ (some 33) rfl rfl Try.func29 (by kernel_rfl) rfl #[.slice Ao9 t341.length co9, .int .i64 x11_1] rfl (by (try simp only [List.map_toArray, List.map_cons, List.map_nil]); first | done | rfl | (simp only [List.length_drop, List.length_take]; rfl)) ?_; (with_reducible refine (slot_Moves.calls k1 _ _ t341 x11_1 t346 _ ?side1 ?side2 A13.out).mono ?_); (case side1 => repeat (first | exact (Kd.S_reads' HO_8.out).2.2 | (with_reducible refine Kd.C_alloc ?_ _) | (with_reducible refine Kd.C_drewN ?_ _) | (with_reducible refine Kd.C_drew ?_))); (case side2 => exact (Kd.S_reads' HO_8.out).2.1); rintro e w28 ⟨rfl, hb⟩; refine ⟨_, rfl, ?_⟩; have n0_ := Aside0.mk (Kd.S_below (by (with_reducible repeat (first | apply Kd.S_alloc | apply Kd.S_drewN | apply Kd.S_drew)); exact HO_8.out) hb); have n1_ := Aside0.mk (below_step (by repeat (first | (with_reducible first | exact HB.out | apply below_alloc | apply pw_below_drewN | apply below_drew1) | exact HB.out)) hb); clear HO_8; clear HB; have HO_8 := n0_; have HB := n1_; clear n0_ n1_; (try clear hb); (try clear hb2); (try clear hk); (try clear hi)))
              go_roundg k1
              case measure => have := HK1.out; omega
              case rel => exact ⟨(wrap64 (x10_1 + t345)), (wrap64 (x11_1 + 1)), (by first | rfl | (simp; done) | (simp [*]; done)), (by first | rfl | (simp; done) | (simp [*]; done)), H', ⟨by have := HK1.out; omega⟩, ⟨by (with_reducible repeat (first | apply Kd.S_alloc | apply Kd.S_drewN | apply Kd.S_drew)); exact HO_8.out⟩, ⟨by repeat (first | (with_reducible first | exact HB.out | apply below_alloc | apply pw_below_drewN | apply below_drew1) | exact HB.out)⟩⟩
      · rw [if_neg c11] at H
        have c11b0 : decide (x11_1 < 256) = false := decide_eq_false c11
        clear c11
        by_cases c29 : t340 = true
        · subst c29
          have H1 : (some (x10_1 == (wrap64 ((wrap64 (64 + (Go.bits .and .i64 a2 15))) * (t341.length : Int))))) = some r := by rw [if_pos rfl] at H; exact H
          clear H
          have H := H1
          clear H1
          obtain rfl := Option.some.inj H
          go_wp2
          go_ret
          exact ⟨by first | rfl | (simp [errW_none, errW_some] <;> rfl) | (simp [*, errW_none, errW_some] <;> rfl), by repeat (first | (with_reducible first | exact HB.out | apply below_alloc | apply pw_below_drewN | apply below_drew1) | exact HB.out)⟩
        · replace c29 := Bool.eq_false_iff.mpr c29
          subst c29
          have H1 : (some false) = some r := by rw [if_neg (show ¬ (false = true) by decide)] at H; exact H
          clear H
          have H := H1
          clear H1
          exact absurd ((Option.some.inj H).trans hr_.out) (by simp)

/-- THE ONE PURE STATEMENT of regattalaw16_SlotCounts: yours. -/
def regattalaw16_SlotCounts.Pure : Prop := ∀ (x0 : Int) (x1 : List (List Int)) (x2 : Int), ((Lit.int .i64 x0).wf = true) → (x1.length ≤ 9223372036854775807 ∧ ∀ y ∈ x1, (y.length ≤ 9223372036854775807 ∧ ∀ yy ∈ y, ((Lit.int .i64 yy).wf = true))) → ((Lit.int .i64 x2).wf = true) → ∃ k, regattalaw16_SlotCounts.f k x0 x1 x2 = some true

end Go.Proofs.Ytlblianpbjhmoaa.PGs
