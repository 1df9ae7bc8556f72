-- Written by wip/rprint.py of this session's repo (the kit's printer with patches), out of the translation. Not trusted: Lean checks it.
import Derived.Test.YtlblianpbjhmoaaPGsx0
import Derived.Test.YtlblianpbjhmoaaPGsx27
import Derived.Test.YtlblianpbjhmoaaPGsx35
import Derived.Test.YtlblianpbjhmoaaPGsx36
import Derived.Test.YtlblianpbjhmoaaPGsx37
import Derived.Test.YtlblianpbjhmoaaPGsx58
namespace Go.Proofs.Ytlblianpbjhmoaa.PGs
open Go.RowKit Go.Proofs.YtlblianpbjhmoaaW.PrintWords Go.Proofs.YtlblianpbjhmoaaW.PrintLast Go.Proofs.YtlblianpbjhmoaaW.PrintMore Go.Proofs.Ytlblianpbjhmoaa.MWords
attribute [local go_sem] max2_int min2_int max_two min_two max_three min_three max_four min_four   -- for this text's walks alone
set_option linter.unusedVariables false
set_option linter.unusedSimpArgs false

/-! ### regattalaw16_SlotTells: function 6 -/
def regattalaw16_SlotTells.f (k : Nat) (l0 : List (S57)) (a1 : Int) (l2 : List (List Int)) : Option (Bool) := (regattalaw16_awake.f k).bind fun t319 => (if t319 = true then ((regattalaw16_few.f k l0).bind fun t320 => ((regattalaw16_tells.f k t320 (Go.bits .and .i64 a1 63) 3).bind fun t323 => (if t323 = true then ((regattalaw16_few.f k l0).bind fun t324 => ((regattalaw16_tells.f k t324 4 0).bind fun t327 => (if t327 = true then ((regattalaw16_made.f k a1 l2).bind fun t328 => ((regattalaw16_tells.f k t328 (Go.bits .and .i64 a1 63) 8).bind fun t331 => (if t331 = true then ((regattalaw16_made.f k a1 l2).bind fun t332 => ((regattalaw16_tells.f k t332 64 (Go.bits .and .i64 a1 15)).bind fun t335 => (if t335 = true then ((regattalaw16_few.f k l0).bind fun t336 => ((regattalaw16_tells.f k t336 a1 a1).bind fun t339 => (some t339))) else (some false)))) else (some false)))) else (some false)))) else (some false)))) else (some false))
theorem regattalaw16_SlotTells.mono : ∀ a0 a1 a2 k, LeO (regattalaw16_SlotTells.f k a0 a1 a2) (regattalaw16_SlotTells.f (k + 1) a0 a1 a2) := by
  intro a0 a1 a2 k
  unfold regattalaw16_SlotTells.f
  repeat' first
      | (with_reducible exact regattalaw16_awake.mono _)
      | (with_reducible exact regattalaw16_few.mono _ _)
      | (with_reducible exact regattalaw16_made.mono _ _ _)
      | (with_reducible exact regattalaw16_tells.mono _ _ _ _)
      | (with_reducible exact LeO.refl _)
      | (with_reducible exact LeO.none _)
      | (with_reducible refine LeO.ite ?_ ?_)
      | (with_reducible refine LeO.bind ?_ (fun _ => ?_))
      | exact regattalaw16_awake.mono _
      | exact regattalaw16_few.mono _ _
      | exact regattalaw16_made.mono _ _ _
      | exact regattalaw16_tells.mono _ _ _ _
      | exact LeO.none _
      | refine LeO.ite ?_ ?_
      | refine LeO.bind ?_ (fun _ => ?_)
set_option maxHeartbeats 8000000 in
set_option maxRecDepth 100000 in
theorem regattalaw16_SlotTells.calls (k : Nat) (A0 : Option Addr) (c0 : Nat) (l0 : List (S57)) (a1 : Int) (A2 : Option Addr) (c2 : Nat) (l2 : List (List Int)) (r : Bool) (w : World) (hr_ : Aside0 (r = true)) (hr0 : Kd.C k57 w A0 l0.length l0) (hc0 : l0.length ≤ c0) (hr2 : Kd.C (Kd.slice 3 (Kd.int .i64)) w A2 l2.length l2) (hc2 : l2.length ≤ c2) (h : regattalaw16_SlotTells.f k l0 a1 l2 = some r) :
    Calls Try.prog 6 #[.slice A0 l0.length c0, .int .i64 a1, .slice A2 l2.length c2] w fun e w' => e = .returned (.bool r) ∧ Below w.heap.size w w' := by
  have HR0 := Aside0.mk hr0
  have HC0 := Aside0.mk hc0
  clear hr0 hc0
  have HR2 := Aside0.mk hr2
  have HC2 := Aside0.mk hc2
  clear hr2 hc2
  have HB := Aside0.mk (Below.refl w.heap.size w)
  have H : ((regattalaw16_awake.f k).bind fun t319 => (if t319 = true then ((regattalaw16_few.f k l0).bind fun t320 => ((regattalaw16_tells.f k t320 (Go.bits .and .i64 a1 63) 3).bind fun t323 => (if t323 = true then ((regattalaw16_few.f k l0).bind fun t324 => ((regattalaw16_tells.f k t324 4 0).bind fun t327 => (if t327 = true then ((regattalaw16_made.f k a1 l2).bind fun t328 => ((regattalaw16_tells.f k t328 (Go.bits .and .i64 a1 63) 8).bind fun t331 => (if t331 = true then ((regattalaw16_made.f k a1 l2).bind fun t332 => ((regattalaw16_tells.f k t332 64 (Go.bits .and .i64 a1 15)).bind fun t335 => (if t335 = true then ((regattalaw16_few.f k l0).bind fun t336 => ((regattalaw16_tells.f k t336 a1 a1).bind fun t339 => (some t339))) else (some false)))) else (some false)))) else (some false)))) else (some false)))) else (some false))) = some r := h
  clear h
  replace H := Option.bind_eq_some_iff.mp H
  obtain ⟨t319, A40, H⟩ := H
  replace H : (if t319 = true then ((regattalaw16_few.f k l0).bind fun t320 => ((regattalaw16_tells.f k t320 (Go.bits .and .i64 a1 63) 3).bind fun t323 => (if t323 = true then ((regattalaw16_few.f k l0).bind fun t324 => ((regattalaw16_tells.f k t324 4 0).bind fun t327 => (if t327 = true then ((regattalaw16_made.f k a1 l2).bind fun t328 => ((regattalaw16_tells.f k t328 (Go.bits .and .i64 a1 63) 8).bind fun t331 => (if t331 = true then ((regattalaw16_made.f k a1 l2).bind fun t332 => ((regattalaw16_tells.f k t332 64 (Go.bits .and .i64 a1 15)).bind fun t335 => (if t335 = true then ((regattalaw16_few.f k l0).bind fun t336 => ((regattalaw16_tells.f k t336 a1 a1).bind fun t339 => (some t339))) else (some false)))) else (some false)))) else (some false)))) else (some false)))) else (some false)) = some r := H
  have A4 := Aside0.mk A40
  clear A40
  by_cases c5 : t319 = true
  · subst c5
    have H1 : ((regattalaw16_few.f k l0).bind fun t320 => ((regattalaw16_tells.f k t320 (Go.bits .and .i64 a1 63) 3).bind fun t323 => (if t323 = true then ((regattalaw16_few.f k l0).bind fun t324 => ((regattalaw16_tells.f k t324 4 0).bind fun t327 => (if t327 = true then ((regattalaw16_made.f k a1 l2).bind fun t328 => ((regattalaw16_tells.f k t328 (Go.bits .and .i64 a1 63) 8).bind fun t331 => (if t331 = true then ((regattalaw16_made.f k a1 l2).bind fun t332 => ((regattalaw16_tells.f k t332 64 (Go.bits .and .i64 a1 15)).bind fun t335 => (if t335 = true then ((regattalaw16_few.f k l0).bind fun t336 => ((regattalaw16_tells.f k t336 a1 a1).bind fun t339 => (some t339))) else (some false)))) else (some false)))) else (some false)))) else (some false)))) = some r := by rw [if_pos rfl] at H; exact H
    clear H
    have H := H1
    clear H1
    replace H := Option.bind_eq_some_iff.mp H
    obtain ⟨t320, A60, H⟩ := H
    replace H : ((regattalaw16_tells.f k t320 (Go.bits .and .i64 a1 63) 3).bind fun t323 => (if t323 = true then ((regattalaw16_few.f k l0).bind fun t324 => ((regattalaw16_tells.f k t324 4 0).bind fun t327 => (if t327 = true then ((regattalaw16_made.f k a1 l2).bind fun t328 => ((regattalaw16_tells.f k t328 (Go.bits .and .i64 a1 63) 8).bind fun t331 => (if t331 = true then ((regattalaw16_made.f k a1 l2).bind fun t332 => ((regattalaw16_tells.f k t332 64 (Go.bits .and .i64 a1 15)).bind fun t335 => (if t335 = true then ((regattalaw16_few.f k l0).bind fun t336 => ((regattalaw16_tells.f k t336 a1 a1).bind fun t339 => (some t339))) else (some false)))) else (some false)))) else (some false)))) else (some false))) = some r := H
    have A6 := Aside0.mk A60
    clear A60
    replace H := Option.bind_eq_some_iff.mp H
    obtain ⟨t323, A70, H⟩ := H
    replace H : (if t323 = true then ((regattalaw16_few.f k l0).bind fun t324 => ((regattalaw16_tells.f k t324 4 0).bind fun t327 => (if t327 = true then ((regattalaw16_made.f k a1 l2).bind fun t328 => ((regattalaw16_tells.f k t328 (Go.bits .and .i64 a1 63) 8).bind fun t331 => (if t331 = true then ((regattalaw16_made.f k a1 l2).bind fun t332 => ((regattalaw16_tells.f k t332 64 (Go.bits .and .i64 a1 15)).bind fun t335 => (if t335 = true then ((regattalaw16_few.f k l0).bind fun t336 => ((regattalaw16_tells.f k t336 a1 a1).bind fun t339 => (some t339))) else (some false)))) else (some false)))) else (some false)))) else (some false)) = some r := H
    have A7 := Aside0.mk A70
    clear A70
    by_cases c8 : t323 = true
    · subst c8
      have H1 : ((regattalaw16_few.f k l0).bind fun t324 => ((regattalaw16_tells.f k t324 4 0).bind fun t327 => (if t327 = true then ((regattalaw16_made.f k a1 l2).bind fun t328 => ((regattalaw16_tells.f k t328 (Go.bits .and .i64 a1 63) 8).bind fun t331 => (if t331 = true then ((regattalaw16_made.f k a1 l2).bind fun t332 => ((regattalaw16_tells.f k t332 64 (Go.bits .and .i64 a1 15)).bind fun t335 => (if t335 = true then ((regattalaw16_few.f k l0).bind fun t336 => ((regattalaw16_tells.f k t336 a1 a1).bind fun t339 => (some t339))) else (some false)))) else (some false)))) else (some false)))) = some r := by rw [if_pos rfl] at H; exact H
      clear H
      have H := H1
      clear H1
      replace H := Option.bind_eq_some_iff.mp H
      obtain ⟨t324, A90, H⟩ := H
      replace H : ((regattalaw16_tells.f k t324 4 0).bind fun t327 => (if t327 = true then ((regattalaw16_made.f k a1 l2).bind fun t328 => ((regattalaw16_tells.f k t328 (Go.bits .and .i64 a1 63) 8).bind fun t331 => (if t331 = true then ((regattalaw16_made.f k a1 l2).bind fun t332 => ((regattalaw16_tells.f k t332 64 (Go.bits .and .i64 a1 15)).bind fun t335 => (if t335 = true then ((regattalaw16_few.f k l0).bind fun t336 => ((regattalaw16_tells.f k t336 a1 a1).bind fun t339 => (some t339))) else (some false)))) else (some false)))) else (some false))) = some r := H
      have A9 := Aside0.mk A90
      clear A90
      replace H := Option.bind_eq_some_iff.mp H
      obtain ⟨t327, A100, H⟩ := H
      replace H : (if t327 = true then ((regattalaw16_made.f k a1 l2).bind fun t328 => ((regattalaw16_tells.f k t328 (Go.bits .and .i64 a1 63) 8).bind fun t331 => (if t331 = true then ((regattalaw16_made.f k a1 l2).bind fun t332 => ((regattalaw16_tells.f k t332 64 (Go.bits .and .i64 a1 15)).bind fun t335 => (if t335 = true then ((regattalaw16_few.f k l0).bind fun t336 => ((regattalaw16_tells.f k t336 a1 a1).bind fun t339 => (some t339))) else (some false)))) else (some false)))) else (some false)) = some r := H
      have A10 := Aside0.mk A100
      clear A100
      by_cases c11 : t327 = true
      · subst c11
        have H1 : ((regattalaw16_made.f k a1 l2).bind fun t328 => ((regattalaw16_tells.f k t328 (Go.bits .and .i64 a1 63) 8).bind fun t331 => (if t331 = true then ((regattalaw16_made.f k a1 l2).bind fun t332 => ((regattalaw16_tells.f k t332 64 (Go.bits .and .i64 a1 15)).bind fun t335 => (if t335 = true then ((regattalaw16_few.f k l0).bind fun t336 => ((regattalaw16_tells.f k t336 a1 a1).bind fun t339 => (some t339))) else (some false)))) else (some false)))) = some r := by rw [if_pos rfl] at H; exact H
        clear H
        have H := H1
        clear H1
        replace H := Option.bind_eq_some_iff.mp H
        obtain ⟨t328, A120, H⟩ := H
        replace H : ((regattalaw16_tells.f k t328 (Go.bits .and .i64 a1 63) 8).bind fun t331 => (if t331 = true then ((regattalaw16_made.f k a1 l2).bind fun t332 => ((regattalaw16_tells.f k t332 64 (Go.bits .and .i64 a1 15)).bind fun t335 => (if t335 = true then ((regattalaw16_few.f k l0).bind fun t336 => ((regattalaw16_tells.f k t336 a1 a1).bind fun t339 => (some t339))) else (some false)))) else (some false))) = some r := H
        have A12 := Aside0.mk A120
        clear A120
        replace H := Option.bind_eq_some_iff.mp H
        obtain ⟨t331, A130, H⟩ := H
        replace H : (if t331 = true then ((regattalaw16_made.f k a1 l2).bind fun t332 => ((regattalaw16_tells.f k t332 64 (Go.bits .and .i64 a1 15)).bind fun t335 => (if t335 = true then ((regattalaw16_few.f k l0).bind fun t336 => ((regattalaw16_tells.f k t336 a1 a1).bind fun t339 => (some t339))) else (some false)))) else (some false)) = some r := H
        have A13 := Aside0.mk A130
        clear A130
        by_cases c14 : t331 = true
        · subst c14
          have H1 : ((regattalaw16_made.f k a1 l2).bind fun t332 => ((regattalaw16_tells.f k t332 64 (Go.bits .and .i64 a1 15)).bind fun t335 => (if t335 = true then ((regattalaw16_few.f k l0).bind fun t336 => ((regattalaw16_tells.f k t336 a1 a1).bind fun t339 => (some t339))) else (some false)))) = some r := by rw [if_pos rfl] at H; exact H
          clear H
          have H := H1
          clear H1
          replace H := Option.bind_eq_some_iff.mp H
          obtain ⟨t332, A150, H⟩ := H
          replace H : ((regattalaw16_tells.f k t332 64 (Go.bits .and .i64 a1 15)).bind fun t335 => (if t335 = true then ((regattalaw16_few.f k l0).bind fun t336 => ((regattalaw16_tells.f k t336 a1 a1).bind fun t339 => (some t339))) else (some false))) = some r := H
          have A15 := Aside0.mk A150
          clear A150
          replace H := Option.bind_eq_some_iff.mp H
          obtain ⟨t335, A160, H⟩ := H
          replace H : (if t335 = true then ((regattalaw16_few.f k l0).bind fun t336 => ((regattalaw16_tells.f k t336 a1 a1).bind fun t339 => (some t339))) else (some false)) = some r := H
          have A16 := Aside0.mk A160
          clear A160
          by_cases c17 : t335 = true
          · subst c17
            have H1 : ((regattalaw16_few.f k l0).bind fun t336 => ((regattalaw16_tells.f k t336 a1 a1).bind fun t339 => (some t339))) = some r := by rw [if_pos rfl] at H; exact H
            clear H
            have H := H1
            clear H1
            replace H := Option.bind_eq_some_iff.mp H
            obtain ⟨t336, A180, H⟩ := H
            replace H : ((regattalaw16_tells.f k t336 a1 a1).bind fun t339 => (some t339)) = some r := H
            have A18 := Aside0.mk A180
            clear A180
            replace H := Option.bind_eq_some_iff.mp H
            obtain ⟨t339, A190, H⟩ := H
            replace H : (some t339) = some r := H
            have A19 := Aside0.mk A190
            clear A190
            obtain rfl := Option.some.inj H
            go_enter Try.func6, Try.ntmps6
            go_wp2_with (first | ((with_reducible refine gate_callee (f := 23) rfl ?_); refine goesL_ (some 9) rfl rfl Try.func23 (by kernel_rfl) rfl #[] rfl (by (try simp only [List.map_toArray, List.map_cons, List.map_nil]); first | done | rfl | (simp only [List.length_drop, List.length_take]; rfl)) ?_; (with_reducible refine (regattalaw16_awake.calls k  true _ A4.out).mono ?_); rintro e w20 ⟨rfl, hb⟩; refine ⟨_, rfl, ?_⟩; have n0_ := Aside0.mk (below_step (by repeat (first | (with_reducible first | exact HB.out | apply below_alloc | apply pw_below_drewN | apply below_drew1) | exact HB.out)) hb); clear HB; have HB := n0_; clear n0_; (try clear hb); (try clear hb2); (try clear hk); (try clear hi)) | (go_at_call 25; (with_reducible refine (regattalaw16_few.calls k (fun k_ => k_ < w.heap.size) _ _ l0 t320 _ ?side1 A6.out).mono ?_); (case side1 => exact Kd.V_mk HC0.out (Kd.F_below (Kd.C_F k57_heap HR0.out) (by repeat (first | (with_reducible first | exact HB.out | apply below_alloc | apply pw_below_drewN | apply below_drew1) | exact HB.out)))); rintro e w21 ⟨v321, rfl, ho0, hb⟩; have n0_ := Aside0.mk (Kd.N_lower (Kd.N_mono (ok' := fun k_ => True) ho0 (fun k_ hk_ => trivial)) (below_size (by repeat (first | (with_reducible first | exact HB.out | apply below_alloc | apply pw_below_drewN | apply below_drew1) | exact HB.out)))); have n1_ := Aside0.mk (below_step (by repeat (first | (with_reducible first | exact HB.out | apply below_alloc | apply pw_below_drewN | apply below_drew1) | exact HB.out)) hb); clear HB; have HO322 := n0_; have HB := n1_; clear n0_ n1_; (try clear hb); (try clear hb2); (try clear hk); (try clear hi); (try clear ho0); obtain ⟨Ao22, co22, eo22⟩ := Kd.N_slice HO322.out; subst eo22; (try clear A6)) | (go_at_call 24; (with_reducible refine (regattalaw16_tells.calls k _ _ t320 (Go.bits .and .i64 a1 63) 3 true _ ?side1 ?side2 A7.out).mono ?_); (case side1 => repeat (first | exact (Kd.N_reads' HO322.out).2.2 | (with_reducible refine Kd.C_alloc ?_ _) | (with_reducible refine Kd.C_drewN ?_ _) | (with_reducible refine Kd.C_drew ?_))); (case side2 => exact (Kd.N_reads' HO322.out).2.1); rintro e w23 ⟨rfl, hb⟩; have n0_ := Aside0.mk (Kd.N_below (by (with_reducible repeat (first | apply Kd.N_alloc | apply Kd.N_drewN | apply Kd.N_drew)); exact HO322.out) hb); have n1_ := Aside0.mk (below_step (by repeat (first | (with_reducible first | exact HB.out | apply below_alloc | apply pw_below_drewN | apply below_drew1) | exact HB.out)) hb); clear HO322; clear HB; have HO322 := n0_; have HB := n1_; clear n0_ n1_; (try clear hb); (try clear hb2); (try clear hk); (try clear hi); (try clear A7)) | (go_at_call 25; (with_reducible refine (regattalaw16_few.calls k (fun k_ => k_ < w.heap.size) _ _ l0 t324 _ ?side1 A9.out).mono ?_); (case side1 => exact Kd.V_mk HC0.out (Kd.F_below (Kd.C_F k57_heap HR0.out) (by repeat (first | (with_reducible first | exact HB.out | apply below_alloc | apply pw_below_drewN | apply below_drew1) | exact HB.out)))); rintro e w24 ⟨v325, rfl, ho0, hb⟩; have n0_ := Aside0.mk (Kd.N_elder' (by (with_reducible repeat (first | apply Kd.N_alloc | apply Kd.N_drewN | apply Kd.N_drew)); exact HO322.out) (by first | exact Kd.N_base ho0 | exact Kd.S_base ho0) hb); have n1_ := Aside0.mk (Kd.N_lower (Kd.N_mono (ok' := fun k_ => some k_ ≠ (.slice Ao22 t320.length co22 : Value).ownBlock) ho0 (fun k_ hk_ => Or.elim hk_ (fun hs_ => fun e_ => Nat.not_le.2 hs_ (Kd.N_base HO322.out k_ e_.symm)) (fun hn_ => (Kd.fresh' (Kd.N_lt (by (with_reducible repeat (first | apply Kd.N_alloc | apply Kd.N_drewN | apply Kd.N_drew)); exact HO322.out)) k_ hn_)))) (below_size (by repeat (first | (with_reducible first | exact HB.out | apply below_alloc | apply pw_below_drewN | apply below_drew1) | exact HB.out)))); have n2_ := Aside0.mk (below_step (by repeat (first | (with_reducible first | exact HB.out | apply below_alloc | apply pw_below_drewN | apply below_drew1) | exact HB.out)) hb); clear HO322; clear HB; have HO322 := n0_; have HO326 := n1_; have HB := n2_; clear n0_ n1_ n2_; (try clear hb); (try clear hb2); (try clear hk); (try clear hi); (try clear ho0); obtain ⟨Ao25, co25, eo25⟩ := Kd.N_slice HO326.out; subst eo25; (try clear A9)) | (go_at_call 24; (with_reducible refine (regattalaw16_tells.calls k _ _ t324 4 0 true _ ?side1 ?side2 A10.out).mono ?_); (case side1 => repeat (first | exact (Kd.N_reads' HO326.out).2.2 | (with_reducible refine Kd.C_alloc ?_ _) | (with_reducible refine Kd.C_drewN ?_ _) | (with_reducible refine Kd.C_drew ?_))); (case side2 => exact (Kd.N_reads' HO326.out).2.1); rintro e w26 ⟨rfl, hb⟩; have n0_ := Aside0.mk (Kd.N_below (by (with_reducible repeat (first | apply Kd.N_alloc | apply Kd.N_drewN | apply Kd.N_drew)); exact HO322.out) hb); have n1_ := Aside0.mk (Kd.N_below (by (with_reducible repeat (first | apply Kd.N_alloc | apply Kd.N_drewN | apply Kd.N_drew)); exact HO326.out) hb); have n2_ := Aside0.mk (below_step (by repeat (first | (with_reducible first | exact HB.out | apply below_alloc | apply pw_below_drewN | apply below_drew1) | exact HB.out)) hb); clear HO322; clear HO326; clear HB; have HO322 := n0_; have HO326 := n1_; have HB := n2_; clear n0_ n1_ n2_; (try clear hb); (try clear hb2); (try clear hk); (try clear hi); (try clear A10)) | (go_at_call 26; (with_reducible refine (regattalaw16_made.calls k a1 _ _ l2 t328 _ ?side1 ?side2 A12.out).mono ?_); (case side1 => repeat (first | exact (Kd.C_below HR2.out HB.out) | (with_reducible refine Kd.C_alloc ?_ _) | (with_reducible refine Kd.C_drewN ?_ _) | (with_reducible refine Kd.C_drew ?_))); (case side2 => exact HC2.out); rintro e w27 ⟨v329, rfl, ho0, hb⟩; have n0_ := Aside0.mk (Kd.N_elder' (by (with_reducible repeat (first | apply Kd.N_alloc | apply Kd.N_drewN | apply Kd.N_drew)); exact HO322.out) (by first | exact Kd.N_base ho0 | exact Kd.S_base ho0) hb); have n1_ := Aside0.mk (Kd.N_elder' (by (with_reducible repeat (first | apply Kd.N_alloc | apply Kd.N_drewN | apply Kd.N_drew)); exact HO326.out) (by first | exact Kd.N_base ho0 | exact Kd.S_base ho0) hb); have n2_ := Aside0.mk (Kd.N_lower (Kd.N_mono (ok' := fun k_ => some k_ ≠ (.slice Ao22 t320.length co22 : Value).ownBlock ∧ some k_ ≠ (.slice Ao25 t324.length co25 : Value).ownBlock) (Kd.S_N (Kd.S_bound ho0)) (fun k_ hk_ => ⟨(Kd.fresh' (Kd.N_lt (by (with_reducible repeat (first | apply Kd.N_alloc | apply Kd.N_drewN | apply Kd.N_drew)); exact HO322.out)) k_ hk_.2.1), (Kd.fresh' (Kd.N_lt (by (with_reducible repeat (first | apply Kd.N_alloc | apply Kd.N_drewN | apply Kd.N_drew)); exact HO326.out)) k_ hk_.2.1)⟩)) (below_size (by repeat (first | (with_reducible first | exact HB.out | apply below_alloc | apply pw_below_drewN | apply below_drew1) | exact HB.out)))); have n3_ := Aside0.mk (below_step (by repeat (first | (with_reducible first | exact HB.out | apply below_alloc | apply pw_below_drewN | apply below_drew1) | exact HB.out)) hb); clear HO322; clear HO326; clear HB; have HO322 := n0_; have HO326 := n1_; have HO330 := n2_; have HB := n3_; clear n0_ n1_ n2_ n3_; (try clear hb); (try clear hb2); (try clear hk); (try clear hi); (try clear ho0); obtain ⟨Ao28, co28, eo28⟩ := Kd.N_slice HO330.out; subst eo28; (try clear A12)) | (go_at_call 24; (with_reducible refine (regattalaw16_tells.calls k _ _ t328 (Go.bits .and .i64 a1 63) 8 true _ ?side1 ?side2 A13.out).mono ?_); (case side1 => repeat (first | exact (Kd.N_reads' HO330.out).2.2 | (with_reducible refine Kd.C_alloc ?_ _) | (with_reducible refine Kd.C_drewN ?_ _) | (with_reducible refine Kd.C_drew ?_))); (case side2 => exact (Kd.N_reads' HO330.out).2.1); rintro e w29 ⟨rfl, hb⟩; have n0_ := Aside0.mk (Kd.N_below (by (with_reducible repeat (first | apply Kd.N_alloc | apply Kd.N_drewN | apply Kd.N_drew)); exact HO322.out) hb); have n1_ := Aside0.mk (Kd.N_below (by (with_reducible repeat (first | apply Kd.N_alloc | apply Kd.N_drewN | apply Kd.N_drew)); exact HO326.out) hb); have n2_ := Aside0.mk (Kd.N_below (by (with_reducible repeat (first | apply Kd.N_alloc | apply Kd.N_drewN | apply Kd.N_drew)); exact HO330.out) hb); have n3_ := Aside0.mk (below_step (by repeat (first | (with_reducible first | exact HB.out | apply below_alloc | apply pw_below_drewN | apply below_drew1) | exact HB.out)) hb); clear HO322; clear HO326; clear HO330; clear HB; have HO322 := n0_; have HO326 := n1_; have HO330 := n2_; have HB := n3_; clear n0_ n1_ n2_ n3_; (try clear hb); (try clear hb2); (try clear hk); (try clear hi); (try clear A13)) | (go_at_call 26; (with_reducible refine (regattalaw16_made.calls k a1 _ _ l2 t332 _ ?side1 ?side2 A15.out).mono ?_); (case side1 => repeat (first | exact (Kd.C_below HR2.out HB.out) | (with_reducible refine Kd.C_alloc ?_ _) | (with_reducible refine Kd.C_drewN ?_ _) | (with_reducible refine Kd.C_drew ?_))); (case side2 => exact HC2.out); rintro e w30 ⟨v333, rfl, ho0, hb⟩; have n0_ := Aside0.mk (Kd.N_elder' (by (with_reducible repeat (first | apply Kd.N_alloc | apply Kd.N_drewN | apply Kd.N_drew)); exact HO322.out) (by first | exact Kd.N_base ho0 | exact Kd.S_base ho0) hb); have n1_ := Aside0.mk (Kd.N_elder' (by (with_reducible repeat (first | apply Kd.N_alloc | apply Kd.N_drewN | apply Kd.N_drew)); exact HO326.out) (by first | exact Kd.N_base ho0 | exact Kd.S_base ho0) hb); have n2_ := Aside0.mk (Kd.N_elder' (by (with_reducible repeat (first | apply Kd.N_alloc | apply Kd.N_drewN | apply Kd.N_drew)); exact HO330.out) (by first | exact Kd.N_base ho0 | exact Kd.S_base ho0) hb); have n3_ := Aside0.mk (Kd.N_lower (Kd.N_mono (ok' := fun k_ => some k_ ≠ (.slice Ao22 t320.length co22 : Value).ownBlock ∧ some k_ ≠ (.slice Ao25 t324.length co25 : Value).ownBlock ∧ some k_ ≠ (.slice Ao28 t328.length co28 : Value).ownBlock) (Kd.S_N (Kd.S_bound ho0)) (fun k_ hk_ => ⟨(Kd.fresh' (Kd.N_lt (by (with_reducible repeat (first | apply Kd.N_alloc | apply Kd.N_drewN | apply Kd.N_drew)); exact HO322.out)) k_ hk_.2.1), (Kd.fresh' (Kd.N_lt (by (with_reducible repeat (first | apply Kd.N_alloc | apply Kd.N_drewN | apply Kd.N_drew)); exact HO326.out)) k_ hk_.2.1), (Kd.fresh' (Kd.N_lt (by (with_reducible repeat (first | apply Kd.N_alloc | apply Kd.N_drewN | apply Kd.N_drew)); exact HO330.out)) k_ hk_.2.1)⟩)) (below_size (by repeat (first | (with_reducible first | exact HB.out | apply below_alloc | apply pw_below_drewN | apply below_drew1) | exact HB.out)))); have n4_ := Aside0.mk (below_step (by repeat (first | (with_reducible first | exact HB.out | apply below_alloc | apply pw_below_drewN | apply below_drew1) | exact HB.out)) hb); clear HO322; clear HO326; clear HO330; clear HB; have HO322 := n0_; have HO326 := n1_; have HO330 := n2_; have HO334 := n3_; have HB := n4_; clear n0_ n1_ n2_ n3_ n4_; (try clear hb); (try clear hb2); (try clear hk); (try clear hi); (try clear ho0); obtain ⟨Ao31, co31, eo31⟩ := Kd.N_slice HO334.out; subst eo31; (try clear A15)) | (go_at_call 24; (with_reducible refine (regattalaw16_tells.calls k _ _ t332 64 (Go.bits .and .i64 a1 15) true _ ?side1 ?side2 A16.out).mono ?_); (case side1 => repeat (first | exact (Kd.N_reads' HO334.out).2.2 | (with_reducible refine Kd.C_alloc ?_ _) | (with_reducible refine Kd.C_drewN ?_ _) | (with_reducible refine Kd.C_drew ?_))); (case side2 => exact (Kd.N_reads' HO334.out).2.1); rintro e w32 ⟨rfl, hb⟩; have n0_ := Aside0.mk (Kd.N_below (by (with_reducible repeat (first | apply Kd.N_alloc | apply Kd.N_drewN | apply Kd.N_drew)); exact HO322.out) hb); have n1_ := Aside0.mk (Kd.N_below (by (with_reducible repeat (first | apply Kd.N_alloc | apply Kd.N_drewN | apply Kd.N_drew)); exact HO326.out) hb); have n2_ := Aside0.mk (Kd.N_below (by (with_reducible repeat (first | apply Kd.N_alloc | apply Kd.N_drewN | apply Kd.N_drew)); exact HO330.out) hb); have n3_ := Aside0.mk (Kd.N_below (by (with_reducible repeat (first | apply Kd.N_alloc | apply Kd.N_drewN | apply Kd.N_drew)); exact HO334.out) hb); have n4_ := Aside0.mk (below_step (by repeat (first | (with_reducible first | exact HB.out | apply below_alloc | apply pw_below_drewN | apply below_drew1) | exact HB.out)) hb); clear HO322; clear HO326; clear HO330; clear HO334; clear HB; have HO322 := n0_; have HO326 := n1_; have HO330 := n2_; have HO334 := n3_; have HB := n4_; clear n0_ n1_ n2_ n3_ n4_; (try clear hb); (try clear hb2); (try clear hk); (try clear hi); (try clear A16)) | (go_at_call 25; (with_reducible refine (regattalaw16_few.calls k (fun k_ => k_ < w.heap.size) _ _ l0 t336 _ ?side1 A18.out).mono ?_); (case side1 => exact Kd.V_mk HC0.out (Kd.F_below (Kd.C_F k57_heap HR0.out) (by repeat (first | (with_reducible first | exact HB.out | apply below_alloc | apply pw_below_drewN | apply below_drew1) | exact HB.out)))); rintro e w33 ⟨v337, rfl, ho0, hb⟩; have n0_ := Aside0.mk (Kd.N_elder' (by (with_reducible repeat (first | apply Kd.N_alloc | apply Kd.N_drewN | apply Kd.N_drew)); exact HO322.out) (by first | exact Kd.N_base ho0 | exact Kd.S_base ho0) hb); have n1_ := Aside0.mk (Kd.N_elder' (by (with_reducible repeat (first | apply Kd.N_alloc | apply Kd.N_drewN | apply Kd.N_drew)); exact HO326.out) (by first | exact Kd.N_base ho0 | exact Kd.S_base ho0) hb); have n2_ := Aside0.mk (Kd.N_elder' (by (with_reducible repeat (first | apply Kd.N_alloc | apply Kd.N_drewN | apply Kd.N_drew)); exact HO330.out) (by first | exact Kd.N_base ho0 | exact Kd.S_base ho0) hb); have n3_ := Aside0.mk (Kd.N_elder' (by (with_reducible repeat (first | apply Kd.N_alloc | apply Kd.N_drewN | apply Kd.N_drew)); exact HO334.out) (by first | exact Kd.N_base ho0 | exact Kd.S_base ho0) hb); have n4_ := Aside0.mk (Kd.N_lower (Kd.N_mono (ok' := fun k_ => some k_ ≠ (.slice Ao22 t320.length co22 : Value).ownBlock ∧ some k_ ≠ (.slice Ao25 t324.length co25 : Value).ownBlock ∧ some k_ ≠ (.slice Ao28 t328.length co28 : Value).ownBlock ∧ some k_ ≠ (.slice Ao31 t332.length co31 : Value).ownBlock) ho0 (fun k_ hk_ => ⟨Or.elim hk_ (fun hs_ => fun e_ => Nat.not_le.2 hs_ (Kd.N_base HO322.out k_ e_.symm)) (fun hn_ => (Kd.fresh' (Kd.N_lt (by (with_reducible repeat (first | apply Kd.N_alloc | apply Kd.N_drewN | apply Kd.N_drew)); exact HO322.out)) k_ hn_)), Or.elim hk_ (fun hs_ => fun e_ => Nat.not_le.2 hs_ (Kd.N_base HO326.out k_ e_.symm)) (fun hn_ => (Kd.fresh' (Kd.N_lt (by (with_reducible repeat (first | apply Kd.N_alloc | apply Kd.N_drewN | apply Kd.N_drew)); exact HO326.out)) k_ hn_)), Or.elim hk_ (fun hs_ => fun e_ => Nat.not_le.2 hs_ (Kd.N_base HO330.out k_ e_.symm)) (fun hn_ => (Kd.fresh' (Kd.N_lt (by (with_reducible repeat (first | apply Kd.N_alloc | apply Kd.N_drewN | apply Kd.N_drew)); exact HO330.out)) k_ hn_)), Or.elim hk_ (fun hs_ => fun e_ => Nat.not_le.2 hs_ (Kd.N_base HO334.out k_ e_.symm)) (fun hn_ => (Kd.fresh' (Kd.N_lt (by (with_reducible repeat (first | apply Kd.N_alloc | apply Kd.N_drewN | apply Kd.N_drew)); exact HO334.out)) k_ hn_))⟩)) (below_size (by repeat (first | (with_reducible first | exact HB.out | apply below_alloc | apply pw_below_drewN | apply below_drew1) | exact HB.out)))); have n5_ := Aside0.mk (below_step (by repeat (first | (with_reducible first | exact HB.out | apply below_alloc | apply pw_below_drewN | apply below_drew1) | exact HB.out)) hb); clear HO322; clear HO326; clear HO330; clear HO334; clear HB; have HO322 := n0_; have HO326 := n1_; have HO330 := n2_; have HO334 := n3_; have HO338 := n4_; have HB := n5_; clear n0_ n1_ n2_ n3_ n4_ n5_; (try clear hb); (try clear hb2); (try clear hk); (try clear hi); (try clear ho0); obtain ⟨Ao34, co34, eo34⟩ := Kd.N_slice HO338.out; subst eo34; (try clear A18)) | (go_at_call 24; (with_reducible refine (regattalaw16_tells.calls k _ _ t336 a1 a1 t339 _ ?side1 ?side2 A19.out).mono ?_); (case side1 => repeat (first | exact (Kd.N_reads' HO338.out).2.2 | (with_reducible refine Kd.C_alloc ?_ _) | (with_reducible refine Kd.C_drewN ?_ _) | (with_reducible refine Kd.C_drew ?_))); (case side2 => exact (Kd.N_reads' HO338.out).2.1); rintro e w35 ⟨rfl, hb⟩; have n0_ := Aside0.mk (Kd.N_below (by (with_reducible repeat (first | apply Kd.N_alloc | apply Kd.N_drewN | apply Kd.N_drew)); exact HO322.out) hb); have n1_ := Aside0.mk (Kd.N_below (by (with_reducible repeat (first | apply Kd.N_alloc | apply Kd.N_drewN | apply Kd.N_drew)); exact HO326.out) hb); have n2_ := Aside0.mk (Kd.N_below (by (with_reducible repeat (first | apply Kd.N_alloc | apply Kd.N_drewN | apply Kd.N_drew)); exact HO330.out) hb); have n3_ := Aside0.mk (Kd.N_below (by (with_reducible repeat (first | apply Kd.N_alloc | apply Kd.N_drewN | apply Kd.N_drew)); exact HO334.out) hb); have n4_ := Aside0.mk (Kd.N_below (by (with_reducible repeat (first | apply Kd.N_alloc | apply Kd.N_drewN | apply Kd.N_drew)); exact HO338.out) hb); have n5_ := Aside0.mk (below_step (by repeat (first | (with_reducible first | exact HB.out | apply below_alloc | apply pw_below_drewN | apply below_drew1) | exact HB.out)) hb); clear HO322; clear HO326; clear HO330; clear HO334; clear HO338; clear HB; have HO322 := n0_; have HO326 := n1_; have HO330 := n2_; have HO334 := n3_; have HO338 := n4_; have HB := n5_; clear n0_ n1_ n2_ n3_ n4_ n5_; (try clear hb); (try clear hb2); (try clear hk); (try clear hi); (try clear A19)))
            go_ret
            exact ⟨by first | rfl | (simp [errW_none, errW_some] <;> rfl) | (simp [*, errW_none, errW_some] <;> rfl), by repeat (first | (with_reducible first | exact HB.out | apply below_alloc | apply pw_below_drewN | apply below_drew1) | exact HB.out)⟩
          · replace c17 := Bool.eq_false_iff.mpr c17
            subst c17
            have H1 : (some false) = some r := by rw [if_neg (show ¬ (false = true) by decide)] at H; exact H
            clear H
            have H := H1
            clear H1
            exact absurd ((Option.some.inj H).trans hr_.out) (by simp)
        · replace c14 := Bool.eq_false_iff.mpr c14
          subst c14
          have H1 : (some false) = some r := by rw [if_neg (show ¬ (false = true) by decide)] at H; exact H
          clear H
          have H := H1
          clear H1
          exact absurd ((Option.some.inj H).trans hr_.out) (by simp)
      · replace c11 := Bool.eq_false_iff.mpr c11
        subst c11
        have H1 : (some false) = some r := by rw [if_neg (show ¬ (false = true) by decide)] at H; exact H
        clear H
        have H := H1
        clear H1
        exact absurd ((Option.some.inj H).trans hr_.out) (by simp)
    · replace c8 := Bool.eq_false_iff.mpr c8
      subst c8
      have H1 : (some false) = some r := by rw [if_neg (show ¬ (false = true) by decide)] at H; exact H
      clear H
      have H := H1
      clear H1
      exact absurd ((Option.some.inj H).trans hr_.out) (by simp)
  · replace c5 := Bool.eq_false_iff.mpr c5
    subst c5
    have H1 : (some false) = some r := by rw [if_neg (show ¬ (false = true) by decide)] at H; exact H
    clear H
    have H := H1
    clear H1
    exact absurd ((Option.some.inj H).trans hr_.out) (by simp)

/-- THE ONE PURE STATEMENT of regattalaw16_SlotTells: yours. -/
def regattalaw16_SlotTells.Pure : Prop := ∀ (x0 : List (S57)) (x1 : Int) (x2 : List (List Int)), (x0.length ≤ 9223372036854775807 ∧ ∀ y ∈ x0, ok57 y) → ((Lit.int .i64 x1).wf = true) → (x2.length ≤ 9223372036854775807 ∧ ∀ y ∈ x2, (y.length ≤ 9223372036854775807 ∧ ∀ yy ∈ y, ((Lit.int .i64 yy).wf = true))) → ∃ k, regattalaw16_SlotTells.f k x0 x1 x2 = some true

end Go.Proofs.Ytlblianpbjhmoaa.PGs
