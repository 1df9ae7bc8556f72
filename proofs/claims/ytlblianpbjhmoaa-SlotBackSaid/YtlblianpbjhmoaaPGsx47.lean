-- Written by wip/rprint.py of this session's repo (the kit's printer with patches), out of the translation. Not trusted: Lean checks it.
import Derived.Test.YtlblianpbjhmoaaPGsx0
import Derived.Test.YtlblianpbjhmoaaPGsx4
import Derived.Test.YtlblianpbjhmoaaPGsx26
import Derived.Test.YtlblianpbjhmoaaPGsx27
import Derived.Test.YtlblianpbjhmoaaPGsx37
import Derived.Test.YtlblianpbjhmoaaPGsx41
import Derived.Test.YtlblianpbjhmoaaPGsx45
namespace Go.Proofs.Ytlblianpbjhmoaa.PGs
open Go.RowKit Go.Proofs.YtlblianpbjhmoaaW.PrintWords Go.Proofs.YtlblianpbjhmoaaW.PrintLast Go.Proofs.YtlblianpbjhmoaaW.PrintMore Go.Proofs.Ytlblianpbjhmoaa.MWords
attribute [local go_sem] max2_int min2_int max_two min_two max_three min_three max_four min_four   -- for this text's walks alone
set_option linter.unusedVariables false
set_option linter.unusedSimpArgs false

/-! ### regattalaw16_SlotBack: function 10 -/
def regattalaw16_SlotBack.f (k : Nat) (a0 : Int) (l1 : List (List Int)) (a2 : Int) : Option (Bool) := (regattalaw16_awake.f k).bind fun t417 => ((regattalaw16_made.f k a0 l1).bind fun t418 => ((slot_Bytes.f k t418).bind fun t421 => ((slot_Read.f k t421).bind fun bt422 => ((some (([a2] : List Int) : List Int)).bind fun y426 => (if t421.size + (strOfNums y426).size ≤ 9223372036854775807 then ((slot_Read.f k (t421 ++ (strOfNums y426))).bind fun bt429 => ((regattaref16_Same.f k bt422.1 t418).bind fun t433 => (if t417 = true then (if bt422.2 = true then (if t433 = true then (if bt429.2 = true then (some false) else ((slot_Row.f k t418 1024).bind fun t434 => (some t434))) else (some false)) else (some false)) else (some false)))) else (none))))))
theorem regattalaw16_SlotBack.mono : ∀ a0 a1 a2 k, LeO (regattalaw16_SlotBack.f k a0 a1 a2) (regattalaw16_SlotBack.f (k + 1) a0 a1 a2) := by
  intro a0 a1 a2 k
  unfold regattalaw16_SlotBack.f
  repeat' first
      | (with_reducible exact regattalaw16_awake.mono _)
      | (with_reducible exact regattalaw16_made.mono _ _ _)
      | (with_reducible exact regattaref16_Same.mono _ _ _)
      | (with_reducible exact slot_Bytes.mono _ _)
      | (with_reducible exact slot_Read.mono _ _)
      | (with_reducible exact slot_Row.mono _ _ _)
      | (with_reducible exact LeO.refl _)
      | (with_reducible exact LeO.none _)
      | (with_reducible refine LeO.ite ?_ ?_)
      | (with_reducible refine LeO.bind ?_ (fun _ => ?_))
      | exact regattalaw16_awake.mono _
      | exact regattalaw16_made.mono _ _ _
      | exact regattaref16_Same.mono _ _ _
      | exact slot_Bytes.mono _ _
      | exact slot_Read.mono _ _
      | exact slot_Row.mono _ _ _
      | exact LeO.none _
      | refine LeO.ite ?_ ?_
      | refine LeO.bind ?_ (fun _ => ?_)
set_option maxHeartbeats 8000000 in
set_option maxRecDepth 100000 in
theorem regattalaw16_SlotBack.calls (k : Nat) (a0 : Int) (A1 : Option Addr) (c1 : Nat) (l1 : List (List Int)) (a2 : Int) (r : Bool) (w : World) (hr_ : Aside0 (r = true)) (hr1 : Kd.C (Kd.slice 3 (Kd.int .i64)) w A1 l1.length l1) (hc1 : l1.length ≤ c1) (h : regattalaw16_SlotBack.f k a0 l1 a2 = some r) :
    Calls Try.prog 10 #[.int .i64 a0, .slice A1 l1.length c1, .int .u8 a2] w fun e w' => e = .returned (.bool r) ∧ Below w.heap.size w w' := by
  have HR1 := Aside0.mk hr1
  have HC1 := Aside0.mk hc1
  clear hr1 hc1
  have HB := Aside0.mk (Below.refl w.heap.size w)
  have H : ((regattalaw16_awake.f k).bind fun t417 => ((regattalaw16_made.f k a0 l1).bind fun t418 => ((slot_Bytes.f k t418).bind fun t421 => ((slot_Read.f k t421).bind fun bt422 => ((some (([a2] : List Int) : List Int)).bind fun y426 => (if t421.size + (strOfNums y426).size ≤ 9223372036854775807 then ((slot_Read.f k (t421 ++ (strOfNums y426))).bind fun bt429 => ((regattaref16_Same.f k bt422.1 t418).bind fun t433 => (if t417 = true then (if bt422.2 = true then (if t433 = true then (if bt429.2 = true then (some false) else ((slot_Row.f k t418 1024).bind fun t434 => (some t434))) else (some false)) else (some false)) else (some false)))) else (none))))))) = some r := h
  clear h
  replace H := Option.bind_eq_some_iff.mp H
  obtain ⟨t417, A40, H⟩ := H
  replace H : ((regattalaw16_made.f k a0 l1).bind fun t418 => ((slot_Bytes.f k t418).bind fun t421 => ((slot_Read.f k t421).bind fun bt422 => ((some (([a2] : List Int) : List Int)).bind fun y426 => (if t421.size + (strOfNums y426).size ≤ 9223372036854775807 then ((slot_Read.f k (t421 ++ (strOfNums y426))).bind fun bt429 => ((regattaref16_Same.f k bt422.1 t418).bind fun t433 => (if t417 = true then (if bt422.2 = true then (if t433 = true then (if bt429.2 = true then (some false) else ((slot_Row.f k t418 1024).bind fun t434 => (some t434))) else (some false)) else (some false)) else (some false)))) else (none)))))) = some r := H
  have A4 := Aside0.mk A40
  clear A40
  replace H := Option.bind_eq_some_iff.mp H
  obtain ⟨t418, A50, H⟩ := H
  replace H : ((slot_Bytes.f k t418).bind fun t421 => ((slot_Read.f k t421).bind fun bt422 => ((some (([a2] : List Int) : List Int)).bind fun y426 => (if t421.size + (strOfNums y426).size ≤ 9223372036854775807 then ((slot_Read.f k (t421 ++ (strOfNums y426))).bind fun bt429 => ((regattaref16_Same.f k bt422.1 t418).bind fun t433 => (if t417 = true then (if bt422.2 = true then (if t433 = true then (if bt429.2 = true then (some false) else ((slot_Row.f k t418 1024).bind fun t434 => (some t434))) else (some false)) else (some false)) else (some false)))) else (none))))) = some r := H
  have A5 := Aside0.mk A50
  clear A50
  replace H := Option.bind_eq_some_iff.mp H
  obtain ⟨t421, A60, H⟩ := H
  replace H : ((slot_Read.f k t421).bind fun bt422 => ((some (([a2] : List Int) : List Int)).bind fun y426 => (if t421.size + (strOfNums y426).size ≤ 9223372036854775807 then ((slot_Read.f k (t421 ++ (strOfNums y426))).bind fun bt429 => ((regattaref16_Same.f k bt422.1 t418).bind fun t433 => (if t417 = true then (if bt422.2 = true then (if t433 = true then (if bt429.2 = true then (some false) else ((slot_Row.f k t418 1024).bind fun t434 => (some t434))) else (some false)) else (some false)) else (some false)))) else (none)))) = some r := H
  have A6 := Aside0.mk A60
  clear A60
  replace H := Option.bind_eq_some_iff.mp H
  obtain ⟨⟨t422, t423⟩, A70, H⟩ := H
  replace H : ((some (([a2] : List Int) : List Int)).bind fun y426 => (if t421.size + (strOfNums y426).size ≤ 9223372036854775807 then ((slot_Read.f k (t421 ++ (strOfNums y426))).bind fun bt429 => ((regattaref16_Same.f k t422 t418).bind fun t433 => (if t417 = true then (if t423 = true then (if t433 = true then (if bt429.2 = true then (some false) else ((slot_Row.f k t418 1024).bind fun t434 => (some t434))) else (some false)) else (some false)) else (some false)))) else (none))) = some r := H
  have A7 := Aside0.mk A70
  clear A70
  obtain ⟨y426, hy426⟩ : ∃ y_ : List Int, y_ = (([a2] : List Int)) := ⟨_, rfl⟩
  replace H : (if t421.size + (strOfNums y426).size ≤ 9223372036854775807 then ((slot_Read.f k (t421 ++ (strOfNums y426))).bind fun bt429 => ((regattaref16_Same.f k t422 t418).bind fun t433 => (if t417 = true then (if t423 = true then (if t433 = true then (if bt429.2 = true then (some false) else ((slot_Row.f k t418 1024).bind fun t434 => (some t434))) else (some false)) else (some false)) else (some false)))) else (none)) = some r := by first | (rw [hy426]; with_reducible exact H) | (have H2_ := (Option.bind_some _ _).symm.trans H; rw [hy426]; with_reducible exact H2_) | (have H2_ := (Option.bind_some _ _).symm.trans H; with_reducible exact H2_) | with_reducible exact H | (rw [hy426]; exact H) | exact H
  have Ny426 := Aside0.mk hy426
  clear hy426
  by_cases c8 : t421.size + (strOfNums y426).size ≤ 9223372036854775807
  · rw [if_pos c8] at H
    have c8b0 := eq_true c8
    have c8b1 : decide (t421.size + (strOfNums y426).size ≤ 9223372036854775807) = true := decide_eq_true c8
    try have c8b2 : (9223372036854775807 < t421.size + (strOfNums y426).size) = False := eq_false (Nat.not_lt.2 c8)
    replace H := Option.bind_eq_some_iff.mp H
    obtain ⟨⟨t429, t430⟩, A90, H⟩ := H
    replace H : ((regattaref16_Same.f k t422 t418).bind fun t433 => (if t417 = true then (if t423 = true then (if t433 = true then (if t430 = true then (some false) else ((slot_Row.f k t418 1024).bind fun t434 => (some t434))) else (some false)) else (some false)) else (some false))) = some r := H
    have A9 := Aside0.mk A90
    clear A90
    replace H := Option.bind_eq_some_iff.mp H
    obtain ⟨t433, A100, H⟩ := H
    replace H : (if t417 = true then (if t423 = true then (if t433 = true then (if t430 = true then (some false) else ((slot_Row.f k t418 1024).bind fun t434 => (some t434))) else (some false)) else (some false)) else (some false)) = some r := H
    have A10 := Aside0.mk A100
    clear A100
    by_cases c11 : t417 = true
    · subst c11
      have H1 : (if t423 = true then (if t433 = true then (if t430 = true then (some false) else ((slot_Row.f k t418 1024).bind fun t434 => (some t434))) else (some false)) else (some false)) = some r := by rw [if_pos rfl] at H; exact H
      clear H
      have H := H1
      clear H1
      by_cases c12 : t423 = true
      · subst c12
        have H1 : (if t433 = true then (if t430 = true then (some false) else ((slot_Row.f k t418 1024).bind fun t434 => (some t434))) else (some false)) = some r := by rw [if_pos rfl] at H; exact H
        clear H
        have H := H1
        clear H1
        by_cases c13 : t433 = true
        · subst c13
          have H1 : (if t430 = true then (some false) else ((slot_Row.f k t418 1024).bind fun t434 => (some t434))) = some r := by rw [if_pos rfl] at H; exact H
          clear H
          have H := H1
          clear H1
          by_cases c14 : t430 = true
          · subst c14
            have H1 : (some false) = some r := by rw [if_pos rfl] at H; exact H
            clear H
            have H := H1
            clear H1
            exact absurd ((Option.some.inj H).trans hr_.out) (by simp)
          · replace c14 := Bool.eq_false_iff.mpr c14
            subst c14
            have H1 : ((slot_Row.f k t418 1024).bind fun t434 => (some t434)) = some r := by rw [if_neg (show ¬ (false = true) by decide)] at H; exact H
            clear H
            have H := H1
            clear H1
            replace H := Option.bind_eq_some_iff.mp H
            obtain ⟨t434, A150, H⟩ := H
            replace H : (some t434) = some r := H
            have A15 := Aside0.mk A150
            clear A150
            obtain rfl := Option.some.inj H
            go_enter Try.func10, Try.ntmps10
            go_wp2_with (first | ((with_reducible refine gate_callee (f := 23) rfl ?_); refine goesL_ (some 15) rfl rfl Try.func23 (by kernel_rfl) rfl #[] rfl (by (try simp only [List.map_toArray, List.map_cons, List.map_nil]); first | done | rfl | (simp only [List.length_drop, List.length_take]; rfl)) ?_; (with_reducible refine (regattalaw16_awake.calls k  true _ A4.out).mono ?_); rintro e w16 ⟨rfl, hb⟩; refine ⟨_, rfl, ?_⟩; have n0_ := Aside0.mk (below_step (by repeat (first | (with_reducible first | exact HB.out | apply below_alloc | apply pw_below_drewN | apply below_drew1) | exact HB.out)) hb); clear HB; have HB := n0_; clear n0_; (try clear hb); (try clear hb2); (try clear hk); (try clear hi)) | ((with_reducible refine gate_callee (f := 26) rfl ?_); refine goesL_ (some 18) rfl rfl Try.func26 (by kernel_rfl) rfl #[.int .i64 a0, .slice A1 l1.length c1] rfl (by (try simp only [List.map_toArray, List.map_cons, List.map_nil]); first | done | rfl | (simp only [List.length_drop, List.length_take]; rfl)) ?_; (with_reducible refine (regattalaw16_made.calls k a0 _ _ l1 t418 _ ?side1 ?side2 A5.out).mono ?_); (case side1 => repeat (first | exact (Kd.C_below HR1.out HB.out) | (with_reducible refine Kd.C_alloc ?_ _) | (with_reducible refine Kd.C_drewN ?_ _) | (with_reducible refine Kd.C_drew ?_))); (case side2 => exact HC1.out); rintro e w17 ⟨v419, rfl, ho0, hb⟩; refine ⟨_, rfl, ?_⟩; have n0_ := Aside0.mk (Kd.S_lower ho0 (below_size (by repeat (first | (with_reducible first | exact HB.out | apply below_alloc | apply pw_below_drewN | apply below_drew1) | exact HB.out)))); have n1_ := Aside0.mk (below_step (by repeat (first | (with_reducible first | exact HB.out | apply below_alloc | apply pw_below_drewN | apply below_drew1) | exact HB.out)) hb); clear HB; have HO420 := n0_; have HB := n1_; clear n0_ n1_; (try clear hb); (try clear hb2); (try clear hk); (try clear hi); (try clear ho0); obtain ⟨Ao18, co18, eo18⟩ := Kd.S_slice HO420.out; subst eo18) | ((with_reducible refine gate_callee (f := 35) rfl ?_); refine goesL_ (some 20) rfl rfl Try.func35 (by kernel_rfl) rfl #[.slice Ao18 t418.length co18] rfl (by (try simp only [List.map_toArray, List.map_cons, List.map_nil]); first | done | rfl | (simp only [List.length_drop, List.length_take]; rfl)) ?_; (with_reducible refine (slot_Bytes.calls k _ _ t418 t421 _ ?side1 ?side2 A6.out).mono ?_); (case side1 => repeat (first | exact (Kd.S_reads' HO420.out).2.2 | (with_reducible refine Kd.C_alloc ?_ _) | (with_reducible refine Kd.C_drewN ?_ _) | (with_reducible refine Kd.C_drew ?_))); (case side2 => exact (Kd.S_reads' HO420.out).2.1); rintro e w19 ⟨rfl, hb⟩; refine ⟨_, rfl, ?_⟩; have n0_ := Aside0.mk (Kd.S_below (by (with_reducible repeat (first | apply Kd.S_alloc | apply Kd.S_drewN | apply Kd.S_drew)); exact HO420.out) hb); have n1_ := Aside0.mk (below_step (by repeat (first | (with_reducible first | exact HB.out | apply below_alloc | apply pw_below_drewN | apply below_drew1) | exact HB.out)) hb); clear HO420; clear HB; have HO420 := n0_; have HB := n1_; clear n0_ n1_; (try clear hb); (try clear hb2); (try clear hk); (try clear hi)) | ((with_reducible refine gate_callee (f := 32) rfl ?_); refine goesL_ (some 23) rfl rfl Try.func32 (by kernel_rfl) rfl #[.string t421] rfl (by (try simp only [List.map_toArray, List.map_cons, List.map_nil]); first | done | rfl | (simp only [List.length_drop, List.length_take]; rfl)) ?_; (with_reducible refine (slot_Read.calls k t421 t422 true _ A7.out).mono ?_); rintro e w20 ⟨v424, rfl, ho0, hb⟩; refine ⟨_, rfl, ?_⟩; have n0_ := Aside0.mk (Kd.S_elder' (by (with_reducible repeat (first | apply Kd.S_alloc | apply Kd.S_drewN | apply Kd.S_drew)); exact HO420.out) (Kd.S_base ho0) hb); have n1_ := Aside0.mk (Kd.S_lower (Kd.S_new' ho0 (Kd.S_lt (by (with_reducible repeat (first | apply Kd.S_alloc | apply Kd.S_drewN | apply Kd.S_drew)); exact HO420.out))) (below_size (by repeat (first | (with_reducible first | exact HB.out | apply below_alloc | apply pw_below_drewN | apply below_drew1) | exact HB.out)))); have n2_ := Aside0.mk (below_step (by repeat (first | (with_reducible first | exact HB.out | apply below_alloc | apply pw_below_drewN | apply below_drew1) | exact HB.out)) hb); clear HO420; clear HB; have HO420 := n0_; have HO425 := n1_; have HB := n2_; clear n0_ n1_ n2_; (try clear hb); (try clear hb2); (try clear hk); (try clear hi); (try clear ho0); (try clear A7)) | ((with_reducible refine gate_dst (N := 29) rfl ?_); refine Kd.R_lit (Kd.int .u8) _ 5 ?hg (N := 29) ?hd (xs := ([a2] : List Int)) (inner := [.int .u8 a2]) (ok := fun _ => True) (okp := fun _ => True) ?hr ?hp (fun _ hk => hk) trivial (Below.refl _ _) (Nat.le_refl _) (by simp) ?_; (case hd => rfl); (case hg => rfl); (case hr => first | (go_simp; done) | (go_simp; rfl)); (case hp => exact (Reps.one (show Kd.M (Kd.int .u8) _ _ _ a2 [.int .u8 a2] from rfl) (Reps.none _ _))); intro v427 w21 ho22 hb hg_ hnew_; clear hg_ hnew_; (first | rw [← Ny426.out] at ho22 | (simp only [Int.reduceToNat] at ho22; rw [← Ny426.out] at ho22)); have n0_ := Aside0.mk (Kd.S_below (by (with_reducible repeat (first | apply Kd.S_alloc | apply Kd.S_drewN | apply Kd.S_drew)); exact HO420.out) hb); have n1_ := Aside0.mk (Kd.S_below (by (with_reducible repeat (first | apply Kd.S_alloc | apply Kd.S_drewN | apply Kd.S_drew)); exact HO425.out) hb); have n2_ := Aside0.mk (Kd.R_lower ho22 (below_size (by repeat (first | (with_reducible first | exact HB.out | apply below_alloc | apply pw_below_drewN | apply below_drew1) | exact HB.out)))); have n3_ := Aside0.mk (below_step (by repeat (first | (with_reducible first | exact HB.out | apply below_alloc | apply pw_below_drewN | apply below_drew1) | exact HB.out)) hb); clear HO420; clear HO425; clear HB; have HO420 := n0_; have HO425 := n1_; have HO428 := n2_; have HB := n3_; clear n0_ n1_ n2_ n3_; clear hb ho22; have hcv23 := own_string (P := Try.prog) Try.underlying43 Try.underlying5 Try.underlying9 (Kd.own_of_R HO428.out)) | ((with_reducible refine gate_callee (f := 32) rfl ?_); refine goesL_ (some 32) rfl rfl Try.func32 (by kernel_rfl) rfl #[.string (t421 ++ (strOfNums y426))] rfl (by (try simp only [List.map_toArray, List.map_cons, List.map_nil]); first | done | rfl | (simp only [List.length_drop, List.length_take]; rfl)) ?_; (with_reducible refine (slot_Read.calls k (t421 ++ (strOfNums y426)) t429 false _ A9.out).mono ?_); rintro e w24 ⟨v431, rfl, ho0, hb⟩; refine ⟨_, rfl, ?_⟩; have n0_ := Aside0.mk (Kd.S_elder' (by (with_reducible repeat (first | apply Kd.S_alloc | apply Kd.S_drewN | apply Kd.S_drew)); exact HO420.out) (Kd.S_base ho0) hb); have n1_ := Aside0.mk (Kd.S_elder' (by (with_reducible repeat (first | apply Kd.S_alloc | apply Kd.S_drewN | apply Kd.S_drew)); exact HO425.out) (Kd.S_base ho0) hb); have n2_ := Aside0.mk (Kd.R_below (by (with_reducible repeat (first | apply Kd.R_alloc | apply Kd.R_drewN | apply Kd.R_drew)); exact HO428.out) hb); have n3_ := Aside0.mk (Kd.S_lower (Kd.S_new' (Kd.S_new' ho0 (Kd.S_lt (by (with_reducible repeat (first | apply Kd.S_alloc | apply Kd.S_drewN | apply Kd.S_drew)); exact HO420.out))) (Kd.S_lt (by (with_reducible repeat (first | apply Kd.S_alloc | apply Kd.S_drewN | apply Kd.S_drew)); exact HO425.out))) (below_size (by repeat (first | (with_reducible first | exact HB.out | apply below_alloc | apply pw_below_drewN | apply below_drew1) | exact HB.out)))); have n4_ := Aside0.mk (below_step (by repeat (first | (with_reducible first | exact HB.out | apply below_alloc | apply pw_below_drewN | apply below_drew1) | exact HB.out)) hb); clear HO420; clear HO425; clear HO428; clear HB; have HO420 := n0_; have HO425 := n1_; have HO428 := n2_; have HO432 := n3_; have HB := n4_; clear n0_ n1_ n2_ n3_ n4_; (try clear hb); (try clear hb2); (try clear hk); (try clear hi); (try clear ho0); obtain ⟨Ao25, co25, eo25⟩ := Kd.S_slice HO425.out; subst eo25; (try clear A9)) | ((with_reducible refine gate_callee (f := 34) rfl ?_); refine goesL_ (some 37) rfl rfl Try.func34 (by kernel_rfl) rfl #[.slice Ao25 t422.length co25, .slice Ao18 t418.length co18] rfl (by (try simp only [List.map_toArray, List.map_cons, List.map_nil]); first | done | rfl | (simp only [List.length_drop, List.length_take]; rfl)) ?_; (with_reducible refine (regattaref16_Same.calls k _ _ t422 _ _ t418 true _ ?side1 ?side2 ?side3 ?side4 A10.out).mono ?_); (case side1 => repeat (first | exact (Kd.S_reads' HO425.out).2.2 | (with_reducible refine Kd.C_alloc ?_ _) | (with_reducible refine Kd.C_drewN ?_ _) | (with_reducible refine Kd.C_drew ?_))); (case side2 => exact (Kd.S_reads' HO425.out).2.1); (case side3 => repeat (first | exact (Kd.S_reads' HO420.out).2.2 | (with_reducible refine Kd.C_alloc ?_ _) | (with_reducible refine Kd.C_drewN ?_ _) | (with_reducible refine Kd.C_drew ?_))); (case side4 => exact (Kd.S_reads' HO420.out).2.1); rintro e w' ⟨rfl, ⟨nd, rfl⟩⟩; refine ⟨_, rfl, ?_⟩) | (go_at_call 30; (with_reducible refine (slot_Row.calls k _ _ t418 1024 t434 _ ?side1 ?side2 A15.out).mono ?_); (case side1 => repeat (first | exact (Kd.S_reads' HO420.out).2.2 | (with_reducible refine Kd.C_alloc ?_ _) | (with_reducible refine Kd.C_drewN ?_ _) | (with_reducible refine Kd.C_drew ?_))); (case side2 => exact (Kd.S_reads' HO420.out).2.1); rintro e w26 ⟨rfl, hb⟩; have n0_ := Aside0.mk (Kd.S_below (by (with_reducible repeat (first | apply Kd.S_alloc | apply Kd.S_drewN | apply Kd.S_drew)); exact HO420.out) hb); have n1_ := Aside0.mk (Kd.S_below (by (with_reducible repeat (first | apply Kd.S_alloc | apply Kd.S_drewN | apply Kd.S_drew)); exact HO425.out) hb); have n2_ := Aside0.mk (Kd.R_below (by (with_reducible repeat (first | apply Kd.R_alloc | apply Kd.R_drewN | apply Kd.R_drew)); exact HO428.out) hb); have n3_ := Aside0.mk (Kd.S_below (by (with_reducible repeat (first | apply Kd.S_alloc | apply Kd.S_drewN | apply Kd.S_drew)); exact HO432.out) hb); have n4_ := Aside0.mk (below_step (by repeat (first | (with_reducible first | exact HB.out | apply below_alloc | apply pw_below_drewN | apply below_drew1) | exact HB.out)) hb); clear HO420; clear HO425; clear HO428; clear HO432; clear HB; have HO420 := n0_; have HO425 := n1_; have HO428 := n2_; have HO432 := n3_; have HB := n4_; clear n0_ n1_ n2_ n3_ n4_; (try clear hb); (try clear hb2); (try clear hk); (try clear hi)))
            go_ret
            exact ⟨by first | rfl | (simp [errW_none, errW_some] <;> rfl) | (simp [*, errW_none, errW_some] <;> rfl), by repeat (first | (with_reducible first | exact HB.out | apply below_alloc | apply pw_below_drewN | apply below_drew1) | exact HB.out)⟩
        · replace c13 := Bool.eq_false_iff.mpr c13
          subst c13
          have H1 : (some false) = some r := by rw [if_neg (show ¬ (false = true) by decide)] at H; exact H
          clear H
          have H := H1
          clear H1
          exact absurd ((Option.some.inj H).trans hr_.out) (by simp)
      · replace c12 := Bool.eq_false_iff.mpr c12
        subst c12
        have H1 : (some false) = some r := by rw [if_neg (show ¬ (false = true) by decide)] at H; exact H
        clear H
        have H := H1
        clear H1
        exact absurd ((Option.some.inj H).trans hr_.out) (by simp)
    · replace c11 := Bool.eq_false_iff.mpr c11
      subst c11
      have H1 : (some false) = some r := by rw [if_neg (show ¬ (false = true) by decide)] at H; exact H
      clear H
      have H := H1
      clear H1
      exact absurd ((Option.some.inj H).trans hr_.out) (by simp)
  · rw [if_neg c8] at H
    exact absurd H (by simp)

/-- THE ONE PURE STATEMENT of regattalaw16_SlotBack: yours. -/
def regattalaw16_SlotBack.Pure : Prop := ∀ (x0 : Int) (x1 : List (List Int)) (x2 : Int), ((Lit.int .i64 x0).wf = true) → (x1.length ≤ 9223372036854775807 ∧ ∀ y ∈ x1, (y.length ≤ 9223372036854775807 ∧ ∀ yy ∈ y, ((Lit.int .i64 yy).wf = true))) → ((Lit.int .u8 x2).wf = true) → ∃ k, regattalaw16_SlotBack.f k x0 x1 x2 = some true

end Go.Proofs.Ytlblianpbjhmoaa.PGs
