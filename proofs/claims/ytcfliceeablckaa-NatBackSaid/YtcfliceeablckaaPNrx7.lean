-- Written by wip/rprint.py of this session's repo (the kit's printer with patches), out of the translation. Not trusted: Lean checks it.
import Derived.Test.YtcfliceeablckaaPNrx0
import Derived.Test.YtcfliceeablckaaPNrx1
import Derived.Test.YtcfliceeablckaaPNrx2
import Derived.Test.YtcfliceeablckaaPNrx3
import Derived.Test.YtcfliceeablckaaPNrx4
import Derived.Test.YtcfliceeablckaaPNrx5
import Derived.Test.YtcfliceeablckaaPNrx6
namespace Go.Proofs.Ytcfliceeablckaa.PNr
open Go.RowKit Go.Proofs.YtcfliceeablckaaW.PrintWords Go.Proofs.YtcfliceeablckaaW.PrintLast Go.Proofs.YtcfliceeablckaaW.PrintMore Go.Proofs.Ytcfliceeablckaa.MWords
attribute [local go_sem] max2_int min2_int max_two min_two max_three min_three max_four min_four   -- for this text's walks alone
set_option linter.unusedVariables false
set_option linter.unusedSimpArgs false

/-! ### regattaref02_mul: function 60 -/
def regattaref02_mul.l0 : Nat → List Int → List Int → List Int → Int → Option (List Int)
  | 0, _, _, _, _ => none
  | k + 1, x0, x1, x5, x6 => if x6 ≥ 0 then ((some (([0] : List Int) : List Int)).bind fun y380 => (if y380.length + x5.length < 17592186044416 then ((regattaref02_cut.f k (y380 ++ x5)).bind fun t386 => (if 0 ≤ x6 then (if x6 < (x1.length : Int) then ((regattaref02_times.f k x0 (rd x1 x6)).bind fun t390 => ((regattaref02_add.f k t386 t390).bind fun t393 => (regattaref02_mul.l0 k x0 x1 t393 (wrap64 (x6 - 1))))) else (none)) else (none))) else (none))) else ((regattaref02_cut.f k x5).bind fun t396 => (some t396))
def regattaref02_mul.f (k : Nat) (l0 : List Int) (l1 : List Int) : Option (List Int) := regattaref02_mul.l0 k l0 l1 ([] : List Int) (wrap64 ((l1.length : Int) - 1))
theorem regattaref02_mul.mono_l : ∀ k, (∀ y0 y1 y2 y3, LeO (regattaref02_mul.l0 k y0 y1 y2 y3) (regattaref02_mul.l0 (k + 1) y0 y1 y2 y3))
  | 0 => fun _ _ _ _ r h => by simp [regattaref02_mul.l0] at h
  | k + 1 => by
    have ih0 := regattaref02_mul.mono_l k
    · intro y0 y1 y2 y3
      unfold regattaref02_mul.l0
      repeat' first
      | (with_reducible exact ih0 _ _ _ _)
      | (with_reducible exact regattaref02_add.mono _ _ _)
      | (with_reducible exact regattaref02_cut.mono _ _)
      | (with_reducible exact regattaref02_times.mono _ _ _)
      | (with_reducible exact LeO.refl _)
      | (with_reducible exact LeO.none _)
      | (with_reducible refine LeO.ite ?_ ?_)
      | (with_reducible refine LeO.bind ?_ (fun _ => ?_))
      | exact ih0 _ _ _ _
      | exact regattaref02_add.mono _ _ _
      | exact regattaref02_cut.mono _ _
      | exact regattaref02_times.mono _ _ _
      | exact LeO.none _
      | refine LeO.ite ?_ ?_
      | refine LeO.bind ?_ (fun _ => ?_)
theorem regattaref02_mul.mono : ∀ a0 a1 k, LeO (regattaref02_mul.f k a0 a1) (regattaref02_mul.f (k + 1) a0 a1) := by
  intro a0 a1 k
  have ih0 := regattaref02_mul.mono_l k
  unfold regattaref02_mul.f
  repeat' first
      | (with_reducible exact ih0 _ _ _ _)
      | (with_reducible exact regattaref02_add.mono _ _ _)
      | (with_reducible exact regattaref02_cut.mono _ _)
      | (with_reducible exact regattaref02_times.mono _ _ _)
      | (with_reducible exact LeO.refl _)
      | (with_reducible exact LeO.none _)
      | (with_reducible refine LeO.ite ?_ ?_)
      | (with_reducible refine LeO.bind ?_ (fun _ => ?_))
      | exact ih0 _ _ _ _
      | exact regattaref02_add.mono _ _ _
      | exact regattaref02_cut.mono _ _
      | exact regattaref02_times.mono _ _ _
      | exact LeO.none _
      | refine LeO.ite ?_ ?_
      | refine LeO.bind ?_ (fun _ => ?_)
def regattaref02_mul.T6 : Bool × List (List Nat × List Nat) := (true, [([], []), ([0], [0]), ([], []), ([], []), ([], []), ([3, 4], [3, 4]), ([5], [5]), ([2, 6, 1], [2, 6]), ([1, 7, 7], [1, 7]), ([8, 8, 0, 1, 2, 3, 4, 5, 6, 7, 8], [0, 8])])
def regattaref02_mul.B6 : List Nat := [0, 1, 0, 0, 0, 24, 56, 127, 255, 511]
theorem regattaref02_mul.tab6 : rtab .any (opsOf Try.f60 6) = regattaref02_mul.T6 := by kernel_rfl
theorem regattaref02_mul.bits6 : waitsOk regattaref02_mul.T6.2 regattaref02_mul.B6 = true := by kernel_rfl
set_option maxHeartbeats 8000000 in
set_option maxRecDepth 100000 in
theorem regattaref02_mul.calls (k : Nat) (A0 : Option Addr) (c0 : Nat) (l0 : List Int) (A1 : Option Addr) (c1 : Nat) (l1 : List Int) (r : List Int) (w : World) (hr0 : Kd.C (Kd.int .i64) w A0 l0.length l0) (hc0 : l0.length ≤ c0) (hr1 : Kd.C (Kd.int .i64) w A1 l1.length l1) (hc1 : l1.length ≤ c1) (h : regattaref02_mul.f k l0 l1 = some r) :
    Calls Try.prog 60 #[.slice A0 l0.length c0, .slice A1 l1.length c1] w fun e w' => ∃ v0_ : Value, e = .returned (v0_) ∧ Kd.V (Kd.int .i64) 3 w' w.heap.size (fun k_ => (w.heap.size ≤ k_)) v0_ r ∧ Below w.heap.size w w' := by
  have HR0 := Aside0.mk hr0
  have HC0 := Aside0.mk hc0
  clear hr0 hc0
  have HR1 := Aside0.mk hr1
  have HC1 := Aside0.mk hc1
  clear hr1 hc1
  have HB := Aside0.mk (Below.refl w.heap.size w)
  have H : (regattaref02_mul.l0 k l0 l1 ([] : List Int) (wrap64 ((l1.length : Int) - 1))) = some r := h
  clear h
  have H' := Aside0.mk H
  clear H
  go_enter Try.func60, Try.ntmps60
  go_wp2
  go_loopg [5, 6] k (fun kq v5 v6 w' => ∃ (x5_1 : List Int) (x6_1 : Int), v6 = .int .i64 x6_1 ∧ Aside0 (regattaref02_mul.l0 kq l0 l1 x5_1 x6_1 = some r) ∧ Aside0 (kq ≤ k) ∧ Aside0 (Kd.V (Kd.int .i64) 3 w' w.heap.size (fun k_ => (w.heap.size ≤ k_)) v5 x5_1) ∧ Aside0 (Below w.heap.size w w'))
  case atStart => exact ⟨(([] : List Int)), (wrap64 ((l1.length : Int) - 1)), (by first | rfl | (simp; done) | (simp [*]; done)), H', ⟨Nat.le_refl _⟩, ⟨Kd.V_nil _ _ _ _ _⟩, ⟨by repeat (first | (with_reducible first | exact HB.out | apply below_alloc | apply pw_below_drewN | apply below_drew1) | exact HB.out)⟩⟩
  case round =>
    clear H'
    try clear c1
    try clear p2
    obtain ⟨x5_1, x6_1, rfl, HA, HK1, HO_5, HB⟩ := hrel
    cases gk with
    | zero => exact absurd HA.out (by simp [regattaref02_mul.l0])
    | succ k1 =>
      have H := HA.out
      clear HA
      simp only [regattaref02_mul.l0] at H
      by_cases c3 : x6_1 ≥ 0
      · rw [if_pos c3] at H
        have c3b0 : decide (0 ≤ x6_1) = true := decide_eq_true c3
        clear c3
        obtain ⟨y380, hy380⟩ : ∃ y_ : List Int, y_ = (([0] : List Int)) := ⟨_, rfl⟩
        replace H : (if y380.length + x5_1.length < 17592186044416 then ((regattaref02_cut.f k1 (y380 ++ x5_1)).bind fun t386 => (if 0 ≤ x6_1 then (if x6_1 < (l1.length : Int) then ((regattaref02_times.f k1 l0 (rd l1 x6_1)).bind fun t390 => ((regattaref02_add.f k1 t386 t390).bind fun t393 => (regattaref02_mul.l0 k1 l0 l1 t393 (wrap64 (x6_1 - 1))))) else (none)) else (none))) else (none)) = some r := by first | (rw [hy380]; with_reducible exact H) | (have H2_ := (Option.bind_some _ _).symm.trans H; rw [hy380]; with_reducible exact H2_) | (have H2_ := (Option.bind_some _ _).symm.trans H; with_reducible exact H2_) | with_reducible exact H | (rw [hy380]; exact H) | exact H
        have Ny380 := Aside0.mk hy380
        clear hy380
        by_cases c4 : y380.length + x5_1.length < 17592186044416
        · rw [if_pos c4] at H
          have LMc4 := Aside0.mk c4
          clear c4
          obtain ⟨y383, hy383⟩ : ∃ y_ : List Int, y_ = (y380 ++ x5_1) := ⟨_, rfl⟩
          replace H : ((regattaref02_cut.f k1 y383).bind fun t386 => (if 0 ≤ x6_1 then (if x6_1 < (l1.length : Int) then ((regattaref02_times.f k1 l0 (rd l1 x6_1)).bind fun t390 => ((regattaref02_add.f k1 t386 t390).bind fun t393 => (regattaref02_mul.l0 k1 l0 l1 t393 (wrap64 (x6_1 - 1))))) else (none)) else (none))) = some r := by first | (rw [hy383]; with_reducible exact H) | (have H2_ := (Option.bind_some _ _).symm.trans H; rw [hy383]; with_reducible exact H2_) | (have H2_ := (Option.bind_some _ _).symm.trans H; with_reducible exact H2_) | with_reducible exact H | (rw [hy383]; exact H) | exact H
          have Ny383 := Aside0.mk hy383
          clear hy383
          replace H := Option.bind_eq_some_iff.mp H
          obtain ⟨t386, A50, H⟩ := H
          replace H : (if 0 ≤ x6_1 then (if x6_1 < (l1.length : Int) then ((regattaref02_times.f k1 l0 (rd l1 x6_1)).bind fun t390 => ((regattaref02_add.f k1 t386 t390).bind fun t393 => (regattaref02_mul.l0 k1 l0 l1 t393 (wrap64 (x6_1 - 1))))) else (none)) else (none)) = some r := H
          have A5 := Aside0.mk A50
          clear A50
          by_cases c6 : 0 ≤ x6_1
          · rw [if_pos c6] at H
            have c6b0 : decide (0 ≤ x6_1) = true := decide_eq_true c6
            clear c6
            by_cases c7 : x6_1 < (l1.length : Int)
            · rw [if_pos c7] at H
              have c7b0 : decide (x6_1 < (l1.length : Int)) = true := decide_eq_true c7
              clear c7
              replace H := Option.bind_eq_some_iff.mp H
              obtain ⟨t390, A80, H⟩ := H
              replace H : ((regattaref02_add.f k1 t386 t390).bind fun t393 => (regattaref02_mul.l0 k1 l0 l1 t393 (wrap64 (x6_1 - 1)))) = some r := H
              have A8 := Aside0.mk A80
              clear A80
              replace H := Option.bind_eq_some_iff.mp H
              obtain ⟨t393, A90, H⟩ := H
              replace H : (regattaref02_mul.l0 k1 l0 l1 t393 (wrap64 (x6_1 - 1))) = some r := H
              have A9 := Aside0.mk A90
              clear A90
              have H' := Aside0.mk H
              clear H
              try go_wp2_with (first | ((with_reducible refine gate_dst (N := 14) rfl ?_); refine Kd.R_lit (Kd.int .i64) _ 3 ?hg (N := 14) ?hd (xs := ([0] : List Int)) (inner := [.int .i64 0]) (ok := fun _ => True) (okp := fun _ => True) ?hr ?hp (fun _ hk => hk) trivial (Below.refl _ _) (Nat.le_refl _) (by simp) ?_; (case hd => rfl); (case hg => rfl); (case hr => first | (go_simp; done) | (go_simp; rfl)); (case hp => exact (Reps.one (show Kd.M (Kd.int .i64) _ _ _ 0 [.int .i64 0] from rfl) (Reps.none _ _))); intro v381 w10 ho11 hb hg_ hnew_; clear hg_ hnew_; (first | rw [← Ny380.out] at ho11 | (simp only [Int.reduceToNat] at ho11; rw [← Ny380.out] at ho11)); have n0_ := Aside0.mk (Kd.V_elder' (by (with_reducible repeat (first | apply Kd.V_alloc | apply Kd.V_drewN | apply Kd.V_drew)); exact HO_5.out) (Kd.R_base ho11) hb); have n1_ := Aside0.mk (Kd.R_lower (Kd.R_newM (M := fun k_ => (w.heap.size ≤ k_)) ho11 (below_size (by repeat (first | (with_reducible first | exact HB.out | apply below_alloc | apply pw_below_drewN | apply below_drew1) | exact HB.out))) (fun k_ h_ => h_)) (below_size (by repeat (first | (with_reducible first | exact HB.out | apply below_alloc | apply pw_below_drewN | apply below_drew1) | exact HB.out)))); have n2_ := Aside0.mk (below_step (by repeat (first | (with_reducible first | exact HB.out | apply below_alloc | apply pw_below_drewN | apply below_drew1) | exact HB.out)) hb); clear HO_5; clear HB; have HO_5 := n0_; have HO382 := n1_; have HB := n2_; clear n0_ n1_ n2_; clear hb ho11; obtain ⟨Ao13, co13, eo13⟩ := Kd.V_slice HO_5.out; subst eo13) | ((with_reducible refine gate_builtin (b := .append) (xs := #[.tmp 14, .tmp 15]) rfl ?_); at_builtin; refine Kd.R_append_rows (Kd.int .i64) (w0 := w) w.heap.size rfl (.tmp 14) (.tmp 15) 82 3 (.int .i64 0) 8 rfl Try.underlying82 info3 rfl (by decide) (by omega) v381 y380 x5_1 _ _ _ (fun k_ => (w.heap.size ≤ k_)) (fun _ => False) rfl rfl ?aO ?aR (fun _ _ h => h) (fun _ h => h.elim) ?aF ?aB ?aS ?aL ?_; (case aR => repeat (first | exact (Kd.V_reads' HO_5.out).2.2 | (with_reducible refine Kd.C_alloc ?_ _) | (with_reducible refine Kd.C_drewN ?_ _) | (with_reducible refine Kd.C_drew ?_))); (case aB => exact (by repeat (first | (with_reducible first | exact HB.out | apply below_alloc | apply pw_below_drewN | apply below_drew1) | exact HB.out))); (case aF => exact (fun k_ hk => (Nat.le_trans (below_size (by repeat (first | (with_reducible first | exact HB.out | apply below_alloc | apply pw_below_drewN | apply below_drew1) | exact HB.out))) hk))); (case aO => exact (by (with_reducible repeat (first | apply Kd.R_alloc | apply Kd.R_drewN | apply Kd.R_drew)); exact Kd.R_mono HO382.out (fun _ hk => hk.1))); (case aS => exact (below_size (by repeat (first | (with_reducible first | exact HB.out | apply below_alloc | apply pw_below_drewN | apply below_drew1) | exact HB.out)))); (case aL => have := LMc4.out; omega); intro v384 w12 ho hb hg hat; rw [← Ny383.out] at ho; have n0_ := Aside0.mk (Kd.V_afterv (ok := (fun k_ => (w.heap.size ≤ k_))) (by (with_reducible repeat (first | apply Kd.V_alloc | apply Kd.V_drewN | apply Kd.V_drew)); exact HO_5.out) hg hat); have n1_ := Aside0.mk (hb); have n2_ := Aside0.mk (ho); clear HO_5; clear HB; clear HO382; have HO_5 := n0_; have HB := n1_; have HO385 := n2_; clear n0_ n1_ n2_; clear ho hb hg hat))
              have n0_ := Aside0.mk (Kd.V_drew HO_5.out)
              have n1_ := Aside0.mk (Kd.R_drew HO385.out)
              have n2_ := Aside0.mk (below_drew1 HB.out)
              clear HO_5
              clear HO385
              clear HB
              have HO_5 := n0_
              have HO385 := n1_
              have HB := n2_
              clear n0_ n1_ n2_
              have p389 : 0 ≤ (x6_1 : Int) := of_decide_eq_true (by first | (with_reducible assumption) | assumption)
              have q389 : x6_1 < (l1.length : Int) := of_decide_eq_true (by first | (with_reducible assumption) | assumption)
              obtain ⟨ad389, e389, hx389_0⟩ := Kd.at_int HR1.out x6_1 p389 q389
              have hw389_0 := hx389_0
              cases e389
              replace hx389_0 := (HB.out.cell (World.block_lt_of_cell? w _ hx389_0)).trans hx389_0
              replace p389 := eq_true p389
              replace q389 := eq_true q389
              obtain ⟨Ao15, co15, eo15⟩ := Kd.R_slice HO385.out
              (first | subst eo15 | (injection eo15 with f1_ f2_ f3_; have f4_ := f1_.symm; have f5_ := f3_.symm; clear f1_ f2_ f3_; subst f4_; subst f5_))
              refine start_ (n := 10) (S := fun w' => w'.cell? (ad389.add (x6_1).toNat) = some (.int .i64 (rd l1 x6_1))) (ds := []) #[false, false, false, false, false, false, false, false, false, false] (by kernel_rfl) rfl rfl (((HB.out.cell (World.block_lt_of_cell? w _ hw389_0)).trans hw389_0)) (fun hHeld => ?_); refine with_tabW regattaref02_mul.tab6 regattaref02_mul.bits6 (fun HT_ HW_ => ?_)
              generalize w12.drew = w14 at HO_5 HO385 HB hx389_0 hHeld ⊢
              refine pure_ (i := 0) (N := some 17) (v := ?_) (a' := ?_) #[true, false, false, false, false, false, false, false, false, false] rfl rfl (any_of HT_.out (by kernel_rfl)) (fun _ _ _ h => h) (Or.inl ⟨by rfl, ?_⟩) ?_ ?_
              rotate_left
              · intro w'
                go_simp
                with_reducible rfl
              rotate_left
              · simp only [Act.put, List.setIfInBounds_toArray, List.set_cons_zero, List.set_cons_succ, i64_w, i32_w]
                rfl
              refine pure_ (i := 2) (N := some 19) (v := ?_) (a' := ?_) #[true, false, true, false, false, false, false, false, false, false] rfl rfl (any_of HT_.out (by kernel_rfl)) (fun _ _ _ h => h) (Or.inl ⟨by rfl, ?_⟩) ?_ ?_
              rotate_left
              · intro w'
                go_simp
                with_reducible rfl
              rotate_left
              · simp only [Act.put, List.setIfInBounds_toArray, List.set_cons_zero, List.set_cons_succ, i64_w, i32_w]
                rfl
              refine pure_ (i := 3) (N := some 20) (v := ?_) (a' := ?_) #[true, false, true, true, false, false, false, false, false, false] rfl rfl (any_of HT_.out (by kernel_rfl)) (fun _ _ _ h => h) (Or.inl ⟨by rfl, ?_⟩) ?_ ?_
              rotate_left
              · intro w'
                go_simp
                with_reducible rfl
              rotate_left
              · simp only [Act.put, List.setIfInBounds_toArray, List.set_cons_zero, List.set_cons_succ, i64_w, i32_w]
                rfl
              refine pure_ (i := 4) (N := some 21) (v := ?_) (a' := ?_) #[true, false, true, true, true, false, false, false, false, false] rfl rfl (any_of HT_.out (by kernel_rfl)) (fun _ _ _ h => h) (Or.inl ⟨by rfl, ?_⟩) ?_ ?_
              rotate_left
              · intro w'
                go_simp
                with_reducible rfl
              rotate_left
              · simp only [Act.put, List.setIfInBounds_toArray, List.set_cons_zero, List.set_cons_succ, i64_w, i32_w]
                rfl
              refine pure_ (i := 5) (N := some 22) (v := ?_) (a' := ?_) #[true, false, true, true, true, true, false, false, false, false] rfl rfl (any_of HT_.out (by kernel_rfl)) (fun _ _ _ h => h) (Or.inl ⟨by rfl, ?_⟩) ?_ ?_
              rotate_left
              · intro w'
                go_simp
                with_reducible rfl
              rotate_left
              · simp only [Act.put, List.setIfInBounds_toArray, List.set_cons_zero, List.set_cons_succ, i64_w, i32_w]
                rfl
              refine take_ (i := 6) (N := some 23) (v := ?_) (a' := ?_) #[true, false, true, true, true, true, true, false, false, false] rfl rfl (take_ofW HT_.out HW_.out (by kernel_rfl)) (fun _ _ _ h => h) (Or.inl ⟨by rfl, ?_⟩) hHeld ?_ ?_
              rotate_left
              · intro w' s0
                go_simp
                with_reducible rfl
              rotate_left
              · simp only [Act.put, List.setIfInBounds_toArray, List.set_cons_zero, List.set_cons_succ, i64_w, i32_w]
                rfl
              refine one_ (i := 1) (N := some 18) #[true, true, true, true, true, true, true, false, false, false] rfl rfl (one_of HT_.out (by kernel_rfl)) (by decide) (fun K hK => ?_)
              refine goes_ Try.func70 (by kernel_rfl) rfl #[.slice Ao15 y383.length co15] (by rfl) rfl rfl (by (try simp only [List.map_toArray, List.map_cons, List.map_nil]); first | done | rfl | (simp only [List.length_drop, List.length_take]; rfl)) ?_
              with_reducible refine (regattaref02_cut.calls k1 (fun k_ => some k_ = (.slice Ao15 y383.length co15 : Value).ownBlock) _ _ y383 t386 _ ?side1 A5.out).mono ?_
              (case side1 => exact Kd.R_V (Kd.R_tight rfl (HO385.out)))
              rintro e w16 ⟨v387, rfl, ho0, hb⟩
              refine ⟨_, rfl, ?_⟩
              have n0_ := Aside0.mk (Kd.V_below (by (with_reducible repeat (first | apply Kd.V_alloc | apply Kd.V_drewN | apply Kd.V_drew)); exact HO_5.out) hb)
              have n1_ := Aside0.mk (Kd.R_below (by (with_reducible repeat (first | apply Kd.R_alloc | apply Kd.R_drewN | apply Kd.R_drew)); exact HO385.out) hb)
              have n2_ := Aside0.mk (Kd.V_lower (Kd.V_mono (ok' := fun k_ => (w.heap.size ≤ k_)) ho0 (fun k_ hk_ => Or.elim hk_ (fun hs_ => ((HO385.out).1 k_ hs_.symm)) (fun hn_ => (Nat.le_trans (below_size (by repeat (first | (with_reducible first | exact HB.out | apply below_alloc | apply pw_below_drewN | apply below_drew1) | exact HB.out))) hn_)))) (below_size (by repeat (first | (with_reducible first | exact HB.out | apply below_alloc | apply pw_below_drewN | apply below_drew1) | exact HB.out))))
              have n3_ := Aside0.mk (below_step (by repeat (first | (with_reducible first | exact HB.out | apply below_alloc | apply pw_below_drewN | apply below_drew1) | exact HB.out)) hb)
              clear HO_5
              clear HO385
              clear HB
              have HO_5 := n0_
              have HO385 := n1_
              have HO388 := n2_
              have HB := n3_
              clear n0_ n1_ n2_ n3_
              (try clear hb)
              (try clear hb2)
              (try clear hk)
              (try clear hi)
              (try clear ho0)
              refine hK.out _ _ (((HB.out.cell (World.block_lt_of_cell? w _ hw389_0)).trans hw389_0)) (fun hHeld => ?_)
              clear hK K
              refine norm_ (a' := ?_) ?_ ?_
              rotate_left
              · show Act.put _ (some 18) _ = _
                simp only [Act.put, List.setIfInBounds_toArray, List.set_cons_zero, List.set_cons_succ, i64_w, i32_w]
                rfl
              refine one_ (i := 7) (N := some 24) #[true, true, true, true, true, true, true, true, false, false] rfl rfl (one_of HT_.out (by kernel_rfl)) (by decide) (fun K hK => ?_)
              refine goes_ Try.func71 (by kernel_rfl) rfl #[.slice A0 l0.length c0, .int .i64 (rd l1 x6_1)] (by rfl) rfl rfl (by (try simp only [List.map_toArray, List.map_cons, List.map_nil]); first | done | rfl | (simp only [List.length_drop, List.length_take]; rfl)) ?_
              with_reducible refine (regattaref02_times.calls k1 _ _ l0 (rd l1 x6_1) t390 _ ?side1 ?side2 A8.out).mono ?_
              (case side1 => repeat (first | exact (Kd.C_below HR0.out HB.out) | (with_reducible refine Kd.C_alloc ?_ _) | (with_reducible refine Kd.C_drewN ?_ _) | (with_reducible refine Kd.C_drew ?_)))
              (case side2 => exact HC0.out)
              rintro e w17 ⟨v391, rfl, ho0, hb⟩
              refine ⟨_, rfl, ?_⟩
              have n0_ := Aside0.mk (Kd.V_below (by (with_reducible repeat (first | apply Kd.V_alloc | apply Kd.V_drewN | apply Kd.V_drew)); exact HO_5.out) hb)
              have n1_ := Aside0.mk (Kd.R_below (by (with_reducible repeat (first | apply Kd.R_alloc | apply Kd.R_drewN | apply Kd.R_drew)); exact HO385.out) hb)
              have n2_ := Aside0.mk (Kd.V_below (by (with_reducible repeat (first | apply Kd.V_alloc | apply Kd.V_drewN | apply Kd.V_drew)); exact HO388.out) hb)
              have n3_ := Aside0.mk (Kd.V_lower (Kd.V_mono (ok' := fun k_ => (w.heap.size ≤ k_) ∧ some k_ ≠ (.slice Ao15 y383.length co15 : Value).ownBlock) ho0 (fun k_ hk_ => ⟨(Nat.le_trans (below_size (by repeat (first | (with_reducible first | exact HB.out | apply below_alloc | apply pw_below_drewN | apply below_drew1) | exact HB.out))) hk_), (Kd.fresh' (Kd.R_lt (by (with_reducible repeat (first | apply Kd.R_alloc | apply Kd.R_drewN | apply Kd.R_drew)); exact HO385.out)) k_ hk_)⟩)) (below_size (by repeat (first | (with_reducible first | exact HB.out | apply below_alloc | apply pw_below_drewN | apply below_drew1) | exact HB.out))))
              have n4_ := Aside0.mk (below_step (by repeat (first | (with_reducible first | exact HB.out | apply below_alloc | apply pw_below_drewN | apply below_drew1) | exact HB.out)) hb)
              clear HO_5
              clear HO385
              clear HO388
              clear HB
              have HO_5 := n0_
              have HO385 := n1_
              have HO388 := n2_
              have HO392 := n3_
              have HB := n4_
              clear n0_ n1_ n2_ n3_ n4_
              (try clear hb)
              (try clear hb2)
              (try clear hk)
              (try clear hi)
              (try clear ho0)
              obtain ⟨Ao18, co18, eo18⟩ := Kd.V_slice HO388.out
              (first | subst eo18 | (injection eo18 with f1_ f2_ f3_; have f4_ := f1_.symm; have f5_ := f3_.symm; clear f1_ f2_ f3_; subst f4_; subst f5_))
              obtain ⟨Ao19, co19, eo19⟩ := Kd.V_slice HO392.out
              (first | subst eo19 | (injection eo19 with f1_ f2_ f3_; have f4_ := f1_.symm; have f5_ := f3_.symm; clear f1_ f2_ f3_; subst f4_; subst f5_))
              refine hK.out _ _ (((HB.out.cell (World.block_lt_of_cell? w _ hw389_0)).trans hw389_0)) (fun hHeld => ?_)
              clear hK K
              refine norm_ (a' := ?_) ?_ ?_
              rotate_left
              · show Act.put _ (some 24) _ = _
                simp only [Act.put, List.setIfInBounds_toArray, List.set_cons_zero, List.set_cons_succ, i64_w, i32_w]
                rfl
              refine one_ (i := 8) (N := some 25) #[true, true, true, true, true, true, true, true, true, false] rfl rfl (one_of HT_.out (by kernel_rfl)) (by decide) (fun K hK => ?_)
              refine goes_ Try.func59 (by kernel_rfl) rfl #[.slice Ao18 t386.length co18, .slice Ao19 t390.length co19] (by rfl) rfl rfl (by (try simp only [List.map_toArray, List.map_cons, List.map_nil]); first | done | rfl | (simp only [List.length_drop, List.length_take]; rfl)) ?_
              with_reducible refine (regattaref02_add.calls k1 _ _ t386 _ _ t390 t393 _ ?side1 ?side2 ?side3 ?side4 A9.out).mono ?_
              (case side1 => repeat (first | exact (Kd.V_reads' HO388.out).2.2 | (with_reducible refine Kd.C_alloc ?_ _) | (with_reducible refine Kd.C_drewN ?_ _) | (with_reducible refine Kd.C_drew ?_)))
              (case side2 => exact (Kd.V_reads' HO388.out).2.1)
              (case side3 => repeat (first | exact (Kd.V_reads' HO392.out).2.2 | (with_reducible refine Kd.C_alloc ?_ _) | (with_reducible refine Kd.C_drewN ?_ _) | (with_reducible refine Kd.C_drew ?_)))
              (case side4 => exact (Kd.V_reads' HO392.out).2.1)
              rintro e w20 ⟨v394, rfl, ho0, hb⟩
              refine ⟨_, rfl, ?_⟩
              have n0_ := Aside0.mk (Kd.V_below (by (with_reducible repeat (first | apply Kd.V_alloc | apply Kd.V_drewN | apply Kd.V_drew)); exact HO_5.out) hb)
              have n1_ := Aside0.mk (Kd.R_below (by (with_reducible repeat (first | apply Kd.R_alloc | apply Kd.R_drewN | apply Kd.R_drew)); exact HO385.out) hb)
              have n2_ := Aside0.mk (Kd.V_below (by (with_reducible repeat (first | apply Kd.V_alloc | apply Kd.V_drewN | apply Kd.V_drew)); exact HO388.out) hb)
              have n3_ := Aside0.mk (Kd.V_below (by (with_reducible repeat (first | apply Kd.V_alloc | apply Kd.V_drewN | apply Kd.V_drew)); exact HO392.out) hb)
              have n4_ := Aside0.mk (Kd.V_lower (Kd.V_mono (ok' := fun k_ => (w.heap.size ≤ k_) ∧ some k_ ≠ (.slice Ao15 y383.length co15 : Value).ownBlock) ho0 (fun k_ hk_ => ⟨(Nat.le_trans (below_size (by repeat (first | (with_reducible first | exact HB.out | apply below_alloc | apply pw_below_drewN | apply below_drew1) | exact HB.out))) hk_), (Kd.fresh' (Kd.R_lt (by (with_reducible repeat (first | apply Kd.R_alloc | apply Kd.R_drewN | apply Kd.R_drew)); exact HO385.out)) k_ hk_)⟩)) (below_size (by repeat (first | (with_reducible first | exact HB.out | apply below_alloc | apply pw_below_drewN | apply below_drew1) | exact HB.out))))
              have n5_ := Aside0.mk (below_step (by repeat (first | (with_reducible first | exact HB.out | apply below_alloc | apply pw_below_drewN | apply below_drew1) | exact HB.out)) hb)
              clear HO_5
              clear HO385
              clear HO388
              clear HO392
              clear HB
              have HO_5 := n0_
              have HO385 := n1_
              have HO388 := n2_
              have HO392 := n3_
              have HO395 := n4_
              have HB := n5_
              clear n0_ n1_ n2_ n3_ n4_ n5_
              (try clear hb)
              (try clear hb2)
              (try clear hk)
              (try clear hi)
              (try clear ho0)
              refine hK.out _ _ (((HB.out.cell (World.block_lt_of_cell? w _ hw389_0)).trans hw389_0)) (fun hHeld => ?_)
              clear hK K
              refine norm_ (a' := ?_) ?_ ?_
              rotate_left
              · show Act.put _ (some 25) _ = _
                simp only [Act.put, List.setIfInBounds_toArray, List.set_cons_zero, List.set_cons_succ, i64_w, i32_w]
                rfl
              refine pure_ (i := 9) (N := some 5) (v := ?_) (a' := ?_) #[true, true, true, true, true, true, true, true, true, true] rfl rfl (any_of HT_.out (by kernel_rfl)) (fun _ _ _ h => h) (Or.inl ⟨by rfl, ?_⟩) ?_ ?_
              rotate_left
              · intro w'
                go_simp
                with_reducible rfl
              rotate_left
              · simp only [Act.put, List.setIfInBounds_toArray, List.set_cons_zero, List.set_cons_succ, i64_w, i32_w]
                rfl
              refine done_ (done_of HT_.out (by kernel_rfl)) ?_
              try go_wp2
              go_roundg k1
              case measure => have := HK1.out; omega
              case rel => exact ⟨(t393), (wrap64 (x6_1 - 1)), (by first | rfl | (simp; done) | (simp [*]; done)), H', ⟨by have := HK1.out; omega⟩, ⟨by (with_reducible repeat (first | apply Kd.V_alloc | apply Kd.V_drewN | apply Kd.V_drew)); exact Kd.V_mono HO395.out (fun _ hk => hk.1)⟩, ⟨by repeat (first | (with_reducible first | exact HB.out | apply below_alloc | apply pw_below_drewN | apply below_drew1) | exact HB.out)⟩⟩
            · rw [if_neg c7] at H
              exact absurd H (by simp)
          · rw [if_neg c6] at H
            exact absurd H (by simp)
        · rw [if_neg c4] at H
          exact absurd H (by simp)
      · rw [if_neg c3] at H
        have c3b0 : decide (0 ≤ x6_1) = false := decide_eq_false c3
        clear c3
        replace H := Option.bind_eq_some_iff.mp H
        obtain ⟨t396, A210, H⟩ := H
        replace H : (some t396) = some r := H
        have A21 := Aside0.mk A210
        clear A210
        obtain rfl := Option.some.inj H
        obtain ⟨Ao22, co22, eo22⟩ := Kd.V_slice HO_5.out
        subst eo22
        go_wp2_with (first | ((with_reducible refine gate_callee (f := 70) rfl ?_); refine goesL_ (some 27) rfl rfl Try.func70 (by kernel_rfl) rfl #[.slice Ao22 x5_1.length co22] rfl (by (try simp only [List.map_toArray, List.map_cons, List.map_nil]); first | done | rfl | (simp only [List.length_drop, List.length_take]; rfl)) ?_; (with_reducible refine (regattaref02_cut.calls k1 (fun k_ => (w.heap.size ≤ k_)) _ _ x5_1 t396 _ ?side1 A21.out).mono ?_); (case side1 => exact HO_5.out); rintro e w23 ⟨v397, rfl, ho0, hb⟩; refine ⟨_, rfl, ?_⟩; have n0_ := Aside0.mk (Kd.V_below (by (with_reducible repeat (first | apply Kd.V_alloc | apply Kd.V_drewN | apply Kd.V_drew)); exact HO_5.out) hb); have n1_ := Aside0.mk (Kd.V_lower (Kd.V_mono (ok' := fun k_ => (w.heap.size ≤ k_)) ho0 (fun k_ hk_ => Or.elim hk_ (fun hs_ => hs_) (fun hn_ => (Nat.le_trans (below_size (by repeat (first | (with_reducible first | exact HB.out | apply below_alloc | apply pw_below_drewN | apply below_drew1) | exact HB.out))) hn_)))) (below_size (by repeat (first | (with_reducible first | exact HB.out | apply below_alloc | apply pw_below_drewN | apply below_drew1) | exact HB.out)))); have n2_ := Aside0.mk (below_step (by repeat (first | (with_reducible first | exact HB.out | apply below_alloc | apply pw_below_drewN | apply below_drew1) | exact HB.out)) hb); clear HO_5; clear HB; have HO_5 := n0_; have HO398 := n1_; have HB := n2_; clear n0_ n1_ n2_; (try clear hb); (try clear hb2); (try clear hk); (try clear hi); (try clear ho0)))
        go_ret
        exact ⟨_, by first | rfl | (simp [errW_none, errW_some] <;> rfl) | (simp [*, errW_none, errW_some] <;> rfl), by (with_reducible repeat (first | apply Kd.V_alloc | apply Kd.V_drewN | apply Kd.V_drew)); exact HO398.out, by repeat (first | (with_reducible first | exact HB.out | apply below_alloc | apply pw_below_drewN | apply below_drew1) | exact HB.out)⟩

/-! ### regattaref02_Mul: function 25 -/
def regattaref02_Mul.f (k : Nat) (l0 : List Int) (l1 : List Int) : Option (List Int) := (regattaref02_FromLimbs.f k l0).bind fun t399 => ((regattaref02_FromLimbs.f k l1).bind fun t402 => ((regattaref02_mul.f k t399 t402).bind fun t405 => ((regattaref02_Limbs.f k t405).bind fun t408 => (some t408))))
theorem regattaref02_Mul.mono : ∀ a0 a1 k, LeO (regattaref02_Mul.f k a0 a1) (regattaref02_Mul.f (k + 1) a0 a1) := by
  intro a0 a1 k
  unfold regattaref02_Mul.f
  repeat' first
      | (with_reducible exact regattaref02_FromLimbs.mono _ _)
      | (with_reducible exact regattaref02_Limbs.mono _ _)
      | (with_reducible exact regattaref02_mul.mono _ _ _)
      | (with_reducible exact LeO.refl _)
      | (with_reducible exact LeO.none _)
      | (with_reducible refine LeO.ite ?_ ?_)
      | (with_reducible refine LeO.bind ?_ (fun _ => ?_))
      | exact regattaref02_FromLimbs.mono _ _
      | exact regattaref02_Limbs.mono _ _
      | exact regattaref02_mul.mono _ _ _
      | exact LeO.none _
      | refine LeO.ite ?_ ?_
      | refine LeO.bind ?_ (fun _ => ?_)
set_option maxHeartbeats 8000000 in
set_option maxRecDepth 100000 in
theorem regattaref02_Mul.calls (k : Nat) (A0 : Option Addr) (c0 : Nat) (l0 : List Int) (A1 : Option Addr) (c1 : Nat) (l1 : List Int) (r : List Int) (w : World) (hr0 : Kd.C (Kd.int .u32) w A0 l0.length l0) (hc0 : l0.length ≤ c0) (hr1 : Kd.C (Kd.int .u32) w A1 l1.length l1) (hc1 : l1.length ≤ c1) (h : regattaref02_Mul.f k l0 l1 = some r) :
    Calls Try.prog 25 #[.slice A0 l0.length c0, .slice A1 l1.length c1] w fun e w' => ∃ v0_ : Value, e = .returned (v0_) ∧ Kd.R (Kd.int .u32) 30 w' w.heap.size (fun _ => True) v0_ r ∧ Below w.heap.size w w' := by
  have HR0 := Aside0.mk hr0
  have HC0 := Aside0.mk hc0
  clear hr0 hc0
  have HR1 := Aside0.mk hr1
  have HC1 := Aside0.mk hc1
  clear hr1 hc1
  have HB := Aside0.mk (Below.refl w.heap.size w)
  have H : ((regattaref02_FromLimbs.f k l0).bind fun t399 => ((regattaref02_FromLimbs.f k l1).bind fun t402 => ((regattaref02_mul.f k t399 t402).bind fun t405 => ((regattaref02_Limbs.f k t405).bind fun t408 => (some t408))))) = some r := h
  clear h
  replace H := Option.bind_eq_some_iff.mp H
  obtain ⟨t399, A30, H⟩ := H
  replace H : ((regattaref02_FromLimbs.f k l1).bind fun t402 => ((regattaref02_mul.f k t399 t402).bind fun t405 => ((regattaref02_Limbs.f k t405).bind fun t408 => (some t408)))) = some r := H
  have A3 := Aside0.mk A30
  clear A30
  replace H := Option.bind_eq_some_iff.mp H
  obtain ⟨t402, A40, H⟩ := H
  replace H : ((regattaref02_mul.f k t399 t402).bind fun t405 => ((regattaref02_Limbs.f k t405).bind fun t408 => (some t408))) = some r := H
  have A4 := Aside0.mk A40
  clear A40
  replace H := Option.bind_eq_some_iff.mp H
  obtain ⟨t405, A50, H⟩ := H
  replace H : ((regattaref02_Limbs.f k t405).bind fun t408 => (some t408)) = some r := H
  have A5 := Aside0.mk A50
  clear A50
  replace H := Option.bind_eq_some_iff.mp H
  obtain ⟨t408, A60, H⟩ := H
  replace H : (some t408) = some r := H
  have A6 := Aside0.mk A60
  clear A60
  obtain rfl := Option.some.inj H
  go_enter Try.func25, Try.ntmps25
  go_wp2_with (first | ((with_reducible refine gate_callee (f := 57) rfl ?_); refine goesL_ (some 6) rfl rfl Try.func57 (by kernel_rfl) rfl #[.slice A0 l0.length c0] rfl (by (try simp only [List.map_toArray, List.map_cons, List.map_nil]); first | done | rfl | (simp only [List.length_drop, List.length_take]; rfl)) ?_; (with_reducible refine (regattaref02_FromLimbs.calls k _ _ l0 t399 _ ?side1 ?side2 A3.out).mono ?_); (case side1 => repeat (first | exact HR0.out | (with_reducible refine Kd.C_alloc ?_ _) | (with_reducible refine Kd.C_drewN ?_ _) | (with_reducible refine Kd.C_drew ?_))); (case side2 => exact HC0.out); rintro e w7 ⟨v400, rfl, ho0, hb⟩; refine ⟨_, rfl, ?_⟩; have n0_ := Aside0.mk (Kd.V_lower (Kd.V_mono (ok' := fun k_ => True) ho0 (fun k_ hk_ => trivial)) (below_size (by repeat (first | (with_reducible first | exact HB.out | apply below_alloc | apply pw_below_drewN | apply below_drew1) | exact HB.out)))); have n1_ := Aside0.mk (below_step (by repeat (first | (with_reducible first | exact HB.out | apply below_alloc | apply pw_below_drewN | apply below_drew1) | exact HB.out)) hb); clear HB; have HO401 := n0_; have HB := n1_; clear n0_ n1_; (try clear hb); (try clear hb2); (try clear hk); (try clear hi); (try clear ho0); (try clear A3)) | ((with_reducible refine gate_callee (f := 57) rfl ?_); refine goesL_ (some 8) rfl rfl Try.func57 (by kernel_rfl) rfl #[.slice A1 l1.length c1] rfl (by (try simp only [List.map_toArray, List.map_cons, List.map_nil]); first | done | rfl | (simp only [List.length_drop, List.length_take]; rfl)) ?_; (with_reducible refine (regattaref02_FromLimbs.calls k _ _ l1 t402 _ ?side1 ?side2 A4.out).mono ?_); (case side1 => repeat (first | exact (Kd.C_below HR1.out HB.out) | (with_reducible refine Kd.C_alloc ?_ _) | (with_reducible refine Kd.C_drewN ?_ _) | (with_reducible refine Kd.C_drew ?_))); (case side2 => exact HC1.out); rintro e w8 ⟨v403, rfl, ho0, hb⟩; refine ⟨_, rfl, ?_⟩; have n0_ := Aside0.mk (Kd.V_below (by (with_reducible repeat (first | apply Kd.V_alloc | apply Kd.V_drewN | apply Kd.V_drew)); exact HO401.out) hb); have n1_ := Aside0.mk (Kd.V_lower (Kd.V_mono (ok' := fun k_ => True) ho0 (fun k_ hk_ => trivial)) (below_size (by repeat (first | (with_reducible first | exact HB.out | apply below_alloc | apply pw_below_drewN | apply below_drew1) | exact HB.out)))); have n2_ := Aside0.mk (below_step (by repeat (first | (with_reducible first | exact HB.out | apply below_alloc | apply pw_below_drewN | apply below_drew1) | exact HB.out)) hb); clear HO401; clear HB; have HO401 := n0_; have HO404 := n1_; have HB := n2_; clear n0_ n1_ n2_; (try clear hb); (try clear hb2); (try clear hk); (try clear hi); (try clear ho0); obtain ⟨Ao9, co9, eo9⟩ := Kd.V_slice HO401.out; subst eo9; obtain ⟨Ao10, co10, eo10⟩ := Kd.V_slice HO404.out; subst eo10; (try clear A4)) | ((with_reducible refine gate_callee (f := 60) rfl ?_); refine goesL_ (some 9) rfl rfl Try.func60 (by kernel_rfl) rfl #[.slice Ao9 t399.length co9, .slice Ao10 t402.length co10] rfl (by (try simp only [List.map_toArray, List.map_cons, List.map_nil]); first | done | rfl | (simp only [List.length_drop, List.length_take]; rfl)) ?_; (with_reducible refine (regattaref02_mul.calls k _ _ t399 _ _ t402 t405 _ ?side1 ?side2 ?side3 ?side4 A5.out).mono ?_); (case side1 => repeat (first | exact (Kd.V_reads' HO401.out).2.2 | (with_reducible refine Kd.C_alloc ?_ _) | (with_reducible refine Kd.C_drewN ?_ _) | (with_reducible refine Kd.C_drew ?_))); (case side2 => exact (Kd.V_reads' HO401.out).2.1); (case side3 => repeat (first | exact (Kd.V_reads' HO404.out).2.2 | (with_reducible refine Kd.C_alloc ?_ _) | (with_reducible refine Kd.C_drewN ?_ _) | (with_reducible refine Kd.C_drew ?_))); (case side4 => exact (Kd.V_reads' HO404.out).2.1); rintro e w11 ⟨v406, rfl, ho0, hb⟩; refine ⟨_, rfl, ?_⟩; have n0_ := Aside0.mk (Kd.V_below (by (with_reducible repeat (first | apply Kd.V_alloc | apply Kd.V_drewN | apply Kd.V_drew)); exact HO401.out) hb); have n1_ := Aside0.mk (Kd.V_below (by (with_reducible repeat (first | apply Kd.V_alloc | apply Kd.V_drewN | apply Kd.V_drew)); exact HO404.out) hb); have n2_ := Aside0.mk (Kd.V_lower (Kd.V_mono (ok' := fun k_ => True) ho0 (fun k_ hk_ => trivial)) (below_size (by repeat (first | (with_reducible first | exact HB.out | apply below_alloc | apply pw_below_drewN | apply below_drew1) | exact HB.out)))); have n3_ := Aside0.mk (below_step (by repeat (first | (with_reducible first | exact HB.out | apply below_alloc | apply pw_below_drewN | apply below_drew1) | exact HB.out)) hb); clear HO401; clear HO404; clear HB; have HO401 := n0_; have HO404 := n1_; have HO407 := n2_; have HB := n3_; clear n0_ n1_ n2_ n3_; (try clear hb); (try clear hb2); (try clear hk); (try clear hi); (try clear ho0); obtain ⟨Ao12, co12, eo12⟩ := Kd.V_slice HO407.out; subst eo12) | ((with_reducible refine gate_callee (f := 55) rfl ?_); refine goesL_ (some 10) rfl rfl Try.func55 (by kernel_rfl) rfl #[.slice Ao12 t405.length co12] rfl (by (try simp only [List.map_toArray, List.map_cons, List.map_nil]); first | done | rfl | (simp only [List.length_drop, List.length_take]; rfl)) ?_; (with_reducible refine (regattaref02_Limbs.calls k (fun k_ => True) _ _ t405 t408 _ ?side1 A6.out).mono ?_); (case side1 => exact HO407.out); rintro e w13 ⟨v409, rfl, ho0, hb⟩; refine ⟨_, rfl, ?_⟩; have n0_ := Aside0.mk (Kd.V_elder' (by (with_reducible repeat (first | apply Kd.V_alloc | apply Kd.V_drewN | apply Kd.V_drew)); exact HO401.out) (Kd.R_base ho0) hb); have n1_ := Aside0.mk (Kd.V_elder' (by (with_reducible repeat (first | apply Kd.V_alloc | apply Kd.V_drewN | apply Kd.V_drew)); exact HO404.out) (Kd.R_base ho0) hb); have n2_ := Aside0.mk (Kd.V_elder' (by (with_reducible repeat (first | apply Kd.V_alloc | apply Kd.V_drewN | apply Kd.V_drew)); exact HO407.out) (Kd.R_base ho0) hb); have n3_ := Aside0.mk (Kd.R_lower (Kd.R_mono (ok' := fun k_ => True) ho0 (fun _ hk_ => trivial)) (below_size (by repeat (first | (with_reducible first | exact HB.out | apply below_alloc | apply pw_below_drewN | apply below_drew1) | exact HB.out)))); have n4_ := Aside0.mk (below_step (by repeat (first | (with_reducible first | exact HB.out | apply below_alloc | apply pw_below_drewN | apply below_drew1) | exact HB.out)) hb); clear HO401; clear HO404; clear HO407; clear HB; have HO401 := n0_; have HO404 := n1_; have HO407 := n2_; have HO410 := n3_; have HB := n4_; clear n0_ n1_ n2_ n3_ n4_; (try clear hb); (try clear hb2); (try clear hk); (try clear hi); (try clear ho0)))
  go_ret
  exact ⟨_, by first | rfl | (simp [errW_none, errW_some] <;> rfl) | (simp [*, errW_none, errW_some] <;> rfl), by (with_reducible repeat (first | apply Kd.R_alloc | apply Kd.R_drewN | apply Kd.R_drew)); exact HO410.out, by repeat (first | (with_reducible first | exact HB.out | apply below_alloc | apply pw_below_drewN | apply below_drew1) | exact HB.out)⟩

/-! ### regattalaw02_NatSums: function 5 -/
def regattalaw02_NatSums.f (k : Nat) (l0 : List Int) (l1 : List Int) (a2 : Int) : Option (Bool) := (regattalaw02_awake.f k).bind fun t411 => ((regattalaw02_made.f k l0).bind fun t412 => ((regattalaw02_made.f k l1).bind fun t415 => ((nat_Sub.f k t412 t415).bind fun bt418 => ((regattaref02_Sub.f k t412 t415).bind fun bt422 => ((nat_Div.f k t412 a2).bind fun bt426 => ((regattaref02_Div.f k t412 a2).bind fun bt431 => ((nat_Add.f t412 t415).bind fun t437 => ((regattaref02_Add.f k t412 t415).bind fun t440 => ((regattaref02_Same.f k t437 t440).bind fun t443 => ((nat_Mul.f t412 t415).bind fun t444 => ((regattaref02_Mul.f k t412 t415).bind fun t447 => ((regattaref02_Same.f k t444 t447).bind fun t450 => ((regattaref02_Same.f k bt418.1 bt422.1).bind fun t451 => ((regattaref02_Same.f k bt426.1 bt431.1).bind fun t452 => (if t411 = true then (if t443 = true then (if t450 = true then (if t451 = true then (if bt418.2 = bt422.2 then (if t452 = true then (if bt426.2.1 = bt431.2.1 then (if bt426.2.2 = bt431.2.2 then ((nat_Cmp.f k t412 t415).bind fun t453 => ((regattaref02_Cmp.f k t412 t415).bind fun t454 => (some (t453 == t454)))) else (some false)) else (some false)) else (some false)) else (some false)) else (some false)) else (some false)) else (some false)) else (some false))))))))))))))))
theorem regattalaw02_NatSums.mono : ∀ a0 a1 a2 k, LeO (regattalaw02_NatSums.f k a0 a1 a2) (regattalaw02_NatSums.f (k + 1) a0 a1 a2) := by
  intro a0 a1 a2 k
  unfold regattalaw02_NatSums.f
  repeat' first
      | (with_reducible exact nat_Cmp.mono _ _ _)
      | (with_reducible exact nat_Div.mono _ _ _)
      | (with_reducible exact nat_Sub.mono _ _ _)
      | (with_reducible exact regattalaw02_awake.mono _)
      | (with_reducible exact regattalaw02_made.mono _ _)
      | (with_reducible exact regattaref02_Add.mono _ _ _)
      | (with_reducible exact regattaref02_Cmp.mono _ _ _)
      | (with_reducible exact regattaref02_Div.mono _ _ _)
      | (with_reducible exact regattaref02_Mul.mono _ _ _)
      | (with_reducible exact regattaref02_Same.mono _ _ _)
      | (with_reducible exact regattaref02_Sub.mono _ _ _)
      | (with_reducible exact LeO.refl _)
      | (with_reducible exact LeO.none _)
      | (with_reducible refine LeO.ite ?_ ?_)
      | (with_reducible refine LeO.bind ?_ (fun _ => ?_))
      | exact nat_Cmp.mono _ _ _
      | exact nat_Div.mono _ _ _
      | exact nat_Sub.mono _ _ _
      | exact regattalaw02_awake.mono _
      | exact regattalaw02_made.mono _ _
      | exact regattaref02_Add.mono _ _ _
      | exact regattaref02_Cmp.mono _ _ _
      | exact regattaref02_Div.mono _ _ _
      | exact regattaref02_Mul.mono _ _ _
      | exact regattaref02_Same.mono _ _ _
      | exact regattaref02_Sub.mono _ _ _
      | exact LeO.none _
      | refine LeO.ite ?_ ?_
      | refine LeO.bind ?_ (fun _ => ?_)
set_option maxHeartbeats 8000000 in
set_option maxRecDepth 100000 in
theorem regattalaw02_NatSums.calls (k : Nat) (A0 : Option Addr) (c0 : Nat) (l0 : List Int) (A1 : Option Addr) (c1 : Nat) (l1 : List Int) (a2 : Int) (r : Bool) (w : World) (hr_ : Aside0 (r = true)) (hr0 : Kd.C (Kd.int .u32) w A0 l0.length l0) (hc0 : l0.length ≤ c0) (hr1 : Kd.C (Kd.int .u32) w A1 l1.length l1) (hc1 : l1.length ≤ c1) (h : regattalaw02_NatSums.f k l0 l1 a2 = some r) :
    Calls Try.prog 5 #[.slice A0 l0.length c0, .slice A1 l1.length c1, .int .u32 a2] w fun e w' => e = .returned (.bool r) ∧ Below w.heap.size w w' := by
  have hu37 := Try.underlying37
  have HR0 := Aside0.mk hr0
  have HC0 := Aside0.mk hc0
  clear hr0 hc0
  have HR1 := Aside0.mk hr1
  have HC1 := Aside0.mk hc1
  clear hr1 hc1
  have HB := Aside0.mk (Below.refl w.heap.size w)
  have H : ((regattalaw02_awake.f k).bind fun t411 => ((regattalaw02_made.f k l0).bind fun t412 => ((regattalaw02_made.f k l1).bind fun t415 => ((nat_Sub.f k t412 t415).bind fun bt418 => ((regattaref02_Sub.f k t412 t415).bind fun bt422 => ((nat_Div.f k t412 a2).bind fun bt426 => ((regattaref02_Div.f k t412 a2).bind fun bt431 => ((nat_Add.f t412 t415).bind fun t437 => ((regattaref02_Add.f k t412 t415).bind fun t440 => ((regattaref02_Same.f k t437 t440).bind fun t443 => ((nat_Mul.f t412 t415).bind fun t444 => ((regattaref02_Mul.f k t412 t415).bind fun t447 => ((regattaref02_Same.f k t444 t447).bind fun t450 => ((regattaref02_Same.f k bt418.1 bt422.1).bind fun t451 => ((regattaref02_Same.f k bt426.1 bt431.1).bind fun t452 => (if t411 = true then (if t443 = true then (if t450 = true then (if t451 = true then (if bt418.2 = bt422.2 then (if t452 = true then (if bt426.2.1 = bt431.2.1 then (if bt426.2.2 = bt431.2.2 then ((nat_Cmp.f k t412 t415).bind fun t453 => ((regattaref02_Cmp.f k t412 t415).bind fun t454 => (some (t453 == t454)))) else (some false)) else (some false)) else (some false)) else (some false)) else (some false)) else (some false)) else (some false)) else (some false))))))))))))))))) = some r := h
  clear h
  replace H := Option.bind_eq_some_iff.mp H
  obtain ⟨t411, A40, H⟩ := H
  replace H : ((regattalaw02_made.f k l0).bind fun t412 => ((regattalaw02_made.f k l1).bind fun t415 => ((nat_Sub.f k t412 t415).bind fun bt418 => ((regattaref02_Sub.f k t412 t415).bind fun bt422 => ((nat_Div.f k t412 a2).bind fun bt426 => ((regattaref02_Div.f k t412 a2).bind fun bt431 => ((nat_Add.f t412 t415).bind fun t437 => ((regattaref02_Add.f k t412 t415).bind fun t440 => ((regattaref02_Same.f k t437 t440).bind fun t443 => ((nat_Mul.f t412 t415).bind fun t444 => ((regattaref02_Mul.f k t412 t415).bind fun t447 => ((regattaref02_Same.f k t444 t447).bind fun t450 => ((regattaref02_Same.f k bt418.1 bt422.1).bind fun t451 => ((regattaref02_Same.f k bt426.1 bt431.1).bind fun t452 => (if t411 = true then (if t443 = true then (if t450 = true then (if t451 = true then (if bt418.2 = bt422.2 then (if t452 = true then (if bt426.2.1 = bt431.2.1 then (if bt426.2.2 = bt431.2.2 then ((nat_Cmp.f k t412 t415).bind fun t453 => ((regattaref02_Cmp.f k t412 t415).bind fun t454 => (some (t453 == t454)))) else (some false)) else (some false)) else (some false)) else (some false)) else (some false)) else (some false)) else (some false)) else (some false)))))))))))))))) = some r := H
  have A4 := Aside0.mk A40
  clear A40
  replace H := Option.bind_eq_some_iff.mp H
  obtain ⟨t412, A50, H⟩ := H
  replace H : ((regattalaw02_made.f k l1).bind fun t415 => ((nat_Sub.f k t412 t415).bind fun bt418 => ((regattaref02_Sub.f k t412 t415).bind fun bt422 => ((nat_Div.f k t412 a2).bind fun bt426 => ((regattaref02_Div.f k t412 a2).bind fun bt431 => ((nat_Add.f t412 t415).bind fun t437 => ((regattaref02_Add.f k t412 t415).bind fun t440 => ((regattaref02_Same.f k t437 t440).bind fun t443 => ((nat_Mul.f t412 t415).bind fun t444 => ((regattaref02_Mul.f k t412 t415).bind fun t447 => ((regattaref02_Same.f k t444 t447).bind fun t450 => ((regattaref02_Same.f k bt418.1 bt422.1).bind fun t451 => ((regattaref02_Same.f k bt426.1 bt431.1).bind fun t452 => (if t411 = true then (if t443 = true then (if t450 = true then (if t451 = true then (if bt418.2 = bt422.2 then (if t452 = true then (if bt426.2.1 = bt431.2.1 then (if bt426.2.2 = bt431.2.2 then ((nat_Cmp.f k t412 t415).bind fun t453 => ((regattaref02_Cmp.f k t412 t415).bind fun t454 => (some (t453 == t454)))) else (some false)) else (some false)) else (some false)) else (some false)) else (some false)) else (some false)) else (some false)) else (some false))))))))))))))) = some r := H
  have A5 := Aside0.mk A50
  clear A50
  replace H := Option.bind_eq_some_iff.mp H
  obtain ⟨t415, A60, H⟩ := H
  replace H : ((nat_Sub.f k t412 t415).bind fun bt418 => ((regattaref02_Sub.f k t412 t415).bind fun bt422 => ((nat_Div.f k t412 a2).bind fun bt426 => ((regattaref02_Div.f k t412 a2).bind fun bt431 => ((nat_Add.f t412 t415).bind fun t437 => ((regattaref02_Add.f k t412 t415).bind fun t440 => ((regattaref02_Same.f k t437 t440).bind fun t443 => ((nat_Mul.f t412 t415).bind fun t444 => ((regattaref02_Mul.f k t412 t415).bind fun t447 => ((regattaref02_Same.f k t444 t447).bind fun t450 => ((regattaref02_Same.f k bt418.1 bt422.1).bind fun t451 => ((regattaref02_Same.f k bt426.1 bt431.1).bind fun t452 => (if t411 = true then (if t443 = true then (if t450 = true then (if t451 = true then (if bt418.2 = bt422.2 then (if t452 = true then (if bt426.2.1 = bt431.2.1 then (if bt426.2.2 = bt431.2.2 then ((nat_Cmp.f k t412 t415).bind fun t453 => ((regattaref02_Cmp.f k t412 t415).bind fun t454 => (some (t453 == t454)))) else (some false)) else (some false)) else (some false)) else (some false)) else (some false)) else (some false)) else (some false)) else (some false)))))))))))))) = some r := H
  have A6 := Aside0.mk A60
  clear A60
  replace H := Option.bind_eq_some_iff.mp H
  obtain ⟨⟨t418, t421⟩, A70, H⟩ := H
  replace H : ((regattaref02_Sub.f k t412 t415).bind fun bt422 => ((nat_Div.f k t412 a2).bind fun bt426 => ((regattaref02_Div.f k t412 a2).bind fun bt431 => ((nat_Add.f t412 t415).bind fun t437 => ((regattaref02_Add.f k t412 t415).bind fun t440 => ((regattaref02_Same.f k t437 t440).bind fun t443 => ((nat_Mul.f t412 t415).bind fun t444 => ((regattaref02_Mul.f k t412 t415).bind fun t447 => ((regattaref02_Same.f k t444 t447).bind fun t450 => ((regattaref02_Same.f k t418 bt422.1).bind fun t451 => ((regattaref02_Same.f k bt426.1 bt431.1).bind fun t452 => (if t411 = true then (if t443 = true then (if t450 = true then (if t451 = true then (if t421 = bt422.2 then (if t452 = true then (if bt426.2.1 = bt431.2.1 then (if bt426.2.2 = bt431.2.2 then ((nat_Cmp.f k t412 t415).bind fun t453 => ((regattaref02_Cmp.f k t412 t415).bind fun t454 => (some (t453 == t454)))) else (some false)) else (some false)) else (some false)) else (some false)) else (some false)) else (some false)) else (some false)) else (some false))))))))))))) = some r := H
  have A7 := Aside0.mk A70
  clear A70
  replace H := Option.bind_eq_some_iff.mp H
  obtain ⟨⟨t422, t423⟩, A80, H⟩ := H
  replace H : ((nat_Div.f k t412 a2).bind fun bt426 => ((regattaref02_Div.f k t412 a2).bind fun bt431 => ((nat_Add.f t412 t415).bind fun t437 => ((regattaref02_Add.f k t412 t415).bind fun t440 => ((regattaref02_Same.f k t437 t440).bind fun t443 => ((nat_Mul.f t412 t415).bind fun t444 => ((regattaref02_Mul.f k t412 t415).bind fun t447 => ((regattaref02_Same.f k t444 t447).bind fun t450 => ((regattaref02_Same.f k t418 t422).bind fun t451 => ((regattaref02_Same.f k bt426.1 bt431.1).bind fun t452 => (if t411 = true then (if t443 = true then (if t450 = true then (if t451 = true then (if t421 = t423 then (if t452 = true then (if bt426.2.1 = bt431.2.1 then (if bt426.2.2 = bt431.2.2 then ((nat_Cmp.f k t412 t415).bind fun t453 => ((regattaref02_Cmp.f k t412 t415).bind fun t454 => (some (t453 == t454)))) else (some false)) else (some false)) else (some false)) else (some false)) else (some false)) else (some false)) else (some false)) else (some false)))))))))))) = some r := H
  have A8 := Aside0.mk A80
  clear A80
  replace H := Option.bind_eq_some_iff.mp H
  obtain ⟨⟨t426, t429, t430⟩, A90, H⟩ := H
  replace H : ((regattaref02_Div.f k t412 a2).bind fun bt431 => ((nat_Add.f t412 t415).bind fun t437 => ((regattaref02_Add.f k t412 t415).bind fun t440 => ((regattaref02_Same.f k t437 t440).bind fun t443 => ((nat_Mul.f t412 t415).bind fun t444 => ((regattaref02_Mul.f k t412 t415).bind fun t447 => ((regattaref02_Same.f k t444 t447).bind fun t450 => ((regattaref02_Same.f k t418 t422).bind fun t451 => ((regattaref02_Same.f k t426 bt431.1).bind fun t452 => (if t411 = true then (if t443 = true then (if t450 = true then (if t451 = true then (if t421 = t423 then (if t452 = true then (if t429 = bt431.2.1 then (if t430 = bt431.2.2 then ((nat_Cmp.f k t412 t415).bind fun t453 => ((regattaref02_Cmp.f k t412 t415).bind fun t454 => (some (t453 == t454)))) else (some false)) else (some false)) else (some false)) else (some false)) else (some false)) else (some false)) else (some false)) else (some false))))))))))) = some r := H
  have A9 := Aside0.mk A90
  clear A90
  replace H := Option.bind_eq_some_iff.mp H
  obtain ⟨⟨t431, t434, t435⟩, A100, H⟩ := H
  replace H : ((nat_Add.f t412 t415).bind fun t437 => ((regattaref02_Add.f k t412 t415).bind fun t440 => ((regattaref02_Same.f k t437 t440).bind fun t443 => ((nat_Mul.f t412 t415).bind fun t444 => ((regattaref02_Mul.f k t412 t415).bind fun t447 => ((regattaref02_Same.f k t444 t447).bind fun t450 => ((regattaref02_Same.f k t418 t422).bind fun t451 => ((regattaref02_Same.f k t426 t431).bind fun t452 => (if t411 = true then (if t443 = true then (if t450 = true then (if t451 = true then (if t421 = t423 then (if t452 = true then (if t429 = t434 then (if t430 = t435 then ((nat_Cmp.f k t412 t415).bind fun t453 => ((regattaref02_Cmp.f k t412 t415).bind fun t454 => (some (t453 == t454)))) else (some false)) else (some false)) else (some false)) else (some false)) else (some false)) else (some false)) else (some false)) else (some false)))))))))) = some r := H
  have A10 := Aside0.mk A100
  clear A100
  replace H := Option.bind_eq_some_iff.mp H
  obtain ⟨t437, A110, H⟩ := H
  replace H : ((regattaref02_Add.f k t412 t415).bind fun t440 => ((regattaref02_Same.f k t437 t440).bind fun t443 => ((nat_Mul.f t412 t415).bind fun t444 => ((regattaref02_Mul.f k t412 t415).bind fun t447 => ((regattaref02_Same.f k t444 t447).bind fun t450 => ((regattaref02_Same.f k t418 t422).bind fun t451 => ((regattaref02_Same.f k t426 t431).bind fun t452 => (if t411 = true then (if t443 = true then (if t450 = true then (if t451 = true then (if t421 = t423 then (if t452 = true then (if t429 = t434 then (if t430 = t435 then ((nat_Cmp.f k t412 t415).bind fun t453 => ((regattaref02_Cmp.f k t412 t415).bind fun t454 => (some (t453 == t454)))) else (some false)) else (some false)) else (some false)) else (some false)) else (some false)) else (some false)) else (some false)) else (some false))))))))) = some r := H
  have A11 := Aside0.mk A110
  clear A110
  replace H := Option.bind_eq_some_iff.mp H
  obtain ⟨t440, A120, H⟩ := H
  replace H : ((regattaref02_Same.f k t437 t440).bind fun t443 => ((nat_Mul.f t412 t415).bind fun t444 => ((regattaref02_Mul.f k t412 t415).bind fun t447 => ((regattaref02_Same.f k t444 t447).bind fun t450 => ((regattaref02_Same.f k t418 t422).bind fun t451 => ((regattaref02_Same.f k t426 t431).bind fun t452 => (if t411 = true then (if t443 = true then (if t450 = true then (if t451 = true then (if t421 = t423 then (if t452 = true then (if t429 = t434 then (if t430 = t435 then ((nat_Cmp.f k t412 t415).bind fun t453 => ((regattaref02_Cmp.f k t412 t415).bind fun t454 => (some (t453 == t454)))) else (some false)) else (some false)) else (some false)) else (some false)) else (some false)) else (some false)) else (some false)) else (some false)))))))) = some r := H
  have A12 := Aside0.mk A120
  clear A120
  replace H := Option.bind_eq_some_iff.mp H
  obtain ⟨t443, A130, H⟩ := H
  replace H : ((nat_Mul.f t412 t415).bind fun t444 => ((regattaref02_Mul.f k t412 t415).bind fun t447 => ((regattaref02_Same.f k t444 t447).bind fun t450 => ((regattaref02_Same.f k t418 t422).bind fun t451 => ((regattaref02_Same.f k t426 t431).bind fun t452 => (if t411 = true then (if t443 = true then (if t450 = true then (if t451 = true then (if t421 = t423 then (if t452 = true then (if t429 = t434 then (if t430 = t435 then ((nat_Cmp.f k t412 t415).bind fun t453 => ((regattaref02_Cmp.f k t412 t415).bind fun t454 => (some (t453 == t454)))) else (some false)) else (some false)) else (some false)) else (some false)) else (some false)) else (some false)) else (some false)) else (some false))))))) = some r := H
  have A13 := Aside0.mk A130
  clear A130
  replace H := Option.bind_eq_some_iff.mp H
  obtain ⟨t444, A140, H⟩ := H
  replace H : ((regattaref02_Mul.f k t412 t415).bind fun t447 => ((regattaref02_Same.f k t444 t447).bind fun t450 => ((regattaref02_Same.f k t418 t422).bind fun t451 => ((regattaref02_Same.f k t426 t431).bind fun t452 => (if t411 = true then (if t443 = true then (if t450 = true then (if t451 = true then (if t421 = t423 then (if t452 = true then (if t429 = t434 then (if t430 = t435 then ((nat_Cmp.f k t412 t415).bind fun t453 => ((regattaref02_Cmp.f k t412 t415).bind fun t454 => (some (t453 == t454)))) else (some false)) else (some false)) else (some false)) else (some false)) else (some false)) else (some false)) else (some false)) else (some false)))))) = some r := H
  have A14 := Aside0.mk A140
  clear A140
  replace H := Option.bind_eq_some_iff.mp H
  obtain ⟨t447, A150, H⟩ := H
  replace H : ((regattaref02_Same.f k t444 t447).bind fun t450 => ((regattaref02_Same.f k t418 t422).bind fun t451 => ((regattaref02_Same.f k t426 t431).bind fun t452 => (if t411 = true then (if t443 = true then (if t450 = true then (if t451 = true then (if t421 = t423 then (if t452 = true then (if t429 = t434 then (if t430 = t435 then ((nat_Cmp.f k t412 t415).bind fun t453 => ((regattaref02_Cmp.f k t412 t415).bind fun t454 => (some (t453 == t454)))) else (some false)) else (some false)) else (some false)) else (some false)) else (some false)) else (some false)) else (some false)) else (some false))))) = some r := H
  have A15 := Aside0.mk A150
  clear A150
  replace H := Option.bind_eq_some_iff.mp H
  obtain ⟨t450, A160, H⟩ := H
  replace H : ((regattaref02_Same.f k t418 t422).bind fun t451 => ((regattaref02_Same.f k t426 t431).bind fun t452 => (if t411 = true then (if t443 = true then (if t450 = true then (if t451 = true then (if t421 = t423 then (if t452 = true then (if t429 = t434 then (if t430 = t435 then ((nat_Cmp.f k t412 t415).bind fun t453 => ((regattaref02_Cmp.f k t412 t415).bind fun t454 => (some (t453 == t454)))) else (some false)) else (some false)) else (some false)) else (some false)) else (some false)) else (some false)) else (some false)) else (some false)))) = some r := H
  have A16 := Aside0.mk A160
  clear A160
  replace H := Option.bind_eq_some_iff.mp H
  obtain ⟨t451, A170, H⟩ := H
  replace H : ((regattaref02_Same.f k t426 t431).bind fun t452 => (if t411 = true then (if t443 = true then (if t450 = true then (if t451 = true then (if t421 = t423 then (if t452 = true then (if t429 = t434 then (if t430 = t435 then ((nat_Cmp.f k t412 t415).bind fun t453 => ((regattaref02_Cmp.f k t412 t415).bind fun t454 => (some (t453 == t454)))) else (some false)) else (some false)) else (some false)) else (some false)) else (some false)) else (some false)) else (some false)) else (some false))) = some r := H
  have A17 := Aside0.mk A170
  clear A170
  replace H := Option.bind_eq_some_iff.mp H
  obtain ⟨t452, A180, H⟩ := H
  replace H : (if t411 = true then (if t443 = true then (if t450 = true then (if t451 = true then (if t421 = t423 then (if t452 = true then (if t429 = t434 then (if t430 = t435 then ((nat_Cmp.f k t412 t415).bind fun t453 => ((regattaref02_Cmp.f k t412 t415).bind fun t454 => (some (t453 == t454)))) else (some false)) else (some false)) else (some false)) else (some false)) else (some false)) else (some false)) else (some false)) else (some false)) = some r := H
  have A18 := Aside0.mk A180
  clear A180
  by_cases c19 : t411 = true
  · subst c19
    have H1 : (if t443 = true then (if t450 = true then (if t451 = true then (if t421 = t423 then (if t452 = true then (if t429 = t434 then (if t430 = t435 then ((nat_Cmp.f k t412 t415).bind fun t453 => ((regattaref02_Cmp.f k t412 t415).bind fun t454 => (some (t453 == t454)))) else (some false)) else (some false)) else (some false)) else (some false)) else (some false)) else (some false)) else (some false)) = some r := by rw [if_pos rfl] at H; exact H
    clear H
    have H := H1
    clear H1
    by_cases c20 : t443 = true
    · subst c20
      have H1 : (if t450 = true then (if t451 = true then (if t421 = t423 then (if t452 = true then (if t429 = t434 then (if t430 = t435 then ((nat_Cmp.f k t412 t415).bind fun t453 => ((regattaref02_Cmp.f k t412 t415).bind fun t454 => (some (t453 == t454)))) else (some false)) else (some false)) else (some false)) else (some false)) else (some false)) else (some false)) = some r := by rw [if_pos rfl] at H; exact H
      clear H
      have H := H1
      clear H1
      by_cases c21 : t450 = true
      · subst c21
        have H1 : (if t451 = true then (if t421 = t423 then (if t452 = true then (if t429 = t434 then (if t430 = t435 then ((nat_Cmp.f k t412 t415).bind fun t453 => ((regattaref02_Cmp.f k t412 t415).bind fun t454 => (some (t453 == t454)))) else (some false)) else (some false)) else (some false)) else (some false)) else (some false)) = some r := by rw [if_pos rfl] at H; exact H
        clear H
        have H := H1
        clear H1
        by_cases c22 : t451 = true
        · subst c22
          have H1 : (if t421 = t423 then (if t452 = true then (if t429 = t434 then (if t430 = t435 then ((nat_Cmp.f k t412 t415).bind fun t453 => ((regattaref02_Cmp.f k t412 t415).bind fun t454 => (some (t453 == t454)))) else (some false)) else (some false)) else (some false)) else (some false)) = some r := by rw [if_pos rfl] at H; exact H
          clear H
          have H := H1
          clear H1
          by_cases c23 : t421 = t423
          · rw [if_pos c23] at H
            have c23b0 : (t421 == t423) = true := beq_iff_eq.mpr c23
            have c23b1 : (t421 != t423) = false := bne_eq_false_iff_eq.mpr c23
            clear c23
            by_cases c24 : t452 = true
            · subst c24
              have H1 : (if t429 = t434 then (if t430 = t435 then ((nat_Cmp.f k t412 t415).bind fun t453 => ((regattaref02_Cmp.f k t412 t415).bind fun t454 => (some (t453 == t454)))) else (some false)) else (some false)) = some r := by rw [if_pos rfl] at H; exact H
              clear H
              have H := H1
              clear H1
              by_cases c25 : t429 = t434
              · rw [if_pos c25] at H
                have c25b0 : (t429 == t434) = true := beq_iff_eq.mpr c25
                have c25b1 : (t429 != t434) = false := bne_eq_false_iff_eq.mpr c25
                clear c25
                by_cases c26 : t430 = t435
                · rw [if_pos c26] at H
                  have c26b0 : (t430 == t435) = true := beq_iff_eq.mpr c26
                  have c26b1 : (t430 != t435) = false := bne_eq_false_iff_eq.mpr c26
                  clear c26
                  replace H := Option.bind_eq_some_iff.mp H
                  obtain ⟨t453, A270, H⟩ := H
                  replace H : ((regattaref02_Cmp.f k t412 t415).bind fun t454 => (some (t453 == t454))) = some r := H
                  have A27 := Aside0.mk A270
                  clear A270
                  replace H := Option.bind_eq_some_iff.mp H
                  obtain ⟨t454, A280, H⟩ := H
                  replace H : (some (t453 == t454)) = some r := H
                  have A28 := Aside0.mk A280
                  clear A280
                  obtain rfl := Option.some.inj H
                  go_enter Try.func5, Try.ntmps5
                  go_wp2_with (first | ((with_reducible refine gate_callee (f := 13) rfl ?_); refine goesL_ (some 22) rfl rfl Try.func13 (by kernel_rfl) rfl #[] rfl (by (try simp only [List.map_toArray, List.map_cons, List.map_nil]); first | done | rfl | (simp only [List.length_drop, List.length_take]; rfl)) ?_; (with_reducible refine (regattalaw02_awake.calls k  true _ A4.out).mono ?_); rintro e w29 ⟨rfl, hb⟩; refine ⟨_, rfl, ?_⟩; have n0_ := Aside0.mk (below_step (by repeat (first | (with_reducible first | exact HB.out | apply below_alloc | apply pw_below_drewN | apply below_drew1) | exact HB.out)) hb); clear HB; have HB := n0_; clear n0_; (try clear hb); (try clear hb2); (try clear hk); (try clear hi)) | ((with_reducible refine gate_callee (f := 14) rfl ?_); refine goesL_ (some 24) rfl rfl Try.func14 (by kernel_rfl) rfl #[.slice A0 l0.length c0] rfl (by (try simp only [List.map_toArray, List.map_cons, List.map_nil]); first | done | rfl | (simp only [List.length_drop, List.length_take]; rfl)) ?_; (with_reducible refine (regattalaw02_made.calls k (fun k_ => k_ < w.heap.size) _ _ l0 t412 _ ?side1 A5.out).mono ?_); (case side1 => exact Kd.V_mk HC0.out (Kd.F_below (Kd.C_F (Kd.heap_int .u32) HR0.out) (by repeat (first | (with_reducible first | exact HB.out | apply below_alloc | apply pw_below_drewN | apply below_drew1) | exact HB.out)))); rintro e w30 ⟨v413, rfl, ho0, hb⟩; refine ⟨_, rfl, ?_⟩; have n0_ := Aside0.mk (Kd.V_lower (Kd.V_mono (ok' := fun k_ => True) ho0 (fun k_ hk_ => trivial)) (below_size (by repeat (first | (with_reducible first | exact HB.out | apply below_alloc | apply pw_below_drewN | apply below_drew1) | exact HB.out)))); have n1_ := Aside0.mk (below_step (by repeat (first | (with_reducible first | exact HB.out | apply below_alloc | apply pw_below_drewN | apply below_drew1) | exact HB.out)) hb); clear HB; have HO414 := n0_; have HB := n1_; clear n0_ n1_; (try clear hb); (try clear hb2); (try clear hk); (try clear hi); (try clear ho0); (try clear A5)) | ((with_reducible refine gate_callee (f := 14) rfl ?_); refine goesL_ (some 26) rfl rfl Try.func14 (by kernel_rfl) rfl #[.slice A1 l1.length c1] rfl (by (try simp only [List.map_toArray, List.map_cons, List.map_nil]); first | done | rfl | (simp only [List.length_drop, List.length_take]; rfl)) ?_; (with_reducible refine (regattalaw02_made.calls k (fun k_ => k_ < w.heap.size) _ _ l1 t415 _ ?side1 A6.out).mono ?_); (case side1 => exact Kd.V_mk HC1.out (Kd.F_below (Kd.C_F (Kd.heap_int .u32) HR1.out) (by repeat (first | (with_reducible first | exact HB.out | apply below_alloc | apply pw_below_drewN | apply below_drew1) | exact HB.out)))); rintro e w31 ⟨v416, rfl, ho0, hb⟩; refine ⟨_, rfl, ?_⟩; have n0_ := Aside0.mk (Kd.V_below (by (with_reducible repeat (first | apply Kd.V_alloc | apply Kd.V_drewN | apply Kd.V_drew)); exact HO414.out) hb); have n1_ := Aside0.mk (Kd.V_lower (Kd.V_mono (ok' := fun k_ => True) ho0 (fun k_ hk_ => trivial)) (below_size (by repeat (first | (with_reducible first | exact HB.out | apply below_alloc | apply pw_below_drewN | apply below_drew1) | exact HB.out)))); have n2_ := Aside0.mk (below_step (by repeat (first | (with_reducible first | exact HB.out | apply below_alloc | apply pw_below_drewN | apply below_drew1) | exact HB.out)) hb); clear HO414; clear HB; have HO414 := n0_; have HO417 := n1_; have HB := n2_; clear n0_ n1_ n2_; (try clear hb); (try clear hb2); (try clear hk); (try clear hi); (try clear ho0); obtain ⟨Ao32, co32, eo32⟩ := Kd.V_slice HO414.out; subst eo32; obtain ⟨Ao33, co33, eo33⟩ := Kd.V_slice HO417.out; subst eo33; (try clear A6)) | ((with_reducible refine gate_callee (f := 20) rfl ?_); refine goesL_ (some 30) rfl rfl Try.func20 (by kernel_rfl) rfl #[.slice Ao32 t412.length co32, .slice Ao33 t415.length co33] rfl (by (try simp only [List.map_toArray, List.map_cons, List.map_nil]); first | done | rfl | (simp only [List.length_drop, List.length_take]; rfl)) ?_; (with_reducible refine (nat_Sub.calls k _ _ t412 _ _ t415 t418 t421 _ ?side1 ?side2 ?side3 ?side4 A7.out).mono ?_); (case side1 => repeat (first | exact (Kd.V_reads' HO414.out).2.2 | (with_reducible refine Kd.C_alloc ?_ _) | (with_reducible refine Kd.C_drewN ?_ _) | (with_reducible refine Kd.C_drew ?_))); (case side2 => exact (Kd.V_reads' HO414.out).2.1); (case side3 => repeat (first | exact (Kd.V_reads' HO417.out).2.2 | (with_reducible refine Kd.C_alloc ?_ _) | (with_reducible refine Kd.C_drewN ?_ _) | (with_reducible refine Kd.C_drew ?_))); (case side4 => exact (Kd.V_reads' HO417.out).2.1); rintro e w34 ⟨v419, rfl, ho0, hb⟩; refine ⟨_, rfl, ?_⟩; have n0_ := Aside0.mk (Kd.V_below (by (with_reducible repeat (first | apply Kd.V_alloc | apply Kd.V_drewN | apply Kd.V_drew)); exact HO414.out) hb); have n1_ := Aside0.mk (Kd.V_below (by (with_reducible repeat (first | apply Kd.V_alloc | apply Kd.V_drewN | apply Kd.V_drew)); exact HO417.out) hb); have n2_ := Aside0.mk (Kd.V_lower (Kd.V_mono (ok' := fun k_ => True) ho0 (fun k_ hk_ => trivial)) (below_size (by repeat (first | (with_reducible first | exact HB.out | apply below_alloc | apply pw_below_drewN | apply below_drew1) | exact HB.out)))); have n3_ := Aside0.mk (below_step (by repeat (first | (with_reducible first | exact HB.out | apply below_alloc | apply pw_below_drewN | apply below_drew1) | exact HB.out)) hb); clear HO414; clear HO417; clear HB; have HO414 := n0_; have HO417 := n1_; have HO420 := n2_; have HB := n3_; clear n0_ n1_ n2_ n3_; (try clear hb); (try clear hb2); (try clear hk); (try clear hi); (try clear ho0)) | ((with_reducible refine gate_callee (f := 21) rfl ?_); refine goesL_ (some 36) rfl rfl Try.func21 (by kernel_rfl) rfl #[.slice Ao32 t412.length co32, .slice Ao33 t415.length co33] rfl (by (try simp only [List.map_toArray, List.map_cons, List.map_nil]); first | done | rfl | (simp only [List.length_drop, List.length_take]; rfl)) ?_; (with_reducible refine (regattaref02_Sub.calls k _ _ t412 _ _ t415 t422 t423 _ ?side1 ?side2 ?side3 ?side4 A8.out).mono ?_); (case side1 => repeat (first | exact (Kd.V_reads' HO414.out).2.2 | (with_reducible refine Kd.C_alloc ?_ _) | (with_reducible refine Kd.C_drewN ?_ _) | (with_reducible refine Kd.C_drew ?_))); (case side2 => exact (Kd.V_reads' HO414.out).2.1); (case side3 => repeat (first | exact (Kd.V_reads' HO417.out).2.2 | (with_reducible refine Kd.C_alloc ?_ _) | (with_reducible refine Kd.C_drewN ?_ _) | (with_reducible refine Kd.C_drew ?_))); (case side4 => exact (Kd.V_reads' HO417.out).2.1); rintro e w35 ⟨v424, rfl, ho0, hb⟩; refine ⟨_, rfl, ?_⟩; have n0_ := Aside0.mk (Kd.V_elder' (by (with_reducible repeat (first | apply Kd.V_alloc | apply Kd.V_drewN | apply Kd.V_drew)); exact HO414.out) (Kd.R_base ho0) hb); have n1_ := Aside0.mk (Kd.V_elder' (by (with_reducible repeat (first | apply Kd.V_alloc | apply Kd.V_drewN | apply Kd.V_drew)); exact HO417.out) (Kd.R_base ho0) hb); have n2_ := Aside0.mk (Kd.V_elder' (by (with_reducible repeat (first | apply Kd.V_alloc | apply Kd.V_drewN | apply Kd.V_drew)); exact HO420.out) (Kd.R_base ho0) hb); have n3_ := Aside0.mk (Kd.R_lower ho0 (below_size (by repeat (first | (with_reducible first | exact HB.out | apply below_alloc | apply pw_below_drewN | apply below_drew1) | exact HB.out)))); have n4_ := Aside0.mk (below_step (by repeat (first | (with_reducible first | exact HB.out | apply below_alloc | apply pw_below_drewN | apply below_drew1) | exact HB.out)) hb); clear HO414; clear HO417; clear HO420; clear HB; have HO414 := n0_; have HO417 := n1_; have HO420 := n2_; have HO425 := n3_; have HB := n4_; clear n0_ n1_ n2_ n3_ n4_; (try clear hb); (try clear hb2); (try clear hk); (try clear hi); (try clear ho0)) | ((with_reducible refine gate_callee (f := 22) rfl ?_); refine goesL_ (some 42) rfl rfl Try.func22 (by kernel_rfl) rfl #[.slice Ao32 t412.length co32, .int .u32 a2] rfl (by (try simp only [List.map_toArray, List.map_cons, List.map_nil]); first | done | rfl | (simp only [List.length_drop, List.length_take]; rfl)) ?_; (with_reducible refine (nat_Div.calls k _ _ t412 a2 t426 t429 t430 _ ?side1 ?side2 A9.out).mono ?_); (case side1 => repeat (first | exact (Kd.V_reads' HO414.out).2.2 | (with_reducible refine Kd.C_alloc ?_ _) | (with_reducible refine Kd.C_drewN ?_ _) | (with_reducible refine Kd.C_drew ?_))); (case side2 => exact (Kd.V_reads' HO414.out).2.1); rintro e w36 ⟨v427, rfl, ho0, hb⟩; refine ⟨_, rfl, ?_⟩; have n0_ := Aside0.mk (Kd.V_below (by (with_reducible repeat (first | apply Kd.V_alloc | apply Kd.V_drewN | apply Kd.V_drew)); exact HO414.out) hb); have n1_ := Aside0.mk (Kd.V_below (by (with_reducible repeat (first | apply Kd.V_alloc | apply Kd.V_drewN | apply Kd.V_drew)); exact HO417.out) hb); have n2_ := Aside0.mk (Kd.V_below (by (with_reducible repeat (first | apply Kd.V_alloc | apply Kd.V_drewN | apply Kd.V_drew)); exact HO420.out) hb); have n3_ := Aside0.mk (Kd.R_below (by (with_reducible repeat (first | apply Kd.R_alloc | apply Kd.R_drewN | apply Kd.R_drew)); exact HO425.out) hb); have n4_ := Aside0.mk (Kd.V_lower (Kd.V_mono (ok' := fun k_ => some k_ ≠ (v424 : Value).ownBlock) ho0 (fun k_ hk_ => (Kd.fresh' (Kd.R_lt (by (with_reducible repeat (first | apply Kd.R_alloc | apply Kd.R_drewN | apply Kd.R_drew)); exact HO425.out)) k_ hk_))) (below_size (by repeat (first | (with_reducible first | exact HB.out | apply below_alloc | apply pw_below_drewN | apply below_drew1) | exact HB.out)))); have n5_ := Aside0.mk (below_step (by repeat (first | (with_reducible first | exact HB.out | apply below_alloc | apply pw_below_drewN | apply below_drew1) | exact HB.out)) hb); clear HO414; clear HO417; clear HO420; clear HO425; clear HB; have HO414 := n0_; have HO417 := n1_; have HO420 := n2_; have HO425 := n3_; have HO428 := n4_; have HB := n5_; clear n0_ n1_ n2_ n3_ n4_ n5_; (try clear hb); (try clear hb2); (try clear hk); (try clear hi); (try clear ho0)) | ((with_reducible refine gate_callee (f := 23) rfl ?_); refine goesL_ (some 48) rfl rfl Try.func23 (by kernel_rfl) rfl #[.slice Ao32 t412.length co32, .int .u32 a2] rfl (by (try simp only [List.map_toArray, List.map_cons, List.map_nil]); first | done | rfl | (simp only [List.length_drop, List.length_take]; rfl)) ?_; (with_reducible refine (regattaref02_Div.calls k _ _ t412 a2 t431 t434 t435 _ ?side1 ?side2 A10.out).mono ?_); (case side1 => repeat (first | exact (Kd.V_reads' HO414.out).2.2 | (with_reducible refine Kd.C_alloc ?_ _) | (with_reducible refine Kd.C_drewN ?_ _) | (with_reducible refine Kd.C_drew ?_))); (case side2 => exact (Kd.V_reads' HO414.out).2.1); rintro e w37 ⟨v432, rfl, ho0, hb⟩; refine ⟨_, rfl, ?_⟩; have n0_ := Aside0.mk (Kd.V_elder' (by (with_reducible repeat (first | apply Kd.V_alloc | apply Kd.V_drewN | apply Kd.V_drew)); exact HO414.out) (Kd.R_base ho0) hb); have n1_ := Aside0.mk (Kd.V_elder' (by (with_reducible repeat (first | apply Kd.V_alloc | apply Kd.V_drewN | apply Kd.V_drew)); exact HO417.out) (Kd.R_base ho0) hb); have n2_ := Aside0.mk (Kd.V_elder' (by (with_reducible repeat (first | apply Kd.V_alloc | apply Kd.V_drewN | apply Kd.V_drew)); exact HO420.out) (Kd.R_base ho0) hb); have n3_ := Aside0.mk (Kd.R_elder' (by (with_reducible repeat (first | apply Kd.R_alloc | apply Kd.R_drewN | apply Kd.R_drew)); exact HO425.out) (Kd.R_base ho0) hb); have n4_ := Aside0.mk (Kd.V_elder' (by (with_reducible repeat (first | apply Kd.V_alloc | apply Kd.V_drewN | apply Kd.V_drew)); exact HO428.out) (Kd.R_base ho0) hb); have n5_ := Aside0.mk (Kd.R_lower (Kd.R_new' ho0 (Kd.R_lt (by (with_reducible repeat (first | apply Kd.R_alloc | apply Kd.R_drewN | apply Kd.R_drew)); exact HO425.out))) (below_size (by repeat (first | (with_reducible first | exact HB.out | apply below_alloc | apply pw_below_drewN | apply below_drew1) | exact HB.out)))); have n6_ := Aside0.mk (below_step (by repeat (first | (with_reducible first | exact HB.out | apply below_alloc | apply pw_below_drewN | apply below_drew1) | exact HB.out)) hb); clear HO414; clear HO417; clear HO420; clear HO425; clear HO428; clear HB; have HO414 := n0_; have HO417 := n1_; have HO420 := n2_; have HO425 := n3_; have HO428 := n4_; have HO433 := n5_; have HB := n6_; clear n0_ n1_ n2_ n3_ n4_ n5_ n6_; (try clear hb); (try clear hb2); (try clear hk); (try clear hi); (try clear ho0)) | ((with_reducible refine gate_dst (N := 17) rfl ?_); refine box_event ?hg (N := 17) ?hd (cs := #[.slice none 0 0, .int .u32 0, .int .i64 0]) (t := 37) ?hr ?_; (case hd => rfl); (case hg => rfl); (case hr => first | (go_simp; done) | (go_simp; rfl)); intro gb436 hg w38 hbox hb; have n0_ := Aside0.mk (Kd.V_below (Kd.V_elderB (by (with_reducible repeat (first | apply Kd.V_alloc | apply Kd.V_drewN | apply Kd.V_drew)); exact HO414.out) gb436 (Nat.le_of_eq hg.symm)) hb); have n1_ := Aside0.mk (Kd.V_below (Kd.V_elderB (by (with_reducible repeat (first | apply Kd.V_alloc | apply Kd.V_drewN | apply Kd.V_drew)); exact HO417.out) gb436 (Nat.le_of_eq hg.symm)) hb); have n2_ := Aside0.mk (Kd.V_below (Kd.V_elderB (by (with_reducible repeat (first | apply Kd.V_alloc | apply Kd.V_drewN | apply Kd.V_drew)); exact HO420.out) gb436 (Nat.le_of_eq hg.symm)) hb); have n3_ := Aside0.mk (Kd.R_below (by (with_reducible repeat (first | apply Kd.R_alloc | apply Kd.R_drewN | apply Kd.R_drew)); exact HO425.out) hb); have n4_ := Aside0.mk (Kd.V_below (Kd.V_elderB (by (with_reducible repeat (first | apply Kd.V_alloc | apply Kd.V_drewN | apply Kd.V_drew)); exact HO428.out) gb436 (Nat.le_of_eq hg.symm)) hb); have n5_ := Aside0.mk (Kd.R_below (by (with_reducible repeat (first | apply Kd.R_alloc | apply Kd.R_drewN | apply Kd.R_drew)); exact HO433.out) hb); have n6_ := Aside0.mk (below_step (by repeat (first | (with_reducible first | exact HB.out | apply below_alloc | apply pw_below_drewN | apply below_drew1) | exact HB.out)) hb); have n7_ := Aside0.mk (hbox); have n8_ := Aside0.mk ((by rw [hg]; exact (below_size (by repeat (first | (with_reducible first | exact HB.out | apply below_alloc | apply pw_below_drewN | apply below_drew1) | exact HB.out))) : w.heap.size ≤ gb436)); have n9_ := Aside0.mk ((by rw [hg]; exact (below_size (by repeat (first | (with_reducible first | exact HB.out | apply below_alloc | apply pw_below_drewN | apply below_drew1) | exact HB.out))) : w.heap.size ≤ gb436)); clear HO414; clear HO417; clear HO420; clear HO425; clear HO428; clear HO433; clear HB; have HO414 := n0_; have HO417 := n1_; have HO420 := n2_; have HO425 := n3_; have HO428 := n4_; have HO433 := n5_; have HB := n6_; have BK436 := n7_; have GW436 := n8_; have GE436 := n9_; clear n0_ n1_ n2_ n3_ n4_ n5_ n6_ n7_ n8_ n9_; clear hb hbox hg; obtain ⟨Ao39, co39, eo39⟩ := Kd.R_slice HO433.out; subst eo39; have hcz40_0 : w38.cell? ⟨gb436, 0, none⟩ = some (.slice none 0 0) := (blk_cell BK436.out 0).trans rfl; have hcz40_1 : w38.cell? ⟨gb436, 1, none⟩ = some (.int .u32 0) := (blk_cell BK436.out 1).trans rfl; have hcz40_2 : w38.cell? ⟨gb436, 2, none⟩ = some (.int .i64 0) := (blk_cell BK436.out 2).trans rfl; have hfz40_0 := blk_frozen BK436.out 0; have hfz40_1 := blk_frozen BK436.out 1; have hfz40_2 := blk_frozen BK436.out 2) | ((with_reducible refine gate_callee (f := 15) rfl ?_); refine goesL_ (some 51) rfl rfl Try.func15 (by kernel_rfl) rfl #[.slice Ao32 t412.length co32, .slice Ao33 t415.length co33] rfl (by (try simp only [List.map_toArray, List.map_cons, List.map_nil]); first | done | rfl | (simp only [List.length_drop, List.length_take]; rfl)) ?_; (with_reducible refine (nat_Add.calls _ _ t412 _ _ t415 t437 _ ?side1 ?side2 ?side3 ?side4 A11.out).mono ?_); (case side1 => refine (Kd.V_reads' (e := 30) (base := w.heap.size) (ok := fun k_ => (((True ∧ some k_ ≠ (v424 : Value).ownBlock) ∧ some k_ ≠ (.slice Ao39 t431.length co39 : Value).ownBlock) ∧ k_ ≠ gb436)) (n := t412.length) (c := co32) ?_).2.2; exact (by (with_reducible repeat (first | apply Kd.V_alloc | apply Kd.V_drewN | apply Kd.V_drew)); exact (Kd.V_mono (Kd.V_far (p := ⟨gb436, 2, none⟩) (Kd.V_far (p := ⟨gb436, 1, none⟩) (Kd.V_far (p := ⟨gb436, 0, none⟩) (Kd.V_mono HO414.out (fun k_ hk => (⟨hk, hk.2⟩ : _ ∧ k_ ≠ gb436))) (fun _ hk => hk.2) (.slice Ao39 t431.length co39)) (fun _ hk => hk.2) (.int .u32 t434)) (fun _ hk => hk.2) (.int .i64 t435)) (fun _ h_ => h_.1)))); (case side2 => exact (Kd.V_reads' HO414.out).2.1); (case side3 => refine (Kd.V_reads' (e := 30) (base := w.heap.size) (ok := fun k_ => (((True ∧ some k_ ≠ (v424 : Value).ownBlock) ∧ some k_ ≠ (.slice Ao39 t431.length co39 : Value).ownBlock) ∧ k_ ≠ gb436)) (n := t415.length) (c := co33) ?_).2.2; exact (by (with_reducible repeat (first | apply Kd.V_alloc | apply Kd.V_drewN | apply Kd.V_drew)); exact (Kd.V_mono (Kd.V_far (p := ⟨gb436, 2, none⟩) (Kd.V_far (p := ⟨gb436, 1, none⟩) (Kd.V_far (p := ⟨gb436, 0, none⟩) (Kd.V_mono HO417.out (fun k_ hk => (⟨hk, hk.2⟩ : _ ∧ k_ ≠ gb436))) (fun _ hk => hk.2) (.slice Ao39 t431.length co39)) (fun _ hk => hk.2) (.int .u32 t434)) (fun _ hk => hk.2) (.int .i64 t435)) (fun _ h_ => h_.1)))); (case side4 => exact (Kd.V_reads' HO417.out).2.1); rintro e w41 ⟨v438, rfl, ho0, hb⟩; refine ⟨_, rfl, ?_⟩; have n0_ := Aside0.mk (Kd.V_below (by (with_reducible repeat (first | apply Kd.V_alloc | apply Kd.V_drewN | apply Kd.V_drew)); exact (Kd.V_mono (Kd.V_far (p := ⟨gb436, 2, none⟩) (Kd.V_far (p := ⟨gb436, 1, none⟩) (Kd.V_far (p := ⟨gb436, 0, none⟩) (Kd.V_mono HO414.out (fun k_ hk => (⟨hk, hk.2⟩ : _ ∧ k_ ≠ gb436))) (fun _ hk => hk.2) (.slice Ao39 t431.length co39)) (fun _ hk => hk.2) (.int .u32 t434)) (fun _ hk => hk.2) (.int .i64 t435)) (fun _ h_ => h_.1))) hb); have n1_ := Aside0.mk (Kd.V_below (by (with_reducible repeat (first | apply Kd.V_alloc | apply Kd.V_drewN | apply Kd.V_drew)); exact (Kd.V_mono (Kd.V_far (p := ⟨gb436, 2, none⟩) (Kd.V_far (p := ⟨gb436, 1, none⟩) (Kd.V_far (p := ⟨gb436, 0, none⟩) (Kd.V_mono HO417.out (fun k_ hk => (⟨hk, hk.2⟩ : _ ∧ k_ ≠ gb436))) (fun _ hk => hk.2) (.slice Ao39 t431.length co39)) (fun _ hk => hk.2) (.int .u32 t434)) (fun _ hk => hk.2) (.int .i64 t435)) (fun _ h_ => h_.1))) hb); have n2_ := Aside0.mk (Kd.V_below (by (with_reducible repeat (first | apply Kd.V_alloc | apply Kd.V_drewN | apply Kd.V_drew)); exact (Kd.V_mono (Kd.V_far (p := ⟨gb436, 2, none⟩) (Kd.V_far (p := ⟨gb436, 1, none⟩) (Kd.V_far (p := ⟨gb436, 0, none⟩) (Kd.V_mono HO420.out (fun k_ hk => (⟨hk, hk.2⟩ : _ ∧ k_ ≠ gb436))) (fun _ hk => hk.2) (.slice Ao39 t431.length co39)) (fun _ hk => hk.2) (.int .u32 t434)) (fun _ hk => hk.2) (.int .i64 t435)) (fun _ h_ => h_.1))) hb); have n3_ := Aside0.mk (Kd.R_below (by (with_reducible repeat (first | apply Kd.R_alloc | apply Kd.R_drewN | apply Kd.R_drew)); exact (Kd.R_mono (Kd.R_far (p := ⟨gb436, 2, none⟩) (Kd.R_far (p := ⟨gb436, 1, none⟩) (Kd.R_far (p := ⟨gb436, 0, none⟩) (Kd.R_types HO425.out BK436.out (by decide)) (fun _ hk => hk.2) (.slice Ao39 t431.length co39)) (fun _ hk => hk.2) (.int .u32 t434)) (fun _ hk => hk.2) (.int .i64 t435)) (fun _ h_ => h_.1))) hb); have n4_ := Aside0.mk (Kd.V_below (by (with_reducible repeat (first | apply Kd.V_alloc | apply Kd.V_drewN | apply Kd.V_drew)); exact (Kd.V_mono (Kd.V_far (p := ⟨gb436, 2, none⟩) (Kd.V_far (p := ⟨gb436, 1, none⟩) (Kd.V_far (p := ⟨gb436, 0, none⟩) (Kd.V_mono HO428.out (fun k_ hk => (⟨hk, hk.2⟩ : _ ∧ k_ ≠ gb436))) (fun _ hk => hk.2) (.slice Ao39 t431.length co39)) (fun _ hk => hk.2) (.int .u32 t434)) (fun _ hk => hk.2) (.int .i64 t435)) (fun _ h_ => h_.1))) hb); have n5_ := Aside0.mk (Kd.R_below (by (with_reducible repeat (first | apply Kd.R_alloc | apply Kd.R_drewN | apply Kd.R_drew)); exact (Kd.R_mono (Kd.R_far (p := ⟨gb436, 2, none⟩) (Kd.R_far (p := ⟨gb436, 1, none⟩) (Kd.R_far (p := ⟨gb436, 0, none⟩) (Kd.R_types HO433.out BK436.out (by decide)) (fun _ hk => hk.2) (.slice Ao39 t431.length co39)) (fun _ hk => hk.2) (.int .u32 t434)) (fun _ hk => hk.2) (.int .i64 t435)) (fun _ h_ => h_.1))) hb); have n6_ := Aside0.mk (Kd.V_lower (Kd.V_mono (ok' := fun k_ => some k_ ≠ (v424 : Value).ownBlock ∧ some k_ ≠ (.slice Ao39 t431.length co39 : Value).ownBlock ∧ k_ ≠ gb436) ho0 (fun k_ hk_ => ⟨(Kd.fresh' (Kd.R_lt (by (with_reducible repeat (first | apply Kd.R_alloc | apply Kd.R_drewN | apply Kd.R_drew)); exact (Kd.R_mono (Kd.R_far (p := ⟨gb436, 2, none⟩) (Kd.R_far (p := ⟨gb436, 1, none⟩) (Kd.R_far (p := ⟨gb436, 0, none⟩) (Kd.R_types HO425.out BK436.out (by decide)) (fun _ hk => hk.2) (.slice Ao39 t431.length co39)) (fun _ hk => hk.2) (.int .u32 t434)) (fun _ hk => hk.2) (.int .i64 t435)) (fun _ h_ => h_.1)))) k_ hk_), (Kd.fresh' (Kd.R_lt (by (with_reducible repeat (first | apply Kd.R_alloc | apply Kd.R_drewN | apply Kd.R_drew)); exact (Kd.R_mono (Kd.R_far (p := ⟨gb436, 2, none⟩) (Kd.R_far (p := ⟨gb436, 1, none⟩) (Kd.R_far (p := ⟨gb436, 0, none⟩) (Kd.R_types HO433.out BK436.out (by decide)) (fun _ hk => hk.2) (.slice Ao39 t431.length co39)) (fun _ hk => hk.2) (.int .u32 t434)) (fun _ hk => hk.2) (.int .i64 t435)) (fun _ h_ => h_.1)))) k_ hk_), (Kd.freshB (g := gb436) (o := .cells #[.slice Ao39 t431.length co39, .int .u32 t434, .int .i64 t435] 37 (0, 0)) (by (with_reducible repeat (first | refine blk_drewN ?_ _ | refine blk_drew ?_ | refine blk_alloc ?_ _)); refine blk_put (cs := #[.slice Ao39 t431.length co39, .int .u32 t434, .int .i64 0]) ?_ 2 _ rfl; (with_reducible repeat (first | refine blk_drewN ?_ _ | refine blk_drew ?_ | refine blk_alloc ?_ _)); refine blk_put (cs := #[.slice Ao39 t431.length co39, .int .u32 0, .int .i64 0]) ?_ 1 _ rfl; (with_reducible repeat (first | refine blk_drewN ?_ _ | refine blk_drew ?_ | refine blk_alloc ?_ _)); refine blk_put (cs := #[.slice none 0 0, .int .u32 0, .int .i64 0]) ?_ 0 _ rfl; (with_reducible repeat (first | refine blk_drewN ?_ _ | refine blk_drew ?_ | refine blk_alloc ?_ _)); exact BK436.out) k_ hk_)⟩)) (below_size (by repeat (first | (with_reducible first | exact HB.out | apply below_alloc | apply pw_below_drewN | apply below_drew1 | refine below_set ?_ GE436.out) | exact HB.out)))); have n7_ := Aside0.mk (blk_below (g := gb436) (o := .cells #[.slice Ao39 t431.length co39, .int .u32 t434, .int .i64 t435] 37 (0, 0)) (by (with_reducible repeat (first | refine blk_drewN ?_ _ | refine blk_drew ?_ | refine blk_alloc ?_ _)); refine blk_put (cs := #[.slice Ao39 t431.length co39, .int .u32 t434, .int .i64 0]) ?_ 2 _ rfl; (with_reducible repeat (first | refine blk_drewN ?_ _ | refine blk_drew ?_ | refine blk_alloc ?_ _)); refine blk_put (cs := #[.slice Ao39 t431.length co39, .int .u32 0, .int .i64 0]) ?_ 1 _ rfl; (with_reducible repeat (first | refine blk_drewN ?_ _ | refine blk_drew ?_ | refine blk_alloc ?_ _)); refine blk_put (cs := #[.slice none 0 0, .int .u32 0, .int .i64 0]) ?_ 0 _ rfl; (with_reducible repeat (first | refine blk_drewN ?_ _ | refine blk_drew ?_ | refine blk_alloc ?_ _)); exact BK436.out) hb); have n8_ := Aside0.mk (below_step (by repeat (first | (with_reducible first | exact HB.out | apply below_alloc | apply pw_below_drewN | apply below_drew1 | refine below_set ?_ GE436.out) | exact HB.out)) hb); clear HO414; clear HO417; clear HO420; clear HO425; clear HO428; clear HO433; clear BK436; clear HB; have HO414 := n0_; have HO417 := n1_; have HO420 := n2_; have HO425 := n3_; have HO428 := n4_; have HO433 := n5_; have HO439 := n6_; have BK436 := n7_; have HB := n8_; clear n0_ n1_ n2_ n3_ n4_ n5_ n6_ n7_ n8_; (try clear hb); (try clear hb2); (try clear hk); (try clear hi); (try clear ho0)) | ((with_reducible refine gate_callee (f := 24) rfl ?_); refine goesL_ (some 54) rfl rfl Try.func24 (by kernel_rfl) rfl #[.slice Ao32 t412.length co32, .slice Ao33 t415.length co33] rfl (by (try simp only [List.map_toArray, List.map_cons, List.map_nil]); first | done | rfl | (simp only [List.length_drop, List.length_take]; rfl)) ?_; (with_reducible refine (regattaref02_Add.calls k _ _ t412 _ _ t415 t440 _ ?side1 ?side2 ?side3 ?side4 A12.out).mono ?_); (case side1 => repeat (first | exact (Kd.V_reads' HO414.out).2.2 | (with_reducible refine Kd.C_alloc ?_ _) | (with_reducible refine Kd.C_drewN ?_ _) | (with_reducible refine Kd.C_drew ?_))); (case side2 => exact (Kd.V_reads' HO414.out).2.1); (case side3 => repeat (first | exact (Kd.V_reads' HO417.out).2.2 | (with_reducible refine Kd.C_alloc ?_ _) | (with_reducible refine Kd.C_drewN ?_ _) | (with_reducible refine Kd.C_drew ?_))); (case side4 => exact (Kd.V_reads' HO417.out).2.1); rintro e w42 ⟨v441, rfl, ho0, hb⟩; refine ⟨_, rfl, ?_⟩; have n0_ := Aside0.mk (Kd.V_elder' (by (with_reducible repeat (first | apply Kd.V_alloc | apply Kd.V_drewN | apply Kd.V_drew)); exact HO414.out) (Kd.R_base ho0) hb); have n1_ := Aside0.mk (Kd.V_elder' (by (with_reducible repeat (first | apply Kd.V_alloc | apply Kd.V_drewN | apply Kd.V_drew)); exact HO417.out) (Kd.R_base ho0) hb); have n2_ := Aside0.mk (Kd.V_elder' (by (with_reducible repeat (first | apply Kd.V_alloc | apply Kd.V_drewN | apply Kd.V_drew)); exact HO420.out) (Kd.R_base ho0) hb); have n3_ := Aside0.mk (Kd.R_elder' (by (with_reducible repeat (first | apply Kd.R_alloc | apply Kd.R_drewN | apply Kd.R_drew)); exact HO425.out) (Kd.R_base ho0) hb); have n4_ := Aside0.mk (Kd.V_elder' (by (with_reducible repeat (first | apply Kd.V_alloc | apply Kd.V_drewN | apply Kd.V_drew)); exact HO428.out) (Kd.R_base ho0) hb); have n5_ := Aside0.mk (Kd.R_elder' (by (with_reducible repeat (first | apply Kd.R_alloc | apply Kd.R_drewN | apply Kd.R_drew)); exact HO433.out) (Kd.R_base ho0) hb); have n6_ := Aside0.mk (Kd.V_elder' (by (with_reducible repeat (first | apply Kd.V_alloc | apply Kd.V_drewN | apply Kd.V_drew)); exact HO439.out) (Kd.R_base ho0) hb); have n7_ := Aside0.mk (Kd.R_lower (Kd.R_new' (Kd.R_new' ho0 (Kd.R_lt (by (with_reducible repeat (first | apply Kd.R_alloc | apply Kd.R_drewN | apply Kd.R_drew)); exact HO425.out))) (Kd.R_lt (by (with_reducible repeat (first | apply Kd.R_alloc | apply Kd.R_drewN | apply Kd.R_drew)); exact HO433.out))) (below_size (by repeat (first | (with_reducible first | exact HB.out | apply below_alloc | apply pw_below_drewN | apply below_drew1 | refine below_set ?_ GE436.out) | exact HB.out)))); have n8_ := Aside0.mk (blk_below (g := gb436) (o := .cells #[.slice Ao39 t431.length co39, .int .u32 t434, .int .i64 t435] 37 (0, 0)) (by (with_reducible repeat (first | refine blk_drewN ?_ _ | refine blk_drew ?_ | refine blk_alloc ?_ _)); exact BK436.out) hb); have n9_ := Aside0.mk (below_step (by repeat (first | (with_reducible first | exact HB.out | apply below_alloc | apply pw_below_drewN | apply below_drew1 | refine below_set ?_ GE436.out) | exact HB.out)) hb); clear HO414; clear HO417; clear HO420; clear HO425; clear HO428; clear HO433; clear HO439; clear BK436; clear HB; have HO414 := n0_; have HO417 := n1_; have HO420 := n2_; have HO425 := n3_; have HO428 := n4_; have HO433 := n5_; have HO439 := n6_; have HO442 := n7_; have BK436 := n8_; have HB := n9_; clear n0_ n1_ n2_ n3_ n4_ n5_ n6_ n7_ n8_ n9_; (try clear hb); (try clear hb2); (try clear hk); (try clear hi); (try clear ho0); obtain ⟨Ao43, co43, eo43⟩ := Kd.V_slice HO439.out; subst eo43; obtain ⟨Ao44, co44, eo44⟩ := Kd.R_slice HO442.out; subst eo44) | ((with_reducible refine gate_callee (f := 17) rfl ?_); refine goesL_ (some 55) rfl rfl Try.func17 (by kernel_rfl) rfl #[.slice Ao43 t437.length co43, .slice Ao44 t440.length co44] rfl (by (try simp only [List.map_toArray, List.map_cons, List.map_nil]); first | done | rfl | (simp only [List.length_drop, List.length_take]; rfl)) ?_; (with_reducible refine (regattaref02_Same.calls k _ _ t437 _ _ t440 true _ ?side1 ?side2 ?side3 ?side4 A13.out).mono ?_); (case side1 => repeat (first | exact (Kd.V_reads' HO439.out).2.2 | (with_reducible refine Kd.C_alloc ?_ _) | (with_reducible refine Kd.C_drewN ?_ _) | (with_reducible refine Kd.C_drew ?_))); (case side2 => exact (Kd.V_reads' HO439.out).2.1); (case side3 => repeat (first | exact (Kd.R_reads' HO442.out).2.2 | (with_reducible refine Kd.C_alloc ?_ _) | (with_reducible refine Kd.C_drewN ?_ _) | (with_reducible refine Kd.C_drew ?_))); (case side4 => exact (Kd.R_reads' HO442.out).2.1); rintro e w' ⟨rfl, ⟨nd, rfl⟩⟩; refine ⟨_, rfl, ?_⟩; (try clear A13)) | ((with_reducible refine gate_callee (f := 16) rfl ?_); refine goesL_ (some 58) rfl rfl Try.func16 (by kernel_rfl) rfl #[.slice Ao32 t412.length co32, .slice Ao33 t415.length co33] rfl (by (try simp only [List.map_toArray, List.map_cons, List.map_nil]); first | done | rfl | (simp only [List.length_drop, List.length_take]; rfl)) ?_; (with_reducible refine (nat_Mul.calls _ _ t412 _ _ t415 t444 _ ?side1 ?side2 ?side3 ?side4 A14.out).mono ?_); (case side1 => repeat (first | exact (Kd.V_reads' HO414.out).2.2 | (with_reducible refine Kd.C_alloc ?_ _) | (with_reducible refine Kd.C_drewN ?_ _) | (with_reducible refine Kd.C_drew ?_))); (case side2 => exact (Kd.V_reads' HO414.out).2.1); (case side3 => repeat (first | exact (Kd.V_reads' HO417.out).2.2 | (with_reducible refine Kd.C_alloc ?_ _) | (with_reducible refine Kd.C_drewN ?_ _) | (with_reducible refine Kd.C_drew ?_))); (case side4 => exact (Kd.V_reads' HO417.out).2.1); rintro e w45 ⟨v445, rfl, ho0, hb⟩; refine ⟨_, rfl, ?_⟩; have n0_ := Aside0.mk (Kd.V_below (by (with_reducible repeat (first | apply Kd.V_alloc | apply Kd.V_drewN | apply Kd.V_drew)); exact HO414.out) hb); have n1_ := Aside0.mk (Kd.V_below (by (with_reducible repeat (first | apply Kd.V_alloc | apply Kd.V_drewN | apply Kd.V_drew)); exact HO417.out) hb); have n2_ := Aside0.mk (Kd.V_below (by (with_reducible repeat (first | apply Kd.V_alloc | apply Kd.V_drewN | apply Kd.V_drew)); exact HO420.out) hb); have n3_ := Aside0.mk (Kd.R_below (by (with_reducible repeat (first | apply Kd.R_alloc | apply Kd.R_drewN | apply Kd.R_drew)); exact HO425.out) hb); have n4_ := Aside0.mk (Kd.V_below (by (with_reducible repeat (first | apply Kd.V_alloc | apply Kd.V_drewN | apply Kd.V_drew)); exact HO428.out) hb); have n5_ := Aside0.mk (Kd.R_below (by (with_reducible repeat (first | apply Kd.R_alloc | apply Kd.R_drewN | apply Kd.R_drew)); exact HO433.out) hb); have n6_ := Aside0.mk (Kd.V_below (by (with_reducible repeat (first | apply Kd.V_alloc | apply Kd.V_drewN | apply Kd.V_drew)); exact HO439.out) hb); have n7_ := Aside0.mk (Kd.R_below (by (with_reducible repeat (first | apply Kd.R_alloc | apply Kd.R_drewN | apply Kd.R_drew)); exact HO442.out) hb); have n8_ := Aside0.mk (Kd.V_lower (Kd.V_mono (ok' := fun k_ => some k_ ≠ (v424 : Value).ownBlock ∧ some k_ ≠ (.slice Ao39 t431.length co39 : Value).ownBlock ∧ some k_ ≠ (.slice Ao44 t440.length co44 : Value).ownBlock ∧ k_ ≠ gb436) ho0 (fun k_ hk_ => ⟨(Kd.fresh' (Kd.R_lt (by (with_reducible repeat (first | apply Kd.R_alloc | apply Kd.R_drewN | apply Kd.R_drew)); exact HO425.out)) k_ hk_), (Kd.fresh' (Kd.R_lt (by (with_reducible repeat (first | apply Kd.R_alloc | apply Kd.R_drewN | apply Kd.R_drew)); exact HO433.out)) k_ hk_), (Kd.fresh' (Kd.R_lt (by (with_reducible repeat (first | apply Kd.R_alloc | apply Kd.R_drewN | apply Kd.R_drew)); exact HO442.out)) k_ hk_), (Kd.freshB (g := gb436) (o := .cells #[.slice Ao39 t431.length co39, .int .u32 t434, .int .i64 t435] 37 (0, 0)) (by (with_reducible repeat (first | refine blk_drewN ?_ _ | refine blk_drew ?_ | refine blk_alloc ?_ _)); exact BK436.out) k_ hk_)⟩)) (below_size (by repeat (first | (with_reducible first | exact HB.out | apply below_alloc | apply pw_below_drewN | apply below_drew1 | refine below_set ?_ GE436.out) | exact HB.out)))); have n9_ := Aside0.mk (blk_below (g := gb436) (o := .cells #[.slice Ao39 t431.length co39, .int .u32 t434, .int .i64 t435] 37 (0, 0)) (by (with_reducible repeat (first | refine blk_drewN ?_ _ | refine blk_drew ?_ | refine blk_alloc ?_ _)); exact BK436.out) hb); have n10_ := Aside0.mk (below_step (by repeat (first | (with_reducible first | exact HB.out | apply below_alloc | apply pw_below_drewN | apply below_drew1 | refine below_set ?_ GE436.out) | exact HB.out)) hb); clear HO414; clear HO417; clear HO420; clear HO425; clear HO428; clear HO433; clear HO439; clear HO442; clear BK436; clear HB; have HO414 := n0_; have HO417 := n1_; have HO420 := n2_; have HO425 := n3_; have HO428 := n4_; have HO433 := n5_; have HO439 := n6_; have HO442 := n7_; have HO446 := n8_; have BK436 := n9_; have HB := n10_; clear n0_ n1_ n2_ n3_ n4_ n5_ n6_ n7_ n8_ n9_ n10_; (try clear hb); (try clear hb2); (try clear hk); (try clear hi); (try clear ho0)) | ((with_reducible refine gate_callee (f := 25) rfl ?_); refine goesL_ (some 61) rfl rfl Try.func25 (by kernel_rfl) rfl #[.slice Ao32 t412.length co32, .slice Ao33 t415.length co33] rfl (by (try simp only [List.map_toArray, List.map_cons, List.map_nil]); first | done | rfl | (simp only [List.length_drop, List.length_take]; rfl)) ?_; (with_reducible refine (regattaref02_Mul.calls k _ _ t412 _ _ t415 t447 _ ?side1 ?side2 ?side3 ?side4 A15.out).mono ?_); (case side1 => repeat (first | exact (Kd.V_reads' HO414.out).2.2 | (with_reducible refine Kd.C_alloc ?_ _) | (with_reducible refine Kd.C_drewN ?_ _) | (with_reducible refine Kd.C_drew ?_))); (case side2 => exact (Kd.V_reads' HO414.out).2.1); (case side3 => repeat (first | exact (Kd.V_reads' HO417.out).2.2 | (with_reducible refine Kd.C_alloc ?_ _) | (with_reducible refine Kd.C_drewN ?_ _) | (with_reducible refine Kd.C_drew ?_))); (case side4 => exact (Kd.V_reads' HO417.out).2.1); rintro e w46 ⟨v448, rfl, ho0, hb⟩; refine ⟨_, rfl, ?_⟩; have n0_ := Aside0.mk (Kd.V_elder' (by (with_reducible repeat (first | apply Kd.V_alloc | apply Kd.V_drewN | apply Kd.V_drew)); exact HO414.out) (Kd.R_base ho0) hb); have n1_ := Aside0.mk (Kd.V_elder' (by (with_reducible repeat (first | apply Kd.V_alloc | apply Kd.V_drewN | apply Kd.V_drew)); exact HO417.out) (Kd.R_base ho0) hb); have n2_ := Aside0.mk (Kd.V_elder' (by (with_reducible repeat (first | apply Kd.V_alloc | apply Kd.V_drewN | apply Kd.V_drew)); exact HO420.out) (Kd.R_base ho0) hb); have n3_ := Aside0.mk (Kd.R_elder' (by (with_reducible repeat (first | apply Kd.R_alloc | apply Kd.R_drewN | apply Kd.R_drew)); exact HO425.out) (Kd.R_base ho0) hb); have n4_ := Aside0.mk (Kd.V_elder' (by (with_reducible repeat (first | apply Kd.V_alloc | apply Kd.V_drewN | apply Kd.V_drew)); exact HO428.out) (Kd.R_base ho0) hb); have n5_ := Aside0.mk (Kd.R_elder' (by (with_reducible repeat (first | apply Kd.R_alloc | apply Kd.R_drewN | apply Kd.R_drew)); exact HO433.out) (Kd.R_base ho0) hb); have n6_ := Aside0.mk (Kd.V_elder' (by (with_reducible repeat (first | apply Kd.V_alloc | apply Kd.V_drewN | apply Kd.V_drew)); exact HO439.out) (Kd.R_base ho0) hb); have n7_ := Aside0.mk (Kd.R_elder' (by (with_reducible repeat (first | apply Kd.R_alloc | apply Kd.R_drewN | apply Kd.R_drew)); exact HO442.out) (Kd.R_base ho0) hb); have n8_ := Aside0.mk (Kd.V_elder' (by (with_reducible repeat (first | apply Kd.V_alloc | apply Kd.V_drewN | apply Kd.V_drew)); exact HO446.out) (Kd.R_base ho0) hb); have n9_ := Aside0.mk (Kd.R_lower (Kd.R_new' (Kd.R_new' (Kd.R_new' ho0 (Kd.R_lt (by (with_reducible repeat (first | apply Kd.R_alloc | apply Kd.R_drewN | apply Kd.R_drew)); exact HO425.out))) (Kd.R_lt (by (with_reducible repeat (first | apply Kd.R_alloc | apply Kd.R_drewN | apply Kd.R_drew)); exact HO433.out))) (Kd.R_lt (by (with_reducible repeat (first | apply Kd.R_alloc | apply Kd.R_drewN | apply Kd.R_drew)); exact HO442.out))) (below_size (by repeat (first | (with_reducible first | exact HB.out | apply below_alloc | apply pw_below_drewN | apply below_drew1 | refine below_set ?_ GE436.out) | exact HB.out)))); have n10_ := Aside0.mk (blk_below (g := gb436) (o := .cells #[.slice Ao39 t431.length co39, .int .u32 t434, .int .i64 t435] 37 (0, 0)) (by (with_reducible repeat (first | refine blk_drewN ?_ _ | refine blk_drew ?_ | refine blk_alloc ?_ _)); exact BK436.out) hb); have n11_ := Aside0.mk (below_step (by repeat (first | (with_reducible first | exact HB.out | apply below_alloc | apply pw_below_drewN | apply below_drew1 | refine below_set ?_ GE436.out) | exact HB.out)) hb); clear HO414; clear HO417; clear HO420; clear HO425; clear HO428; clear HO433; clear HO439; clear HO442; clear HO446; clear BK436; clear HB; have HO414 := n0_; have HO417 := n1_; have HO420 := n2_; have HO425 := n3_; have HO428 := n4_; have HO433 := n5_; have HO439 := n6_; have HO442 := n7_; have HO446 := n8_; have HO449 := n9_; have BK436 := n10_; have HB := n11_; clear n0_ n1_ n2_ n3_ n4_ n5_ n6_ n7_ n8_ n9_ n10_ n11_; (try clear hb); (try clear hb2); (try clear hk); (try clear hi); (try clear ho0); obtain ⟨Ao47, co47, eo47⟩ := Kd.V_slice HO446.out; subst eo47; obtain ⟨Ao48, co48, eo48⟩ := Kd.R_slice HO449.out; subst eo48) | ((with_reducible refine gate_callee (f := 17) rfl ?_); refine goesL_ (some 62) rfl rfl Try.func17 (by kernel_rfl) rfl #[.slice Ao47 t444.length co47, .slice Ao48 t447.length co48] rfl (by (try simp only [List.map_toArray, List.map_cons, List.map_nil]); first | done | rfl | (simp only [List.length_drop, List.length_take]; rfl)) ?_; (with_reducible refine (regattaref02_Same.calls k _ _ t444 _ _ t447 true _ ?side1 ?side2 ?side3 ?side4 A16.out).mono ?_); (case side1 => repeat (first | exact (Kd.V_reads' HO446.out).2.2 | (with_reducible refine Kd.C_alloc ?_ _) | (with_reducible refine Kd.C_drewN ?_ _) | (with_reducible refine Kd.C_drew ?_))); (case side2 => exact (Kd.V_reads' HO446.out).2.1); (case side3 => repeat (first | exact (Kd.R_reads' HO449.out).2.2 | (with_reducible refine Kd.C_alloc ?_ _) | (with_reducible refine Kd.C_drewN ?_ _) | (with_reducible refine Kd.C_drew ?_))); (case side4 => exact (Kd.R_reads' HO449.out).2.1); rintro e w' ⟨rfl, ⟨nd, rfl⟩⟩; refine ⟨_, rfl, ?_⟩; obtain ⟨Ao49, co49, eo49⟩ := Kd.V_slice HO420.out; subst eo49; obtain ⟨Ao50, co50, eo50⟩ := Kd.R_slice HO425.out; subst eo50; (try clear A16)) | ((with_reducible refine gate_callee (f := 17) rfl ?_); refine goesL_ (some 65) rfl rfl Try.func17 (by kernel_rfl) rfl #[.slice Ao49 t418.length co49, .slice Ao50 t422.length co50] rfl (by (try simp only [List.map_toArray, List.map_cons, List.map_nil]); first | done | rfl | (simp only [List.length_drop, List.length_take]; rfl)) ?_; (with_reducible refine (regattaref02_Same.calls k _ _ t418 _ _ t422 true _ ?side1 ?side2 ?side3 ?side4 A17.out).mono ?_); (case side1 => repeat (first | exact (Kd.V_reads' HO420.out).2.2 | (with_reducible refine Kd.C_alloc ?_ _) | (with_reducible refine Kd.C_drewN ?_ _) | (with_reducible refine Kd.C_drew ?_))); (case side2 => exact (Kd.V_reads' HO420.out).2.1); (case side3 => repeat (first | exact (Kd.R_reads' HO425.out).2.2 | (with_reducible refine Kd.C_alloc ?_ _) | (with_reducible refine Kd.C_drewN ?_ _) | (with_reducible refine Kd.C_drew ?_))); (case side4 => exact (Kd.R_reads' HO425.out).2.1); rintro e w' ⟨rfl, ⟨nd, rfl⟩⟩; refine ⟨_, rfl, ?_⟩; have hcz51_0 : w46.cell? ⟨gb436, 0, none⟩ = some (.slice Ao39 t431.length co39) := (blk_cell BK436.out 0).trans rfl; have hcz51_1 : w46.cell? ⟨gb436, 1, none⟩ = some (.int .u32 t434) := (blk_cell BK436.out 1).trans rfl; have hcz51_2 : w46.cell? ⟨gb436, 2, none⟩ = some (.int .i64 t435) := (blk_cell BK436.out 2).trans rfl; have hfz51_0 := blk_frozen BK436.out 0; have hfz51_1 := blk_frozen BK436.out 1; have hfz51_2 := blk_frozen BK436.out 2; obtain ⟨Ao52, co52, eo52⟩ := Kd.V_slice HO428.out; subst eo52; (try clear A17)) | ((with_reducible refine gate_callee (f := 17) rfl ?_); refine goesL_ (some 69) rfl rfl Try.func17 (by kernel_rfl) rfl #[.slice Ao52 t426.length co52, .slice Ao39 t431.length co39] rfl (by (try simp only [List.map_toArray, List.map_cons, List.map_nil]); first | done | rfl | (simp only [List.length_drop, List.length_take]; rfl)) ?_; (with_reducible refine (regattaref02_Same.calls k _ _ t426 _ _ t431 true _ ?side1 ?side2 ?side3 ?side4 A18.out).mono ?_); (case side1 => repeat (first | exact (Kd.V_reads' HO428.out).2.2 | (with_reducible refine Kd.C_alloc ?_ _) | (with_reducible refine Kd.C_drewN ?_ _) | (with_reducible refine Kd.C_drew ?_))); (case side2 => exact (Kd.V_reads' HO428.out).2.1); (case side3 => repeat (first | exact (Kd.R_reads' HO433.out).2.2 | (with_reducible refine Kd.C_alloc ?_ _) | (with_reducible refine Kd.C_drewN ?_ _) | (with_reducible refine Kd.C_drew ?_))); (case side4 => exact (Kd.R_reads' HO433.out).2.1); rintro e w' ⟨rfl, ⟨nd, rfl⟩⟩; refine ⟨_, rfl, ?_⟩; (try clear A18)) | (go_at_call 19; (with_reducible refine (nat_Cmp.calls k _ _ t412 _ _ t415 t453 _ ?side1 ?side2 ?side3 ?side4 A27.out).mono ?_); (case side1 => repeat (first | exact (Kd.V_reads' HO414.out).2.2 | (with_reducible refine Kd.C_alloc ?_ _) | (with_reducible refine Kd.C_drewN ?_ _) | (with_reducible refine Kd.C_drew ?_))); (case side2 => exact (Kd.V_reads' HO414.out).2.1); (case side3 => repeat (first | exact (Kd.V_reads' HO417.out).2.2 | (with_reducible refine Kd.C_alloc ?_ _) | (with_reducible refine Kd.C_drewN ?_ _) | (with_reducible refine Kd.C_drew ?_))); (case side4 => exact (Kd.V_reads' HO417.out).2.1); rintro e w' ⟨rfl, ⟨nd, rfl⟩⟩) | (go_at_call 26; (with_reducible refine (regattaref02_Cmp.calls k _ _ t412 _ _ t415 t454 _ ?side1 ?side2 ?side3 ?side4 A28.out).mono ?_); (case side1 => repeat (first | exact (Kd.V_reads' HO414.out).2.2 | (with_reducible refine Kd.C_alloc ?_ _) | (with_reducible refine Kd.C_drewN ?_ _) | (with_reducible refine Kd.C_drew ?_))); (case side2 => exact (Kd.V_reads' HO414.out).2.1); (case side3 => repeat (first | exact (Kd.V_reads' HO417.out).2.2 | (with_reducible refine Kd.C_alloc ?_ _) | (with_reducible refine Kd.C_drewN ?_ _) | (with_reducible refine Kd.C_drew ?_))); (case side4 => exact (Kd.V_reads' HO417.out).2.1); rintro e w53 ⟨rfl, hb⟩; have n0_ := Aside0.mk (Kd.V_below (by (with_reducible repeat (first | apply Kd.V_alloc | apply Kd.V_drewN | apply Kd.V_drew)); exact HO414.out) hb); have n1_ := Aside0.mk (Kd.V_below (by (with_reducible repeat (first | apply Kd.V_alloc | apply Kd.V_drewN | apply Kd.V_drew)); exact HO417.out) hb); have n2_ := Aside0.mk (Kd.V_below (by (with_reducible repeat (first | apply Kd.V_alloc | apply Kd.V_drewN | apply Kd.V_drew)); exact HO420.out) hb); have n3_ := Aside0.mk (Kd.R_below (by (with_reducible repeat (first | apply Kd.R_alloc | apply Kd.R_drewN | apply Kd.R_drew)); exact HO425.out) hb); have n4_ := Aside0.mk (Kd.V_below (by (with_reducible repeat (first | apply Kd.V_alloc | apply Kd.V_drewN | apply Kd.V_drew)); exact HO428.out) hb); have n5_ := Aside0.mk (Kd.R_below (by (with_reducible repeat (first | apply Kd.R_alloc | apply Kd.R_drewN | apply Kd.R_drew)); exact HO433.out) hb); have n6_ := Aside0.mk (Kd.V_below (by (with_reducible repeat (first | apply Kd.V_alloc | apply Kd.V_drewN | apply Kd.V_drew)); exact HO439.out) hb); have n7_ := Aside0.mk (Kd.R_below (by (with_reducible repeat (first | apply Kd.R_alloc | apply Kd.R_drewN | apply Kd.R_drew)); exact HO442.out) hb); have n8_ := Aside0.mk (Kd.V_below (by (with_reducible repeat (first | apply Kd.V_alloc | apply Kd.V_drewN | apply Kd.V_drew)); exact HO446.out) hb); have n9_ := Aside0.mk (Kd.R_below (by (with_reducible repeat (first | apply Kd.R_alloc | apply Kd.R_drewN | apply Kd.R_drew)); exact HO449.out) hb); have n10_ := Aside0.mk (blk_below (g := gb436) (o := .cells #[.slice Ao39 t431.length co39, .int .u32 t434, .int .i64 t435] 37 (0, 0)) (by (with_reducible repeat (first | refine blk_drewN ?_ _ | refine blk_drew ?_ | refine blk_alloc ?_ _)); exact BK436.out) hb); have n11_ := Aside0.mk (below_step (by repeat (first | (with_reducible first | exact HB.out | apply below_alloc | apply pw_below_drewN | apply below_drew1 | refine below_set ?_ GE436.out) | exact HB.out)) hb); clear HO414; clear HO417; clear HO420; clear HO425; clear HO428; clear HO433; clear HO439; clear HO442; clear HO446; clear HO449; clear BK436; clear HB; have HO414 := n0_; have HO417 := n1_; have HO420 := n2_; have HO425 := n3_; have HO428 := n4_; have HO433 := n5_; have HO439 := n6_; have HO442 := n7_; have HO446 := n8_; have HO449 := n9_; have BK436 := n10_; have HB := n11_; clear n0_ n1_ n2_ n3_ n4_ n5_ n6_ n7_ n8_ n9_ n10_ n11_; (try clear hb); (try clear hb2); (try clear hk); (try clear hi)))
                  go_ret
                  exact ⟨by first | rfl | (simp [errW_none, errW_some] <;> rfl) | (simp [*, errW_none, errW_some] <;> rfl), by repeat (first | (with_reducible first | exact HB.out | apply below_alloc | apply pw_below_drewN | apply below_drew1 | refine below_set ?_ GE436.out) | exact HB.out)⟩
                · rw [if_neg c26] at H
                  have c26b0 : (t430 == t435) = false := beq_eq_false_iff_ne.mpr c26
                  have c26b1 : (t430 != t435) = true := bne_iff_ne.mpr c26
                  exact absurd ((Option.some.inj H).trans hr_.out) (by simp)
              · rw [if_neg c25] at H
                have c25b0 : (t429 == t434) = false := beq_eq_false_iff_ne.mpr c25
                have c25b1 : (t429 != t434) = true := bne_iff_ne.mpr c25
                exact absurd ((Option.some.inj H).trans hr_.out) (by simp)
            · replace c24 := Bool.eq_false_iff.mpr c24
              subst c24
              have H1 : (some false) = some r := by rw [if_neg (show ¬ (false = true) by decide)] at H; exact H
              clear H
              have H := H1
              clear H1
              exact absurd ((Option.some.inj H).trans hr_.out) (by simp)
          · rw [if_neg c23] at H
            have c23b0 : (t421 == t423) = false := beq_eq_false_iff_ne.mpr c23
            have c23b1 : (t421 != t423) = true := bne_iff_ne.mpr c23
            exact absurd ((Option.some.inj H).trans hr_.out) (by simp)
        · replace c22 := Bool.eq_false_iff.mpr c22
          subst c22
          have H1 : (some false) = some r := by rw [if_neg (show ¬ (false = true) by decide)] at H; exact H
          clear H
          have H := H1
          clear H1
          exact absurd ((Option.some.inj H).trans hr_.out) (by simp)
      · replace c21 := Bool.eq_false_iff.mpr c21
        subst c21
        have H1 : (some false) = some r := by rw [if_neg (show ¬ (false = true) by decide)] at H; exact H
        clear H
        have H := H1
        clear H1
        exact absurd ((Option.some.inj H).trans hr_.out) (by simp)
    · replace c20 := Bool.eq_false_iff.mpr c20
      subst c20
      have H1 : (some false) = some r := by rw [if_neg (show ¬ (false = true) by decide)] at H; exact H
      clear H
      have H := H1
      clear H1
      exact absurd ((Option.some.inj H).trans hr_.out) (by simp)
  · replace c19 := Bool.eq_false_iff.mpr c19
    subst c19
    have H1 : (some false) = some r := by rw [if_neg (show ¬ (false = true) by decide)] at H; exact H
    clear H
    have H := H1
    clear H1
    exact absurd ((Option.some.inj H).trans hr_.out) (by simp)

/-- THE ONE PURE STATEMENT of regattalaw02_NatSums: yours. -/
def regattalaw02_NatSums.Pure : Prop := ∀ (l0 : List Int) (l1 : List Int) (a2 : Int), l0.length ≤ maxLen → l0.length * 4 ≤ 140737488351232 → (∀ x ∈ l0, (Lit.int .u32 x).wf = true) → l1.length ≤ maxLen → l1.length * 4 ≤ 140737488351232 → (∀ x ∈ l1, (Lit.int .u32 x).wf = true) → (Lit.int .u32 a2).wf = true → ∃ k, regattalaw02_NatSums.f k l0 l1 a2 = some true
theorem regattalaw02_NatSums.walk (P : regattalaw02_NatSums.Pure) (a0 : Option Addr) (len0 cap0 : Nat) (z0 : List Int) (a1 : Option Addr) (len1 cap1 : Nat) (z1 : List Int) (a2 : Int) (w : World) (w0 : (a0 = none ∧ len0 = 0 ∧ cap0 = 0 ∧ z0 = []) ∨ ∃ x, a0 = some x ∧ len0 ≤ cap0 ∧ cap0 ≤ maxLen ∧ z0.length = cap0 ∧ (∀ i, i < z0.length → w.cell? (x.add i) = some (.int .u32 (z0.getD i 0))) ∧ ∀ n ∈ z0, (Lit.int .u32 n).wf = true) (y0 : len0 * 4 ≤ 140737488351232) (w1 : (a1 = none ∧ len1 = 0 ∧ cap1 = 0 ∧ z1 = []) ∨ ∃ x, a1 = some x ∧ len1 ≤ cap1 ∧ cap1 ≤ maxLen ∧ z1.length = cap1 ∧ (∀ i, i < z1.length → w.cell? (x.add i) = some (.int .u32 (z1.getD i 0))) ∧ ∀ n ∈ z1, (Lit.int .u32 n).wf = true) (y1 : len1 * 4 ≤ 140737488351232) (w2 : (Lit.int .u32 a2).wf = true) :
    Calls Try.prog 5 #[.slice a0 len0 cap0, .slice a1 len1 cap1, .int .u32 a2] w fun e w' => e = .returned (.bool true) ∧ Below w.heap.size w w' := by
  obtain ⟨l0, rfl, hr0, hm0, hw0, hc0⟩ := ReadsInt.ofRowC w0
  obtain ⟨l1, rfl, hr1, hm1, hw1, hc1⟩ := ReadsInt.ofRowC w1
  obtain ⟨k, h⟩ := P l0 l1 a2 hm0 y0 hw0 hm1 y1 hw1 w2
  refine (regattalaw02_NatSums.calls k _ _ l0 _ _ l1 a2 true w ⟨rfl⟩ (Kd.C_of_reads (d := (0 : Int)) (h1 := fun _ => rfl) hr0) hc0 (Kd.C_of_reads (d := (0 : Int)) (h1 := fun _ => rfl) hr1) hc1 h).mono ?_
  rintro e w' ⟨rfl, hd⟩
  exact ⟨rfl, hd⟩

/-! ### nat_Of: function 27 -/
def nat_Of.f (a0 : Int) : Option (List Int) := (nat_cut.f (([(a0) % 4294967296, (a0 / 4294967296) % 4294967296] : List Int))).bind fun t458 => (some t458)
set_option maxHeartbeats 8000000 in
set_option maxRecDepth 100000 in
theorem nat_Of.calls (a0 : Int) (r : List Int) (w : World) (h : nat_Of.f a0 = some r) :
    Calls Try.prog 27 #[.int .u64 a0] w fun e w' => ∃ v0_ : Value, e = .returned (v0_) ∧ Kd.V (Kd.int .u32) 30 w' w.heap.size (fun k_ => (w.heap.size ≤ k_)) v0_ r ∧ Below w.heap.size w w' := by
  have HB := Aside0.mk (Below.refl w.heap.size w)
  have H : ((nat_cut.f (([(a0) % 4294967296, (a0 / 4294967296) % 4294967296] : List Int))).bind fun t458 => (some t458)) = some r := h
  clear h
  obtain ⟨y455, hy455⟩ : ∃ y_ : List Int, y_ = (([(a0) % 4294967296, (a0 / 4294967296) % 4294967296] : List Int)) := ⟨_, rfl⟩
  replace H : ((nat_cut.f y455).bind fun t458 => (some t458)) = some r := by first | (rw [hy455]; with_reducible exact H) | (have H2_ := (Option.bind_some _ _).symm.trans H; rw [hy455]; with_reducible exact H2_) | (have H2_ := (Option.bind_some _ _).symm.trans H; with_reducible exact H2_) | with_reducible exact H | (rw [hy455]; exact H) | exact H
  have Ny455 := Aside0.mk hy455
  clear hy455
  replace H := Option.bind_eq_some_iff.mp H
  obtain ⟨t458, A20, H⟩ := H
  replace H : (some t458) = some r := H
  have A2 := Aside0.mk A20
  clear A20
  obtain rfl := Option.some.inj H
  go_enter Try.func27, Try.ntmps27
  go_wp2_with (first | ((with_reducible refine gate_dst (N := 8) rfl ?_); refine Kd.R_lit (Kd.int .u32) _ 30 ?hg (N := 8) ?hd (xs := ([(a0) % 4294967296, (a0 / 4294967296) % 4294967296] : List Int)) (inner := [.int .u32 ((a0) % 4294967296), .int .u32 ((a0 / 4294967296) % 4294967296)]) (ok := fun _ => True) (okp := fun _ => True) ?hr ?hp (fun _ hk => hk) trivial (Below.refl _ _) (Nat.le_refl _) (by simp) ?_; (case hd => rfl); (case hg => rfl); (case hr => first | (go_simp; done) | (go_simp; rfl)); (case hp => exact (Reps.one (show Kd.M (Kd.int .u32) _ _ _ ((a0) % 4294967296) [.int .u32 ((a0) % 4294967296)] from rfl) (Reps.one (show Kd.M (Kd.int .u32) _ _ _ ((a0 / 4294967296) % 4294967296) [.int .u32 ((a0 / 4294967296) % 4294967296)] from rfl) (Reps.none _ _)))); intro v456 w3 ho4 hb hg_ hnew_; clear hg_ hnew_; (first | rw [← Ny455.out] at ho4 | (simp only [Int.reduceToNat] at ho4; rw [← Ny455.out] at ho4)); have n0_ := Aside0.mk (Kd.R_lower (Kd.R_newM (M := fun k_ => (w.heap.size ≤ k_)) ho4 (below_size (by repeat (first | (with_reducible first | exact HB.out | apply below_alloc | apply pw_below_drewN | apply below_drew1) | exact HB.out))) (fun k_ h_ => h_)) (below_size (by repeat (first | (with_reducible first | exact HB.out | apply below_alloc | apply pw_below_drewN | apply below_drew1) | exact HB.out)))); have n1_ := Aside0.mk (below_step (by repeat (first | (with_reducible first | exact HB.out | apply below_alloc | apply pw_below_drewN | apply below_drew1) | exact HB.out)) hb); clear HB; have HO457 := n0_; have HB := n1_; clear n0_ n1_; clear hb ho4; obtain ⟨Ao5, co5, eo5⟩ := Kd.R_slice HO457.out; subst eo5) | ((with_reducible refine gate_callee (f := 52) rfl ?_); refine goesL_ (some 9) rfl rfl Try.func52 (by kernel_rfl) rfl #[.slice Ao5 y455.length co5] rfl (by (try simp only [List.map_toArray, List.map_cons, List.map_nil]); first | done | rfl | (simp only [List.length_drop, List.length_take]; rfl)) ?_; (with_reducible refine (nat_cut.calls (fun k_ => some k_ = (.slice Ao5 y455.length co5 : Value).ownBlock) _ _ y455 t458 _ ?side1 A2.out).mono ?_); (case side1 => exact Kd.R_V (Kd.R_tight rfl (HO457.out))); rintro e w6 ⟨v459, rfl, ho0, hb⟩; refine ⟨_, rfl, ?_⟩; have n0_ := Aside0.mk (Kd.R_below (by (with_reducible repeat (first | apply Kd.R_alloc | apply Kd.R_drewN | apply Kd.R_drew)); exact HO457.out) hb); have n1_ := Aside0.mk (Kd.V_lower (Kd.V_mono (ok' := fun k_ => (w.heap.size ≤ k_)) ho0 (fun k_ hk_ => Or.elim hk_ (fun hs_ => ((HO457.out).1 k_ hs_.symm).1) (fun hn_ => (Nat.le_trans (below_size (by repeat (first | (with_reducible first | exact HB.out | apply below_alloc | apply pw_below_drewN | apply below_drew1) | exact HB.out))) hn_)))) (below_size (by repeat (first | (with_reducible first | exact HB.out | apply below_alloc | apply pw_below_drewN | apply below_drew1) | exact HB.out)))); have n2_ := Aside0.mk (below_step (by repeat (first | (with_reducible first | exact HB.out | apply below_alloc | apply pw_below_drewN | apply below_drew1) | exact HB.out)) hb); clear HO457; clear HB; have HO457 := n0_; have HO460 := n1_; have HB := n2_; clear n0_ n1_ n2_; (try clear hb); (try clear hb2); (try clear hk); (try clear hi); (try clear ho0)))
  go_ret
  exact ⟨_, by first | rfl | (simp [errW_none, errW_some] <;> rfl) | (simp [*, errW_none, errW_some] <;> rfl), by (with_reducible repeat (first | apply Kd.V_alloc | apply Kd.V_drewN | apply Kd.V_drew)); exact HO460.out, by repeat (first | (with_reducible first | exact HB.out | apply below_alloc | apply pw_below_drewN | apply below_drew1) | exact HB.out)⟩

end Go.Proofs.Ytcfliceeablckaa.PNr
