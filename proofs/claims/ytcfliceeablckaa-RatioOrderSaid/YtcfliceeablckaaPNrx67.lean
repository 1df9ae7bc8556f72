-- Written by wip/rprint.py of this session's repo (the kit's printer with patches), out of the translation. Not trusted: Lean checks it.
import Derived.Test.YtcfliceeablckaaPNrx0
import Derived.Test.YtcfliceeablckaaPNrx45
import Derived.Test.YtcfliceeablckaaPNrx46
import Derived.Test.YtcfliceeablckaaPNrx47
import Derived.Test.YtcfliceeablckaaPNrx53
import Derived.Test.YtcfliceeablckaaPNrx55
import Derived.Test.YtcfliceeablckaaPNrx61
import Derived.Test.YtcfliceeablckaaPNrx65
import Derived.Test.YtcfliceeablckaaPNrx69
namespace Go.Proofs.Ytcfliceeablckaa.PNr
open Go.RowKit Go.Proofs.YtcfliceeablckaaW.PrintWords Go.Proofs.YtcfliceeablckaaW.PrintLast Go.Proofs.YtcfliceeablckaaW.PrintMore Go.Proofs.Ytcfliceeablckaa.MWords
attribute [local go_sem] max2_int min2_int max_two min_two max_three min_three max_four min_four   -- for this text's walks alone
set_option linter.unusedVariables false
set_option linter.unusedSimpArgs false

/-! ### regattalaw03_RatioOrder: function 11 -/
def regattalaw03_RatioOrder.l0 : Nat → Bool → List (S57) → List (S57) → List (S57) → Int → Option (Bool)
  | 0, _, _, _, _, _ => none
  | k + 1, x5, x6, x7, x8, x9 => if x9 ≥ 0 then (if 0 ≤ x9 then (if x9 < (x6.length : Int) then (if x8.length < 8796093022208 then (regattalaw03_RatioOrder.l0 k x5 x6 x7 (x8 ++ [(⟨(rd_T57 x6 x9).f0, (rd_T57 x6 x9).f1⟩ : S57)]) (wrap64 (x9 - 1))) else (none)) else (none)) else (none)) else ((ratio_Sum.f k x6).bind fun bt956 => ((ratio_Sum.f k x7).bind fun bt963 => (if ([] : List (S57)).length + x6.length < 8796093022208 then ((some (([] : List (S57)) ++ x6 : List (S57))).bind fun y970 => (if y970.length + x7.length < 8796093022208 then ((ratio_Add.f k bt956.1 bt956.2 bt963.1 bt963.2).bind fun bt976 => ((ratio_Sub.f k bt976.1 bt976.2 bt963.1 bt963.2).bind fun bt983 => (if x5 = true then ((ratio_Sum.f k x8).bind fun bt991 => ((regattalaw03_same.f k bt991.1 bt991.2 bt956.1 bt956.2).bind fun t997 => (if t997 = true then ((ratio_Add.f k bt963.1 bt963.2 bt956.1 bt956.2).bind fun bt998 => ((regattalaw03_same.f k bt976.1 bt976.2 bt998.1 bt998.2).bind fun t1004 => (if t1004 = true then ((ratio_Sum.f k (y970 ++ x7)).bind fun bt1005 => ((regattalaw03_same.f k bt1005.1 bt1005.2 bt976.1 bt976.2).bind fun t1011 => (if t1011 = true then (if bt983.2.2 = 0 then ((regattalaw03_same.f k bt983.1 bt983.2.1 bt956.1 bt956.2).bind fun t1012 => (if t1012 = true then ((ratio_Cmp.f k bt976.1 bt976.2 bt956.1 bt956.2).bind fun t1013 => (some (decide (t1013 ≥ 0)))) else (some false))) else (some false)) else (some false)))) else (some false)))) else (some false)))) else (some false)))) else (none))) else (none))))
def regattalaw03_RatioOrder.f (k : Nat) (l0 : List (S55)) (l1 : List (S55)) : Option (Bool) := (regattalaw03_awake.f k).bind fun t945 => ((regattalaw03_weights.f k l0).bind fun t946 => ((regattalaw03_weights.f k l1).bind fun t949 => (regattalaw03_RatioOrder.l0 k t945 t946 t949 ([] : List (S57)) (wrap64 ((t946.length : Int) - 1)))))
theorem regattalaw03_RatioOrder.mono_l : ∀ k, (∀ y0 y1 y2 y3 y4, LeO (regattalaw03_RatioOrder.l0 k y0 y1 y2 y3 y4) (regattalaw03_RatioOrder.l0 (k + 1) y0 y1 y2 y3 y4))
  | 0 => fun _ _ _ _ _ r h => by simp [regattalaw03_RatioOrder.l0] at h
  | k + 1 => by
    have ih0 := regattalaw03_RatioOrder.mono_l k
    · intro y0 y1 y2 y3 y4
      unfold regattalaw03_RatioOrder.l0
      repeat' first
      | (with_reducible exact ih0 _ _ _ _ _)
      | (with_reducible exact ratio_Add.mono _ _ _ _ _)
      | (with_reducible exact ratio_Cmp.mono _ _ _ _ _)
      | (with_reducible exact ratio_Sub.mono _ _ _ _ _)
      | (with_reducible exact ratio_Sum.mono _ _)
      | (with_reducible exact regattalaw03_awake.mono _)
      | (with_reducible exact regattalaw03_same.mono _ _ _ _ _)
      | (with_reducible exact regattalaw03_weights.mono _ _)
      | (with_reducible exact LeO.refl _)
      | (with_reducible exact LeO.none _)
      | (with_reducible refine LeO.ite ?_ ?_)
      | (with_reducible refine LeO.bind ?_ (fun _ => ?_))
      | exact ih0 _ _ _ _ _
      | exact ratio_Add.mono _ _ _ _ _
      | exact ratio_Cmp.mono _ _ _ _ _
      | exact ratio_Sub.mono _ _ _ _ _
      | exact ratio_Sum.mono _ _
      | exact regattalaw03_awake.mono _
      | exact regattalaw03_same.mono _ _ _ _ _
      | exact regattalaw03_weights.mono _ _
      | exact LeO.none _
      | refine LeO.ite ?_ ?_
      | refine LeO.bind ?_ (fun _ => ?_)
theorem regattalaw03_RatioOrder.mono : ∀ a0 a1 k, LeO (regattalaw03_RatioOrder.f k a0 a1) (regattalaw03_RatioOrder.f (k + 1) a0 a1) := by
  intro a0 a1 k
  have ih0 := regattalaw03_RatioOrder.mono_l k
  unfold regattalaw03_RatioOrder.f
  repeat' first
      | (with_reducible exact ih0 _ _ _ _ _)
      | (with_reducible exact ratio_Add.mono _ _ _ _ _)
      | (with_reducible exact ratio_Cmp.mono _ _ _ _ _)
      | (with_reducible exact ratio_Sub.mono _ _ _ _ _)
      | (with_reducible exact ratio_Sum.mono _ _)
      | (with_reducible exact regattalaw03_awake.mono _)
      | (with_reducible exact regattalaw03_same.mono _ _ _ _ _)
      | (with_reducible exact regattalaw03_weights.mono _ _)
      | (with_reducible exact LeO.refl _)
      | (with_reducible exact LeO.none _)
      | (with_reducible refine LeO.ite ?_ ?_)
      | (with_reducible refine LeO.bind ?_ (fun _ => ?_))
      | exact ih0 _ _ _ _ _
      | exact ratio_Add.mono _ _ _ _ _
      | exact ratio_Cmp.mono _ _ _ _ _
      | exact ratio_Sub.mono _ _ _ _ _
      | exact ratio_Sum.mono _ _
      | exact regattalaw03_awake.mono _
      | exact regattalaw03_same.mono _ _ _ _ _
      | exact regattalaw03_weights.mono _ _
      | exact LeO.none _
      | refine LeO.ite ?_ ?_
      | refine LeO.bind ?_ (fun _ => ?_)
def regattalaw03_RatioOrder.T16 : Bool × List (List Nat × List Nat) := (true, [([], []), ([0], [0]), ([1], [1]), ([2, 1, 1], [1, 2]), ([1], [1]), ([3, 4, 3, 1], [1, 3, 4]), ([1, 5], [1, 5]), ([6, 5], [6]), ([7], [7]), ([7], [7]), ([7], [7]), ([9, 10, 7, 7], [7, 9, 10]), ([8, 11, 11, 7], [7, 8, 11]), ([7, 12], [7, 12]), ([13, 12], [13]), ([14], [14]), ([15, 14, 14], [14, 15]), ([14], [14]), ([16, 17, 16, 14], [14, 16, 17]), ([14, 18], [14, 18]), ([19, 18], [19]), ([20], [20]), ([21, 20], [20, 21]), ([20, 22], [20, 22]), ([23, 20], [23]), ([24], [24]), ([24], [24]), ([25, 26, 24, 24], [24, 25, 26]), ([24, 27], [24, 27]), ([28, 27], [28]), ([29], [29]), ([29], [29]), ([30, 31, 29, 29], [29, 30, 31]), ([32, 29], [29, 32]), ([29, 33], [29, 33]), ([34, 32, 0, 1, 2, 3, 4, 5, 6, 7, 8, 9, 10, 11, 12, 13, 14, 15, 16, 17, 18, 19, 20, 21, 22, 23, 24, 25, 26, 27, 28, 29, 30, 31, 32, 33, 34], [34])])
def regattalaw03_RatioOrder.B16 : List Nat := [0, 1, 3, 7, 3, 31, 63, 127, 255, 255, 255, 1791, 4095, 8191, 16383, 32767, 65535, 32767, 262143, 524287, 1048575, 2097151, 4194303, 8388607, 16777215, 33554431, 33554431, 134217727, 268435455, 536870911, 1073741823, 1073741823, 4294967295, 8589934591, 17179869183, 34359738367]
theorem regattalaw03_RatioOrder.tab16 : rtab .any (opsOf Try.f11 16) = regattalaw03_RatioOrder.T16 := by kernel_rfl
theorem regattalaw03_RatioOrder.bits16 : waitsOk regattalaw03_RatioOrder.T16.2 regattalaw03_RatioOrder.B16 = true := by kernel_rfl
set_option maxHeartbeats 8000000 in
set_option maxRecDepth 100000 in
theorem regattalaw03_RatioOrder.calls (k : Nat) (A0 : Option Addr) (c0 : Nat) (l0 : List (S55)) (A1 : Option Addr) (c1 : Nat) (l1 : List (S55)) (r : Bool) (w : World) (hr_ : Aside0 (r = true)) (hr0 : Kd.C k55 w A0 l0.length l0) (hc0 : l0.length ≤ c0) (hr1 : Kd.C k55 w A1 l1.length l1) (hc1 : l1.length ≤ c1) (h : regattalaw03_RatioOrder.f k l0 l1 = some r) :
    Calls Try.prog 11 #[.slice A0 l0.length c0, .slice A1 l1.length c1] w fun e w' => e = .returned (.bool r) ∧ Below w.heap.size w w' := by
  have hu57 := Try.underlying57
  have hu45 := Try.underlying45
  have HR0 := Aside0.mk hr0
  have HC0 := Aside0.mk hc0
  clear hr0 hc0
  have HR1 := Aside0.mk hr1
  have HC1 := Aside0.mk hc1
  clear hr1 hc1
  have HB := Aside0.mk (Below.refl w.heap.size w)
  have H : ((regattalaw03_awake.f k).bind fun t945 => ((regattalaw03_weights.f k l0).bind fun t946 => ((regattalaw03_weights.f k l1).bind fun t949 => (regattalaw03_RatioOrder.l0 k t945 t946 t949 ([] : List (S57)) (wrap64 ((t946.length : Int) - 1)))))) = some r := h
  clear h
  replace H := Option.bind_eq_some_iff.mp H
  obtain ⟨t945, A30, H⟩ := H
  replace H : ((regattalaw03_weights.f k l0).bind fun t946 => ((regattalaw03_weights.f k l1).bind fun t949 => (regattalaw03_RatioOrder.l0 k t945 t946 t949 ([] : List (S57)) (wrap64 ((t946.length : Int) - 1))))) = some r := H
  have A3 := Aside0.mk A30
  clear A30
  replace H := Option.bind_eq_some_iff.mp H
  obtain ⟨t946, A40, H⟩ := H
  replace H : ((regattalaw03_weights.f k l1).bind fun t949 => (regattalaw03_RatioOrder.l0 k t945 t946 t949 ([] : List (S57)) (wrap64 ((t946.length : Int) - 1)))) = some r := H
  have A4 := Aside0.mk A40
  clear A40
  replace H := Option.bind_eq_some_iff.mp H
  obtain ⟨t949, A50, H⟩ := H
  replace H : (regattalaw03_RatioOrder.l0 k t945 t946 t949 ([] : List (S57)) (wrap64 ((t946.length : Int) - 1))) = some r := H
  have A5 := Aside0.mk A50
  clear A50
  have H' := Aside0.mk H
  clear H
  go_enter Try.func11, Try.ntmps11
  go_wp2_with (first | ((with_reducible refine gate_callee (f := 28) rfl ?_); refine goesL_ (some 16) rfl rfl Try.func28 (by kernel_rfl) rfl #[] rfl (by (try simp only [List.map_toArray, List.map_cons, List.map_nil]); first | done | rfl | (simp only [List.length_drop, List.length_take]; rfl)) ?_; (with_reducible refine (regattalaw03_awake.calls k  t945 _ A3.out).mono ?_); rintro e w6 ⟨rfl, hb⟩; refine ⟨_, rfl, ?_⟩; have n0_ := Aside0.mk (below_step (by repeat (first | (with_reducible first | exact HB.out | apply below_alloc | apply pw_below_drewN | apply below_drew1) | exact HB.out)) hb); clear HB; have HB := n0_; clear n0_; (try clear hb); (try clear hb2); (try clear hk); (try clear hi)) | ((with_reducible refine gate_callee (f := 36) rfl ?_); refine goesL_ (some 18) rfl rfl Try.func36 (by kernel_rfl) rfl #[.slice A0 l0.length c0] rfl (by (try simp only [List.map_toArray, List.map_cons, List.map_nil]); first | done | rfl | (simp only [List.length_drop, List.length_take]; rfl)) ?_; (with_reducible refine (regattalaw03_weights.calls k _ _ l0 t946 _ ?side1 ?side2 A4.out).mono ?_); (case side1 => repeat (first | exact (Kd.C_below HR0.out HB.out) | (with_reducible refine Kd.C_alloc ?_ _) | (with_reducible refine Kd.C_drewN ?_ _) | (with_reducible refine Kd.C_drew ?_))); (case side2 => exact HC0.out); rintro e w7 ⟨v947, rfl, ho0, hb⟩; refine ⟨_, rfl, ?_⟩; have n0_ := Aside0.mk (Kd.R_lower ho0 (below_size (by repeat (first | (with_reducible first | exact HB.out | apply below_alloc | apply pw_below_drewN | apply below_drew1) | exact HB.out)))); have n1_ := Aside0.mk (below_step (by repeat (first | (with_reducible first | exact HB.out | apply below_alloc | apply pw_below_drewN | apply below_drew1) | exact HB.out)) hb); clear HB; have HO948 := n0_; have HB := n1_; clear n0_ n1_; (try clear hb); (try clear hb2); (try clear hk); (try clear hi); (try clear ho0); (try clear A4)) | ((with_reducible refine gate_callee (f := 36) rfl ?_); refine goesL_ (some 20) rfl rfl Try.func36 (by kernel_rfl) rfl #[.slice A1 l1.length c1] rfl (by (try simp only [List.map_toArray, List.map_cons, List.map_nil]); first | done | rfl | (simp only [List.length_drop, List.length_take]; rfl)) ?_; (with_reducible refine (regattalaw03_weights.calls k _ _ l1 t949 _ ?side1 ?side2 A5.out).mono ?_); (case side1 => repeat (first | exact (Kd.C_below HR1.out HB.out) | (with_reducible refine Kd.C_alloc ?_ _) | (with_reducible refine Kd.C_drewN ?_ _) | (with_reducible refine Kd.C_drew ?_))); (case side2 => exact HC1.out); rintro e w8 ⟨v950, rfl, ho0, hb⟩; refine ⟨_, rfl, ?_⟩; have n0_ := Aside0.mk (Kd.R_elder' (by (with_reducible repeat (first | apply Kd.R_alloc | apply Kd.R_drewN | apply Kd.R_drew)); exact HO948.out) (Kd.R_base ho0) hb); have n1_ := Aside0.mk (Kd.R_lower (Kd.R_new' ho0 (Kd.R_lt (by (with_reducible repeat (first | apply Kd.R_alloc | apply Kd.R_drewN | apply Kd.R_drew)); exact HO948.out))) (below_size (by repeat (first | (with_reducible first | exact HB.out | apply below_alloc | apply pw_below_drewN | apply below_drew1) | exact HB.out)))); have n2_ := Aside0.mk (below_step (by repeat (first | (with_reducible first | exact HB.out | apply below_alloc | apply pw_below_drewN | apply below_drew1) | exact HB.out)) hb); clear HO948; clear HB; have HO948 := n0_; have HO951 := n1_; have HB := n2_; clear n0_ n1_ n2_; (try clear hb); (try clear hb2); (try clear hk); (try clear hi); (try clear ho0); obtain ⟨Ao9, co9, eo9⟩ := Kd.R_slice HO948.out; subst eo9; (try clear A5)))
  go_loopg [8, 9] k (fun kq v8 v9 w' => ∃ (x8_1 : List (S57)) (x9_1 : Int), v9 = .int .i64 x9_1 ∧ Aside0 (regattalaw03_RatioOrder.l0 kq t945 t946 t949 x8_1 x9_1 = some r) ∧ Aside0 (kq ≤ k) ∧ Aside0 (Kd.R k57 57 w' w.heap.size (fun k_ => some k_ ≠ (v950 : Value).ownBlock ∧ some k_ ≠ (v8 : Value).ownBlock) (.slice Ao9 t946.length co9) t946) ∧ Aside0 (Kd.R k57 57 w' w.heap.size (fun k_ => some k_ ≠ ((.slice Ao9 t946.length co9) : Value).ownBlock ∧ some k_ ≠ (v8 : Value).ownBlock) v950 t949) ∧ Aside0 (Kd.R k57 57 w' w.heap.size (fun k_ => some k_ ≠ ((.slice Ao9 t946.length co9) : Value).ownBlock ∧ some k_ ≠ (v950 : Value).ownBlock) v8 x8_1) ∧ Aside0 (Below w.heap.size w w'))
  case atStart => exact ⟨(([] : List (S57))), (wrap64 ((t946.length : Int) - 1)), (by first | rfl | (simp; done) | (simp [*]; done)), H', ⟨Nat.le_refl _⟩, ⟨by (with_reducible repeat (first | apply Kd.R_alloc | apply Kd.R_drewN | apply Kd.R_drew)); exact Kd.R_mono HO948.out (fun _ hk => ⟨hk.2, (by simp [Value.ownBlock])⟩)⟩, ⟨by (with_reducible repeat (first | apply Kd.R_alloc | apply Kd.R_drewN | apply Kd.R_drew)); exact Kd.R_mono HO951.out (fun _ hk => ⟨hk.2, (by simp [Value.ownBlock])⟩)⟩, ⟨by first | exact Kd.R_nil _ _ _ _ _ | exact Kd.N_nil _ _ _ _ _ | exact Kd.V_nil _ _ _ _ _ | exact Kd.Q_nil _ _ _ _ _ | exact Kd.S_nil _ _ _ _ _⟩, ⟨by repeat (first | (with_reducible first | exact HB.out | apply below_alloc | apply pw_below_drewN | apply below_drew1) | exact HB.out)⟩⟩
  case round =>
    clear H'
    try clear c1
    try clear c2
    try clear p2
    try clear c3
    try clear p6
    obtain ⟨x8_1, x9_1, rfl, HA, HK1, HO_6, HO_7, HO_8, HB⟩ := hrel
    cases gk with
    | zero => exact absurd HA.out (by simp [regattalaw03_RatioOrder.l0])
    | succ k1 =>
      have H := HA.out
      clear HA
      simp only [regattalaw03_RatioOrder.l0] at H
      by_cases c10 : x9_1 ≥ 0
      · rw [if_pos c10] at H
        have c10b0 : decide (0 ≤ x9_1) = true := decide_eq_true c10
        clear c10
        by_cases c11 : 0 ≤ x9_1
        · rw [if_pos c11] at H
          have c11b0 : decide (0 ≤ x9_1) = true := decide_eq_true c11
          clear c11
          by_cases c12 : x9_1 < (t946.length : Int)
          · rw [if_pos c12] at H
            have c12b0 : decide (x9_1 < (t946.length : Int)) = true := decide_eq_true c12
            clear c12
            by_cases c13 : x8_1.length < 8796093022208
            · rw [if_pos c13] at H
              have LMc13 := Aside0.mk c13
              clear c13
              obtain ⟨y953, hy953⟩ : ∃ y_ : List (S57), y_ = (x8_1 ++ [(⟨(rd_T57 t946 x9_1).f0, (rd_T57 t946 x9_1).f1⟩ : S57)]) := ⟨_, rfl⟩
              replace H : (regattalaw03_RatioOrder.l0 k1 t945 t946 t949 y953 (wrap64 (x9_1 - 1))) = some r := by first | (rw [hy953]; with_reducible exact H) | (have H2_ := (Option.bind_some _ _).symm.trans H; rw [hy953]; with_reducible exact H2_) | (have H2_ := (Option.bind_some _ _).symm.trans H; with_reducible exact H2_) | with_reducible exact H | (rw [hy953]; exact H) | exact H
              have Ny953 := Aside0.mk hy953
              clear hy953
              have H' := Aside0.mk H
              clear H
              have p952 : 0 ≤ (x9_1 : Int) := of_decide_eq_true (by first | (with_reducible assumption) | assumption)
              have q952 : x9_1 < (t946.length : Int) := of_decide_eq_true (by first | (with_reducible assumption) | assumption)
              obtain ⟨ad952, e952, hx952_0, hx952_1⟩ := at_T57 (Kd.R_reads' HO_6.out).2.2 x9_1 p952 q952
              cases e952
              replace p952 := eq_true p952
              replace q952 := eq_true q952
              go_wp2_with (first | ((with_reducible refine gate_builtin (b := .append) (xs := #[.tmp 28, .tmp 33]) rfl ?_); at_builtin; refine Kd.R_append k57 (w0 := w) w.heap.size rfl (.tmp 28) (.tmp 33) 58 57 (.agg #[(.int .i64 0), (.int .i64 0)]) 16 rfl Try.underlying58 info57 rfl (by decide) (by omega) u8 x8_1 (⟨(rd_T57 t946 x9_1).f0, (rd_T57 t946 x9_1).f1⟩ : S57) [.int .i64 ((rd_T57 t946 x9_1).f0), .int .i64 ((rd_T57 t946 x9_1).f1)] (fun k_ => some k_ ≠ (.slice (some ad952) t946.length co9 : Value).ownBlock ∧ some k_ ≠ (v950 : Value).ownBlock) (fun _ => False) rfl rfl ?aP (fun _ hk => hk.elim) ?aF ?aO ?aB ?aS ?aL ?_; (case aP => exact k57_mkM _ _ _ (⟨(rd_T57 t946 x9_1).f0, (rd_T57 t946 x9_1).f1⟩ : S57)); (case aB => exact (by repeat (first | (with_reducible first | exact HB.out | apply below_alloc | apply pw_below_drewN | apply below_drew1) | exact HB.out))); (case aF => exact (fun k_ hk => ⟨Kd.fresh' (Kd.R_lt (by (with_reducible repeat (first | apply Kd.R_alloc | apply Kd.R_drewN | apply Kd.R_drew)); exact HO_6.out)) k_ hk, Kd.fresh' (Kd.R_lt (by (with_reducible repeat (first | apply Kd.R_alloc | apply Kd.R_drewN | apply Kd.R_drew)); exact HO_7.out)) k_ hk⟩)); (case aO => exact (by (with_reducible repeat (first | apply Kd.R_alloc | apply Kd.R_drewN | apply Kd.R_drew)); exact HO_8.out)); (case aS => exact (below_size (by repeat (first | (with_reducible first | exact HB.out | apply below_alloc | apply pw_below_drewN | apply below_drew1) | exact HB.out)))); (case aL => have := LMc13.out; omega); intro v954 w14 ho hb hg hat; rw [← Ny953.out] at ho; have n0_ := Aside0.mk (Kd.R_after (ok := (fun k_ => some k_ ≠ (v950 : Value).ownBlock)) (by (with_reducible repeat (first | apply Kd.R_alloc | apply Kd.R_drewN | apply Kd.R_drew)); exact HO_6.out) hg hat); have n1_ := Aside0.mk (Kd.R_after (ok := (fun k_ => some k_ ≠ (.slice (some ad952) t946.length co9 : Value).ownBlock)) (by (with_reducible repeat (first | apply Kd.R_alloc | apply Kd.R_drewN | apply Kd.R_drew)); exact HO_7.out) hg hat); have n2_ := Aside0.mk (hb); have n3_ := Aside0.mk (ho); clear HO_6; clear HO_7; clear HB; clear HO_8; have HO_6 := n0_; have HO_7 := n1_; have HB := n2_; have HO955 := n3_; clear n0_ n1_ n2_ n3_; clear ho hb hg hat))
              go_roundg k1
              case measure => have := HK1.out; omega
              case rel => exact ⟨(y953), (wrap64 (x9_1 - 1)), (by first | rfl | (simp; done) | (simp [*]; done)), H', ⟨by have := HK1.out; omega⟩, ⟨by (with_reducible repeat (first | apply Kd.R_alloc | apply Kd.R_drewN | apply Kd.R_drew)); exact HO_6.out⟩, ⟨by (with_reducible repeat (first | apply Kd.R_alloc | apply Kd.R_drewN | apply Kd.R_drew)); exact HO_7.out⟩, ⟨by (with_reducible repeat (first | apply Kd.R_alloc | apply Kd.R_drewN | apply Kd.R_drew)); exact HO955.out⟩, ⟨by repeat (first | (with_reducible first | exact HB.out | apply below_alloc | apply pw_below_drewN | apply below_drew1) | exact HB.out)⟩⟩
            · rw [if_neg c13] at H
              exact absurd H (by simp)
          · rw [if_neg c12] at H
            exact absurd H (by simp)
        · rw [if_neg c11] at H
          exact absurd H (by simp)
      · rw [if_neg c10] at H
        have c10b0 : decide (0 ≤ x9_1) = false := decide_eq_false c10
        clear c10
        replace H := Option.bind_eq_some_iff.mp H
        obtain ⟨⟨t956, t959⟩, A150, H⟩ := H
        replace H : ((ratio_Sum.f k1 t949).bind fun bt963 => (if ([] : List (S57)).length + t946.length < 8796093022208 then ((some (([] : List (S57)) ++ t946 : List (S57))).bind fun y970 => (if y970.length + t949.length < 8796093022208 then ((ratio_Add.f k1 t956 t959 bt963.1 bt963.2).bind fun bt976 => ((ratio_Sub.f k1 bt976.1 bt976.2 bt963.1 bt963.2).bind fun bt983 => (if t945 = true then ((ratio_Sum.f k1 x8_1).bind fun bt991 => ((regattalaw03_same.f k1 bt991.1 bt991.2 t956 t959).bind fun t997 => (if t997 = true then ((ratio_Add.f k1 bt963.1 bt963.2 t956 t959).bind fun bt998 => ((regattalaw03_same.f k1 bt976.1 bt976.2 bt998.1 bt998.2).bind fun t1004 => (if t1004 = true then ((ratio_Sum.f k1 (y970 ++ t949)).bind fun bt1005 => ((regattalaw03_same.f k1 bt1005.1 bt1005.2 bt976.1 bt976.2).bind fun t1011 => (if t1011 = true then (if bt983.2.2 = 0 then ((regattalaw03_same.f k1 bt983.1 bt983.2.1 t956 t959).bind fun t1012 => (if t1012 = true then ((ratio_Cmp.f k1 bt976.1 bt976.2 t956 t959).bind fun t1013 => (some (decide (t1013 ≥ 0)))) else (some false))) else (some false)) else (some false)))) else (some false)))) else (some false)))) else (some false)))) else (none))) else (none))) = some r := H
        have A15 := Aside0.mk A150
        clear A150
        replace H := Option.bind_eq_some_iff.mp H
        obtain ⟨⟨t963, t966⟩, A160, H⟩ := H
        replace H : (if ([] : List (S57)).length + t946.length < 8796093022208 then ((some (([] : List (S57)) ++ t946 : List (S57))).bind fun y970 => (if y970.length + t949.length < 8796093022208 then ((ratio_Add.f k1 t956 t959 t963 t966).bind fun bt976 => ((ratio_Sub.f k1 bt976.1 bt976.2 t963 t966).bind fun bt983 => (if t945 = true then ((ratio_Sum.f k1 x8_1).bind fun bt991 => ((regattalaw03_same.f k1 bt991.1 bt991.2 t956 t959).bind fun t997 => (if t997 = true then ((ratio_Add.f k1 t963 t966 t956 t959).bind fun bt998 => ((regattalaw03_same.f k1 bt976.1 bt976.2 bt998.1 bt998.2).bind fun t1004 => (if t1004 = true then ((ratio_Sum.f k1 (y970 ++ t949)).bind fun bt1005 => ((regattalaw03_same.f k1 bt1005.1 bt1005.2 bt976.1 bt976.2).bind fun t1011 => (if t1011 = true then (if bt983.2.2 = 0 then ((regattalaw03_same.f k1 bt983.1 bt983.2.1 t956 t959).bind fun t1012 => (if t1012 = true then ((ratio_Cmp.f k1 bt976.1 bt976.2 t956 t959).bind fun t1013 => (some (decide (t1013 ≥ 0)))) else (some false))) else (some false)) else (some false)))) else (some false)))) else (some false)))) else (some false)))) else (none))) else (none)) = some r := H
        have A16 := Aside0.mk A160
        clear A160
        by_cases c17 : ([] : List (S57)).length + t946.length < 8796093022208
        · rw [if_pos c17] at H
          have LMc17 := Aside0.mk c17
          clear c17
          obtain ⟨y970, hy970⟩ : ∃ y_ : List (S57), y_ = (([] : List (S57)) ++ t946) := ⟨_, rfl⟩
          replace H : (if y970.length + t949.length < 8796093022208 then ((ratio_Add.f k1 t956 t959 t963 t966).bind fun bt976 => ((ratio_Sub.f k1 bt976.1 bt976.2 t963 t966).bind fun bt983 => (if t945 = true then ((ratio_Sum.f k1 x8_1).bind fun bt991 => ((regattalaw03_same.f k1 bt991.1 bt991.2 t956 t959).bind fun t997 => (if t997 = true then ((ratio_Add.f k1 t963 t966 t956 t959).bind fun bt998 => ((regattalaw03_same.f k1 bt976.1 bt976.2 bt998.1 bt998.2).bind fun t1004 => (if t1004 = true then ((ratio_Sum.f k1 (y970 ++ t949)).bind fun bt1005 => ((regattalaw03_same.f k1 bt1005.1 bt1005.2 bt976.1 bt976.2).bind fun t1011 => (if t1011 = true then (if bt983.2.2 = 0 then ((regattalaw03_same.f k1 bt983.1 bt983.2.1 t956 t959).bind fun t1012 => (if t1012 = true then ((ratio_Cmp.f k1 bt976.1 bt976.2 t956 t959).bind fun t1013 => (some (decide (t1013 ≥ 0)))) else (some false))) else (some false)) else (some false)))) else (some false)))) else (some false)))) else (some false)))) else (none)) = some r := by first | (rw [hy970]; with_reducible exact H) | (have H2_ := (Option.bind_some _ _).symm.trans H; rw [hy970]; with_reducible exact H2_) | (have H2_ := (Option.bind_some _ _).symm.trans H; with_reducible exact H2_) | with_reducible exact H | (rw [hy970]; exact H) | exact H
          have Ny970 := Aside0.mk hy970
          clear hy970
          by_cases c18 : y970.length + t949.length < 8796093022208
          · rw [if_pos c18] at H
            have LMc18 := Aside0.mk c18
            clear c18
            obtain ⟨y973, hy973⟩ : ∃ y_ : List (S57), y_ = (y970 ++ t949) := ⟨_, rfl⟩
            replace H : ((ratio_Add.f k1 t956 t959 t963 t966).bind fun bt976 => ((ratio_Sub.f k1 bt976.1 bt976.2 t963 t966).bind fun bt983 => (if t945 = true then ((ratio_Sum.f k1 x8_1).bind fun bt991 => ((regattalaw03_same.f k1 bt991.1 bt991.2 t956 t959).bind fun t997 => (if t997 = true then ((ratio_Add.f k1 t963 t966 t956 t959).bind fun bt998 => ((regattalaw03_same.f k1 bt976.1 bt976.2 bt998.1 bt998.2).bind fun t1004 => (if t1004 = true then ((ratio_Sum.f k1 y973).bind fun bt1005 => ((regattalaw03_same.f k1 bt1005.1 bt1005.2 bt976.1 bt976.2).bind fun t1011 => (if t1011 = true then (if bt983.2.2 = 0 then ((regattalaw03_same.f k1 bt983.1 bt983.2.1 t956 t959).bind fun t1012 => (if t1012 = true then ((ratio_Cmp.f k1 bt976.1 bt976.2 t956 t959).bind fun t1013 => (some (decide (t1013 ≥ 0)))) else (some false))) else (some false)) else (some false)))) else (some false)))) else (some false)))) else (some false)))) = some r := by first | (rw [hy973]; with_reducible exact H) | (have H2_ := (Option.bind_some _ _).symm.trans H; rw [hy973]; with_reducible exact H2_) | (have H2_ := (Option.bind_some _ _).symm.trans H; with_reducible exact H2_) | with_reducible exact H | (rw [hy973]; exact H) | exact H
            have Ny973 := Aside0.mk hy973
            clear hy973
            replace H := Option.bind_eq_some_iff.mp H
            obtain ⟨⟨t976, t979⟩, A190, H⟩ := H
            replace H : ((ratio_Sub.f k1 t976 t979 t963 t966).bind fun bt983 => (if t945 = true then ((ratio_Sum.f k1 x8_1).bind fun bt991 => ((regattalaw03_same.f k1 bt991.1 bt991.2 t956 t959).bind fun t997 => (if t997 = true then ((ratio_Add.f k1 t963 t966 t956 t959).bind fun bt998 => ((regattalaw03_same.f k1 t976 t979 bt998.1 bt998.2).bind fun t1004 => (if t1004 = true then ((ratio_Sum.f k1 y973).bind fun bt1005 => ((regattalaw03_same.f k1 bt1005.1 bt1005.2 t976 t979).bind fun t1011 => (if t1011 = true then (if bt983.2.2 = 0 then ((regattalaw03_same.f k1 bt983.1 bt983.2.1 t956 t959).bind fun t1012 => (if t1012 = true then ((ratio_Cmp.f k1 t976 t979 t956 t959).bind fun t1013 => (some (decide (t1013 ≥ 0)))) else (some false))) else (some false)) else (some false)))) else (some false)))) else (some false)))) else (some false))) = some r := H
            have A19 := Aside0.mk A190
            clear A190
            replace H := Option.bind_eq_some_iff.mp H
            obtain ⟨⟨t983, t986, t989⟩, A200, H⟩ := H
            replace H : (if t945 = true then ((ratio_Sum.f k1 x8_1).bind fun bt991 => ((regattalaw03_same.f k1 bt991.1 bt991.2 t956 t959).bind fun t997 => (if t997 = true then ((ratio_Add.f k1 t963 t966 t956 t959).bind fun bt998 => ((regattalaw03_same.f k1 t976 t979 bt998.1 bt998.2).bind fun t1004 => (if t1004 = true then ((ratio_Sum.f k1 y973).bind fun bt1005 => ((regattalaw03_same.f k1 bt1005.1 bt1005.2 t976 t979).bind fun t1011 => (if t1011 = true then (if t989 = 0 then ((regattalaw03_same.f k1 t983 t986 t956 t959).bind fun t1012 => (if t1012 = true then ((ratio_Cmp.f k1 t976 t979 t956 t959).bind fun t1013 => (some (decide (t1013 ≥ 0)))) else (some false))) else (some false)) else (some false)))) else (some false)))) else (some false)))) else (some false)) = some r := H
            have A20 := Aside0.mk A200
            clear A200
            by_cases c21 : t945 = true
            · subst c21
              have H1 : ((ratio_Sum.f k1 x8_1).bind fun bt991 => ((regattalaw03_same.f k1 bt991.1 bt991.2 t956 t959).bind fun t997 => (if t997 = true then ((ratio_Add.f k1 t963 t966 t956 t959).bind fun bt998 => ((regattalaw03_same.f k1 t976 t979 bt998.1 bt998.2).bind fun t1004 => (if t1004 = true then ((ratio_Sum.f k1 y973).bind fun bt1005 => ((regattalaw03_same.f k1 bt1005.1 bt1005.2 t976 t979).bind fun t1011 => (if t1011 = true then (if t989 = 0 then ((regattalaw03_same.f k1 t983 t986 t956 t959).bind fun t1012 => (if t1012 = true then ((ratio_Cmp.f k1 t976 t979 t956 t959).bind fun t1013 => (some (decide (t1013 ≥ 0)))) else (some false))) else (some false)) else (some false)))) else (some false)))) else (some false)))) = some r := by rw [if_pos rfl] at H; exact H
              clear H
              have H := H1
              clear H1
              replace H := Option.bind_eq_some_iff.mp H
              obtain ⟨⟨t991, t994⟩, A220, H⟩ := H
              replace H : ((regattalaw03_same.f k1 t991 t994 t956 t959).bind fun t997 => (if t997 = true then ((ratio_Add.f k1 t963 t966 t956 t959).bind fun bt998 => ((regattalaw03_same.f k1 t976 t979 bt998.1 bt998.2).bind fun t1004 => (if t1004 = true then ((ratio_Sum.f k1 y973).bind fun bt1005 => ((regattalaw03_same.f k1 bt1005.1 bt1005.2 t976 t979).bind fun t1011 => (if t1011 = true then (if t989 = 0 then ((regattalaw03_same.f k1 t983 t986 t956 t959).bind fun t1012 => (if t1012 = true then ((ratio_Cmp.f k1 t976 t979 t956 t959).bind fun t1013 => (some (decide (t1013 ≥ 0)))) else (some false))) else (some false)) else (some false)))) else (some false)))) else (some false))) = some r := H
              have A22 := Aside0.mk A220
              clear A220
              replace H := Option.bind_eq_some_iff.mp H
              obtain ⟨t997, A230, H⟩ := H
              replace H : (if t997 = true then ((ratio_Add.f k1 t963 t966 t956 t959).bind fun bt998 => ((regattalaw03_same.f k1 t976 t979 bt998.1 bt998.2).bind fun t1004 => (if t1004 = true then ((ratio_Sum.f k1 y973).bind fun bt1005 => ((regattalaw03_same.f k1 bt1005.1 bt1005.2 t976 t979).bind fun t1011 => (if t1011 = true then (if t989 = 0 then ((regattalaw03_same.f k1 t983 t986 t956 t959).bind fun t1012 => (if t1012 = true then ((ratio_Cmp.f k1 t976 t979 t956 t959).bind fun t1013 => (some (decide (t1013 ≥ 0)))) else (some false))) else (some false)) else (some false)))) else (some false)))) else (some false)) = some r := H
              have A23 := Aside0.mk A230
              clear A230
              by_cases c24 : t997 = true
              · subst c24
                have H1 : ((ratio_Add.f k1 t963 t966 t956 t959).bind fun bt998 => ((regattalaw03_same.f k1 t976 t979 bt998.1 bt998.2).bind fun t1004 => (if t1004 = true then ((ratio_Sum.f k1 y973).bind fun bt1005 => ((regattalaw03_same.f k1 bt1005.1 bt1005.2 t976 t979).bind fun t1011 => (if t1011 = true then (if t989 = 0 then ((regattalaw03_same.f k1 t983 t986 t956 t959).bind fun t1012 => (if t1012 = true then ((ratio_Cmp.f k1 t976 t979 t956 t959).bind fun t1013 => (some (decide (t1013 ≥ 0)))) else (some false))) else (some false)) else (some false)))) else (some false)))) = some r := by rw [if_pos rfl] at H; exact H
                clear H
                have H := H1
                clear H1
                replace H := Option.bind_eq_some_iff.mp H
                obtain ⟨⟨t998, t1001⟩, A250, H⟩ := H
                replace H : ((regattalaw03_same.f k1 t976 t979 t998 t1001).bind fun t1004 => (if t1004 = true then ((ratio_Sum.f k1 y973).bind fun bt1005 => ((regattalaw03_same.f k1 bt1005.1 bt1005.2 t976 t979).bind fun t1011 => (if t1011 = true then (if t989 = 0 then ((regattalaw03_same.f k1 t983 t986 t956 t959).bind fun t1012 => (if t1012 = true then ((ratio_Cmp.f k1 t976 t979 t956 t959).bind fun t1013 => (some (decide (t1013 ≥ 0)))) else (some false))) else (some false)) else (some false)))) else (some false))) = some r := H
                have A25 := Aside0.mk A250
                clear A250
                replace H := Option.bind_eq_some_iff.mp H
                obtain ⟨t1004, A260, H⟩ := H
                replace H : (if t1004 = true then ((ratio_Sum.f k1 y973).bind fun bt1005 => ((regattalaw03_same.f k1 bt1005.1 bt1005.2 t976 t979).bind fun t1011 => (if t1011 = true then (if t989 = 0 then ((regattalaw03_same.f k1 t983 t986 t956 t959).bind fun t1012 => (if t1012 = true then ((ratio_Cmp.f k1 t976 t979 t956 t959).bind fun t1013 => (some (decide (t1013 ≥ 0)))) else (some false))) else (some false)) else (some false)))) else (some false)) = some r := H
                have A26 := Aside0.mk A260
                clear A260
                by_cases c27 : t1004 = true
                · subst c27
                  have H1 : ((ratio_Sum.f k1 y973).bind fun bt1005 => ((regattalaw03_same.f k1 bt1005.1 bt1005.2 t976 t979).bind fun t1011 => (if t1011 = true then (if t989 = 0 then ((regattalaw03_same.f k1 t983 t986 t956 t959).bind fun t1012 => (if t1012 = true then ((ratio_Cmp.f k1 t976 t979 t956 t959).bind fun t1013 => (some (decide (t1013 ≥ 0)))) else (some false))) else (some false)) else (some false)))) = some r := by rw [if_pos rfl] at H; exact H
                  clear H
                  have H := H1
                  clear H1
                  replace H := Option.bind_eq_some_iff.mp H
                  obtain ⟨⟨t1005, t1008⟩, A280, H⟩ := H
                  replace H : ((regattalaw03_same.f k1 t1005 t1008 t976 t979).bind fun t1011 => (if t1011 = true then (if t989 = 0 then ((regattalaw03_same.f k1 t983 t986 t956 t959).bind fun t1012 => (if t1012 = true then ((ratio_Cmp.f k1 t976 t979 t956 t959).bind fun t1013 => (some (decide (t1013 ≥ 0)))) else (some false))) else (some false)) else (some false))) = some r := H
                  have A28 := Aside0.mk A280
                  clear A280
                  replace H := Option.bind_eq_some_iff.mp H
                  obtain ⟨t1011, A290, H⟩ := H
                  replace H : (if t1011 = true then (if t989 = 0 then ((regattalaw03_same.f k1 t983 t986 t956 t959).bind fun t1012 => (if t1012 = true then ((ratio_Cmp.f k1 t976 t979 t956 t959).bind fun t1013 => (some (decide (t1013 ≥ 0)))) else (some false))) else (some false)) else (some false)) = some r := H
                  have A29 := Aside0.mk A290
                  clear A290
                  by_cases c30 : t1011 = true
                  · subst c30
                    have H1 : (if t989 = 0 then ((regattalaw03_same.f k1 t983 t986 t956 t959).bind fun t1012 => (if t1012 = true then ((ratio_Cmp.f k1 t976 t979 t956 t959).bind fun t1013 => (some (decide (t1013 ≥ 0)))) else (some false))) else (some false)) = some r := by rw [if_pos rfl] at H; exact H
                    clear H
                    have H := H1
                    clear H1
                    by_cases c31 : t989 = 0
                    · rw [if_pos c31] at H
                      have c31b0 : (t989 == 0) = true := beq_iff_eq.mpr c31
                      have c31b1 : (t989 != 0) = false := bne_eq_false_iff_eq.mpr c31
                      clear c31
                      replace H := Option.bind_eq_some_iff.mp H
                      obtain ⟨t1012, A320, H⟩ := H
                      replace H : (if t1012 = true then ((ratio_Cmp.f k1 t976 t979 t956 t959).bind fun t1013 => (some (decide (t1013 ≥ 0)))) else (some false)) = some r := H
                      have A32 := Aside0.mk A320
                      clear A320
                      by_cases c33 : t1012 = true
                      · subst c33
                        have H1 : ((ratio_Cmp.f k1 t976 t979 t956 t959).bind fun t1013 => (some (decide (t1013 ≥ 0)))) = some r := by rw [if_pos rfl] at H; exact H
                        clear H
                        have H := H1
                        clear H1
                        replace H := Option.bind_eq_some_iff.mp H
                        obtain ⟨t1013, A340, H⟩ := H
                        replace H : (some (decide (t1013 ≥ 0))) = some r := H
                        have A34 := Aside0.mk A340
                        clear A340
                        obtain rfl := Option.some.inj H
                        try go_wp2_with (first | ((with_reducible refine gate_callee (f := 42) rfl ?_); refine goesL_ (some 36) rfl rfl Try.func42 (by kernel_rfl) rfl #[.slice Ao9 t946.length co9] rfl (by (try simp only [List.map_toArray, List.map_cons, List.map_nil]); first | done | rfl | (simp only [List.length_drop, List.length_take]; rfl)) ?_; (with_reducible refine (ratio_Sum.calls k1 _ _ t946 t956 t959 _ ?side1 ?side2 A15.out).mono ?_); (case side1 => repeat (first | exact (Kd.R_reads' HO_6.out).2.2 | (with_reducible refine Kd.C_alloc ?_ _) | (with_reducible refine Kd.C_drewN ?_ _) | (with_reducible refine Kd.C_drew ?_))); (case side2 => exact (Kd.R_reads' HO_6.out).2.1); rintro e w35 ⟨v957, v960, rfl, ho0, ho1, hb⟩; refine ⟨_, rfl, ?_⟩; have n0_ := Aside0.mk (Kd.R_below (by (with_reducible repeat (first | apply Kd.R_alloc | apply Kd.R_drewN | apply Kd.R_drew)); exact HO_6.out) hb); have n1_ := Aside0.mk (Kd.R_below (by (with_reducible repeat (first | apply Kd.R_alloc | apply Kd.R_drewN | apply Kd.R_drew)); exact HO_7.out) hb); have n2_ := Aside0.mk (Kd.R_below (by (with_reducible repeat (first | apply Kd.R_alloc | apply Kd.R_drewN | apply Kd.R_drew)); exact HO_8.out) hb); have n3_ := Aside0.mk (Kd.V_lower (Kd.V_mono (ok' := fun k_ => some k_ ≠ (.slice Ao9 t946.length co9 : Value).ownBlock ∧ some k_ ≠ (v950 : Value).ownBlock ∧ some k_ ≠ (u8 : Value).ownBlock) ho0 (fun k_ hk_ => ⟨(Kd.fresh' (Kd.R_lt (by (with_reducible repeat (first | apply Kd.R_alloc | apply Kd.R_drewN | apply Kd.R_drew)); exact HO_6.out)) k_ hk_), (Kd.fresh' (Kd.R_lt (by (with_reducible repeat (first | apply Kd.R_alloc | apply Kd.R_drewN | apply Kd.R_drew)); exact HO_7.out)) k_ hk_), (Kd.fresh' (Kd.R_lt (by (with_reducible repeat (first | apply Kd.R_alloc | apply Kd.R_drewN | apply Kd.R_drew)); exact HO_8.out)) k_ hk_)⟩)) (below_size (by repeat (first | (with_reducible first | exact HB.out | apply below_alloc | apply pw_below_drewN | apply below_drew1) | exact HB.out)))); have n4_ := Aside0.mk (Kd.V_lower (Kd.V_mono (ok' := fun k_ => some k_ ≠ (.slice Ao9 t946.length co9 : Value).ownBlock ∧ some k_ ≠ (v950 : Value).ownBlock ∧ some k_ ≠ (u8 : Value).ownBlock) ho1 (fun k_ hk_ => ⟨(Kd.fresh' (Kd.R_lt (by (with_reducible repeat (first | apply Kd.R_alloc | apply Kd.R_drewN | apply Kd.R_drew)); exact HO_6.out)) k_ hk_), (Kd.fresh' (Kd.R_lt (by (with_reducible repeat (first | apply Kd.R_alloc | apply Kd.R_drewN | apply Kd.R_drew)); exact HO_7.out)) k_ hk_), (Kd.fresh' (Kd.R_lt (by (with_reducible repeat (first | apply Kd.R_alloc | apply Kd.R_drewN | apply Kd.R_drew)); exact HO_8.out)) k_ hk_)⟩)) (below_size (by repeat (first | (with_reducible first | exact HB.out | apply below_alloc | apply pw_below_drewN | apply below_drew1) | exact HB.out)))); have n5_ := Aside0.mk (below_step (by repeat (first | (with_reducible first | exact HB.out | apply below_alloc | apply pw_below_drewN | apply below_drew1) | exact HB.out)) hb); clear HO_6; clear HO_7; clear HO_8; clear HB; have HO_6 := n0_; have HO_7 := n1_; have HO_8 := n2_; have HO958 := n3_; have HO961 := n4_; have HB := n5_; clear n0_ n1_ n2_ n3_ n4_ n5_; (try clear hb); (try clear hb2); (try clear hk); (try clear hi); (try clear ho0); (try clear ho1); (try clear A15)) | ((with_reducible refine gate_dst (N := 10) rfl ?_); refine box_event ?hg (N := 10) ?hd (cs := #[.slice none 0 0, .slice none 0 0]) (t := 45) ?hr ?_; (case hd => rfl); (case hg => rfl); (case hr => first | (go_simp; done) | (go_simp; rfl)); intro gb962 hg w36 hbox hb; have n0_ := Aside0.mk (Kd.R_below (by (with_reducible repeat (first | apply Kd.R_alloc | apply Kd.R_drewN | apply Kd.R_drew)); exact HO_6.out) hb); have n1_ := Aside0.mk (Kd.R_below (by (with_reducible repeat (first | apply Kd.R_alloc | apply Kd.R_drewN | apply Kd.R_drew)); exact HO_7.out) hb); have n2_ := Aside0.mk (Kd.R_below (by (with_reducible repeat (first | apply Kd.R_alloc | apply Kd.R_drewN | apply Kd.R_drew)); exact HO_8.out) hb); have n3_ := Aside0.mk (Kd.V_below (Kd.V_elderB (by (with_reducible repeat (first | apply Kd.V_alloc | apply Kd.V_drewN | apply Kd.V_drew)); exact HO958.out) gb962 (Nat.le_of_eq hg.symm)) hb); have n4_ := Aside0.mk (Kd.V_below (Kd.V_elderB (by (with_reducible repeat (first | apply Kd.V_alloc | apply Kd.V_drewN | apply Kd.V_drew)); exact HO961.out) gb962 (Nat.le_of_eq hg.symm)) hb); have n5_ := Aside0.mk (below_step (by repeat (first | (with_reducible first | exact HB.out | apply below_alloc | apply pw_below_drewN | apply below_drew1) | exact HB.out)) hb); have n6_ := Aside0.mk (hbox); have n7_ := Aside0.mk ((by rw [hg]; exact (below_size (by repeat (first | (with_reducible first | exact HB.out | apply below_alloc | apply pw_below_drewN | apply below_drew1) | exact HB.out))) : w.heap.size ≤ gb962)); have n8_ := Aside0.mk ((by rw [hg]; exact (below_size (by repeat (first | (with_reducible first | exact HB.out | apply below_alloc | apply pw_below_drewN | apply below_drew1) | exact HB.out))) : w.heap.size ≤ gb962)); clear HO_6; clear HO_7; clear HO_8; clear HO958; clear HO961; clear HB; have HO_6 := n0_; have HO_7 := n1_; have HO_8 := n2_; have HO958 := n3_; have HO961 := n4_; have HB := n5_; have BK962 := n6_; have GW962 := n7_; have GE962 := n8_; clear n0_ n1_ n2_ n3_ n4_ n5_ n6_ n7_ n8_; clear hb hbox hg; obtain ⟨Ao37, co37, eo37⟩ := Kd.V_slice HO958.out; subst eo37; have hcz38_0 : w36.cell? ⟨gb962, 0, none⟩ = some (.slice none 0 0) := (blk_cell BK962.out 0).trans rfl; have hcz38_1 : w36.cell? ⟨gb962, 1, none⟩ = some (.slice none 0 0) := (blk_cell BK962.out 1).trans rfl; have hfz38_0 := blk_frozen BK962.out 0; have hfz38_1 := blk_frozen BK962.out 1; obtain ⟨Ao39, co39, eo39⟩ := Kd.V_slice HO961.out; subst eo39; obtain ⟨Ao40, co40, eo40⟩ := Kd.R_slice HO_7.out; subst eo40) | ((with_reducible refine gate_callee (f := 42) rfl ?_); refine goesL_ (some 38) rfl rfl Try.func42 (by kernel_rfl) rfl #[.slice Ao40 t949.length co40] rfl (by (try simp only [List.map_toArray, List.map_cons, List.map_nil]); first | done | rfl | (simp only [List.length_drop, List.length_take]; rfl)) ?_; (with_reducible refine (ratio_Sum.calls k1 _ _ t949 t963 t966 _ ?side1 ?side2 A16.out).mono ?_); (case side1 => refine (Kd.R_reads' (e := 57) (base := w.heap.size) (ok := fun k_ => (some k_ ≠ (.slice Ao9 t946.length co9 : Value).ownBlock ∧ some k_ ≠ (u8 : Value).ownBlock)) (n := t949.length) (c := co40) ?_).2.2; exact (by (with_reducible repeat (first | apply Kd.R_alloc | apply Kd.R_drewN | apply Kd.R_drew)); exact (Kd.R_mono (Kd.R_far (p := ⟨gb962, 1, none⟩) (Kd.R_far (p := ⟨gb962, 0, none⟩) (Kd.R_types HO_7.out BK962.out (by decide)) (fun _ hk => hk.2) (.slice Ao37 t956.length co37)) (fun _ hk => hk.2) (.slice Ao39 t959.length co39)) (fun _ h_ => h_.1)))); (case side2 => exact (Kd.R_reads' HO_7.out).2.1); rintro e w41 ⟨v964, v967, rfl, ho0, ho1, hb⟩; refine ⟨_, rfl, ?_⟩; have n0_ := Aside0.mk (Kd.R_below (by (with_reducible repeat (first | apply Kd.R_alloc | apply Kd.R_drewN | apply Kd.R_drew)); exact (Kd.R_mono (Kd.R_far (p := ⟨gb962, 1, none⟩) (Kd.R_far (p := ⟨gb962, 0, none⟩) (Kd.R_types HO_6.out BK962.out (by decide)) (fun _ hk => hk.2) (.slice Ao37 t956.length co37)) (fun _ hk => hk.2) (.slice Ao39 t959.length co39)) (fun _ h_ => h_.1))) hb); have n1_ := Aside0.mk (Kd.R_below (by (with_reducible repeat (first | apply Kd.R_alloc | apply Kd.R_drewN | apply Kd.R_drew)); exact (Kd.R_mono (Kd.R_far (p := ⟨gb962, 1, none⟩) (Kd.R_far (p := ⟨gb962, 0, none⟩) (Kd.R_types HO_7.out BK962.out (by decide)) (fun _ hk => hk.2) (.slice Ao37 t956.length co37)) (fun _ hk => hk.2) (.slice Ao39 t959.length co39)) (fun _ h_ => h_.1))) hb); have n2_ := Aside0.mk (Kd.R_below (by (with_reducible repeat (first | apply Kd.R_alloc | apply Kd.R_drewN | apply Kd.R_drew)); exact (Kd.R_mono (Kd.R_far (p := ⟨gb962, 1, none⟩) (Kd.R_far (p := ⟨gb962, 0, none⟩) (Kd.R_types HO_8.out BK962.out (by decide)) (fun _ hk => hk.2) (.slice Ao37 t956.length co37)) (fun _ hk => hk.2) (.slice Ao39 t959.length co39)) (fun _ h_ => h_.1))) hb); have n3_ := Aside0.mk (Kd.V_below (by (with_reducible repeat (first | apply Kd.V_alloc | apply Kd.V_drewN | apply Kd.V_drew)); exact (Kd.V_mono (Kd.V_far (p := ⟨gb962, 1, none⟩) (Kd.V_far (p := ⟨gb962, 0, none⟩) (Kd.V_mono HO958.out (fun k_ hk => (⟨hk, hk.2⟩ : _ ∧ k_ ≠ gb962))) (fun _ hk => hk.2) (.slice Ao37 t956.length co37)) (fun _ hk => hk.2) (.slice Ao39 t959.length co39)) (fun _ h_ => h_.1))) hb); have n4_ := Aside0.mk (Kd.V_below (by (with_reducible repeat (first | apply Kd.V_alloc | apply Kd.V_drewN | apply Kd.V_drew)); exact (Kd.V_mono (Kd.V_far (p := ⟨gb962, 1, none⟩) (Kd.V_far (p := ⟨gb962, 0, none⟩) (Kd.V_mono HO961.out (fun k_ hk => (⟨hk, hk.2⟩ : _ ∧ k_ ≠ gb962))) (fun _ hk => hk.2) (.slice Ao37 t956.length co37)) (fun _ hk => hk.2) (.slice Ao39 t959.length co39)) (fun _ h_ => h_.1))) hb); have n5_ := Aside0.mk (Kd.V_lower (Kd.V_mono (ok' := fun k_ => some k_ ≠ (.slice Ao9 t946.length co9 : Value).ownBlock ∧ some k_ ≠ (.slice Ao40 t949.length co40 : Value).ownBlock ∧ some k_ ≠ (u8 : Value).ownBlock ∧ k_ ≠ gb962) ho0 (fun k_ hk_ => ⟨(Kd.fresh' (Kd.R_lt (by (with_reducible repeat (first | apply Kd.R_alloc | apply Kd.R_drewN | apply Kd.R_drew)); exact (Kd.R_mono (Kd.R_far (p := ⟨gb962, 1, none⟩) (Kd.R_far (p := ⟨gb962, 0, none⟩) (Kd.R_types HO_6.out BK962.out (by decide)) (fun _ hk => hk.2) (.slice Ao37 t956.length co37)) (fun _ hk => hk.2) (.slice Ao39 t959.length co39)) (fun _ h_ => h_.1)))) k_ hk_), (Kd.fresh' (Kd.R_lt (by (with_reducible repeat (first | apply Kd.R_alloc | apply Kd.R_drewN | apply Kd.R_drew)); exact (Kd.R_mono (Kd.R_far (p := ⟨gb962, 1, none⟩) (Kd.R_far (p := ⟨gb962, 0, none⟩) (Kd.R_types HO_7.out BK962.out (by decide)) (fun _ hk => hk.2) (.slice Ao37 t956.length co37)) (fun _ hk => hk.2) (.slice Ao39 t959.length co39)) (fun _ h_ => h_.1)))) k_ hk_), (Kd.fresh' (Kd.R_lt (by (with_reducible repeat (first | apply Kd.R_alloc | apply Kd.R_drewN | apply Kd.R_drew)); exact (Kd.R_mono (Kd.R_far (p := ⟨gb962, 1, none⟩) (Kd.R_far (p := ⟨gb962, 0, none⟩) (Kd.R_types HO_8.out BK962.out (by decide)) (fun _ hk => hk.2) (.slice Ao37 t956.length co37)) (fun _ hk => hk.2) (.slice Ao39 t959.length co39)) (fun _ h_ => h_.1)))) k_ hk_), (Kd.freshB (g := gb962) (o := .cells #[.slice Ao37 t956.length co37, .slice Ao39 t959.length co39] 45 (0, 0)) (by (with_reducible repeat (first | refine blk_drewN ?_ _ | refine blk_drew ?_ | refine blk_alloc ?_ _)); refine blk_put (cs := #[.slice Ao37 t956.length co37, .slice none 0 0]) ?_ 1 _ rfl; (with_reducible repeat (first | refine blk_drewN ?_ _ | refine blk_drew ?_ | refine blk_alloc ?_ _)); refine blk_put (cs := #[.slice none 0 0, .slice none 0 0]) ?_ 0 _ rfl; (with_reducible repeat (first | refine blk_drewN ?_ _ | refine blk_drew ?_ | refine blk_alloc ?_ _)); exact BK962.out) k_ hk_)⟩)) (below_size (by repeat (first | (with_reducible first | exact HB.out | apply below_alloc | apply pw_below_drewN | apply below_drew1 | refine below_set ?_ GE962.out) | exact HB.out)))); have n6_ := Aside0.mk (Kd.V_lower (Kd.V_mono (ok' := fun k_ => some k_ ≠ (.slice Ao9 t946.length co9 : Value).ownBlock ∧ some k_ ≠ (.slice Ao40 t949.length co40 : Value).ownBlock ∧ some k_ ≠ (u8 : Value).ownBlock ∧ k_ ≠ gb962) ho1 (fun k_ hk_ => ⟨(Kd.fresh' (Kd.R_lt (by (with_reducible repeat (first | apply Kd.R_alloc | apply Kd.R_drewN | apply Kd.R_drew)); exact (Kd.R_mono (Kd.R_far (p := ⟨gb962, 1, none⟩) (Kd.R_far (p := ⟨gb962, 0, none⟩) (Kd.R_types HO_6.out BK962.out (by decide)) (fun _ hk => hk.2) (.slice Ao37 t956.length co37)) (fun _ hk => hk.2) (.slice Ao39 t959.length co39)) (fun _ h_ => h_.1)))) k_ hk_), (Kd.fresh' (Kd.R_lt (by (with_reducible repeat (first | apply Kd.R_alloc | apply Kd.R_drewN | apply Kd.R_drew)); exact (Kd.R_mono (Kd.R_far (p := ⟨gb962, 1, none⟩) (Kd.R_far (p := ⟨gb962, 0, none⟩) (Kd.R_types HO_7.out BK962.out (by decide)) (fun _ hk => hk.2) (.slice Ao37 t956.length co37)) (fun _ hk => hk.2) (.slice Ao39 t959.length co39)) (fun _ h_ => h_.1)))) k_ hk_), (Kd.fresh' (Kd.R_lt (by (with_reducible repeat (first | apply Kd.R_alloc | apply Kd.R_drewN | apply Kd.R_drew)); exact (Kd.R_mono (Kd.R_far (p := ⟨gb962, 1, none⟩) (Kd.R_far (p := ⟨gb962, 0, none⟩) (Kd.R_types HO_8.out BK962.out (by decide)) (fun _ hk => hk.2) (.slice Ao37 t956.length co37)) (fun _ hk => hk.2) (.slice Ao39 t959.length co39)) (fun _ h_ => h_.1)))) k_ hk_), (Kd.freshB (g := gb962) (o := .cells #[.slice Ao37 t956.length co37, .slice Ao39 t959.length co39] 45 (0, 0)) (by (with_reducible repeat (first | refine blk_drewN ?_ _ | refine blk_drew ?_ | refine blk_alloc ?_ _)); refine blk_put (cs := #[.slice Ao37 t956.length co37, .slice none 0 0]) ?_ 1 _ rfl; (with_reducible repeat (first | refine blk_drewN ?_ _ | refine blk_drew ?_ | refine blk_alloc ?_ _)); refine blk_put (cs := #[.slice none 0 0, .slice none 0 0]) ?_ 0 _ rfl; (with_reducible repeat (first | refine blk_drewN ?_ _ | refine blk_drew ?_ | refine blk_alloc ?_ _)); exact BK962.out) k_ hk_)⟩)) (below_size (by repeat (first | (with_reducible first | exact HB.out | apply below_alloc | apply pw_below_drewN | apply below_drew1 | refine below_set ?_ GE962.out) | exact HB.out)))); have n7_ := Aside0.mk (blk_below (g := gb962) (o := .cells #[.slice Ao37 t956.length co37, .slice Ao39 t959.length co39] 45 (0, 0)) (by (with_reducible repeat (first | refine blk_drewN ?_ _ | refine blk_drew ?_ | refine blk_alloc ?_ _)); refine blk_put (cs := #[.slice Ao37 t956.length co37, .slice none 0 0]) ?_ 1 _ rfl; (with_reducible repeat (first | refine blk_drewN ?_ _ | refine blk_drew ?_ | refine blk_alloc ?_ _)); refine blk_put (cs := #[.slice none 0 0, .slice none 0 0]) ?_ 0 _ rfl; (with_reducible repeat (first | refine blk_drewN ?_ _ | refine blk_drew ?_ | refine blk_alloc ?_ _)); exact BK962.out) hb); have n8_ := Aside0.mk (below_step (by repeat (first | (with_reducible first | exact HB.out | apply below_alloc | apply pw_below_drewN | apply below_drew1 | refine below_set ?_ GE962.out) | exact HB.out)) hb); clear HO_6; clear HO_7; clear HO_8; clear HO958; clear HO961; clear BK962; clear HB; have HO_6 := n0_; have HO_7 := n1_; have HO_8 := n2_; have HO958 := n3_; have HO961 := n4_; have HO965 := n5_; have HO968 := n6_; have BK962 := n7_; have HB := n8_; clear n0_ n1_ n2_ n3_ n4_ n5_ n6_ n7_ n8_; (try clear hb); (try clear hb2); (try clear hk); (try clear hi); (try clear ho0); (try clear ho1); (try clear A16)) | ((with_reducible refine gate_dst (N := 11) rfl ?_); refine box_event ?hg (N := 11) ?hd (cs := #[.slice none 0 0, .slice none 0 0]) (t := 45) ?hr ?_; (case hd => rfl); (case hg => rfl); (case hr => first | (go_simp; done) | (go_simp; rfl)); intro gb969 hg w42 hbox hb; have n0_ := Aside0.mk (Kd.R_below (by (with_reducible repeat (first | apply Kd.R_alloc | apply Kd.R_drewN | apply Kd.R_drew)); exact HO_6.out) hb); have n1_ := Aside0.mk (Kd.R_below (by (with_reducible repeat (first | apply Kd.R_alloc | apply Kd.R_drewN | apply Kd.R_drew)); exact HO_7.out) hb); have n2_ := Aside0.mk (Kd.R_below (by (with_reducible repeat (first | apply Kd.R_alloc | apply Kd.R_drewN | apply Kd.R_drew)); exact HO_8.out) hb); have n3_ := Aside0.mk (Kd.V_below (Kd.V_elderB (by (with_reducible repeat (first | apply Kd.V_alloc | apply Kd.V_drewN | apply Kd.V_drew)); exact HO958.out) gb969 (Nat.le_of_eq hg.symm)) hb); have n4_ := Aside0.mk (Kd.V_below (Kd.V_elderB (by (with_reducible repeat (first | apply Kd.V_alloc | apply Kd.V_drewN | apply Kd.V_drew)); exact HO961.out) gb969 (Nat.le_of_eq hg.symm)) hb); have n5_ := Aside0.mk (Kd.V_below (Kd.V_elderB (by (with_reducible repeat (first | apply Kd.V_alloc | apply Kd.V_drewN | apply Kd.V_drew)); exact HO965.out) gb969 (Nat.le_of_eq hg.symm)) hb); have n6_ := Aside0.mk (Kd.V_below (Kd.V_elderB (by (with_reducible repeat (first | apply Kd.V_alloc | apply Kd.V_drewN | apply Kd.V_drew)); exact HO968.out) gb969 (Nat.le_of_eq hg.symm)) hb); have n7_ := Aside0.mk (blk_below (g := gb962) (o := .cells #[.slice Ao37 t956.length co37, .slice Ao39 t959.length co39] 45 (0, 0)) (by (with_reducible repeat (first | refine blk_drewN ?_ _ | refine blk_drew ?_ | refine blk_alloc ?_ _)); exact BK962.out) hb); have n8_ := Aside0.mk (below_step (by repeat (first | (with_reducible first | exact HB.out | apply below_alloc | apply pw_below_drewN | apply below_drew1 | refine below_set ?_ GE962.out) | exact HB.out)) hb); have n9_ := Aside0.mk (hbox); have n10_ := Aside0.mk ((by rw [hg]; exact (below_size (by repeat (first | (with_reducible first | exact HB.out | apply below_alloc | apply pw_below_drewN | apply below_drew1 | refine below_set ?_ GE962.out) | exact HB.out))) : w.heap.size ≤ gb969)); have n11_ := Aside0.mk ((by rw [hg]; exact (below_size (by repeat (first | (with_reducible first | exact HB.out | apply below_alloc | apply pw_below_drewN | apply below_drew1 | refine below_set ?_ GE962.out) | exact HB.out))) : w.heap.size ≤ gb969)); have n12_ := Aside0.mk ((by rw [hg]; exact Nat.ne_of_lt (blk_lt (g := gb962) (o := .cells #[.slice Ao37 t956.length co37, .slice Ao39 t959.length co39] 45 (0, 0)) (by (with_reducible repeat (first | refine blk_drewN ?_ _ | refine blk_drew ?_ | refine blk_alloc ?_ _)); exact BK962.out)) : gb962 ≠ gb969)); have n13_ := Aside0.mk ((by rw [hg]; exact Nat.ne_of_gt (blk_lt (g := gb962) (o := .cells #[.slice Ao37 t956.length co37, .slice Ao39 t959.length co39] 45 (0, 0)) (by (with_reducible repeat (first | refine blk_drewN ?_ _ | refine blk_drew ?_ | refine blk_alloc ?_ _)); exact BK962.out)) : gb969 ≠ gb962)); clear HO_6; clear HO_7; clear HO_8; clear HO958; clear HO961; clear HO965; clear HO968; clear BK962; clear HB; have HO_6 := n0_; have HO_7 := n1_; have HO_8 := n2_; have HO958 := n3_; have HO961 := n4_; have HO965 := n5_; have HO968 := n6_; have BK962 := n7_; have HB := n8_; have BK969 := n9_; have GW969 := n10_; have GE969 := n11_; have NB962_969 := n12_; have NB969_962 := n13_; clear n0_ n1_ n2_ n3_ n4_ n5_ n6_ n7_ n8_ n9_ n10_ n11_ n12_ n13_; clear hb hbox hg; obtain ⟨Ao43, co43, eo43⟩ := Kd.V_slice HO965.out; subst eo43; have hnb44 := NB969_962.out; have hnc44 := NB962_969.out; have hcz45_0 : w42.cell? ⟨gb969, 0, none⟩ = some (.slice none 0 0) := (blk_cell BK969.out 0).trans rfl; have hcz45_1 : w42.cell? ⟨gb969, 1, none⟩ = some (.slice none 0 0) := (blk_cell BK969.out 1).trans rfl; have hfz45_0 := blk_frozen BK969.out 0; have hfz45_1 := blk_frozen BK969.out 1; obtain ⟨Ao46, co46, eo46⟩ := Kd.V_slice HO968.out; subst eo46) | ((with_reducible refine gate_builtin (b := .append) (xs := #[.tmp 39, .tmp 40]) rfl ?_); at_builtin; refine Kd.R_append_rows k57 (w0 := w) w.heap.size rfl (.tmp 39) (.tmp 40) 58 57 (.agg #[(.int .i64 0), (.int .i64 0)]) 16 rfl Try.underlying58 info57 rfl (by decide) (by omega) (.slice none 0 0) ([] : List (S57)) t946 _ _ _ (fun k_ => some k_ ≠ (.slice Ao9 t946.length co9 : Value).ownBlock ∧ some k_ ≠ (.slice Ao40 t949.length co40 : Value).ownBlock ∧ some k_ ≠ (u8 : Value).ownBlock) (fun _ => False) rfl rfl ?aO ?aR (fun _ _ h => h) (fun _ h => h.elim) ?aF ?aB ?aS ?aL ?_; (case aR => refine (Kd.R_reads' (e := 57) (base := w.heap.size) (ok := fun k_ => (some k_ ≠ (.slice Ao40 t949.length co40 : Value).ownBlock ∧ some k_ ≠ (u8 : Value).ownBlock)) (n := t946.length) (c := co9) ?_).2.2; exact (by (with_reducible repeat (first | apply Kd.R_alloc | apply Kd.R_drewN | apply Kd.R_drew)); exact (Kd.R_mono (Kd.R_far (p := ⟨gb969, 1, none⟩) (Kd.R_far (p := ⟨gb969, 0, none⟩) (Kd.R_types HO_6.out BK969.out (by decide)) (fun _ hk => hk.2) (.slice Ao43 t963.length co43)) (fun _ hk => hk.2) (.slice Ao46 t966.length co46)) (fun _ h_ => h_.1)))); (case aB => exact (by repeat (first | (with_reducible first | exact HB.out | apply below_alloc | apply pw_below_drewN | apply below_drew1 | refine below_set ?_ GE962.out | refine below_set ?_ GE969.out) | exact HB.out))); (case aF => exact (fun k_ hk => ⟨Kd.fresh' (Kd.R_lt (by (with_reducible repeat (first | apply Kd.R_alloc | apply Kd.R_drewN | apply Kd.R_drew)); exact (Kd.R_mono (Kd.R_far (p := ⟨gb969, 1, none⟩) (Kd.R_far (p := ⟨gb969, 0, none⟩) (Kd.R_types HO_6.out BK969.out (by decide)) (fun _ hk => hk.2) (.slice Ao43 t963.length co43)) (fun _ hk => hk.2) (.slice Ao46 t966.length co46)) (fun _ h_ => h_.1)))) k_ hk, Kd.fresh' (Kd.R_lt (by (with_reducible repeat (first | apply Kd.R_alloc | apply Kd.R_drewN | apply Kd.R_drew)); exact (Kd.R_mono (Kd.R_far (p := ⟨gb969, 1, none⟩) (Kd.R_far (p := ⟨gb969, 0, none⟩) (Kd.R_types HO_7.out BK969.out (by decide)) (fun _ hk => hk.2) (.slice Ao43 t963.length co43)) (fun _ hk => hk.2) (.slice Ao46 t966.length co46)) (fun _ h_ => h_.1)))) k_ hk, Kd.fresh' (Kd.R_lt (by (with_reducible repeat (first | apply Kd.R_alloc | apply Kd.R_drewN | apply Kd.R_drew)); exact (Kd.R_mono (Kd.R_far (p := ⟨gb969, 1, none⟩) (Kd.R_far (p := ⟨gb969, 0, none⟩) (Kd.R_types HO_8.out BK969.out (by decide)) (fun _ hk => hk.2) (.slice Ao43 t963.length co43)) (fun _ hk => hk.2) (.slice Ao46 t966.length co46)) (fun _ h_ => h_.1)))) k_ hk⟩)); (case aO => exact ((Kd.R_nil _ _ _ _ (fun k_ => some k_ ≠ (.slice Ao9 t946.length co9 : Value).ownBlock ∧ some k_ ≠ (.slice Ao40 t949.length co40 : Value).ownBlock ∧ some k_ ≠ (u8 : Value).ownBlock)))); (case aS => exact (below_size (by repeat (first | (with_reducible first | exact HB.out | apply below_alloc | apply pw_below_drewN | apply below_drew1 | refine below_set ?_ GE962.out | refine below_set ?_ GE969.out) | exact HB.out)))); (case aL => have := LMc17.out; omega); intro v971 w47 ho hb hg hat; rw [← Ny970.out] at ho; have n0_ := Aside0.mk (Kd.R_after (Kd.R_apart_nil (by (with_reducible repeat (first | apply Kd.R_alloc | apply Kd.R_drewN | apply Kd.R_drew)); exact (Kd.R_mono (Kd.R_far (p := ⟨gb969, 1, none⟩) (Kd.R_far (p := ⟨gb969, 0, none⟩) (Kd.R_types HO_6.out BK969.out (by decide)) (fun _ hk => hk.2) (.slice Ao43 t963.length co43)) (fun _ hk => hk.2) (.slice Ao46 t966.length co46)) (fun _ h_ => h_.1)))) hg hat); have n1_ := Aside0.mk (Kd.R_after (Kd.R_apart_nil (by (with_reducible repeat (first | apply Kd.R_alloc | apply Kd.R_drewN | apply Kd.R_drew)); exact (Kd.R_mono (Kd.R_far (p := ⟨gb969, 1, none⟩) (Kd.R_far (p := ⟨gb969, 0, none⟩) (Kd.R_types HO_7.out BK969.out (by decide)) (fun _ hk => hk.2) (.slice Ao43 t963.length co43)) (fun _ hk => hk.2) (.slice Ao46 t966.length co46)) (fun _ h_ => h_.1)))) hg hat); have n2_ := Aside0.mk (Kd.R_after (Kd.R_apart_nil (by (with_reducible repeat (first | apply Kd.R_alloc | apply Kd.R_drewN | apply Kd.R_drew)); exact (Kd.R_mono (Kd.R_far (p := ⟨gb969, 1, none⟩) (Kd.R_far (p := ⟨gb969, 0, none⟩) (Kd.R_types HO_8.out BK969.out (by decide)) (fun _ hk => hk.2) (.slice Ao43 t963.length co43)) (fun _ hk => hk.2) (.slice Ao46 t966.length co46)) (fun _ h_ => h_.1)))) hg hat); have n3_ := Aside0.mk (Kd.V_afterv (Kd.V_apart_nil (by (with_reducible repeat (first | apply Kd.V_alloc | apply Kd.V_drewN | apply Kd.V_drew)); exact (Kd.V_mono (Kd.V_far (p := ⟨gb969, 1, none⟩) (Kd.V_far (p := ⟨gb969, 0, none⟩) (Kd.V_mono HO958.out (fun k_ hk => (⟨hk, hk.2⟩ : _ ∧ k_ ≠ gb969))) (fun _ hk => hk.2) (.slice Ao43 t963.length co43)) (fun _ hk => hk.2) (.slice Ao46 t966.length co46)) (fun _ h_ => h_.1)))) hg hat); have n4_ := Aside0.mk (Kd.V_afterv (Kd.V_apart_nil (by (with_reducible repeat (first | apply Kd.V_alloc | apply Kd.V_drewN | apply Kd.V_drew)); exact (Kd.V_mono (Kd.V_far (p := ⟨gb969, 1, none⟩) (Kd.V_far (p := ⟨gb969, 0, none⟩) (Kd.V_mono HO961.out (fun k_ hk => (⟨hk, hk.2⟩ : _ ∧ k_ ≠ gb969))) (fun _ hk => hk.2) (.slice Ao43 t963.length co43)) (fun _ hk => hk.2) (.slice Ao46 t966.length co46)) (fun _ h_ => h_.1)))) hg hat); have n5_ := Aside0.mk (blk_grown (g := gb962) (o := .cells #[.slice Ao37 t956.length co37, .slice Ao39 t959.length co39] 45 (0, 0)) (by (with_reducible repeat (first | refine blk_drewN ?_ _ | refine blk_drew ?_ | refine blk_alloc ?_ _)); refine blk_far ?_ NB962_969.out _; (with_reducible repeat (first | refine blk_drewN ?_ _ | refine blk_drew ?_ | refine blk_alloc ?_ _)); refine blk_far ?_ NB962_969.out _; (with_reducible repeat (first | refine blk_drewN ?_ _ | refine blk_drew ?_ | refine blk_alloc ?_ _)); exact BK962.out) hg (by simp [Value.ownBlock])); have n6_ := Aside0.mk (Kd.V_afterv (Kd.V_apart_nil (by (with_reducible repeat (first | apply Kd.V_alloc | apply Kd.V_drewN | apply Kd.V_drew)); exact (Kd.V_mono (Kd.V_far (p := ⟨gb969, 1, none⟩) (Kd.V_far (p := ⟨gb969, 0, none⟩) (Kd.V_mono HO965.out (fun k_ hk => (⟨hk, hk.2⟩ : _ ∧ k_ ≠ gb969))) (fun _ hk => hk.2) (.slice Ao43 t963.length co43)) (fun _ hk => hk.2) (.slice Ao46 t966.length co46)) (fun _ h_ => h_.1)))) hg hat); have n7_ := Aside0.mk (Kd.V_afterv (Kd.V_apart_nil (by (with_reducible repeat (first | apply Kd.V_alloc | apply Kd.V_drewN | apply Kd.V_drew)); exact (Kd.V_mono (Kd.V_far (p := ⟨gb969, 1, none⟩) (Kd.V_far (p := ⟨gb969, 0, none⟩) (Kd.V_mono HO968.out (fun k_ hk => (⟨hk, hk.2⟩ : _ ∧ k_ ≠ gb969))) (fun _ hk => hk.2) (.slice Ao43 t963.length co43)) (fun _ hk => hk.2) (.slice Ao46 t966.length co46)) (fun _ h_ => h_.1)))) hg hat); have n8_ := Aside0.mk (blk_grown (g := gb969) (o := .cells #[.slice Ao43 t963.length co43, .slice Ao46 t966.length co46] 45 (0, 0)) (by (with_reducible repeat (first | refine blk_drewN ?_ _ | refine blk_drew ?_ | refine blk_alloc ?_ _)); refine blk_put (cs := #[.slice Ao43 t963.length co43, .slice none 0 0]) ?_ 1 _ rfl; (with_reducible repeat (first | refine blk_drewN ?_ _ | refine blk_drew ?_ | refine blk_alloc ?_ _)); refine blk_put (cs := #[.slice none 0 0, .slice none 0 0]) ?_ 0 _ rfl; (with_reducible repeat (first | refine blk_drewN ?_ _ | refine blk_drew ?_ | refine blk_alloc ?_ _)); exact BK969.out) hg (by simp [Value.ownBlock])); have n9_ := Aside0.mk (hb); have n10_ := Aside0.mk (ho); clear HO_6; clear HO_7; clear HO_8; clear HO958; clear HO961; clear BK962; clear HO965; clear HO968; clear BK969; clear HB; have HO_6 := n0_; have HO_7 := n1_; have HO_8 := n2_; have HO958 := n3_; have HO961 := n4_; have BK962 := n5_; have HO965 := n6_; have HO968 := n7_; have BK969 := n8_; have HB := n9_; have HO972 := n10_; clear n0_ n1_ n2_ n3_ n4_ n5_ n6_ n7_ n8_ n9_ n10_; clear ho hb hg hat) | ((with_reducible refine gate_builtin (b := .append) (xs := #[.tmp 42, .tmp 43]) rfl ?_); at_builtin; refine Kd.R_append_rows k57 (w0 := w) w.heap.size rfl (.tmp 42) (.tmp 43) 58 57 (.agg #[(.int .i64 0), (.int .i64 0)]) 16 rfl Try.underlying58 info57 rfl (by decide) (by omega) v971 y970 t949 _ _ _ (fun k_ => some k_ ≠ (.slice Ao9 t946.length co9 : Value).ownBlock ∧ some k_ ≠ (.slice Ao40 t949.length co40 : Value).ownBlock ∧ some k_ ≠ (u8 : Value).ownBlock) (fun _ => False) rfl rfl ?aO ?aR (fun _ _ h => h) (fun _ h => h.elim) ?aF ?aB ?aS ?aL ?_; (case aR => repeat (first | exact (Kd.R_reads' HO_7.out).2.2 | (with_reducible refine Kd.C_alloc ?_ _) | (with_reducible refine Kd.C_drewN ?_ _) | (with_reducible refine Kd.C_drew ?_))); (case aB => exact (by repeat (first | (with_reducible first | exact HB.out | apply below_alloc | apply pw_below_drewN | apply below_drew1 | refine below_set ?_ GE962.out | refine below_set ?_ GE969.out) | exact HB.out))); (case aF => exact (fun k_ hk => ⟨Kd.fresh' (Kd.R_lt (by (with_reducible repeat (first | apply Kd.R_alloc | apply Kd.R_drewN | apply Kd.R_drew)); exact HO_6.out)) k_ hk, Kd.fresh' (Kd.R_lt (by (with_reducible repeat (first | apply Kd.R_alloc | apply Kd.R_drewN | apply Kd.R_drew)); exact HO_7.out)) k_ hk, Kd.fresh' (Kd.R_lt (by (with_reducible repeat (first | apply Kd.R_alloc | apply Kd.R_drewN | apply Kd.R_drew)); exact HO_8.out)) k_ hk⟩)); (case aO => exact (by (with_reducible repeat (first | apply Kd.R_alloc | apply Kd.R_drewN | apply Kd.R_drew)); exact HO972.out)); (case aS => exact (below_size (by repeat (first | (with_reducible first | exact HB.out | apply below_alloc | apply pw_below_drewN | apply below_drew1 | refine below_set ?_ GE962.out | refine below_set ?_ GE969.out) | exact HB.out)))); (case aL => have := LMc18.out; omega); intro v974 w48 ho hb hg hat; rw [← Ny973.out] at ho; have n0_ := Aside0.mk (Kd.R_after (ok := (fun k_ => some k_ ≠ (.slice Ao40 t949.length co40 : Value).ownBlock ∧ some k_ ≠ (u8 : Value).ownBlock)) (by (with_reducible repeat (first | apply Kd.R_alloc | apply Kd.R_drewN | apply Kd.R_drew)); exact HO_6.out) hg hat); have n1_ := Aside0.mk (Kd.R_after (ok := (fun k_ => some k_ ≠ (.slice Ao9 t946.length co9 : Value).ownBlock ∧ some k_ ≠ (u8 : Value).ownBlock)) (by (with_reducible repeat (first | apply Kd.R_alloc | apply Kd.R_drewN | apply Kd.R_drew)); exact HO_7.out) hg hat); have n2_ := Aside0.mk (Kd.R_after (ok := (fun k_ => some k_ ≠ (.slice Ao9 t946.length co9 : Value).ownBlock ∧ some k_ ≠ (.slice Ao40 t949.length co40 : Value).ownBlock)) (by (with_reducible repeat (first | apply Kd.R_alloc | apply Kd.R_drewN | apply Kd.R_drew)); exact HO_8.out) hg hat); have n3_ := Aside0.mk (Kd.V_afterv (ok := (fun k_ => some k_ ≠ (.slice Ao9 t946.length co9 : Value).ownBlock ∧ some k_ ≠ (.slice Ao40 t949.length co40 : Value).ownBlock ∧ some k_ ≠ (u8 : Value).ownBlock ∧ k_ ≠ gb962 ∧ k_ ≠ gb969)) (by (with_reducible repeat (first | apply Kd.V_alloc | apply Kd.V_drewN | apply Kd.V_drew)); exact Kd.V_mono HO958.out (fun _ hk => ⟨⟨hk.1.1.1.1, ⟨hk.1.1.1.2.1, ⟨hk.1.1.1.2.2, ⟨hk.1.1.2, hk.1.2⟩⟩⟩⟩, hk.2⟩)) hg hat); have n4_ := Aside0.mk (Kd.V_afterv (ok := (fun k_ => some k_ ≠ (.slice Ao9 t946.length co9 : Value).ownBlock ∧ some k_ ≠ (.slice Ao40 t949.length co40 : Value).ownBlock ∧ some k_ ≠ (u8 : Value).ownBlock ∧ k_ ≠ gb962 ∧ k_ ≠ gb969)) (by (with_reducible repeat (first | apply Kd.V_alloc | apply Kd.V_drewN | apply Kd.V_drew)); exact Kd.V_mono HO961.out (fun _ hk => ⟨⟨hk.1.1.1.1, ⟨hk.1.1.1.2.1, ⟨hk.1.1.1.2.2, ⟨hk.1.1.2, hk.1.2⟩⟩⟩⟩, hk.2⟩)) hg hat); have n5_ := Aside0.mk (blk_grown (g := gb962) (o := .cells #[.slice Ao37 t956.length co37, .slice Ao39 t959.length co39] 45 (0, 0)) (by (with_reducible repeat (first | refine blk_drewN ?_ _ | refine blk_drew ?_ | refine blk_alloc ?_ _)); exact BK962.out) hg (Kd.R_ne HO972.out BK962.out (by decide))); have n6_ := Aside0.mk (Kd.V_afterv (ok := (fun k_ => some k_ ≠ (.slice Ao9 t946.length co9 : Value).ownBlock ∧ some k_ ≠ (.slice Ao40 t949.length co40 : Value).ownBlock ∧ some k_ ≠ (u8 : Value).ownBlock ∧ k_ ≠ gb962 ∧ k_ ≠ gb969)) (by (with_reducible repeat (first | apply Kd.V_alloc | apply Kd.V_drewN | apply Kd.V_drew)); exact Kd.V_mono HO965.out (fun _ hk => ⟨⟨hk.1.1.1, ⟨hk.1.1.2.1, ⟨hk.1.1.2.2.1, ⟨hk.1.1.2.2.2, hk.1.2⟩⟩⟩⟩, hk.2⟩)) hg hat); have n7_ := Aside0.mk (Kd.V_afterv (ok := (fun k_ => some k_ ≠ (.slice Ao9 t946.length co9 : Value).ownBlock ∧ some k_ ≠ (.slice Ao40 t949.length co40 : Value).ownBlock ∧ some k_ ≠ (u8 : Value).ownBlock ∧ k_ ≠ gb962 ∧ k_ ≠ gb969)) (by (with_reducible repeat (first | apply Kd.V_alloc | apply Kd.V_drewN | apply Kd.V_drew)); exact Kd.V_mono HO968.out (fun _ hk => ⟨⟨hk.1.1.1, ⟨hk.1.1.2.1, ⟨hk.1.1.2.2.1, ⟨hk.1.1.2.2.2, hk.1.2⟩⟩⟩⟩, hk.2⟩)) hg hat); have n8_ := Aside0.mk (blk_grown (g := gb969) (o := .cells #[.slice Ao43 t963.length co43, .slice Ao46 t966.length co46] 45 (0, 0)) (by (with_reducible repeat (first | refine blk_drewN ?_ _ | refine blk_drew ?_ | refine blk_alloc ?_ _)); exact BK969.out) hg (Kd.R_ne HO972.out BK969.out (by decide))); have n9_ := Aside0.mk (hb); have n10_ := Aside0.mk (ho); clear HO_6; clear HO_7; clear HO_8; clear HO958; clear HO961; clear BK962; clear HO965; clear HO968; clear BK969; clear HB; clear HO972; have HO_6 := n0_; have HO_7 := n1_; have HO_8 := n2_; have HO958 := n3_; have HO961 := n4_; have BK962 := n5_; have HO965 := n6_; have HO968 := n7_; have BK969 := n8_; have HB := n9_; have HO975 := n10_; clear n0_ n1_ n2_ n3_ n4_ n5_ n6_ n7_ n8_ n9_ n10_; clear ho hb hg hat; have hcz49_0 : w48.cell? ⟨gb962, 0, none⟩ = some (.slice Ao37 t956.length co37) := (blk_cell BK962.out 0).trans rfl; have hcz49_1 : w48.cell? ⟨gb962, 1, none⟩ = some (.slice Ao39 t959.length co39) := (blk_cell BK962.out 1).trans rfl; have hfz49_0 := blk_frozen BK962.out 0; have hfz49_1 := blk_frozen BK962.out 1; have hcz50_0 : w48.cell? ⟨gb969, 0, none⟩ = some (.slice Ao43 t963.length co43) := (blk_cell BK969.out 0).trans rfl; have hcz50_1 : w48.cell? ⟨gb969, 1, none⟩ = some (.slice Ao46 t966.length co46) := (blk_cell BK969.out 1).trans rfl; have hfz50_0 := blk_frozen BK969.out 0; have hfz50_1 := blk_frozen BK969.out 1) | ((with_reducible refine gate_callee (f := 45) rfl ?_); refine goesL_ (some 47) rfl rfl Try.func45 (by kernel_rfl) rfl #[.agg #[.slice Ao37 t956.length co37, .slice Ao39 t959.length co39], .agg #[.slice Ao43 t963.length co43, .slice Ao46 t966.length co46]] rfl (by (try simp only [List.map_toArray, List.map_cons, List.map_nil]); first | done | rfl | (simp only [List.length_drop, List.length_take]; rfl)) ?_; (with_reducible refine (ratio_Add.calls k1 _ _ t956 _ _ t959 _ _ t963 _ _ t966 t976 t979 _ ?side1 ?side2 ?side3 ?side4 ?side5 ?side6 ?side7 ?side8 A19.out).mono ?_); (case side1 => repeat (first | exact (Kd.V_reads' HO958.out).2.2 | (with_reducible refine Kd.C_alloc ?_ _) | (with_reducible refine Kd.C_drewN ?_ _) | (with_reducible refine Kd.C_drew ?_))); (case side2 => exact (Kd.V_reads' HO958.out).2.1); (case side3 => repeat (first | exact (Kd.V_reads' HO961.out).2.2 | (with_reducible refine Kd.C_alloc ?_ _) | (with_reducible refine Kd.C_drewN ?_ _) | (with_reducible refine Kd.C_drew ?_))); (case side4 => exact (Kd.V_reads' HO961.out).2.1); (case side5 => repeat (first | exact (Kd.V_reads' HO965.out).2.2 | (with_reducible refine Kd.C_alloc ?_ _) | (with_reducible refine Kd.C_drewN ?_ _) | (with_reducible refine Kd.C_drew ?_))); (case side6 => exact (Kd.V_reads' HO965.out).2.1); (case side7 => repeat (first | exact (Kd.V_reads' HO968.out).2.2 | (with_reducible refine Kd.C_alloc ?_ _) | (with_reducible refine Kd.C_drewN ?_ _) | (with_reducible refine Kd.C_drew ?_))); (case side8 => exact (Kd.V_reads' HO968.out).2.1); rintro e w51 ⟨v977, v980, rfl, ho0, ho1, hb⟩; refine ⟨_, rfl, ?_⟩; have n0_ := Aside0.mk (Kd.R_below (by (with_reducible repeat (first | apply Kd.R_alloc | apply Kd.R_drewN | apply Kd.R_drew)); exact HO_6.out) hb); have n1_ := Aside0.mk (Kd.R_below (by (with_reducible repeat (first | apply Kd.R_alloc | apply Kd.R_drewN | apply Kd.R_drew)); exact HO_7.out) hb); have n2_ := Aside0.mk (Kd.R_below (by (with_reducible repeat (first | apply Kd.R_alloc | apply Kd.R_drewN | apply Kd.R_drew)); exact HO_8.out) hb); have n3_ := Aside0.mk (Kd.V_below (by (with_reducible repeat (first | apply Kd.V_alloc | apply Kd.V_drewN | apply Kd.V_drew)); exact HO958.out) hb); have n4_ := Aside0.mk (Kd.V_below (by (with_reducible repeat (first | apply Kd.V_alloc | apply Kd.V_drewN | apply Kd.V_drew)); exact HO961.out) hb); have n5_ := Aside0.mk (Kd.V_below (by (with_reducible repeat (first | apply Kd.V_alloc | apply Kd.V_drewN | apply Kd.V_drew)); exact HO965.out) hb); have n6_ := Aside0.mk (Kd.V_below (by (with_reducible repeat (first | apply Kd.V_alloc | apply Kd.V_drewN | apply Kd.V_drew)); exact HO968.out) hb); have n7_ := Aside0.mk (Kd.R_below (by (with_reducible repeat (first | apply Kd.R_alloc | apply Kd.R_drewN | apply Kd.R_drew)); exact HO975.out) hb); have n8_ := Aside0.mk (Kd.V_lower (Kd.V_mono (ok' := fun k_ => some k_ ≠ (.slice Ao9 t946.length co9 : Value).ownBlock ∧ some k_ ≠ (.slice Ao40 t949.length co40 : Value).ownBlock ∧ some k_ ≠ (u8 : Value).ownBlock ∧ some k_ ≠ (v974 : Value).ownBlock ∧ k_ ≠ gb962 ∧ k_ ≠ gb969) ho0 (fun k_ hk_ => ⟨(Kd.fresh' (Kd.R_lt (by (with_reducible repeat (first | apply Kd.R_alloc | apply Kd.R_drewN | apply Kd.R_drew)); exact HO_6.out)) k_ hk_), (Kd.fresh' (Kd.R_lt (by (with_reducible repeat (first | apply Kd.R_alloc | apply Kd.R_drewN | apply Kd.R_drew)); exact HO_7.out)) k_ hk_), (Kd.fresh' (Kd.R_lt (by (with_reducible repeat (first | apply Kd.R_alloc | apply Kd.R_drewN | apply Kd.R_drew)); exact HO_8.out)) k_ hk_), (Kd.fresh' (Kd.R_lt (by (with_reducible repeat (first | apply Kd.R_alloc | apply Kd.R_drewN | apply Kd.R_drew)); exact HO975.out)) k_ hk_), (Kd.freshB (g := gb962) (o := .cells #[.slice Ao37 t956.length co37, .slice Ao39 t959.length co39] 45 (0, 0)) (by (with_reducible repeat (first | refine blk_drewN ?_ _ | refine blk_drew ?_ | refine blk_alloc ?_ _)); exact BK962.out) k_ hk_), (Kd.freshB (g := gb969) (o := .cells #[.slice Ao43 t963.length co43, .slice Ao46 t966.length co46] 45 (0, 0)) (by (with_reducible repeat (first | refine blk_drewN ?_ _ | refine blk_drew ?_ | refine blk_alloc ?_ _)); exact BK969.out) k_ hk_)⟩)) (below_size (by repeat (first | (with_reducible first | exact HB.out | apply below_alloc | apply pw_below_drewN | apply below_drew1 | refine below_set ?_ GE962.out | refine below_set ?_ GE969.out) | exact HB.out)))); have n9_ := Aside0.mk (Kd.V_lower (Kd.V_mono (ok' := fun k_ => some k_ ≠ (.slice Ao9 t946.length co9 : Value).ownBlock ∧ some k_ ≠ (.slice Ao40 t949.length co40 : Value).ownBlock ∧ some k_ ≠ (u8 : Value).ownBlock ∧ some k_ ≠ (v974 : Value).ownBlock ∧ k_ ≠ gb962 ∧ k_ ≠ gb969) ho1 (fun k_ hk_ => ⟨(Kd.fresh' (Kd.R_lt (by (with_reducible repeat (first | apply Kd.R_alloc | apply Kd.R_drewN | apply Kd.R_drew)); exact HO_6.out)) k_ hk_), (Kd.fresh' (Kd.R_lt (by (with_reducible repeat (first | apply Kd.R_alloc | apply Kd.R_drewN | apply Kd.R_drew)); exact HO_7.out)) k_ hk_), (Kd.fresh' (Kd.R_lt (by (with_reducible repeat (first | apply Kd.R_alloc | apply Kd.R_drewN | apply Kd.R_drew)); exact HO_8.out)) k_ hk_), (Kd.fresh' (Kd.R_lt (by (with_reducible repeat (first | apply Kd.R_alloc | apply Kd.R_drewN | apply Kd.R_drew)); exact HO975.out)) k_ hk_), (Kd.freshB (g := gb962) (o := .cells #[.slice Ao37 t956.length co37, .slice Ao39 t959.length co39] 45 (0, 0)) (by (with_reducible repeat (first | refine blk_drewN ?_ _ | refine blk_drew ?_ | refine blk_alloc ?_ _)); exact BK962.out) k_ hk_), (Kd.freshB (g := gb969) (o := .cells #[.slice Ao43 t963.length co43, .slice Ao46 t966.length co46] 45 (0, 0)) (by (with_reducible repeat (first | refine blk_drewN ?_ _ | refine blk_drew ?_ | refine blk_alloc ?_ _)); exact BK969.out) k_ hk_)⟩)) (below_size (by repeat (first | (with_reducible first | exact HB.out | apply below_alloc | apply pw_below_drewN | apply below_drew1 | refine below_set ?_ GE962.out | refine below_set ?_ GE969.out) | exact HB.out)))); have n10_ := Aside0.mk (blk_below (g := gb962) (o := .cells #[.slice Ao37 t956.length co37, .slice Ao39 t959.length co39] 45 (0, 0)) (by (with_reducible repeat (first | refine blk_drewN ?_ _ | refine blk_drew ?_ | refine blk_alloc ?_ _)); exact BK962.out) hb); have n11_ := Aside0.mk (blk_below (g := gb969) (o := .cells #[.slice Ao43 t963.length co43, .slice Ao46 t966.length co46] 45 (0, 0)) (by (with_reducible repeat (first | refine blk_drewN ?_ _ | refine blk_drew ?_ | refine blk_alloc ?_ _)); exact BK969.out) hb); have n12_ := Aside0.mk (below_step (by repeat (first | (with_reducible first | exact HB.out | apply below_alloc | apply pw_below_drewN | apply below_drew1 | refine below_set ?_ GE962.out | refine below_set ?_ GE969.out) | exact HB.out)) hb); clear HO_6; clear HO_7; clear HO_8; clear HO958; clear HO961; clear HO965; clear HO968; clear HO975; clear BK962; clear BK969; clear HB; have HO_6 := n0_; have HO_7 := n1_; have HO_8 := n2_; have HO958 := n3_; have HO961 := n4_; have HO965 := n5_; have HO968 := n6_; have HO975 := n7_; have HO978 := n8_; have HO981 := n9_; have BK962 := n10_; have BK969 := n11_; have HB := n12_; clear n0_ n1_ n2_ n3_ n4_ n5_ n6_ n7_ n8_ n9_ n10_ n11_ n12_; (try clear hb); (try clear hb2); (try clear hk); (try clear hi); (try clear ho0); (try clear ho1)) | ((with_reducible refine gate_dst (N := 13) rfl ?_); refine box_event ?hg (N := 13) ?hd (cs := #[.slice none 0 0, .slice none 0 0]) (t := 45) ?hr ?_; (case hd => rfl); (case hg => rfl); (case hr => first | (go_simp; done) | (go_simp; rfl)); intro gb982 hg w52 hbox hb; have n0_ := Aside0.mk (Kd.R_below (by (with_reducible repeat (first | apply Kd.R_alloc | apply Kd.R_drewN | apply Kd.R_drew)); exact HO_6.out) hb); have n1_ := Aside0.mk (Kd.R_below (by (with_reducible repeat (first | apply Kd.R_alloc | apply Kd.R_drewN | apply Kd.R_drew)); exact HO_7.out) hb); have n2_ := Aside0.mk (Kd.R_below (by (with_reducible repeat (first | apply Kd.R_alloc | apply Kd.R_drewN | apply Kd.R_drew)); exact HO_8.out) hb); have n3_ := Aside0.mk (Kd.V_below (Kd.V_elderB (by (with_reducible repeat (first | apply Kd.V_alloc | apply Kd.V_drewN | apply Kd.V_drew)); exact HO958.out) gb982 (Nat.le_of_eq hg.symm)) hb); have n4_ := Aside0.mk (Kd.V_below (Kd.V_elderB (by (with_reducible repeat (first | apply Kd.V_alloc | apply Kd.V_drewN | apply Kd.V_drew)); exact HO961.out) gb982 (Nat.le_of_eq hg.symm)) hb); have n5_ := Aside0.mk (Kd.V_below (Kd.V_elderB (by (with_reducible repeat (first | apply Kd.V_alloc | apply Kd.V_drewN | apply Kd.V_drew)); exact HO965.out) gb982 (Nat.le_of_eq hg.symm)) hb); have n6_ := Aside0.mk (Kd.V_below (Kd.V_elderB (by (with_reducible repeat (first | apply Kd.V_alloc | apply Kd.V_drewN | apply Kd.V_drew)); exact HO968.out) gb982 (Nat.le_of_eq hg.symm)) hb); have n7_ := Aside0.mk (Kd.R_below (by (with_reducible repeat (first | apply Kd.R_alloc | apply Kd.R_drewN | apply Kd.R_drew)); exact HO975.out) hb); have n8_ := Aside0.mk (Kd.V_below (Kd.V_elderB (by (with_reducible repeat (first | apply Kd.V_alloc | apply Kd.V_drewN | apply Kd.V_drew)); exact HO978.out) gb982 (Nat.le_of_eq hg.symm)) hb); have n9_ := Aside0.mk (Kd.V_below (Kd.V_elderB (by (with_reducible repeat (first | apply Kd.V_alloc | apply Kd.V_drewN | apply Kd.V_drew)); exact HO981.out) gb982 (Nat.le_of_eq hg.symm)) hb); have n10_ := Aside0.mk (blk_below (g := gb962) (o := .cells #[.slice Ao37 t956.length co37, .slice Ao39 t959.length co39] 45 (0, 0)) (by (with_reducible repeat (first | refine blk_drewN ?_ _ | refine blk_drew ?_ | refine blk_alloc ?_ _)); exact BK962.out) hb); have n11_ := Aside0.mk (blk_below (g := gb969) (o := .cells #[.slice Ao43 t963.length co43, .slice Ao46 t966.length co46] 45 (0, 0)) (by (with_reducible repeat (first | refine blk_drewN ?_ _ | refine blk_drew ?_ | refine blk_alloc ?_ _)); exact BK969.out) hb); have n12_ := Aside0.mk (below_step (by repeat (first | (with_reducible first | exact HB.out | apply below_alloc | apply pw_below_drewN | apply below_drew1 | refine below_set ?_ GE962.out | refine below_set ?_ GE969.out) | exact HB.out)) hb); have n13_ := Aside0.mk (hbox); have n14_ := Aside0.mk ((by rw [hg]; exact (below_size (by repeat (first | (with_reducible first | exact HB.out | apply below_alloc | apply pw_below_drewN | apply below_drew1 | refine below_set ?_ GE962.out | refine below_set ?_ GE969.out) | exact HB.out))) : w.heap.size ≤ gb982)); have n15_ := Aside0.mk ((by rw [hg]; exact (below_size (by repeat (first | (with_reducible first | exact HB.out | apply below_alloc | apply pw_below_drewN | apply below_drew1 | refine below_set ?_ GE962.out | refine below_set ?_ GE969.out) | exact HB.out))) : w.heap.size ≤ gb982)); have n16_ := Aside0.mk ((by rw [hg]; exact Nat.ne_of_lt (blk_lt (g := gb962) (o := .cells #[.slice Ao37 t956.length co37, .slice Ao39 t959.length co39] 45 (0, 0)) (by (with_reducible repeat (first | refine blk_drewN ?_ _ | refine blk_drew ?_ | refine blk_alloc ?_ _)); exact BK962.out)) : gb962 ≠ gb982)); have n17_ := Aside0.mk ((by rw [hg]; exact Nat.ne_of_gt (blk_lt (g := gb962) (o := .cells #[.slice Ao37 t956.length co37, .slice Ao39 t959.length co39] 45 (0, 0)) (by (with_reducible repeat (first | refine blk_drewN ?_ _ | refine blk_drew ?_ | refine blk_alloc ?_ _)); exact BK962.out)) : gb982 ≠ gb962)); have n18_ := Aside0.mk ((by rw [hg]; exact Nat.ne_of_lt (blk_lt (g := gb969) (o := .cells #[.slice Ao43 t963.length co43, .slice Ao46 t966.length co46] 45 (0, 0)) (by (with_reducible repeat (first | refine blk_drewN ?_ _ | refine blk_drew ?_ | refine blk_alloc ?_ _)); exact BK969.out)) : gb969 ≠ gb982)); have n19_ := Aside0.mk ((by rw [hg]; exact Nat.ne_of_gt (blk_lt (g := gb969) (o := .cells #[.slice Ao43 t963.length co43, .slice Ao46 t966.length co46] 45 (0, 0)) (by (with_reducible repeat (first | refine blk_drewN ?_ _ | refine blk_drew ?_ | refine blk_alloc ?_ _)); exact BK969.out)) : gb982 ≠ gb969)); clear HO_6; clear HO_7; clear HO_8; clear HO958; clear HO961; clear HO965; clear HO968; clear HO975; clear HO978; clear HO981; clear BK962; clear BK969; clear HB; have HO_6 := n0_; have HO_7 := n1_; have HO_8 := n2_; have HO958 := n3_; have HO961 := n4_; have HO965 := n5_; have HO968 := n6_; have HO975 := n7_; have HO978 := n8_; have HO981 := n9_; have BK962 := n10_; have BK969 := n11_; have HB := n12_; have BK982 := n13_; have GW982 := n14_; have GE982 := n15_; have NB962_982 := n16_; have NB982_962 := n17_; have NB969_982 := n18_; have NB982_969 := n19_; clear n0_ n1_ n2_ n3_ n4_ n5_ n6_ n7_ n8_ n9_ n10_ n11_ n12_ n13_ n14_ n15_ n16_ n17_ n18_ n19_; clear hb hbox hg; obtain ⟨Ao53, co53, eo53⟩ := Kd.V_slice HO978.out; subst eo53; have hnb54 := NB982_962.out; have hnc54 := NB962_982.out; have hnb55 := NB982_969.out; have hnc55 := NB969_982.out; have hcz56_0 : w52.cell? ⟨gb982, 0, none⟩ = some (.slice none 0 0) := (blk_cell BK982.out 0).trans rfl; have hcz56_1 : w52.cell? ⟨gb982, 1, none⟩ = some (.slice none 0 0) := (blk_cell BK982.out 1).trans rfl; have hfz56_0 := blk_frozen BK982.out 0; have hfz56_1 := blk_frozen BK982.out 1; obtain ⟨Ao57, co57, eo57⟩ := Kd.V_slice HO981.out; subst eo57; have hcz58_0 : w52.cell? ⟨gb969, 0, none⟩ = some (.slice Ao43 t963.length co43) := (blk_cell BK969.out 0).trans rfl; have hcz58_1 : w52.cell? ⟨gb969, 1, none⟩ = some (.slice Ao46 t966.length co46) := (blk_cell BK969.out 1).trans rfl; have hfz58_0 := blk_frozen BK969.out 0; have hfz58_1 := blk_frozen BK969.out 1) | ((with_reducible refine gate_callee (f := 47) rfl ?_); refine goesL_ (some 51) rfl rfl Try.func47 (by kernel_rfl) rfl #[.agg #[.slice Ao53 t976.length co53, .slice Ao57 t979.length co57], .agg #[.slice Ao43 t963.length co43, .slice Ao46 t966.length co46]] rfl (by (try simp only [List.map_toArray, List.map_cons, List.map_nil]); first | done | rfl | (simp only [List.length_drop, List.length_take]; rfl)) ?_; (with_reducible refine (ratio_Sub.calls k1 _ _ t976 _ _ t979 _ _ t963 _ _ t966 t983 t986 t989 _ ?side1 ?side2 ?side3 ?side4 ?side5 ?side6 ?side7 ?side8 A20.out).mono ?_); (case side1 => refine (Kd.V_reads' (e := 30) (base := w.heap.size) (ok := fun k_ => ((some k_ ≠ (.slice Ao9 t946.length co9 : Value).ownBlock ∧ (some k_ ≠ (.slice Ao40 t949.length co40 : Value).ownBlock ∧ (some k_ ≠ (u8 : Value).ownBlock ∧ (some k_ ≠ (v974 : Value).ownBlock ∧ (k_ ≠ gb962 ∧ k_ ≠ gb969))))) ∧ k_ ≠ gb982)) (n := t976.length) (c := co53) ?_).2.2; exact (by (with_reducible repeat (first | apply Kd.V_alloc | apply Kd.V_drewN | apply Kd.V_drew)); exact (Kd.V_mono (Kd.V_far (p := ⟨gb982, 1, none⟩) (Kd.V_far (p := ⟨gb982, 0, none⟩) (Kd.V_mono HO978.out (fun k_ hk => (⟨hk, hk.2⟩ : _ ∧ k_ ≠ gb982))) (fun _ hk => hk.2) (.slice Ao53 t976.length co53)) (fun _ hk => hk.2) (.slice Ao57 t979.length co57)) (fun _ h_ => h_.1)))); (case side2 => exact (Kd.V_reads' HO978.out).2.1); (case side3 => refine (Kd.V_reads' (e := 30) (base := w.heap.size) (ok := fun k_ => ((some k_ ≠ (.slice Ao9 t946.length co9 : Value).ownBlock ∧ (some k_ ≠ (.slice Ao40 t949.length co40 : Value).ownBlock ∧ (some k_ ≠ (u8 : Value).ownBlock ∧ (some k_ ≠ (v974 : Value).ownBlock ∧ (k_ ≠ gb962 ∧ k_ ≠ gb969))))) ∧ k_ ≠ gb982)) (n := t979.length) (c := co57) ?_).2.2; exact (by (with_reducible repeat (first | apply Kd.V_alloc | apply Kd.V_drewN | apply Kd.V_drew)); exact (Kd.V_mono (Kd.V_far (p := ⟨gb982, 1, none⟩) (Kd.V_far (p := ⟨gb982, 0, none⟩) (Kd.V_mono HO981.out (fun k_ hk => (⟨hk, hk.2⟩ : _ ∧ k_ ≠ gb982))) (fun _ hk => hk.2) (.slice Ao53 t976.length co53)) (fun _ hk => hk.2) (.slice Ao57 t979.length co57)) (fun _ h_ => h_.1)))); (case side4 => exact (Kd.V_reads' HO981.out).2.1); (case side5 => refine (Kd.V_reads' (e := 30) (base := w.heap.size) (ok := fun k_ => (((some k_ ≠ (.slice Ao9 t946.length co9 : Value).ownBlock ∧ (some k_ ≠ (.slice Ao40 t949.length co40 : Value).ownBlock ∧ (some k_ ≠ (u8 : Value).ownBlock ∧ (k_ ≠ gb962 ∧ k_ ≠ gb969)))) ∧ some k_ ≠ (v974 : Value).ownBlock) ∧ k_ ≠ gb982)) (n := t963.length) (c := co43) ?_).2.2; exact (by (with_reducible repeat (first | apply Kd.V_alloc | apply Kd.V_drewN | apply Kd.V_drew)); exact (Kd.V_mono (Kd.V_far (p := ⟨gb982, 1, none⟩) (Kd.V_far (p := ⟨gb982, 0, none⟩) (Kd.V_mono HO965.out (fun k_ hk => (⟨hk, hk.2⟩ : _ ∧ k_ ≠ gb982))) (fun _ hk => hk.2) (.slice Ao53 t976.length co53)) (fun _ hk => hk.2) (.slice Ao57 t979.length co57)) (fun _ h_ => h_.1)))); (case side6 => exact (Kd.V_reads' HO965.out).2.1); (case side7 => refine (Kd.V_reads' (e := 30) (base := w.heap.size) (ok := fun k_ => (((some k_ ≠ (.slice Ao9 t946.length co9 : Value).ownBlock ∧ (some k_ ≠ (.slice Ao40 t949.length co40 : Value).ownBlock ∧ (some k_ ≠ (u8 : Value).ownBlock ∧ (k_ ≠ gb962 ∧ k_ ≠ gb969)))) ∧ some k_ ≠ (v974 : Value).ownBlock) ∧ k_ ≠ gb982)) (n := t966.length) (c := co46) ?_).2.2; exact (by (with_reducible repeat (first | apply Kd.V_alloc | apply Kd.V_drewN | apply Kd.V_drew)); exact (Kd.V_mono (Kd.V_far (p := ⟨gb982, 1, none⟩) (Kd.V_far (p := ⟨gb982, 0, none⟩) (Kd.V_mono HO968.out (fun k_ hk => (⟨hk, hk.2⟩ : _ ∧ k_ ≠ gb982))) (fun _ hk => hk.2) (.slice Ao53 t976.length co53)) (fun _ hk => hk.2) (.slice Ao57 t979.length co57)) (fun _ h_ => h_.1)))); (case side8 => exact (Kd.V_reads' HO968.out).2.1); rintro e w59 ⟨v984, v987, rfl, ho0, ho1, hb⟩; refine ⟨_, rfl, ?_⟩; have n0_ := Aside0.mk (Kd.R_below (by (with_reducible repeat (first | apply Kd.R_alloc | apply Kd.R_drewN | apply Kd.R_drew)); exact (Kd.R_mono (Kd.R_far (p := ⟨gb982, 1, none⟩) (Kd.R_far (p := ⟨gb982, 0, none⟩) (Kd.R_types HO_6.out BK982.out (by decide)) (fun _ hk => hk.2) (.slice Ao53 t976.length co53)) (fun _ hk => hk.2) (.slice Ao57 t979.length co57)) (fun _ h_ => h_.1))) hb); have n1_ := Aside0.mk (Kd.R_below (by (with_reducible repeat (first | apply Kd.R_alloc | apply Kd.R_drewN | apply Kd.R_drew)); exact (Kd.R_mono (Kd.R_far (p := ⟨gb982, 1, none⟩) (Kd.R_far (p := ⟨gb982, 0, none⟩) (Kd.R_types HO_7.out BK982.out (by decide)) (fun _ hk => hk.2) (.slice Ao53 t976.length co53)) (fun _ hk => hk.2) (.slice Ao57 t979.length co57)) (fun _ h_ => h_.1))) hb); have n2_ := Aside0.mk (Kd.R_below (by (with_reducible repeat (first | apply Kd.R_alloc | apply Kd.R_drewN | apply Kd.R_drew)); exact (Kd.R_mono (Kd.R_far (p := ⟨gb982, 1, none⟩) (Kd.R_far (p := ⟨gb982, 0, none⟩) (Kd.R_types HO_8.out BK982.out (by decide)) (fun _ hk => hk.2) (.slice Ao53 t976.length co53)) (fun _ hk => hk.2) (.slice Ao57 t979.length co57)) (fun _ h_ => h_.1))) hb); have n3_ := Aside0.mk (Kd.V_below (by (with_reducible repeat (first | apply Kd.V_alloc | apply Kd.V_drewN | apply Kd.V_drew)); exact (Kd.V_mono (Kd.V_far (p := ⟨gb982, 1, none⟩) (Kd.V_far (p := ⟨gb982, 0, none⟩) (Kd.V_mono HO958.out (fun k_ hk => (⟨hk, hk.2⟩ : _ ∧ k_ ≠ gb982))) (fun _ hk => hk.2) (.slice Ao53 t976.length co53)) (fun _ hk => hk.2) (.slice Ao57 t979.length co57)) (fun _ h_ => h_.1))) hb); have n4_ := Aside0.mk (Kd.V_below (by (with_reducible repeat (first | apply Kd.V_alloc | apply Kd.V_drewN | apply Kd.V_drew)); exact (Kd.V_mono (Kd.V_far (p := ⟨gb982, 1, none⟩) (Kd.V_far (p := ⟨gb982, 0, none⟩) (Kd.V_mono HO961.out (fun k_ hk => (⟨hk, hk.2⟩ : _ ∧ k_ ≠ gb982))) (fun _ hk => hk.2) (.slice Ao53 t976.length co53)) (fun _ hk => hk.2) (.slice Ao57 t979.length co57)) (fun _ h_ => h_.1))) hb); have n5_ := Aside0.mk (Kd.V_below (by (with_reducible repeat (first | apply Kd.V_alloc | apply Kd.V_drewN | apply Kd.V_drew)); exact (Kd.V_mono (Kd.V_far (p := ⟨gb982, 1, none⟩) (Kd.V_far (p := ⟨gb982, 0, none⟩) (Kd.V_mono HO965.out (fun k_ hk => (⟨hk, hk.2⟩ : _ ∧ k_ ≠ gb982))) (fun _ hk => hk.2) (.slice Ao53 t976.length co53)) (fun _ hk => hk.2) (.slice Ao57 t979.length co57)) (fun _ h_ => h_.1))) hb); have n6_ := Aside0.mk (Kd.V_below (by (with_reducible repeat (first | apply Kd.V_alloc | apply Kd.V_drewN | apply Kd.V_drew)); exact (Kd.V_mono (Kd.V_far (p := ⟨gb982, 1, none⟩) (Kd.V_far (p := ⟨gb982, 0, none⟩) (Kd.V_mono HO968.out (fun k_ hk => (⟨hk, hk.2⟩ : _ ∧ k_ ≠ gb982))) (fun _ hk => hk.2) (.slice Ao53 t976.length co53)) (fun _ hk => hk.2) (.slice Ao57 t979.length co57)) (fun _ h_ => h_.1))) hb); have n7_ := Aside0.mk (Kd.R_below (by (with_reducible repeat (first | apply Kd.R_alloc | apply Kd.R_drewN | apply Kd.R_drew)); exact (Kd.R_mono (Kd.R_far (p := ⟨gb982, 1, none⟩) (Kd.R_far (p := ⟨gb982, 0, none⟩) (Kd.R_types HO975.out BK982.out (by decide)) (fun _ hk => hk.2) (.slice Ao53 t976.length co53)) (fun _ hk => hk.2) (.slice Ao57 t979.length co57)) (fun _ h_ => h_.1))) hb); have n8_ := Aside0.mk (Kd.V_below (by (with_reducible repeat (first | apply Kd.V_alloc | apply Kd.V_drewN | apply Kd.V_drew)); exact (Kd.V_mono (Kd.V_far (p := ⟨gb982, 1, none⟩) (Kd.V_far (p := ⟨gb982, 0, none⟩) (Kd.V_mono HO978.out (fun k_ hk => (⟨hk, hk.2⟩ : _ ∧ k_ ≠ gb982))) (fun _ hk => hk.2) (.slice Ao53 t976.length co53)) (fun _ hk => hk.2) (.slice Ao57 t979.length co57)) (fun _ h_ => h_.1))) hb); have n9_ := Aside0.mk (Kd.V_below (by (with_reducible repeat (first | apply Kd.V_alloc | apply Kd.V_drewN | apply Kd.V_drew)); exact (Kd.V_mono (Kd.V_far (p := ⟨gb982, 1, none⟩) (Kd.V_far (p := ⟨gb982, 0, none⟩) (Kd.V_mono HO981.out (fun k_ hk => (⟨hk, hk.2⟩ : _ ∧ k_ ≠ gb982))) (fun _ hk => hk.2) (.slice Ao53 t976.length co53)) (fun _ hk => hk.2) (.slice Ao57 t979.length co57)) (fun _ h_ => h_.1))) hb); have n10_ := Aside0.mk (Kd.V_lower (Kd.V_mono (ok' := fun k_ => some k_ ≠ (.slice Ao9 t946.length co9 : Value).ownBlock ∧ some k_ ≠ (.slice Ao40 t949.length co40 : Value).ownBlock ∧ some k_ ≠ (u8 : Value).ownBlock ∧ some k_ ≠ (v974 : Value).ownBlock ∧ k_ ≠ gb962 ∧ k_ ≠ gb969 ∧ k_ ≠ gb982) ho0 (fun k_ hk_ => ⟨(Kd.fresh' (Kd.R_lt (by (with_reducible repeat (first | apply Kd.R_alloc | apply Kd.R_drewN | apply Kd.R_drew)); exact (Kd.R_mono (Kd.R_far (p := ⟨gb982, 1, none⟩) (Kd.R_far (p := ⟨gb982, 0, none⟩) (Kd.R_types HO_6.out BK982.out (by decide)) (fun _ hk => hk.2) (.slice Ao53 t976.length co53)) (fun _ hk => hk.2) (.slice Ao57 t979.length co57)) (fun _ h_ => h_.1)))) k_ hk_), (Kd.fresh' (Kd.R_lt (by (with_reducible repeat (first | apply Kd.R_alloc | apply Kd.R_drewN | apply Kd.R_drew)); exact (Kd.R_mono (Kd.R_far (p := ⟨gb982, 1, none⟩) (Kd.R_far (p := ⟨gb982, 0, none⟩) (Kd.R_types HO_7.out BK982.out (by decide)) (fun _ hk => hk.2) (.slice Ao53 t976.length co53)) (fun _ hk => hk.2) (.slice Ao57 t979.length co57)) (fun _ h_ => h_.1)))) k_ hk_), (Kd.fresh' (Kd.R_lt (by (with_reducible repeat (first | apply Kd.R_alloc | apply Kd.R_drewN | apply Kd.R_drew)); exact (Kd.R_mono (Kd.R_far (p := ⟨gb982, 1, none⟩) (Kd.R_far (p := ⟨gb982, 0, none⟩) (Kd.R_types HO_8.out BK982.out (by decide)) (fun _ hk => hk.2) (.slice Ao53 t976.length co53)) (fun _ hk => hk.2) (.slice Ao57 t979.length co57)) (fun _ h_ => h_.1)))) k_ hk_), (Kd.fresh' (Kd.R_lt (by (with_reducible repeat (first | apply Kd.R_alloc | apply Kd.R_drewN | apply Kd.R_drew)); exact (Kd.R_mono (Kd.R_far (p := ⟨gb982, 1, none⟩) (Kd.R_far (p := ⟨gb982, 0, none⟩) (Kd.R_types HO975.out BK982.out (by decide)) (fun _ hk => hk.2) (.slice Ao53 t976.length co53)) (fun _ hk => hk.2) (.slice Ao57 t979.length co57)) (fun _ h_ => h_.1)))) k_ hk_), (Kd.freshB (g := gb962) (o := .cells #[.slice Ao37 t956.length co37, .slice Ao39 t959.length co39] 45 (0, 0)) (by (with_reducible repeat (first | refine blk_drewN ?_ _ | refine blk_drew ?_ | refine blk_alloc ?_ _)); refine blk_far ?_ NB962_982.out _; (with_reducible repeat (first | refine blk_drewN ?_ _ | refine blk_drew ?_ | refine blk_alloc ?_ _)); refine blk_far ?_ NB962_982.out _; (with_reducible repeat (first | refine blk_drewN ?_ _ | refine blk_drew ?_ | refine blk_alloc ?_ _)); exact BK962.out) k_ hk_), (Kd.freshB (g := gb969) (o := .cells #[.slice Ao43 t963.length co43, .slice Ao46 t966.length co46] 45 (0, 0)) (by (with_reducible repeat (first | refine blk_drewN ?_ _ | refine blk_drew ?_ | refine blk_alloc ?_ _)); refine blk_far ?_ NB969_982.out _; (with_reducible repeat (first | refine blk_drewN ?_ _ | refine blk_drew ?_ | refine blk_alloc ?_ _)); refine blk_far ?_ NB969_982.out _; (with_reducible repeat (first | refine blk_drewN ?_ _ | refine blk_drew ?_ | refine blk_alloc ?_ _)); exact BK969.out) k_ hk_), (Kd.freshB (g := gb982) (o := .cells #[.slice Ao53 t976.length co53, .slice Ao57 t979.length co57] 45 (0, 0)) (by (with_reducible repeat (first | refine blk_drewN ?_ _ | refine blk_drew ?_ | refine blk_alloc ?_ _)); refine blk_put (cs := #[.slice Ao53 t976.length co53, .slice none 0 0]) ?_ 1 _ rfl; (with_reducible repeat (first | refine blk_drewN ?_ _ | refine blk_drew ?_ | refine blk_alloc ?_ _)); refine blk_put (cs := #[.slice none 0 0, .slice none 0 0]) ?_ 0 _ rfl; (with_reducible repeat (first | refine blk_drewN ?_ _ | refine blk_drew ?_ | refine blk_alloc ?_ _)); exact BK982.out) k_ hk_)⟩)) (below_size (by repeat (first | (with_reducible first | exact HB.out | apply below_alloc | apply pw_below_drewN | apply below_drew1 | refine below_set ?_ GE962.out | refine below_set ?_ GE969.out | refine below_set ?_ GE982.out) | exact HB.out)))); have n11_ := Aside0.mk (Kd.V_lower (Kd.V_mono (ok' := fun k_ => some k_ ≠ (.slice Ao9 t946.length co9 : Value).ownBlock ∧ some k_ ≠ (.slice Ao40 t949.length co40 : Value).ownBlock ∧ some k_ ≠ (u8 : Value).ownBlock ∧ some k_ ≠ (v974 : Value).ownBlock ∧ k_ ≠ gb962 ∧ k_ ≠ gb969 ∧ k_ ≠ gb982) ho1 (fun k_ hk_ => ⟨(Kd.fresh' (Kd.R_lt (by (with_reducible repeat (first | apply Kd.R_alloc | apply Kd.R_drewN | apply Kd.R_drew)); exact (Kd.R_mono (Kd.R_far (p := ⟨gb982, 1, none⟩) (Kd.R_far (p := ⟨gb982, 0, none⟩) (Kd.R_types HO_6.out BK982.out (by decide)) (fun _ hk => hk.2) (.slice Ao53 t976.length co53)) (fun _ hk => hk.2) (.slice Ao57 t979.length co57)) (fun _ h_ => h_.1)))) k_ hk_), (Kd.fresh' (Kd.R_lt (by (with_reducible repeat (first | apply Kd.R_alloc | apply Kd.R_drewN | apply Kd.R_drew)); exact (Kd.R_mono (Kd.R_far (p := ⟨gb982, 1, none⟩) (Kd.R_far (p := ⟨gb982, 0, none⟩) (Kd.R_types HO_7.out BK982.out (by decide)) (fun _ hk => hk.2) (.slice Ao53 t976.length co53)) (fun _ hk => hk.2) (.slice Ao57 t979.length co57)) (fun _ h_ => h_.1)))) k_ hk_), (Kd.fresh' (Kd.R_lt (by (with_reducible repeat (first | apply Kd.R_alloc | apply Kd.R_drewN | apply Kd.R_drew)); exact (Kd.R_mono (Kd.R_far (p := ⟨gb982, 1, none⟩) (Kd.R_far (p := ⟨gb982, 0, none⟩) (Kd.R_types HO_8.out BK982.out (by decide)) (fun _ hk => hk.2) (.slice Ao53 t976.length co53)) (fun _ hk => hk.2) (.slice Ao57 t979.length co57)) (fun _ h_ => h_.1)))) k_ hk_), (Kd.fresh' (Kd.R_lt (by (with_reducible repeat (first | apply Kd.R_alloc | apply Kd.R_drewN | apply Kd.R_drew)); exact (Kd.R_mono (Kd.R_far (p := ⟨gb982, 1, none⟩) (Kd.R_far (p := ⟨gb982, 0, none⟩) (Kd.R_types HO975.out BK982.out (by decide)) (fun _ hk => hk.2) (.slice Ao53 t976.length co53)) (fun _ hk => hk.2) (.slice Ao57 t979.length co57)) (fun _ h_ => h_.1)))) k_ hk_), (Kd.freshB (g := gb962) (o := .cells #[.slice Ao37 t956.length co37, .slice Ao39 t959.length co39] 45 (0, 0)) (by (with_reducible repeat (first | refine blk_drewN ?_ _ | refine blk_drew ?_ | refine blk_alloc ?_ _)); refine blk_far ?_ NB962_982.out _; (with_reducible repeat (first | refine blk_drewN ?_ _ | refine blk_drew ?_ | refine blk_alloc ?_ _)); refine blk_far ?_ NB962_982.out _; (with_reducible repeat (first | refine blk_drewN ?_ _ | refine blk_drew ?_ | refine blk_alloc ?_ _)); exact BK962.out) k_ hk_), (Kd.freshB (g := gb969) (o := .cells #[.slice Ao43 t963.length co43, .slice Ao46 t966.length co46] 45 (0, 0)) (by (with_reducible repeat (first | refine blk_drewN ?_ _ | refine blk_drew ?_ | refine blk_alloc ?_ _)); refine blk_far ?_ NB969_982.out _; (with_reducible repeat (first | refine blk_drewN ?_ _ | refine blk_drew ?_ | refine blk_alloc ?_ _)); refine blk_far ?_ NB969_982.out _; (with_reducible repeat (first | refine blk_drewN ?_ _ | refine blk_drew ?_ | refine blk_alloc ?_ _)); exact BK969.out) k_ hk_), (Kd.freshB (g := gb982) (o := .cells #[.slice Ao53 t976.length co53, .slice Ao57 t979.length co57] 45 (0, 0)) (by (with_reducible repeat (first | refine blk_drewN ?_ _ | refine blk_drew ?_ | refine blk_alloc ?_ _)); refine blk_put (cs := #[.slice Ao53 t976.length co53, .slice none 0 0]) ?_ 1 _ rfl; (with_reducible repeat (first | refine blk_drewN ?_ _ | refine blk_drew ?_ | refine blk_alloc ?_ _)); refine blk_put (cs := #[.slice none 0 0, .slice none 0 0]) ?_ 0 _ rfl; (with_reducible repeat (first | refine blk_drewN ?_ _ | refine blk_drew ?_ | refine blk_alloc ?_ _)); exact BK982.out) k_ hk_)⟩)) (below_size (by repeat (first | (with_reducible first | exact HB.out | apply below_alloc | apply pw_below_drewN | apply below_drew1 | refine below_set ?_ GE962.out | refine below_set ?_ GE969.out | refine below_set ?_ GE982.out) | exact HB.out)))); have n12_ := Aside0.mk (blk_below (g := gb962) (o := .cells #[.slice Ao37 t956.length co37, .slice Ao39 t959.length co39] 45 (0, 0)) (by (with_reducible repeat (first | refine blk_drewN ?_ _ | refine blk_drew ?_ | refine blk_alloc ?_ _)); refine blk_far ?_ NB962_982.out _; (with_reducible repeat (first | refine blk_drewN ?_ _ | refine blk_drew ?_ | refine blk_alloc ?_ _)); refine blk_far ?_ NB962_982.out _; (with_reducible repeat (first | refine blk_drewN ?_ _ | refine blk_drew ?_ | refine blk_alloc ?_ _)); exact BK962.out) hb); have n13_ := Aside0.mk (blk_below (g := gb969) (o := .cells #[.slice Ao43 t963.length co43, .slice Ao46 t966.length co46] 45 (0, 0)) (by (with_reducible repeat (first | refine blk_drewN ?_ _ | refine blk_drew ?_ | refine blk_alloc ?_ _)); refine blk_far ?_ NB969_982.out _; (with_reducible repeat (first | refine blk_drewN ?_ _ | refine blk_drew ?_ | refine blk_alloc ?_ _)); refine blk_far ?_ NB969_982.out _; (with_reducible repeat (first | refine blk_drewN ?_ _ | refine blk_drew ?_ | refine blk_alloc ?_ _)); exact BK969.out) hb); have n14_ := Aside0.mk (blk_below (g := gb982) (o := .cells #[.slice Ao53 t976.length co53, .slice Ao57 t979.length co57] 45 (0, 0)) (by (with_reducible repeat (first | refine blk_drewN ?_ _ | refine blk_drew ?_ | refine blk_alloc ?_ _)); refine blk_put (cs := #[.slice Ao53 t976.length co53, .slice none 0 0]) ?_ 1 _ rfl; (with_reducible repeat (first | refine blk_drewN ?_ _ | refine blk_drew ?_ | refine blk_alloc ?_ _)); refine blk_put (cs := #[.slice none 0 0, .slice none 0 0]) ?_ 0 _ rfl; (with_reducible repeat (first | refine blk_drewN ?_ _ | refine blk_drew ?_ | refine blk_alloc ?_ _)); exact BK982.out) hb); have n15_ := Aside0.mk (below_step (by repeat (first | (with_reducible first | exact HB.out | apply below_alloc | apply pw_below_drewN | apply below_drew1 | refine below_set ?_ GE962.out | refine below_set ?_ GE969.out | refine below_set ?_ GE982.out) | exact HB.out)) hb); clear HO_6; clear HO_7; clear HO_8; clear HO958; clear HO961; clear HO965; clear HO968; clear HO975; clear HO978; clear HO981; clear BK962; clear BK969; clear BK982; clear HB; have HO_6 := n0_; have HO_7 := n1_; have HO_8 := n2_; have HO958 := n3_; have HO961 := n4_; have HO965 := n5_; have HO968 := n6_; have HO975 := n7_; have HO978 := n8_; have HO981 := n9_; have HO985 := n10_; have HO988 := n11_; have BK962 := n12_; have BK969 := n13_; have BK982 := n14_; have HB := n15_; clear n0_ n1_ n2_ n3_ n4_ n5_ n6_ n7_ n8_ n9_ n10_ n11_ n12_ n13_ n14_ n15_; (try clear hb); (try clear hb2); (try clear hk); (try clear hi); (try clear ho0); (try clear ho1)) | ((with_reducible refine gate_dst (N := 14) rfl ?_); refine box_event ?hg (N := 14) ?hd (cs := #[.slice none 0 0, .slice none 0 0]) (t := 45) ?hr ?_; (case hd => rfl); (case hg => rfl); (case hr => first | (go_simp; done) | (go_simp; rfl)); intro gb990 hg w60 hbox hb; have n0_ := Aside0.mk (Kd.R_below (by (with_reducible repeat (first | apply Kd.R_alloc | apply Kd.R_drewN | apply Kd.R_drew)); exact HO_6.out) hb); have n1_ := Aside0.mk (Kd.R_below (by (with_reducible repeat (first | apply Kd.R_alloc | apply Kd.R_drewN | apply Kd.R_drew)); exact HO_7.out) hb); have n2_ := Aside0.mk (Kd.R_below (by (with_reducible repeat (first | apply Kd.R_alloc | apply Kd.R_drewN | apply Kd.R_drew)); exact HO_8.out) hb); have n3_ := Aside0.mk (Kd.V_below (Kd.V_elderB (by (with_reducible repeat (first | apply Kd.V_alloc | apply Kd.V_drewN | apply Kd.V_drew)); exact HO958.out) gb990 (Nat.le_of_eq hg.symm)) hb); have n4_ := Aside0.mk (Kd.V_below (Kd.V_elderB (by (with_reducible repeat (first | apply Kd.V_alloc | apply Kd.V_drewN | apply Kd.V_drew)); exact HO961.out) gb990 (Nat.le_of_eq hg.symm)) hb); have n5_ := Aside0.mk (Kd.V_below (Kd.V_elderB (by (with_reducible repeat (first | apply Kd.V_alloc | apply Kd.V_drewN | apply Kd.V_drew)); exact HO965.out) gb990 (Nat.le_of_eq hg.symm)) hb); have n6_ := Aside0.mk (Kd.V_below (Kd.V_elderB (by (with_reducible repeat (first | apply Kd.V_alloc | apply Kd.V_drewN | apply Kd.V_drew)); exact HO968.out) gb990 (Nat.le_of_eq hg.symm)) hb); have n7_ := Aside0.mk (Kd.R_below (by (with_reducible repeat (first | apply Kd.R_alloc | apply Kd.R_drewN | apply Kd.R_drew)); exact HO975.out) hb); have n8_ := Aside0.mk (Kd.V_below (Kd.V_elderB (by (with_reducible repeat (first | apply Kd.V_alloc | apply Kd.V_drewN | apply Kd.V_drew)); exact HO978.out) gb990 (Nat.le_of_eq hg.symm)) hb); have n9_ := Aside0.mk (Kd.V_below (Kd.V_elderB (by (with_reducible repeat (first | apply Kd.V_alloc | apply Kd.V_drewN | apply Kd.V_drew)); exact HO981.out) gb990 (Nat.le_of_eq hg.symm)) hb); have n10_ := Aside0.mk (Kd.V_below (Kd.V_elderB (by (with_reducible repeat (first | apply Kd.V_alloc | apply Kd.V_drewN | apply Kd.V_drew)); exact HO985.out) gb990 (Nat.le_of_eq hg.symm)) hb); have n11_ := Aside0.mk (Kd.V_below (Kd.V_elderB (by (with_reducible repeat (first | apply Kd.V_alloc | apply Kd.V_drewN | apply Kd.V_drew)); exact HO988.out) gb990 (Nat.le_of_eq hg.symm)) hb); have n12_ := Aside0.mk (blk_below (g := gb962) (o := .cells #[.slice Ao37 t956.length co37, .slice Ao39 t959.length co39] 45 (0, 0)) (by (with_reducible repeat (first | refine blk_drewN ?_ _ | refine blk_drew ?_ | refine blk_alloc ?_ _)); exact BK962.out) hb); have n13_ := Aside0.mk (blk_below (g := gb969) (o := .cells #[.slice Ao43 t963.length co43, .slice Ao46 t966.length co46] 45 (0, 0)) (by (with_reducible repeat (first | refine blk_drewN ?_ _ | refine blk_drew ?_ | refine blk_alloc ?_ _)); exact BK969.out) hb); have n14_ := Aside0.mk (blk_below (g := gb982) (o := .cells #[.slice Ao53 t976.length co53, .slice Ao57 t979.length co57] 45 (0, 0)) (by (with_reducible repeat (first | refine blk_drewN ?_ _ | refine blk_drew ?_ | refine blk_alloc ?_ _)); exact BK982.out) hb); have n15_ := Aside0.mk (below_step (by repeat (first | (with_reducible first | exact HB.out | apply below_alloc | apply pw_below_drewN | apply below_drew1 | refine below_set ?_ GE962.out | refine below_set ?_ GE969.out | refine below_set ?_ GE982.out) | exact HB.out)) hb); have n16_ := Aside0.mk (hbox); have n17_ := Aside0.mk ((by rw [hg]; exact (below_size (by repeat (first | (with_reducible first | exact HB.out | apply below_alloc | apply pw_below_drewN | apply below_drew1 | refine below_set ?_ GE962.out | refine below_set ?_ GE969.out | refine below_set ?_ GE982.out) | exact HB.out))) : w.heap.size ≤ gb990)); have n18_ := Aside0.mk ((by rw [hg]; exact (below_size (by repeat (first | (with_reducible first | exact HB.out | apply below_alloc | apply pw_below_drewN | apply below_drew1 | refine below_set ?_ GE962.out | refine below_set ?_ GE969.out | refine below_set ?_ GE982.out) | exact HB.out))) : w.heap.size ≤ gb990)); have n19_ := Aside0.mk ((by rw [hg]; exact Nat.ne_of_lt (blk_lt (g := gb962) (o := .cells #[.slice Ao37 t956.length co37, .slice Ao39 t959.length co39] 45 (0, 0)) (by (with_reducible repeat (first | refine blk_drewN ?_ _ | refine blk_drew ?_ | refine blk_alloc ?_ _)); exact BK962.out)) : gb962 ≠ gb990)); have n20_ := Aside0.mk ((by rw [hg]; exact Nat.ne_of_gt (blk_lt (g := gb962) (o := .cells #[.slice Ao37 t956.length co37, .slice Ao39 t959.length co39] 45 (0, 0)) (by (with_reducible repeat (first | refine blk_drewN ?_ _ | refine blk_drew ?_ | refine blk_alloc ?_ _)); exact BK962.out)) : gb990 ≠ gb962)); have n21_ := Aside0.mk ((by rw [hg]; exact Nat.ne_of_lt (blk_lt (g := gb969) (o := .cells #[.slice Ao43 t963.length co43, .slice Ao46 t966.length co46] 45 (0, 0)) (by (with_reducible repeat (first | refine blk_drewN ?_ _ | refine blk_drew ?_ | refine blk_alloc ?_ _)); exact BK969.out)) : gb969 ≠ gb990)); have n22_ := Aside0.mk ((by rw [hg]; exact Nat.ne_of_gt (blk_lt (g := gb969) (o := .cells #[.slice Ao43 t963.length co43, .slice Ao46 t966.length co46] 45 (0, 0)) (by (with_reducible repeat (first | refine blk_drewN ?_ _ | refine blk_drew ?_ | refine blk_alloc ?_ _)); exact BK969.out)) : gb990 ≠ gb969)); have n23_ := Aside0.mk ((by rw [hg]; exact Nat.ne_of_lt (blk_lt (g := gb982) (o := .cells #[.slice Ao53 t976.length co53, .slice Ao57 t979.length co57] 45 (0, 0)) (by (with_reducible repeat (first | refine blk_drewN ?_ _ | refine blk_drew ?_ | refine blk_alloc ?_ _)); exact BK982.out)) : gb982 ≠ gb990)); have n24_ := Aside0.mk ((by rw [hg]; exact Nat.ne_of_gt (blk_lt (g := gb982) (o := .cells #[.slice Ao53 t976.length co53, .slice Ao57 t979.length co57] 45 (0, 0)) (by (with_reducible repeat (first | refine blk_drewN ?_ _ | refine blk_drew ?_ | refine blk_alloc ?_ _)); exact BK982.out)) : gb990 ≠ gb982)); clear HO_6; clear HO_7; clear HO_8; clear HO958; clear HO961; clear HO965; clear HO968; clear HO975; clear HO978; clear HO981; clear HO985; clear HO988; clear BK962; clear BK969; clear BK982; clear HB; have HO_6 := n0_; have HO_7 := n1_; have HO_8 := n2_; have HO958 := n3_; have HO961 := n4_; have HO965 := n5_; have HO968 := n6_; have HO975 := n7_; have HO978 := n8_; have HO981 := n9_; have HO985 := n10_; have HO988 := n11_; have BK962 := n12_; have BK969 := n13_; have BK982 := n14_; have HB := n15_; have BK990 := n16_; have GW990 := n17_; have GE990 := n18_; have NB962_990 := n19_; have NB990_962 := n20_; have NB969_990 := n21_; have NB990_969 := n22_; have NB982_990 := n23_; have NB990_982 := n24_; clear n0_ n1_ n2_ n3_ n4_ n5_ n6_ n7_ n8_ n9_ n10_ n11_ n12_ n13_ n14_ n15_ n16_ n17_ n18_ n19_ n20_ n21_ n22_ n23_ n24_; clear hb hbox hg; obtain ⟨Ao61, co61, eo61⟩ := Kd.V_slice HO985.out; subst eo61; have hnb62 := NB990_962.out; have hnc62 := NB962_990.out; have hnb63 := NB990_969.out; have hnc63 := NB969_990.out; have hnb64 := NB990_982.out; have hnc64 := NB982_990.out; have hcz65_0 : w60.cell? ⟨gb990, 0, none⟩ = some (.slice none 0 0) := (blk_cell BK990.out 0).trans rfl; have hcz65_1 : w60.cell? ⟨gb990, 1, none⟩ = some (.slice none 0 0) := (blk_cell BK990.out 1).trans rfl; have hfz65_0 := blk_frozen BK990.out 0; have hfz65_1 := blk_frozen BK990.out 1; obtain ⟨Ao66, co66, eo66⟩ := Kd.V_slice HO988.out; subst eo66))
                        have n0_ : Aside0 (Kd.R k57 57 ((w60.setCell ⟨gb990, 0, none⟩ (.slice Ao61 t983.length co61)).setCell ⟨gb990, 1, none⟩ (.slice Ao66 t986.length co66)) w.heap.size (fun k_ => some k_ ≠ (.slice Ao40 t949.length co40 : Value).ownBlock ∧ some k_ ≠ (u8 : Value).ownBlock ∧ some k_ ≠ (v974 : Value).ownBlock) (.slice Ao9 t946.length co9) t946) := ⟨by (with_reducible repeat (first | apply Kd.R_alloc | apply Kd.R_drewN | apply Kd.R_drew)); exact Kd.R_mono (Kd.R_far (p := ⟨gb990, 1, none⟩) (Kd.R_far (p := ⟨gb990, 0, none⟩) (Kd.R_types HO_6.out BK990.out (by decide)) (fun _ hk => hk.2) (.slice Ao61 t983.length co61)) (fun _ hk => hk.2) (.slice Ao66 t986.length co66)) (fun _ hk => ⟨hk.1.1.1, ⟨hk.1.1.2, hk.1.2⟩⟩)⟩
                        have n1_ : Aside0 (Kd.R k57 57 ((w60.setCell ⟨gb990, 0, none⟩ (.slice Ao61 t983.length co61)).setCell ⟨gb990, 1, none⟩ (.slice Ao66 t986.length co66)) w.heap.size (fun k_ => some k_ ≠ (.slice Ao9 t946.length co9 : Value).ownBlock ∧ some k_ ≠ (u8 : Value).ownBlock ∧ some k_ ≠ (v974 : Value).ownBlock) (.slice Ao40 t949.length co40) t949) := ⟨by (with_reducible repeat (first | apply Kd.R_alloc | apply Kd.R_drewN | apply Kd.R_drew)); exact Kd.R_mono (Kd.R_far (p := ⟨gb990, 1, none⟩) (Kd.R_far (p := ⟨gb990, 0, none⟩) (Kd.R_types HO_7.out BK990.out (by decide)) (fun _ hk => hk.2) (.slice Ao61 t983.length co61)) (fun _ hk => hk.2) (.slice Ao66 t986.length co66)) (fun _ hk => ⟨hk.1.1.1, ⟨hk.1.1.2, hk.1.2⟩⟩)⟩
                        have n2_ : Aside0 (Kd.R k57 57 ((w60.setCell ⟨gb990, 0, none⟩ (.slice Ao61 t983.length co61)).setCell ⟨gb990, 1, none⟩ (.slice Ao66 t986.length co66)) w.heap.size (fun k_ => some k_ ≠ (.slice Ao9 t946.length co9 : Value).ownBlock ∧ some k_ ≠ (.slice Ao40 t949.length co40 : Value).ownBlock ∧ some k_ ≠ (v974 : Value).ownBlock) u8 x8_1) := ⟨by (with_reducible repeat (first | apply Kd.R_alloc | apply Kd.R_drewN | apply Kd.R_drew)); exact Kd.R_mono (Kd.R_far (p := ⟨gb990, 1, none⟩) (Kd.R_far (p := ⟨gb990, 0, none⟩) (Kd.R_types HO_8.out BK990.out (by decide)) (fun _ hk => hk.2) (.slice Ao61 t983.length co61)) (fun _ hk => hk.2) (.slice Ao66 t986.length co66)) (fun _ hk => ⟨hk.1.1.1, ⟨hk.1.1.2, hk.1.2⟩⟩)⟩
                        have n3_ : Aside0 (Kd.V (Kd.int .u32) 30 ((w60.setCell ⟨gb990, 0, none⟩ (.slice Ao61 t983.length co61)).setCell ⟨gb990, 1, none⟩ (.slice Ao66 t986.length co66)) w.heap.size (fun k_ => some k_ ≠ (.slice Ao9 t946.length co9 : Value).ownBlock ∧ some k_ ≠ (.slice Ao40 t949.length co40 : Value).ownBlock ∧ some k_ ≠ (u8 : Value).ownBlock ∧ some k_ ≠ (v974 : Value).ownBlock ∧ k_ ≠ gb962 ∧ k_ ≠ gb969 ∧ k_ ≠ gb982 ∧ k_ ≠ gb990) (.slice Ao37 t956.length co37) t956) := ⟨by (with_reducible repeat (first | apply Kd.V_alloc | apply Kd.V_drewN | apply Kd.V_drew)); exact Kd.V_mono (Kd.V_far (p := ⟨gb990, 1, none⟩) (Kd.V_far (p := ⟨gb990, 0, none⟩) (Kd.V_mono HO958.out (fun k_ hk => (⟨hk, hk.2⟩ : _ ∧ k_ ≠ gb990))) (fun _ hk => hk.2) (.slice Ao61 t983.length co61)) (fun _ hk => hk.2) (.slice Ao66 t986.length co66)) (fun _ hk => ⟨hk.1.1.1.1.1, ⟨hk.1.1.1.1.2.1, ⟨hk.1.1.1.1.2.2.1, ⟨hk.1.1.1.2, ⟨hk.1.1.1.1.2.2.2.1, ⟨hk.1.1.1.1.2.2.2.2, ⟨hk.1.1.2, hk.1.2⟩⟩⟩⟩⟩⟩⟩)⟩
                        have n4_ : Aside0 (Kd.V (Kd.int .u32) 30 ((w60.setCell ⟨gb990, 0, none⟩ (.slice Ao61 t983.length co61)).setCell ⟨gb990, 1, none⟩ (.slice Ao66 t986.length co66)) w.heap.size (fun k_ => some k_ ≠ (.slice Ao9 t946.length co9 : Value).ownBlock ∧ some k_ ≠ (.slice Ao40 t949.length co40 : Value).ownBlock ∧ some k_ ≠ (u8 : Value).ownBlock ∧ some k_ ≠ (v974 : Value).ownBlock ∧ k_ ≠ gb962 ∧ k_ ≠ gb969 ∧ k_ ≠ gb982 ∧ k_ ≠ gb990) (.slice Ao39 t959.length co39) t959) := ⟨by (with_reducible repeat (first | apply Kd.V_alloc | apply Kd.V_drewN | apply Kd.V_drew)); exact Kd.V_mono (Kd.V_far (p := ⟨gb990, 1, none⟩) (Kd.V_far (p := ⟨gb990, 0, none⟩) (Kd.V_mono HO961.out (fun k_ hk => (⟨hk, hk.2⟩ : _ ∧ k_ ≠ gb990))) (fun _ hk => hk.2) (.slice Ao61 t983.length co61)) (fun _ hk => hk.2) (.slice Ao66 t986.length co66)) (fun _ hk => ⟨hk.1.1.1.1.1, ⟨hk.1.1.1.1.2.1, ⟨hk.1.1.1.1.2.2.1, ⟨hk.1.1.1.2, ⟨hk.1.1.1.1.2.2.2.1, ⟨hk.1.1.1.1.2.2.2.2, ⟨hk.1.1.2, hk.1.2⟩⟩⟩⟩⟩⟩⟩)⟩
                        have n5_ : Aside0 (Kd.V (Kd.int .u32) 30 ((w60.setCell ⟨gb990, 0, none⟩ (.slice Ao61 t983.length co61)).setCell ⟨gb990, 1, none⟩ (.slice Ao66 t986.length co66)) w.heap.size (fun k_ => some k_ ≠ (.slice Ao9 t946.length co9 : Value).ownBlock ∧ some k_ ≠ (.slice Ao40 t949.length co40 : Value).ownBlock ∧ some k_ ≠ (u8 : Value).ownBlock ∧ some k_ ≠ (v974 : Value).ownBlock ∧ k_ ≠ gb962 ∧ k_ ≠ gb969 ∧ k_ ≠ gb982 ∧ k_ ≠ gb990) (.slice Ao43 t963.length co43) t963) := ⟨by (with_reducible repeat (first | apply Kd.V_alloc | apply Kd.V_drewN | apply Kd.V_drew)); exact Kd.V_mono (Kd.V_far (p := ⟨gb990, 1, none⟩) (Kd.V_far (p := ⟨gb990, 0, none⟩) (Kd.V_mono HO965.out (fun k_ hk => (⟨hk, hk.2⟩ : _ ∧ k_ ≠ gb990))) (fun _ hk => hk.2) (.slice Ao61 t983.length co61)) (fun _ hk => hk.2) (.slice Ao66 t986.length co66)) (fun _ hk => ⟨hk.1.1.1.1.1, ⟨hk.1.1.1.1.2.1, ⟨hk.1.1.1.1.2.2.1, ⟨hk.1.1.1.2, ⟨hk.1.1.1.1.2.2.2.1, ⟨hk.1.1.1.1.2.2.2.2, ⟨hk.1.1.2, hk.1.2⟩⟩⟩⟩⟩⟩⟩)⟩
                        have n6_ : Aside0 (Kd.V (Kd.int .u32) 30 ((w60.setCell ⟨gb990, 0, none⟩ (.slice Ao61 t983.length co61)).setCell ⟨gb990, 1, none⟩ (.slice Ao66 t986.length co66)) w.heap.size (fun k_ => some k_ ≠ (.slice Ao9 t946.length co9 : Value).ownBlock ∧ some k_ ≠ (.slice Ao40 t949.length co40 : Value).ownBlock ∧ some k_ ≠ (u8 : Value).ownBlock ∧ some k_ ≠ (v974 : Value).ownBlock ∧ k_ ≠ gb962 ∧ k_ ≠ gb969 ∧ k_ ≠ gb982 ∧ k_ ≠ gb990) (.slice Ao46 t966.length co46) t966) := ⟨by (with_reducible repeat (first | apply Kd.V_alloc | apply Kd.V_drewN | apply Kd.V_drew)); exact Kd.V_mono (Kd.V_far (p := ⟨gb990, 1, none⟩) (Kd.V_far (p := ⟨gb990, 0, none⟩) (Kd.V_mono HO968.out (fun k_ hk => (⟨hk, hk.2⟩ : _ ∧ k_ ≠ gb990))) (fun _ hk => hk.2) (.slice Ao61 t983.length co61)) (fun _ hk => hk.2) (.slice Ao66 t986.length co66)) (fun _ hk => ⟨hk.1.1.1.1.1, ⟨hk.1.1.1.1.2.1, ⟨hk.1.1.1.1.2.2.1, ⟨hk.1.1.1.2, ⟨hk.1.1.1.1.2.2.2.1, ⟨hk.1.1.1.1.2.2.2.2, ⟨hk.1.1.2, hk.1.2⟩⟩⟩⟩⟩⟩⟩)⟩
                        have n7_ : Aside0 (Kd.R k57 57 ((w60.setCell ⟨gb990, 0, none⟩ (.slice Ao61 t983.length co61)).setCell ⟨gb990, 1, none⟩ (.slice Ao66 t986.length co66)) w.heap.size (fun k_ => some k_ ≠ (.slice Ao9 t946.length co9 : Value).ownBlock ∧ some k_ ≠ (.slice Ao40 t949.length co40 : Value).ownBlock ∧ some k_ ≠ (u8 : Value).ownBlock) v974 y973) := ⟨by (with_reducible repeat (first | apply Kd.R_alloc | apply Kd.R_drewN | apply Kd.R_drew)); exact Kd.R_mono (Kd.R_far (p := ⟨gb990, 1, none⟩) (Kd.R_far (p := ⟨gb990, 0, none⟩) (Kd.R_types HO975.out BK990.out (by decide)) (fun _ hk => hk.2) (.slice Ao61 t983.length co61)) (fun _ hk => hk.2) (.slice Ao66 t986.length co66)) (fun _ hk => ⟨hk.1.1, ⟨hk.1.2.1, hk.1.2.2⟩⟩)⟩
                        have n8_ : Aside0 (Kd.V (Kd.int .u32) 30 ((w60.setCell ⟨gb990, 0, none⟩ (.slice Ao61 t983.length co61)).setCell ⟨gb990, 1, none⟩ (.slice Ao66 t986.length co66)) w.heap.size (fun k_ => some k_ ≠ (.slice Ao9 t946.length co9 : Value).ownBlock ∧ some k_ ≠ (.slice Ao40 t949.length co40 : Value).ownBlock ∧ some k_ ≠ (u8 : Value).ownBlock ∧ some k_ ≠ (v974 : Value).ownBlock ∧ k_ ≠ gb962 ∧ k_ ≠ gb969 ∧ k_ ≠ gb982 ∧ k_ ≠ gb990) (.slice Ao53 t976.length co53) t976) := ⟨by (with_reducible repeat (first | apply Kd.V_alloc | apply Kd.V_drewN | apply Kd.V_drew)); exact Kd.V_mono (Kd.V_far (p := ⟨gb990, 1, none⟩) (Kd.V_far (p := ⟨gb990, 0, none⟩) (Kd.V_mono HO978.out (fun k_ hk => (⟨hk, hk.2⟩ : _ ∧ k_ ≠ gb990))) (fun _ hk => hk.2) (.slice Ao61 t983.length co61)) (fun _ hk => hk.2) (.slice Ao66 t986.length co66)) (fun _ hk => ⟨hk.1.1.1.1, ⟨hk.1.1.1.2.1, ⟨hk.1.1.1.2.2.1, ⟨hk.1.1.1.2.2.2.1, ⟨hk.1.1.1.2.2.2.2.1, ⟨hk.1.1.1.2.2.2.2.2, ⟨hk.1.1.2, hk.1.2⟩⟩⟩⟩⟩⟩⟩)⟩
                        have n9_ : Aside0 (Kd.V (Kd.int .u32) 30 ((w60.setCell ⟨gb990, 0, none⟩ (.slice Ao61 t983.length co61)).setCell ⟨gb990, 1, none⟩ (.slice Ao66 t986.length co66)) w.heap.size (fun k_ => some k_ ≠ (.slice Ao9 t946.length co9 : Value).ownBlock ∧ some k_ ≠ (.slice Ao40 t949.length co40 : Value).ownBlock ∧ some k_ ≠ (u8 : Value).ownBlock ∧ some k_ ≠ (v974 : Value).ownBlock ∧ k_ ≠ gb962 ∧ k_ ≠ gb969 ∧ k_ ≠ gb982 ∧ k_ ≠ gb990) (.slice Ao57 t979.length co57) t979) := ⟨by (with_reducible repeat (first | apply Kd.V_alloc | apply Kd.V_drewN | apply Kd.V_drew)); exact Kd.V_mono (Kd.V_far (p := ⟨gb990, 1, none⟩) (Kd.V_far (p := ⟨gb990, 0, none⟩) (Kd.V_mono HO981.out (fun k_ hk => (⟨hk, hk.2⟩ : _ ∧ k_ ≠ gb990))) (fun _ hk => hk.2) (.slice Ao61 t983.length co61)) (fun _ hk => hk.2) (.slice Ao66 t986.length co66)) (fun _ hk => ⟨hk.1.1.1.1, ⟨hk.1.1.1.2.1, ⟨hk.1.1.1.2.2.1, ⟨hk.1.1.1.2.2.2.1, ⟨hk.1.1.1.2.2.2.2.1, ⟨hk.1.1.1.2.2.2.2.2, ⟨hk.1.1.2, hk.1.2⟩⟩⟩⟩⟩⟩⟩)⟩
                        have n10_ : Aside0 (Kd.V (Kd.int .u32) 30 ((w60.setCell ⟨gb990, 0, none⟩ (.slice Ao61 t983.length co61)).setCell ⟨gb990, 1, none⟩ (.slice Ao66 t986.length co66)) w.heap.size (fun k_ => some k_ ≠ (.slice Ao9 t946.length co9 : Value).ownBlock ∧ some k_ ≠ (.slice Ao40 t949.length co40 : Value).ownBlock ∧ some k_ ≠ (u8 : Value).ownBlock ∧ some k_ ≠ (v974 : Value).ownBlock ∧ k_ ≠ gb962 ∧ k_ ≠ gb969 ∧ k_ ≠ gb982 ∧ k_ ≠ gb990) (.slice Ao61 t983.length co61) t983) := ⟨by (with_reducible repeat (first | apply Kd.V_alloc | apply Kd.V_drewN | apply Kd.V_drew)); exact Kd.V_mono (Kd.V_far (p := ⟨gb990, 1, none⟩) (Kd.V_far (p := ⟨gb990, 0, none⟩) (Kd.V_mono HO985.out (fun k_ hk => (⟨hk, hk.2⟩ : _ ∧ k_ ≠ gb990))) (fun _ hk => hk.2) (.slice Ao61 t983.length co61)) (fun _ hk => hk.2) (.slice Ao66 t986.length co66)) (fun _ hk => ⟨hk.1.1.1, ⟨hk.1.1.2.1, ⟨hk.1.1.2.2.1, ⟨hk.1.1.2.2.2.1, ⟨hk.1.1.2.2.2.2.1, ⟨hk.1.1.2.2.2.2.2.1, ⟨hk.1.1.2.2.2.2.2.2, hk.1.2⟩⟩⟩⟩⟩⟩⟩)⟩
                        have n11_ : Aside0 (Kd.V (Kd.int .u32) 30 ((w60.setCell ⟨gb990, 0, none⟩ (.slice Ao61 t983.length co61)).setCell ⟨gb990, 1, none⟩ (.slice Ao66 t986.length co66)) w.heap.size (fun k_ => some k_ ≠ (.slice Ao9 t946.length co9 : Value).ownBlock ∧ some k_ ≠ (.slice Ao40 t949.length co40 : Value).ownBlock ∧ some k_ ≠ (u8 : Value).ownBlock ∧ some k_ ≠ (v974 : Value).ownBlock ∧ k_ ≠ gb962 ∧ k_ ≠ gb969 ∧ k_ ≠ gb982 ∧ k_ ≠ gb990) (.slice Ao66 t986.length co66) t986) := ⟨by (with_reducible repeat (first | apply Kd.V_alloc | apply Kd.V_drewN | apply Kd.V_drew)); exact Kd.V_mono (Kd.V_far (p := ⟨gb990, 1, none⟩) (Kd.V_far (p := ⟨gb990, 0, none⟩) (Kd.V_mono HO988.out (fun k_ hk => (⟨hk, hk.2⟩ : _ ∧ k_ ≠ gb990))) (fun _ hk => hk.2) (.slice Ao61 t983.length co61)) (fun _ hk => hk.2) (.slice Ao66 t986.length co66)) (fun _ hk => ⟨hk.1.1.1, ⟨hk.1.1.2.1, ⟨hk.1.1.2.2.1, ⟨hk.1.1.2.2.2.1, ⟨hk.1.1.2.2.2.2.1, ⟨hk.1.1.2.2.2.2.2.1, ⟨hk.1.1.2.2.2.2.2.2, hk.1.2⟩⟩⟩⟩⟩⟩⟩)⟩
                        have n12_ : Aside0 (((w60.setCell ⟨gb990, 0, none⟩ (.slice Ao61 t983.length co61)).setCell ⟨gb990, 1, none⟩ (.slice Ao66 t986.length co66)).heap[gb962]? = some (.cells #[.slice Ao37 t956.length co37, .slice Ao39 t959.length co39] 45 (0, 0))) := ⟨by (with_reducible repeat (first | refine blk_drewN ?_ _ | refine blk_drew ?_ | refine blk_alloc ?_ _)); refine blk_far ?_ NB962_990.out _; (with_reducible repeat (first | refine blk_drewN ?_ _ | refine blk_drew ?_ | refine blk_alloc ?_ _)); refine blk_far ?_ NB962_990.out _; (with_reducible repeat (first | refine blk_drewN ?_ _ | refine blk_drew ?_ | refine blk_alloc ?_ _)); exact BK962.out⟩
                        have n13_ : Aside0 (((w60.setCell ⟨gb990, 0, none⟩ (.slice Ao61 t983.length co61)).setCell ⟨gb990, 1, none⟩ (.slice Ao66 t986.length co66)).heap[gb969]? = some (.cells #[.slice Ao43 t963.length co43, .slice Ao46 t966.length co46] 45 (0, 0))) := ⟨by (with_reducible repeat (first | refine blk_drewN ?_ _ | refine blk_drew ?_ | refine blk_alloc ?_ _)); refine blk_far ?_ NB969_990.out _; (with_reducible repeat (first | refine blk_drewN ?_ _ | refine blk_drew ?_ | refine blk_alloc ?_ _)); refine blk_far ?_ NB969_990.out _; (with_reducible repeat (first | refine blk_drewN ?_ _ | refine blk_drew ?_ | refine blk_alloc ?_ _)); exact BK969.out⟩
                        have n14_ : Aside0 (((w60.setCell ⟨gb990, 0, none⟩ (.slice Ao61 t983.length co61)).setCell ⟨gb990, 1, none⟩ (.slice Ao66 t986.length co66)).heap[gb982]? = some (.cells #[.slice Ao53 t976.length co53, .slice Ao57 t979.length co57] 45 (0, 0))) := ⟨by (with_reducible repeat (first | refine blk_drewN ?_ _ | refine blk_drew ?_ | refine blk_alloc ?_ _)); refine blk_far ?_ NB982_990.out _; (with_reducible repeat (first | refine blk_drewN ?_ _ | refine blk_drew ?_ | refine blk_alloc ?_ _)); refine blk_far ?_ NB982_990.out _; (with_reducible repeat (first | refine blk_drewN ?_ _ | refine blk_drew ?_ | refine blk_alloc ?_ _)); exact BK982.out⟩
                        have n15_ : Aside0 (((w60.setCell ⟨gb990, 0, none⟩ (.slice Ao61 t983.length co61)).setCell ⟨gb990, 1, none⟩ (.slice Ao66 t986.length co66)).heap[gb990]? = some (.cells #[.slice Ao61 t983.length co61, .slice Ao66 t986.length co66] 45 (0, 0))) := ⟨by (with_reducible repeat (first | refine blk_drewN ?_ _ | refine blk_drew ?_ | refine blk_alloc ?_ _)); refine blk_put (cs := #[.slice Ao61 t983.length co61, .slice none 0 0]) ?_ 1 _ rfl; (with_reducible repeat (first | refine blk_drewN ?_ _ | refine blk_drew ?_ | refine blk_alloc ?_ _)); refine blk_put (cs := #[.slice none 0 0, .slice none 0 0]) ?_ 0 _ rfl; (with_reducible repeat (first | refine blk_drewN ?_ _ | refine blk_drew ?_ | refine blk_alloc ?_ _)); exact BK990.out⟩
                        have n16_ : Aside0 (Below w.heap.size w ((w60.setCell ⟨gb990, 0, none⟩ (.slice Ao61 t983.length co61)).setCell ⟨gb990, 1, none⟩ (.slice Ao66 t986.length co66))) := ⟨by repeat (first | (with_reducible first | exact HB.out | apply below_alloc | apply pw_below_drewN | apply below_drew1 | refine below_set ?_ GE962.out | refine below_set ?_ GE969.out | refine below_set ?_ GE982.out | refine below_set ?_ GE990.out) | exact HB.out)⟩
                        (try clear HO_6)
                        (try clear HO_7)
                        (try clear HO_8)
                        (try clear HO958)
                        (try clear HO961)
                        (try clear HO965)
                        (try clear HO968)
                        (try clear HO975)
                        (try clear HO978)
                        (try clear HO981)
                        (try clear HO985)
                        (try clear HO988)
                        (try clear BK962)
                        (try clear BK969)
                        (try clear BK982)
                        (try clear BK990)
                        (try clear HB)
                        generalize ((w60.setCell ⟨gb990, 0, none⟩ (.slice Ao61 t983.length co61)).setCell ⟨gb990, 1, none⟩ (.slice Ao66 t986.length co66)) = w67 at n0_ n1_ n2_ n3_ n4_ n5_ n6_ n7_ n8_ n9_ n10_ n11_ n12_ n13_ n14_ n15_ n16_ ⊢
                        have HO_6 := n0_
                        have HO_7 := n1_
                        have HO_8 := n2_
                        have HO958 := n3_
                        have HO961 := n4_
                        have HO965 := n5_
                        have HO968 := n6_
                        have HO975 := n7_
                        have HO978 := n8_
                        have HO981 := n9_
                        have HO985 := n10_
                        have HO988 := n11_
                        have BK962 := n12_
                        have BK969 := n13_
                        have BK982 := n14_
                        have BK990 := n15_
                        have HB := n16_
                        clear n0_ n1_ n2_ n3_ n4_ n5_ n6_ n7_ n8_ n9_ n10_ n11_ n12_ n13_ n14_ n15_ n16_
                        have n0_ := Aside0.mk (Kd.R_drew HO_6.out)
                        have n1_ := Aside0.mk (Kd.R_drew HO_7.out)
                        have n2_ := Aside0.mk (Kd.R_drew HO_8.out)
                        have n3_ := Aside0.mk (Kd.V_drew HO958.out)
                        have n4_ := Aside0.mk (Kd.V_drew HO961.out)
                        have n5_ := Aside0.mk (Kd.V_drew HO965.out)
                        have n6_ := Aside0.mk (Kd.V_drew HO968.out)
                        have n7_ := Aside0.mk (Kd.R_drew HO975.out)
                        have n8_ := Aside0.mk (Kd.V_drew HO978.out)
                        have n9_ := Aside0.mk (Kd.V_drew HO981.out)
                        have n10_ := Aside0.mk (Kd.V_drew HO985.out)
                        have n11_ := Aside0.mk (Kd.V_drew HO988.out)
                        have n12_ := Aside0.mk (blk_drew BK962.out)
                        have n13_ := Aside0.mk (blk_drew BK969.out)
                        have n14_ := Aside0.mk (blk_drew BK982.out)
                        have n15_ := Aside0.mk (blk_drew BK990.out)
                        have n16_ := Aside0.mk (below_drew1 HB.out)
                        clear HO_6
                        clear HO_7
                        clear HO_8
                        clear HO958
                        clear HO961
                        clear HO965
                        clear HO968
                        clear HO975
                        clear HO978
                        clear HO981
                        clear HO985
                        clear HO988
                        clear BK962
                        clear BK969
                        clear BK982
                        clear BK990
                        clear HB
                        have HO_6 := n0_
                        have HO_7 := n1_
                        have HO_8 := n2_
                        have HO958 := n3_
                        have HO961 := n4_
                        have HO965 := n5_
                        have HO968 := n6_
                        have HO975 := n7_
                        have HO978 := n8_
                        have HO981 := n9_
                        have HO985 := n10_
                        have HO988 := n11_
                        have BK962 := n12_
                        have BK969 := n13_
                        have BK982 := n14_
                        have BK990 := n15_
                        have HB := n16_
                        clear n0_ n1_ n2_ n3_ n4_ n5_ n6_ n7_ n8_ n9_ n10_ n11_ n12_ n13_ n14_ n15_ n16_
                        obtain ⟨Ao69, co69, eo69⟩ := Kd.R_slice HO_8.out
                        (first | subst eo69 | (injection eo69 with f1_ f2_ f3_; have f4_ := f1_.symm; have f5_ := f3_.symm; clear f1_ f2_ f3_; subst f4_; subst f5_))
                        refine start_ (n := 36) (S := fun w' => w'.cell? ⟨gb962, 0, none⟩ = some (.slice Ao37 t956.length co37) ∧ w'.cell? ⟨gb962, 1, none⟩ = some (.slice Ao39 t959.length co39) ∧ w'.cell? ⟨gb982, 0, none⟩ = some (.slice Ao53 t976.length co53) ∧ w'.cell? ⟨gb982, 1, none⟩ = some (.slice Ao57 t979.length co57) ∧ w'.cell? ⟨gb969, 0, none⟩ = some (.slice Ao43 t963.length co43) ∧ w'.cell? ⟨gb969, 1, none⟩ = some (.slice Ao46 t966.length co46) ∧ w'.cell? ⟨gb990, 0, none⟩ = some (.slice Ao61 t983.length co61) ∧ w'.cell? ⟨gb990, 1, none⟩ = some (.slice Ao66 t986.length co66)) (ds := []) #[false, false, false, false, false, false, false, false, false, false, false, false, false, false, false, false, false, false, false, false, false, false, false, false, false, false, false, false, false, false, false, false, false, false, false, false] (by kernel_rfl) rfl rfl ⟨(blk_cell BK962.out 0).trans rfl, (blk_cell BK962.out 1).trans rfl, (blk_cell BK982.out 0).trans rfl, (blk_cell BK982.out 1).trans rfl, (blk_cell BK969.out 0).trans rfl, (blk_cell BK969.out 1).trans rfl, (blk_cell BK990.out 0).trans rfl, (blk_cell BK990.out 1).trans rfl⟩ (fun hHeld => ?_); refine with_tabW regattalaw03_RatioOrder.tab16 regattalaw03_RatioOrder.bits16 (fun HT_ HW_ => ?_)
                        generalize w67.drew = w68 at HO_6 HO_7 HO_8 HO958 HO961 HO965 HO968 HO975 HO978 HO981 HO985 HO988 BK962 BK969 BK982 BK990 HB hHeld ⊢
                        refine pure_ (i := 0) (N := some 54) (v := ?_) (a' := ?_) #[true, false, false, false, false, false, false, false, false, false, false, false, false, false, false, false, false, false, false, false, false, false, false, false, false, false, false, false, false, false, false, false, false, false, false, false] rfl rfl (any_of HT_.out (by kernel_rfl)) (fun _ _ _ h => h) (Or.inl ⟨by rfl, ?_⟩) ?_ ?_
                        rotate_left
                        · intro w'
                          go_simp
                          with_reducible rfl
                        rotate_left
                        · simp only [Act.put, List.setIfInBounds_toArray, List.set_cons_zero, List.set_cons_succ, i64_w, i32_w]
                          rfl
                        refine pure_ (i := 1) (N := some 55) (v := ?_) (a' := ?_) #[true, true, false, false, false, false, false, false, false, false, false, false, false, false, false, false, false, false, false, false, false, false, false, false, false, false, false, false, false, false, false, false, false, false, false, false] rfl rfl (any_of HT_.out (by kernel_rfl)) (fun _ _ _ h => h) (Or.inl ⟨by rfl, ?_⟩) ?_ ?_
                        rotate_left
                        · intro w'
                          go_simp
                          with_reducible rfl
                        rotate_left
                        · simp only [Act.put, List.setIfInBounds_toArray, List.set_cons_zero, List.set_cons_succ, i64_w, i32_w]
                          rfl
                        refine pure_ (i := 2) (N := some 56) (v := ?_) (a' := ?_) #[true, true, true, false, false, false, false, false, false, false, false, false, false, false, false, false, false, false, false, false, false, false, false, false, false, false, false, false, false, false, false, false, false, false, false, false] rfl rfl (any_of HT_.out (by kernel_rfl)) (fun _ _ _ h => h) (Or.inl ⟨by rfl, ?_⟩) ?_ ?_
                        rotate_left
                        · intro w'
                          go_simp
                          with_reducible rfl
                        rotate_left
                        · simp only [Act.put, List.setIfInBounds_toArray, List.set_cons_zero, List.set_cons_succ, i64_w, i32_w]
                          rfl
                        refine take_ (i := 4) (N := some 58) (v := ?_) (a' := ?_) #[true, true, true, false, true, false, false, false, false, false, false, false, false, false, false, false, false, false, false, false, false, false, false, false, false, false, false, false, false, false, false, false, false, false, false, false] rfl rfl (take_ofW HT_.out HW_.out (by kernel_rfl)) (fun _ _ _ h => h) (Or.inl ⟨by rfl, ?_⟩) hHeld ?_ ?_
                        rotate_left
                        · rintro w' ⟨s0, s1, s2, s3, s4, s5, s6, s7⟩
                          go_simp
                          with_reducible rfl
                        rotate_left
                        · simp only [Act.put, List.setIfInBounds_toArray, List.set_cons_zero, List.set_cons_succ, i64_w, i32_w]
                          rfl
                        refine one_ (i := 3) (N := some 57) #[true, true, true, true, true, false, false, false, false, false, false, false, false, false, false, false, false, false, false, false, false, false, false, false, false, false, false, false, false, false, false, false, false, false, false, false] rfl rfl (one_of HT_.out (by kernel_rfl)) (by decide) (fun K hK => ?_)
                        refine goes_ Try.func42 (by kernel_rfl) rfl #[.slice Ao69 x8_1.length co69] (by rfl) rfl rfl (by (try simp only [List.map_toArray, List.map_cons, List.map_nil]); first | done | rfl | (simp only [List.length_drop, List.length_take]; rfl)) ?_
                        with_reducible refine (ratio_Sum.calls k1 _ _ x8_1 t991 t994 _ ?side1 ?side2 A22.out).mono ?_
                        (case side1 => repeat (first | exact (Kd.R_reads' HO_8.out).2.2 | (with_reducible refine Kd.C_alloc ?_ _) | (with_reducible refine Kd.C_drewN ?_ _) | (with_reducible refine Kd.C_drew ?_)))
                        (case side2 => exact (Kd.R_reads' HO_8.out).2.1)
                        rintro e w70 ⟨v992, v995, rfl, ho0, ho1, hb⟩
                        refine ⟨_, rfl, ?_⟩
                        have n0_ := Aside0.mk (Kd.R_below (by (with_reducible repeat (first | apply Kd.R_alloc | apply Kd.R_drewN | apply Kd.R_drew)); exact HO_6.out) hb)
                        have n1_ := Aside0.mk (Kd.R_below (by (with_reducible repeat (first | apply Kd.R_alloc | apply Kd.R_drewN | apply Kd.R_drew)); exact HO_7.out) hb)
                        have n2_ := Aside0.mk (Kd.R_below (by (with_reducible repeat (first | apply Kd.R_alloc | apply Kd.R_drewN | apply Kd.R_drew)); exact HO_8.out) hb)
                        have n3_ := Aside0.mk (Kd.V_below (by (with_reducible repeat (first | apply Kd.V_alloc | apply Kd.V_drewN | apply Kd.V_drew)); exact HO958.out) hb)
                        have n4_ := Aside0.mk (Kd.V_below (by (with_reducible repeat (first | apply Kd.V_alloc | apply Kd.V_drewN | apply Kd.V_drew)); exact HO961.out) hb)
                        have n5_ := Aside0.mk (Kd.V_below (by (with_reducible repeat (first | apply Kd.V_alloc | apply Kd.V_drewN | apply Kd.V_drew)); exact HO965.out) hb)
                        have n6_ := Aside0.mk (Kd.V_below (by (with_reducible repeat (first | apply Kd.V_alloc | apply Kd.V_drewN | apply Kd.V_drew)); exact HO968.out) hb)
                        have n7_ := Aside0.mk (Kd.R_below (by (with_reducible repeat (first | apply Kd.R_alloc | apply Kd.R_drewN | apply Kd.R_drew)); exact HO975.out) hb)
                        have n8_ := Aside0.mk (Kd.V_below (by (with_reducible repeat (first | apply Kd.V_alloc | apply Kd.V_drewN | apply Kd.V_drew)); exact HO978.out) hb)
                        have n9_ := Aside0.mk (Kd.V_below (by (with_reducible repeat (first | apply Kd.V_alloc | apply Kd.V_drewN | apply Kd.V_drew)); exact HO981.out) hb)
                        have n10_ := Aside0.mk (Kd.V_below (by (with_reducible repeat (first | apply Kd.V_alloc | apply Kd.V_drewN | apply Kd.V_drew)); exact HO985.out) hb)
                        have n11_ := Aside0.mk (Kd.V_below (by (with_reducible repeat (first | apply Kd.V_alloc | apply Kd.V_drewN | apply Kd.V_drew)); exact HO988.out) hb)
                        have n12_ := Aside0.mk (Kd.V_lower (Kd.V_mono (ok' := fun k_ => some k_ ≠ (.slice Ao9 t946.length co9 : Value).ownBlock ∧ some k_ ≠ (.slice Ao40 t949.length co40 : Value).ownBlock ∧ some k_ ≠ (.slice Ao69 x8_1.length co69 : Value).ownBlock ∧ some k_ ≠ (v974 : Value).ownBlock ∧ k_ ≠ gb962 ∧ k_ ≠ gb969 ∧ k_ ≠ gb982 ∧ k_ ≠ gb990) ho0 (fun k_ hk_ => ⟨(Kd.fresh' (Kd.R_lt (by (with_reducible repeat (first | apply Kd.R_alloc | apply Kd.R_drewN | apply Kd.R_drew)); exact HO_6.out)) k_ hk_), (Kd.fresh' (Kd.R_lt (by (with_reducible repeat (first | apply Kd.R_alloc | apply Kd.R_drewN | apply Kd.R_drew)); exact HO_7.out)) k_ hk_), (Kd.fresh' (Kd.R_lt (by (with_reducible repeat (first | apply Kd.R_alloc | apply Kd.R_drewN | apply Kd.R_drew)); exact HO_8.out)) k_ hk_), (Kd.fresh' (Kd.R_lt (by (with_reducible repeat (first | apply Kd.R_alloc | apply Kd.R_drewN | apply Kd.R_drew)); exact HO975.out)) k_ hk_), (Kd.freshB (g := gb962) (o := .cells #[.slice Ao37 t956.length co37, .slice Ao39 t959.length co39] 45 (0, 0)) (by (with_reducible repeat (first | refine blk_drewN ?_ _ | refine blk_drew ?_ | refine blk_alloc ?_ _)); exact BK962.out) k_ hk_), (Kd.freshB (g := gb969) (o := .cells #[.slice Ao43 t963.length co43, .slice Ao46 t966.length co46] 45 (0, 0)) (by (with_reducible repeat (first | refine blk_drewN ?_ _ | refine blk_drew ?_ | refine blk_alloc ?_ _)); exact BK969.out) k_ hk_), (Kd.freshB (g := gb982) (o := .cells #[.slice Ao53 t976.length co53, .slice Ao57 t979.length co57] 45 (0, 0)) (by (with_reducible repeat (first | refine blk_drewN ?_ _ | refine blk_drew ?_ | refine blk_alloc ?_ _)); exact BK982.out) k_ hk_), (Kd.freshB (g := gb990) (o := .cells #[.slice Ao61 t983.length co61, .slice Ao66 t986.length co66] 45 (0, 0)) (by (with_reducible repeat (first | refine blk_drewN ?_ _ | refine blk_drew ?_ | refine blk_alloc ?_ _)); exact BK990.out) k_ hk_)⟩)) (below_size (by repeat (first | (with_reducible first | exact HB.out | apply below_alloc | apply pw_below_drewN | apply below_drew1 | refine below_set ?_ GE962.out | refine below_set ?_ GE969.out | refine below_set ?_ GE982.out | refine below_set ?_ GE990.out) | exact HB.out))))
                        have n13_ := Aside0.mk (Kd.V_lower (Kd.V_mono (ok' := fun k_ => some k_ ≠ (.slice Ao9 t946.length co9 : Value).ownBlock ∧ some k_ ≠ (.slice Ao40 t949.length co40 : Value).ownBlock ∧ some k_ ≠ (.slice Ao69 x8_1.length co69 : Value).ownBlock ∧ some k_ ≠ (v974 : Value).ownBlock ∧ k_ ≠ gb962 ∧ k_ ≠ gb969 ∧ k_ ≠ gb982 ∧ k_ ≠ gb990) ho1 (fun k_ hk_ => ⟨(Kd.fresh' (Kd.R_lt (by (with_reducible repeat (first | apply Kd.R_alloc | apply Kd.R_drewN | apply Kd.R_drew)); exact HO_6.out)) k_ hk_), (Kd.fresh' (Kd.R_lt (by (with_reducible repeat (first | apply Kd.R_alloc | apply Kd.R_drewN | apply Kd.R_drew)); exact HO_7.out)) k_ hk_), (Kd.fresh' (Kd.R_lt (by (with_reducible repeat (first | apply Kd.R_alloc | apply Kd.R_drewN | apply Kd.R_drew)); exact HO_8.out)) k_ hk_), (Kd.fresh' (Kd.R_lt (by (with_reducible repeat (first | apply Kd.R_alloc | apply Kd.R_drewN | apply Kd.R_drew)); exact HO975.out)) k_ hk_), (Kd.freshB (g := gb962) (o := .cells #[.slice Ao37 t956.length co37, .slice Ao39 t959.length co39] 45 (0, 0)) (by (with_reducible repeat (first | refine blk_drewN ?_ _ | refine blk_drew ?_ | refine blk_alloc ?_ _)); exact BK962.out) k_ hk_), (Kd.freshB (g := gb969) (o := .cells #[.slice Ao43 t963.length co43, .slice Ao46 t966.length co46] 45 (0, 0)) (by (with_reducible repeat (first | refine blk_drewN ?_ _ | refine blk_drew ?_ | refine blk_alloc ?_ _)); exact BK969.out) k_ hk_), (Kd.freshB (g := gb982) (o := .cells #[.slice Ao53 t976.length co53, .slice Ao57 t979.length co57] 45 (0, 0)) (by (with_reducible repeat (first | refine blk_drewN ?_ _ | refine blk_drew ?_ | refine blk_alloc ?_ _)); exact BK982.out) k_ hk_), (Kd.freshB (g := gb990) (o := .cells #[.slice Ao61 t983.length co61, .slice Ao66 t986.length co66] 45 (0, 0)) (by (with_reducible repeat (first | refine blk_drewN ?_ _ | refine blk_drew ?_ | refine blk_alloc ?_ _)); exact BK990.out) k_ hk_)⟩)) (below_size (by repeat (first | (with_reducible first | exact HB.out | apply below_alloc | apply pw_below_drewN | apply below_drew1 | refine below_set ?_ GE962.out | refine below_set ?_ GE969.out | refine below_set ?_ GE982.out | refine below_set ?_ GE990.out) | exact HB.out))))
                        have n14_ := Aside0.mk (blk_below (g := gb962) (o := .cells #[.slice Ao37 t956.length co37, .slice Ao39 t959.length co39] 45 (0, 0)) (by (with_reducible repeat (first | refine blk_drewN ?_ _ | refine blk_drew ?_ | refine blk_alloc ?_ _)); exact BK962.out) hb)
                        have n15_ := Aside0.mk (blk_below (g := gb969) (o := .cells #[.slice Ao43 t963.length co43, .slice Ao46 t966.length co46] 45 (0, 0)) (by (with_reducible repeat (first | refine blk_drewN ?_ _ | refine blk_drew ?_ | refine blk_alloc ?_ _)); exact BK969.out) hb)
                        have n16_ := Aside0.mk (blk_below (g := gb982) (o := .cells #[.slice Ao53 t976.length co53, .slice Ao57 t979.length co57] 45 (0, 0)) (by (with_reducible repeat (first | refine blk_drewN ?_ _ | refine blk_drew ?_ | refine blk_alloc ?_ _)); exact BK982.out) hb)
                        have n17_ := Aside0.mk (blk_below (g := gb990) (o := .cells #[.slice Ao61 t983.length co61, .slice Ao66 t986.length co66] 45 (0, 0)) (by (with_reducible repeat (first | refine blk_drewN ?_ _ | refine blk_drew ?_ | refine blk_alloc ?_ _)); exact BK990.out) hb)
                        have n18_ := Aside0.mk (below_step (by repeat (first | (with_reducible first | exact HB.out | apply below_alloc | apply pw_below_drewN | apply below_drew1 | refine below_set ?_ GE962.out | refine below_set ?_ GE969.out | refine below_set ?_ GE982.out | refine below_set ?_ GE990.out) | exact HB.out)) hb)
                        clear HO_6
                        clear HO_7
                        clear HO_8
                        clear HO958
                        clear HO961
                        clear HO965
                        clear HO968
                        clear HO975
                        clear HO978
                        clear HO981
                        clear HO985
                        clear HO988
                        clear BK962
                        clear BK969
                        clear BK982
                        clear BK990
                        clear HB
                        have HO_6 := n0_
                        have HO_7 := n1_
                        have HO_8 := n2_
                        have HO958 := n3_
                        have HO961 := n4_
                        have HO965 := n5_
                        have HO968 := n6_
                        have HO975 := n7_
                        have HO978 := n8_
                        have HO981 := n9_
                        have HO985 := n10_
                        have HO988 := n11_
                        have HO993 := n12_
                        have HO996 := n13_
                        have BK962 := n14_
                        have BK969 := n15_
                        have BK982 := n16_
                        have BK990 := n17_
                        have HB := n18_
                        clear n0_ n1_ n2_ n3_ n4_ n5_ n6_ n7_ n8_ n9_ n10_ n11_ n12_ n13_ n14_ n15_ n16_ n17_ n18_
                        (try clear hb)
                        (try clear hb2)
                        (try clear hk)
                        (try clear hi)
                        (try clear ho0)
                        (try clear ho1)
                        obtain ⟨Ao71, co71, eo71⟩ := Kd.V_slice HO993.out
                        (first | subst eo71 | (injection eo71 with f1_ f2_ f3_; have f4_ := f1_.symm; have f5_ := f3_.symm; clear f1_ f2_ f3_; subst f4_; subst f5_))
                        obtain ⟨Ao72, co72, eo72⟩ := Kd.V_slice HO996.out
                        (first | subst eo72 | (injection eo72 with f1_ f2_ f3_; have f4_ := f1_.symm; have f5_ := f3_.symm; clear f1_ f2_ f3_; subst f4_; subst f5_))
                        refine hK.out _ _ ⟨(blk_cell BK962.out 0).trans rfl, (blk_cell BK962.out 1).trans rfl, (blk_cell BK982.out 0).trans rfl, (blk_cell BK982.out 1).trans rfl, (blk_cell BK969.out 0).trans rfl, (blk_cell BK969.out 1).trans rfl, (blk_cell BK990.out 0).trans rfl, (blk_cell BK990.out 1).trans rfl⟩ (fun hHeld => ?_)
                        clear hK K
                        refine norm_ (a' := ?_) ?_ ?_
                        rotate_left
                        · show Act.put _ (some 57) _ = _
                          simp only [Act.put, List.setIfInBounds_toArray, List.set_cons_zero, List.set_cons_succ, i64_w, i32_w]
                          rfl
                        refine one_ (i := 5) (N := some 59) #[true, true, true, true, true, true, false, false, false, false, false, false, false, false, false, false, false, false, false, false, false, false, false, false, false, false, false, false, false, false, false, false, false, false, false, false] rfl rfl (one_of HT_.out (by kernel_rfl)) (by decide) (fun K hK => ?_)
                        refine goes_ Try.func35 (by kernel_rfl) rfl #[.agg #[.slice Ao71 t991.length co71, .slice Ao72 t994.length co72], .agg #[.slice Ao37 t956.length co37, .slice Ao39 t959.length co39]] (by rfl) rfl rfl (by (try simp only [List.map_toArray, List.map_cons, List.map_nil]); first | done | rfl | (simp only [List.length_drop, List.length_take]; rfl)) ?_
                        with_reducible refine (regattalaw03_same.calls k1 _ _ t991 _ _ t994 _ _ t956 _ _ t959 true _ ?side1 ?side2 ?side3 ?side4 ?side5 ?side6 ?side7 ?side8 A23.out).mono ?_
                        (case side1 => repeat (first | exact (Kd.V_reads' HO993.out).2.2 | (with_reducible refine Kd.C_alloc ?_ _) | (with_reducible refine Kd.C_drewN ?_ _) | (with_reducible refine Kd.C_drew ?_)))
                        (case side2 => exact (Kd.V_reads' HO993.out).2.1)
                        (case side3 => repeat (first | exact (Kd.V_reads' HO996.out).2.2 | (with_reducible refine Kd.C_alloc ?_ _) | (with_reducible refine Kd.C_drewN ?_ _) | (with_reducible refine Kd.C_drew ?_)))
                        (case side4 => exact (Kd.V_reads' HO996.out).2.1)
                        (case side5 => repeat (first | exact (Kd.V_reads' HO958.out).2.2 | (with_reducible refine Kd.C_alloc ?_ _) | (with_reducible refine Kd.C_drewN ?_ _) | (with_reducible refine Kd.C_drew ?_)))
                        (case side6 => exact (Kd.V_reads' HO958.out).2.1)
                        (case side7 => repeat (first | exact (Kd.V_reads' HO961.out).2.2 | (with_reducible refine Kd.C_alloc ?_ _) | (with_reducible refine Kd.C_drewN ?_ _) | (with_reducible refine Kd.C_drew ?_)))
                        (case side8 => exact (Kd.V_reads' HO961.out).2.1)
                        rintro e w73 ⟨rfl, hb⟩
                        refine ⟨_, rfl, ?_⟩
                        have n0_ := Aside0.mk (Kd.R_below (by (with_reducible repeat (first | apply Kd.R_alloc | apply Kd.R_drewN | apply Kd.R_drew)); exact HO_6.out) hb)
                        have n1_ := Aside0.mk (Kd.R_below (by (with_reducible repeat (first | apply Kd.R_alloc | apply Kd.R_drewN | apply Kd.R_drew)); exact HO_7.out) hb)
                        have n2_ := Aside0.mk (Kd.R_below (by (with_reducible repeat (first | apply Kd.R_alloc | apply Kd.R_drewN | apply Kd.R_drew)); exact HO_8.out) hb)
                        have n3_ := Aside0.mk (Kd.V_below (by (with_reducible repeat (first | apply Kd.V_alloc | apply Kd.V_drewN | apply Kd.V_drew)); exact HO958.out) hb)
                        have n4_ := Aside0.mk (Kd.V_below (by (with_reducible repeat (first | apply Kd.V_alloc | apply Kd.V_drewN | apply Kd.V_drew)); exact HO961.out) hb)
                        have n5_ := Aside0.mk (Kd.V_below (by (with_reducible repeat (first | apply Kd.V_alloc | apply Kd.V_drewN | apply Kd.V_drew)); exact HO965.out) hb)
                        have n6_ := Aside0.mk (Kd.V_below (by (with_reducible repeat (first | apply Kd.V_alloc | apply Kd.V_drewN | apply Kd.V_drew)); exact HO968.out) hb)
                        have n7_ := Aside0.mk (Kd.R_below (by (with_reducible repeat (first | apply Kd.R_alloc | apply Kd.R_drewN | apply Kd.R_drew)); exact HO975.out) hb)
                        have n8_ := Aside0.mk (Kd.V_below (by (with_reducible repeat (first | apply Kd.V_alloc | apply Kd.V_drewN | apply Kd.V_drew)); exact HO978.out) hb)
                        have n9_ := Aside0.mk (Kd.V_below (by (with_reducible repeat (first | apply Kd.V_alloc | apply Kd.V_drewN | apply Kd.V_drew)); exact HO981.out) hb)
                        have n10_ := Aside0.mk (Kd.V_below (by (with_reducible repeat (first | apply Kd.V_alloc | apply Kd.V_drewN | apply Kd.V_drew)); exact HO985.out) hb)
                        have n11_ := Aside0.mk (Kd.V_below (by (with_reducible repeat (first | apply Kd.V_alloc | apply Kd.V_drewN | apply Kd.V_drew)); exact HO988.out) hb)
                        have n12_ := Aside0.mk (Kd.V_below (by (with_reducible repeat (first | apply Kd.V_alloc | apply Kd.V_drewN | apply Kd.V_drew)); exact HO993.out) hb)
                        have n13_ := Aside0.mk (Kd.V_below (by (with_reducible repeat (first | apply Kd.V_alloc | apply Kd.V_drewN | apply Kd.V_drew)); exact HO996.out) hb)
                        have n14_ := Aside0.mk (blk_below (g := gb962) (o := .cells #[.slice Ao37 t956.length co37, .slice Ao39 t959.length co39] 45 (0, 0)) (by (with_reducible repeat (first | refine blk_drewN ?_ _ | refine blk_drew ?_ | refine blk_alloc ?_ _)); exact BK962.out) hb)
                        have n15_ := Aside0.mk (blk_below (g := gb969) (o := .cells #[.slice Ao43 t963.length co43, .slice Ao46 t966.length co46] 45 (0, 0)) (by (with_reducible repeat (first | refine blk_drewN ?_ _ | refine blk_drew ?_ | refine blk_alloc ?_ _)); exact BK969.out) hb)
                        have n16_ := Aside0.mk (blk_below (g := gb982) (o := .cells #[.slice Ao53 t976.length co53, .slice Ao57 t979.length co57] 45 (0, 0)) (by (with_reducible repeat (first | refine blk_drewN ?_ _ | refine blk_drew ?_ | refine blk_alloc ?_ _)); exact BK982.out) hb)
                        have n17_ := Aside0.mk (blk_below (g := gb990) (o := .cells #[.slice Ao61 t983.length co61, .slice Ao66 t986.length co66] 45 (0, 0)) (by (with_reducible repeat (first | refine blk_drewN ?_ _ | refine blk_drew ?_ | refine blk_alloc ?_ _)); exact BK990.out) hb)
                        have n18_ := Aside0.mk (below_step (by repeat (first | (with_reducible first | exact HB.out | apply below_alloc | apply pw_below_drewN | apply below_drew1 | refine below_set ?_ GE962.out | refine below_set ?_ GE969.out | refine below_set ?_ GE982.out | refine below_set ?_ GE990.out) | exact HB.out)) hb)
                        clear HO_6
                        clear HO_7
                        clear HO_8
                        clear HO958
                        clear HO961
                        clear HO965
                        clear HO968
                        clear HO975
                        clear HO978
                        clear HO981
                        clear HO985
                        clear HO988
                        clear HO993
                        clear HO996
                        clear BK962
                        clear BK969
                        clear BK982
                        clear BK990
                        clear HB
                        have HO_6 := n0_
                        have HO_7 := n1_
                        have HO_8 := n2_
                        have HO958 := n3_
                        have HO961 := n4_
                        have HO965 := n5_
                        have HO968 := n6_
                        have HO975 := n7_
                        have HO978 := n8_
                        have HO981 := n9_
                        have HO985 := n10_
                        have HO988 := n11_
                        have HO993 := n12_
                        have HO996 := n13_
                        have BK962 := n14_
                        have BK969 := n15_
                        have BK982 := n16_
                        have BK990 := n17_
                        have HB := n18_
                        clear n0_ n1_ n2_ n3_ n4_ n5_ n6_ n7_ n8_ n9_ n10_ n11_ n12_ n13_ n14_ n15_ n16_ n17_ n18_
                        (try clear hb)
                        (try clear hb2)
                        (try clear hk)
                        (try clear hi)
                        refine hK.out _ _ ⟨(blk_cell BK962.out 0).trans rfl, (blk_cell BK962.out 1).trans rfl, (blk_cell BK982.out 0).trans rfl, (blk_cell BK982.out 1).trans rfl, (blk_cell BK969.out 0).trans rfl, (blk_cell BK969.out 1).trans rfl, (blk_cell BK990.out 0).trans rfl, (blk_cell BK990.out 1).trans rfl⟩ (fun hHeld => ?_)
                        clear hK K
                        refine norm_ (a' := ?_) ?_ ?_
                        rotate_left
                        · show Act.put _ (some 59) _ = _
                          simp only [Act.put, List.setIfInBounds_toArray, List.set_cons_zero, List.set_cons_succ, i64_w, i32_w]
                          rfl
                        refine pure_ (i := 6) (N := some 60) (v := ?_) (a' := ?_) #[true, true, true, true, true, true, true, false, false, false, false, false, false, false, false, false, false, false, false, false, false, false, false, false, false, false, false, false, false, false, false, false, false, false, false, false] rfl rfl (any_of HT_.out (by kernel_rfl)) (fun _ _ _ h => h) (Or.inl ⟨by rfl, ?_⟩) ?_ ?_
                        rotate_left
                        · intro w'
                          go_simp
                          with_reducible rfl
                        rotate_left
                        · simp only [Act.put, List.setIfInBounds_toArray, List.set_cons_zero, List.set_cons_succ, i64_w, i32_w]
                          rfl
                        refine pure_ (i := 7) (N := some 61) (v := ?_) (a' := ?_) #[true, true, true, true, true, true, true, true, false, false, false, false, false, false, false, false, false, false, false, false, false, false, false, false, false, false, false, false, false, false, false, false, false, false, false, false] rfl rfl (any_of HT_.out (by kernel_rfl)) (fun _ _ _ h => h) (Or.inl ⟨by rfl, ?_⟩) ?_ ?_
                        rotate_left
                        · intro w'
                          go_simp
                          with_reducible rfl
                        rotate_left
                        · simp only [Act.put, List.setIfInBounds_toArray, List.set_cons_zero, List.set_cons_succ, i64_w, i32_w]
                          rfl
                        refine take_ (i := 8) (N := some 62) (v := ?_) (a' := ?_) #[true, true, true, true, true, true, true, true, true, false, false, false, false, false, false, false, false, false, false, false, false, false, false, false, false, false, false, false, false, false, false, false, false, false, false, false] rfl rfl (take_ofW HT_.out HW_.out (by kernel_rfl)) (fun _ _ _ h => h) (Or.inl ⟨by rfl, ?_⟩) hHeld ?_ ?_
                        rotate_left
                        · rintro w' ⟨s0, s1, s2, s3, s4, s5, s6, s7⟩
                          go_simp
                          with_reducible rfl
                        rotate_left
                        · simp only [Act.put, List.setIfInBounds_toArray, List.set_cons_zero, List.set_cons_succ, i64_w, i32_w]
                          rfl
                        refine take_ (i := 9) (N := some 63) (v := ?_) (a' := ?_) #[true, true, true, true, true, true, true, true, true, true, false, false, false, false, false, false, false, false, false, false, false, false, false, false, false, false, false, false, false, false, false, false, false, false, false, false] rfl rfl (take_ofW HT_.out HW_.out (by kernel_rfl)) (fun _ _ _ h => h) (Or.inl ⟨by rfl, ?_⟩) hHeld ?_ ?_
                        rotate_left
                        · rintro w' ⟨s0, s1, s2, s3, s4, s5, s6, s7⟩
                          go_simp
                          with_reducible rfl
                        rotate_left
                        · simp only [Act.put, List.setIfInBounds_toArray, List.set_cons_zero, List.set_cons_succ, i64_w, i32_w]
                          rfl
                        refine take_ (i := 10) (N := some 64) (v := ?_) (a' := ?_) #[true, true, true, true, true, true, true, true, true, true, true, false, false, false, false, false, false, false, false, false, false, false, false, false, false, false, false, false, false, false, false, false, false, false, false, false] rfl rfl (take_ofW HT_.out HW_.out (by kernel_rfl)) (fun _ _ _ h => h) (Or.inl ⟨by rfl, ?_⟩) hHeld ?_ ?_
                        rotate_left
                        · rintro w' ⟨s0, s1, s2, s3, s4, s5, s6, s7⟩
                          go_simp
                          with_reducible rfl
                        rotate_left
                        · simp only [Act.put, List.setIfInBounds_toArray, List.set_cons_zero, List.set_cons_succ, i64_w, i32_w]
                          rfl
                        refine one_ (i := 11) (N := some 65) #[true, true, true, true, true, true, true, true, true, true, true, true, false, false, false, false, false, false, false, false, false, false, false, false, false, false, false, false, false, false, false, false, false, false, false, false] rfl rfl (one_of HT_.out (by kernel_rfl)) (by decide) (fun K hK => ?_)
                        refine goes_ Try.func45 (by kernel_rfl) rfl #[.agg #[.slice Ao43 t963.length co43, .slice Ao46 t966.length co46], .agg #[.slice Ao37 t956.length co37, .slice Ao39 t959.length co39]] (by rfl) rfl rfl (by (try simp only [List.map_toArray, List.map_cons, List.map_nil]); first | done | rfl | (simp only [List.length_drop, List.length_take]; rfl)) ?_
                        with_reducible refine (ratio_Add.calls k1 _ _ t963 _ _ t966 _ _ t956 _ _ t959 t998 t1001 _ ?side1 ?side2 ?side3 ?side4 ?side5 ?side6 ?side7 ?side8 A25.out).mono ?_
                        (case side1 => repeat (first | exact (Kd.V_reads' HO965.out).2.2 | (with_reducible refine Kd.C_alloc ?_ _) | (with_reducible refine Kd.C_drewN ?_ _) | (with_reducible refine Kd.C_drew ?_)))
                        (case side2 => exact (Kd.V_reads' HO965.out).2.1)
                        (case side3 => repeat (first | exact (Kd.V_reads' HO968.out).2.2 | (with_reducible refine Kd.C_alloc ?_ _) | (with_reducible refine Kd.C_drewN ?_ _) | (with_reducible refine Kd.C_drew ?_)))
                        (case side4 => exact (Kd.V_reads' HO968.out).2.1)
                        (case side5 => repeat (first | exact (Kd.V_reads' HO958.out).2.2 | (with_reducible refine Kd.C_alloc ?_ _) | (with_reducible refine Kd.C_drewN ?_ _) | (with_reducible refine Kd.C_drew ?_)))
                        (case side6 => exact (Kd.V_reads' HO958.out).2.1)
                        (case side7 => repeat (first | exact (Kd.V_reads' HO961.out).2.2 | (with_reducible refine Kd.C_alloc ?_ _) | (with_reducible refine Kd.C_drewN ?_ _) | (with_reducible refine Kd.C_drew ?_)))
                        (case side8 => exact (Kd.V_reads' HO961.out).2.1)
                        rintro e w74 ⟨v999, v1002, rfl, ho0, ho1, hb⟩
                        refine ⟨_, rfl, ?_⟩
                        have n0_ := Aside0.mk (Kd.R_below (by (with_reducible repeat (first | apply Kd.R_alloc | apply Kd.R_drewN | apply Kd.R_drew)); exact HO_6.out) hb)
                        have n1_ := Aside0.mk (Kd.R_below (by (with_reducible repeat (first | apply Kd.R_alloc | apply Kd.R_drewN | apply Kd.R_drew)); exact HO_7.out) hb)
                        have n2_ := Aside0.mk (Kd.R_below (by (with_reducible repeat (first | apply Kd.R_alloc | apply Kd.R_drewN | apply Kd.R_drew)); exact HO_8.out) hb)
                        have n3_ := Aside0.mk (Kd.V_below (by (with_reducible repeat (first | apply Kd.V_alloc | apply Kd.V_drewN | apply Kd.V_drew)); exact HO958.out) hb)
                        have n4_ := Aside0.mk (Kd.V_below (by (with_reducible repeat (first | apply Kd.V_alloc | apply Kd.V_drewN | apply Kd.V_drew)); exact HO961.out) hb)
                        have n5_ := Aside0.mk (Kd.V_below (by (with_reducible repeat (first | apply Kd.V_alloc | apply Kd.V_drewN | apply Kd.V_drew)); exact HO965.out) hb)
                        have n6_ := Aside0.mk (Kd.V_below (by (with_reducible repeat (first | apply Kd.V_alloc | apply Kd.V_drewN | apply Kd.V_drew)); exact HO968.out) hb)
                        have n7_ := Aside0.mk (Kd.R_below (by (with_reducible repeat (first | apply Kd.R_alloc | apply Kd.R_drewN | apply Kd.R_drew)); exact HO975.out) hb)
                        have n8_ := Aside0.mk (Kd.V_below (by (with_reducible repeat (first | apply Kd.V_alloc | apply Kd.V_drewN | apply Kd.V_drew)); exact HO978.out) hb)
                        have n9_ := Aside0.mk (Kd.V_below (by (with_reducible repeat (first | apply Kd.V_alloc | apply Kd.V_drewN | apply Kd.V_drew)); exact HO981.out) hb)
                        have n10_ := Aside0.mk (Kd.V_below (by (with_reducible repeat (first | apply Kd.V_alloc | apply Kd.V_drewN | apply Kd.V_drew)); exact HO985.out) hb)
                        have n11_ := Aside0.mk (Kd.V_below (by (with_reducible repeat (first | apply Kd.V_alloc | apply Kd.V_drewN | apply Kd.V_drew)); exact HO988.out) hb)
                        have n12_ := Aside0.mk (Kd.V_below (by (with_reducible repeat (first | apply Kd.V_alloc | apply Kd.V_drewN | apply Kd.V_drew)); exact HO993.out) hb)
                        have n13_ := Aside0.mk (Kd.V_below (by (with_reducible repeat (first | apply Kd.V_alloc | apply Kd.V_drewN | apply Kd.V_drew)); exact HO996.out) hb)
                        have n14_ := Aside0.mk (Kd.V_lower (Kd.V_mono (ok' := fun k_ => some k_ ≠ (.slice Ao9 t946.length co9 : Value).ownBlock ∧ some k_ ≠ (.slice Ao40 t949.length co40 : Value).ownBlock ∧ some k_ ≠ (.slice Ao69 x8_1.length co69 : Value).ownBlock ∧ some k_ ≠ (v974 : Value).ownBlock ∧ k_ ≠ gb962 ∧ k_ ≠ gb969 ∧ k_ ≠ gb982 ∧ k_ ≠ gb990) ho0 (fun k_ hk_ => ⟨(Kd.fresh' (Kd.R_lt (by (with_reducible repeat (first | apply Kd.R_alloc | apply Kd.R_drewN | apply Kd.R_drew)); exact HO_6.out)) k_ hk_), (Kd.fresh' (Kd.R_lt (by (with_reducible repeat (first | apply Kd.R_alloc | apply Kd.R_drewN | apply Kd.R_drew)); exact HO_7.out)) k_ hk_), (Kd.fresh' (Kd.R_lt (by (with_reducible repeat (first | apply Kd.R_alloc | apply Kd.R_drewN | apply Kd.R_drew)); exact HO_8.out)) k_ hk_), (Kd.fresh' (Kd.R_lt (by (with_reducible repeat (first | apply Kd.R_alloc | apply Kd.R_drewN | apply Kd.R_drew)); exact HO975.out)) k_ hk_), (Kd.freshB (g := gb962) (o := .cells #[.slice Ao37 t956.length co37, .slice Ao39 t959.length co39] 45 (0, 0)) (by (with_reducible repeat (first | refine blk_drewN ?_ _ | refine blk_drew ?_ | refine blk_alloc ?_ _)); exact BK962.out) k_ hk_), (Kd.freshB (g := gb969) (o := .cells #[.slice Ao43 t963.length co43, .slice Ao46 t966.length co46] 45 (0, 0)) (by (with_reducible repeat (first | refine blk_drewN ?_ _ | refine blk_drew ?_ | refine blk_alloc ?_ _)); exact BK969.out) k_ hk_), (Kd.freshB (g := gb982) (o := .cells #[.slice Ao53 t976.length co53, .slice Ao57 t979.length co57] 45 (0, 0)) (by (with_reducible repeat (first | refine blk_drewN ?_ _ | refine blk_drew ?_ | refine blk_alloc ?_ _)); exact BK982.out) k_ hk_), (Kd.freshB (g := gb990) (o := .cells #[.slice Ao61 t983.length co61, .slice Ao66 t986.length co66] 45 (0, 0)) (by (with_reducible repeat (first | refine blk_drewN ?_ _ | refine blk_drew ?_ | refine blk_alloc ?_ _)); exact BK990.out) k_ hk_)⟩)) (below_size (by repeat (first | (with_reducible first | exact HB.out | apply below_alloc | apply pw_below_drewN | apply below_drew1 | refine below_set ?_ GE962.out | refine below_set ?_ GE969.out | refine below_set ?_ GE982.out | refine below_set ?_ GE990.out) | exact HB.out))))
                        have n15_ := Aside0.mk (Kd.V_lower (Kd.V_mono (ok' := fun k_ => some k_ ≠ (.slice Ao9 t946.length co9 : Value).ownBlock ∧ some k_ ≠ (.slice Ao40 t949.length co40 : Value).ownBlock ∧ some k_ ≠ (.slice Ao69 x8_1.length co69 : Value).ownBlock ∧ some k_ ≠ (v974 : Value).ownBlock ∧ k_ ≠ gb962 ∧ k_ ≠ gb969 ∧ k_ ≠ gb982 ∧ k_ ≠ gb990) ho1 (fun k_ hk_ => ⟨(Kd.fresh' (Kd.R_lt (by (with_reducible repeat (first | apply Kd.R_alloc | apply Kd.R_drewN | apply Kd.R_drew)); exact HO_6.out)) k_ hk_), (Kd.fresh' (Kd.R_lt (by (with_reducible repeat (first | apply Kd.R_alloc | apply Kd.R_drewN | apply Kd.R_drew)); exact HO_7.out)) k_ hk_), (Kd.fresh' (Kd.R_lt (by (with_reducible repeat (first | apply Kd.R_alloc | apply Kd.R_drewN | apply Kd.R_drew)); exact HO_8.out)) k_ hk_), (Kd.fresh' (Kd.R_lt (by (with_reducible repeat (first | apply Kd.R_alloc | apply Kd.R_drewN | apply Kd.R_drew)); exact HO975.out)) k_ hk_), (Kd.freshB (g := gb962) (o := .cells #[.slice Ao37 t956.length co37, .slice Ao39 t959.length co39] 45 (0, 0)) (by (with_reducible repeat (first | refine blk_drewN ?_ _ | refine blk_drew ?_ | refine blk_alloc ?_ _)); exact BK962.out) k_ hk_), (Kd.freshB (g := gb969) (o := .cells #[.slice Ao43 t963.length co43, .slice Ao46 t966.length co46] 45 (0, 0)) (by (with_reducible repeat (first | refine blk_drewN ?_ _ | refine blk_drew ?_ | refine blk_alloc ?_ _)); exact BK969.out) k_ hk_), (Kd.freshB (g := gb982) (o := .cells #[.slice Ao53 t976.length co53, .slice Ao57 t979.length co57] 45 (0, 0)) (by (with_reducible repeat (first | refine blk_drewN ?_ _ | refine blk_drew ?_ | refine blk_alloc ?_ _)); exact BK982.out) k_ hk_), (Kd.freshB (g := gb990) (o := .cells #[.slice Ao61 t983.length co61, .slice Ao66 t986.length co66] 45 (0, 0)) (by (with_reducible repeat (first | refine blk_drewN ?_ _ | refine blk_drew ?_ | refine blk_alloc ?_ _)); exact BK990.out) k_ hk_)⟩)) (below_size (by repeat (first | (with_reducible first | exact HB.out | apply below_alloc | apply pw_below_drewN | apply below_drew1 | refine below_set ?_ GE962.out | refine below_set ?_ GE969.out | refine below_set ?_ GE982.out | refine below_set ?_ GE990.out) | exact HB.out))))
                        have n16_ := Aside0.mk (blk_below (g := gb962) (o := .cells #[.slice Ao37 t956.length co37, .slice Ao39 t959.length co39] 45 (0, 0)) (by (with_reducible repeat (first | refine blk_drewN ?_ _ | refine blk_drew ?_ | refine blk_alloc ?_ _)); exact BK962.out) hb)
                        have n17_ := Aside0.mk (blk_below (g := gb969) (o := .cells #[.slice Ao43 t963.length co43, .slice Ao46 t966.length co46] 45 (0, 0)) (by (with_reducible repeat (first | refine blk_drewN ?_ _ | refine blk_drew ?_ | refine blk_alloc ?_ _)); exact BK969.out) hb)
                        have n18_ := Aside0.mk (blk_below (g := gb982) (o := .cells #[.slice Ao53 t976.length co53, .slice Ao57 t979.length co57] 45 (0, 0)) (by (with_reducible repeat (first | refine blk_drewN ?_ _ | refine blk_drew ?_ | refine blk_alloc ?_ _)); exact BK982.out) hb)
                        have n19_ := Aside0.mk (blk_below (g := gb990) (o := .cells #[.slice Ao61 t983.length co61, .slice Ao66 t986.length co66] 45 (0, 0)) (by (with_reducible repeat (first | refine blk_drewN ?_ _ | refine blk_drew ?_ | refine blk_alloc ?_ _)); exact BK990.out) hb)
                        have n20_ := Aside0.mk (below_step (by repeat (first | (with_reducible first | exact HB.out | apply below_alloc | apply pw_below_drewN | apply below_drew1 | refine below_set ?_ GE962.out | refine below_set ?_ GE969.out | refine below_set ?_ GE982.out | refine below_set ?_ GE990.out) | exact HB.out)) hb)
                        clear HO_6
                        clear HO_7
                        clear HO_8
                        clear HO958
                        clear HO961
                        clear HO965
                        clear HO968
                        clear HO975
                        clear HO978
                        clear HO981
                        clear HO985
                        clear HO988
                        clear HO993
                        clear HO996
                        clear BK962
                        clear BK969
                        clear BK982
                        clear BK990
                        clear HB
                        have HO_6 := n0_
                        have HO_7 := n1_
                        have HO_8 := n2_
                        have HO958 := n3_
                        have HO961 := n4_
                        have HO965 := n5_
                        have HO968 := n6_
                        have HO975 := n7_
                        have HO978 := n8_
                        have HO981 := n9_
                        have HO985 := n10_
                        have HO988 := n11_
                        have HO993 := n12_
                        have HO996 := n13_
                        have HO1000 := n14_
                        have HO1003 := n15_
                        have BK962 := n16_
                        have BK969 := n17_
                        have BK982 := n18_
                        have BK990 := n19_
                        have HB := n20_
                        clear n0_ n1_ n2_ n3_ n4_ n5_ n6_ n7_ n8_ n9_ n10_ n11_ n12_ n13_ n14_ n15_ n16_ n17_ n18_ n19_ n20_
                        (try clear hb)
                        (try clear hb2)
                        (try clear hk)
                        (try clear hi)
                        (try clear ho0)
                        (try clear ho1)
                        obtain ⟨Ao75, co75, eo75⟩ := Kd.V_slice HO1000.out
                        (first | subst eo75 | (injection eo75 with f1_ f2_ f3_; have f4_ := f1_.symm; have f5_ := f3_.symm; clear f1_ f2_ f3_; subst f4_; subst f5_))
                        obtain ⟨Ao76, co76, eo76⟩ := Kd.V_slice HO1003.out
                        (first | subst eo76 | (injection eo76 with f1_ f2_ f3_; have f4_ := f1_.symm; have f5_ := f3_.symm; clear f1_ f2_ f3_; subst f4_; subst f5_))
                        refine hK.out _ _ ⟨(blk_cell BK962.out 0).trans rfl, (blk_cell BK962.out 1).trans rfl, (blk_cell BK982.out 0).trans rfl, (blk_cell BK982.out 1).trans rfl, (blk_cell BK969.out 0).trans rfl, (blk_cell BK969.out 1).trans rfl, (blk_cell BK990.out 0).trans rfl, (blk_cell BK990.out 1).trans rfl⟩ (fun hHeld => ?_)
                        clear hK K
                        refine norm_ (a' := ?_) ?_ ?_
                        rotate_left
                        · show Act.put _ (some 65) _ = _
                          simp only [Act.put, List.setIfInBounds_toArray, List.set_cons_zero, List.set_cons_succ, i64_w, i32_w]
                          rfl
                        refine one_ (i := 12) (N := some 66) #[true, true, true, true, true, true, true, true, true, true, true, true, true, false, false, false, false, false, false, false, false, false, false, false, false, false, false, false, false, false, false, false, false, false, false, false] rfl rfl (one_of HT_.out (by kernel_rfl)) (by decide) (fun K hK => ?_)
                        refine goes_ Try.func35 (by kernel_rfl) rfl #[.agg #[.slice Ao53 t976.length co53, .slice Ao57 t979.length co57], .agg #[.slice Ao75 t998.length co75, .slice Ao76 t1001.length co76]] (by rfl) rfl rfl (by (try simp only [List.map_toArray, List.map_cons, List.map_nil]); first | done | rfl | (simp only [List.length_drop, List.length_take]; rfl)) ?_
                        with_reducible refine (regattalaw03_same.calls k1 _ _ t976 _ _ t979 _ _ t998 _ _ t1001 true _ ?side1 ?side2 ?side3 ?side4 ?side5 ?side6 ?side7 ?side8 A26.out).mono ?_
                        (case side1 => repeat (first | exact (Kd.V_reads' HO978.out).2.2 | (with_reducible refine Kd.C_alloc ?_ _) | (with_reducible refine Kd.C_drewN ?_ _) | (with_reducible refine Kd.C_drew ?_)))
                        (case side2 => exact (Kd.V_reads' HO978.out).2.1)
                        (case side3 => repeat (first | exact (Kd.V_reads' HO981.out).2.2 | (with_reducible refine Kd.C_alloc ?_ _) | (with_reducible refine Kd.C_drewN ?_ _) | (with_reducible refine Kd.C_drew ?_)))
                        (case side4 => exact (Kd.V_reads' HO981.out).2.1)
                        (case side5 => repeat (first | exact (Kd.V_reads' HO1000.out).2.2 | (with_reducible refine Kd.C_alloc ?_ _) | (with_reducible refine Kd.C_drewN ?_ _) | (with_reducible refine Kd.C_drew ?_)))
                        (case side6 => exact (Kd.V_reads' HO1000.out).2.1)
                        (case side7 => repeat (first | exact (Kd.V_reads' HO1003.out).2.2 | (with_reducible refine Kd.C_alloc ?_ _) | (with_reducible refine Kd.C_drewN ?_ _) | (with_reducible refine Kd.C_drew ?_)))
                        (case side8 => exact (Kd.V_reads' HO1003.out).2.1)
                        rintro e w77 ⟨rfl, hb⟩
                        refine ⟨_, rfl, ?_⟩
                        have n0_ := Aside0.mk (Kd.R_below (by (with_reducible repeat (first | apply Kd.R_alloc | apply Kd.R_drewN | apply Kd.R_drew)); exact HO_6.out) hb)
                        have n1_ := Aside0.mk (Kd.R_below (by (with_reducible repeat (first | apply Kd.R_alloc | apply Kd.R_drewN | apply Kd.R_drew)); exact HO_7.out) hb)
                        have n2_ := Aside0.mk (Kd.R_below (by (with_reducible repeat (first | apply Kd.R_alloc | apply Kd.R_drewN | apply Kd.R_drew)); exact HO_8.out) hb)
                        have n3_ := Aside0.mk (Kd.V_below (by (with_reducible repeat (first | apply Kd.V_alloc | apply Kd.V_drewN | apply Kd.V_drew)); exact HO958.out) hb)
                        have n4_ := Aside0.mk (Kd.V_below (by (with_reducible repeat (first | apply Kd.V_alloc | apply Kd.V_drewN | apply Kd.V_drew)); exact HO961.out) hb)
                        have n5_ := Aside0.mk (Kd.V_below (by (with_reducible repeat (first | apply Kd.V_alloc | apply Kd.V_drewN | apply Kd.V_drew)); exact HO965.out) hb)
                        have n6_ := Aside0.mk (Kd.V_below (by (with_reducible repeat (first | apply Kd.V_alloc | apply Kd.V_drewN | apply Kd.V_drew)); exact HO968.out) hb)
                        have n7_ := Aside0.mk (Kd.R_below (by (with_reducible repeat (first | apply Kd.R_alloc | apply Kd.R_drewN | apply Kd.R_drew)); exact HO975.out) hb)
                        have n8_ := Aside0.mk (Kd.V_below (by (with_reducible repeat (first | apply Kd.V_alloc | apply Kd.V_drewN | apply Kd.V_drew)); exact HO978.out) hb)
                        have n9_ := Aside0.mk (Kd.V_below (by (with_reducible repeat (first | apply Kd.V_alloc | apply Kd.V_drewN | apply Kd.V_drew)); exact HO981.out) hb)
                        have n10_ := Aside0.mk (Kd.V_below (by (with_reducible repeat (first | apply Kd.V_alloc | apply Kd.V_drewN | apply Kd.V_drew)); exact HO985.out) hb)
                        have n11_ := Aside0.mk (Kd.V_below (by (with_reducible repeat (first | apply Kd.V_alloc | apply Kd.V_drewN | apply Kd.V_drew)); exact HO988.out) hb)
                        have n12_ := Aside0.mk (Kd.V_below (by (with_reducible repeat (first | apply Kd.V_alloc | apply Kd.V_drewN | apply Kd.V_drew)); exact HO993.out) hb)
                        have n13_ := Aside0.mk (Kd.V_below (by (with_reducible repeat (first | apply Kd.V_alloc | apply Kd.V_drewN | apply Kd.V_drew)); exact HO996.out) hb)
                        have n14_ := Aside0.mk (Kd.V_below (by (with_reducible repeat (first | apply Kd.V_alloc | apply Kd.V_drewN | apply Kd.V_drew)); exact HO1000.out) hb)
                        have n15_ := Aside0.mk (Kd.V_below (by (with_reducible repeat (first | apply Kd.V_alloc | apply Kd.V_drewN | apply Kd.V_drew)); exact HO1003.out) hb)
                        have n16_ := Aside0.mk (blk_below (g := gb962) (o := .cells #[.slice Ao37 t956.length co37, .slice Ao39 t959.length co39] 45 (0, 0)) (by (with_reducible repeat (first | refine blk_drewN ?_ _ | refine blk_drew ?_ | refine blk_alloc ?_ _)); exact BK962.out) hb)
                        have n17_ := Aside0.mk (blk_below (g := gb969) (o := .cells #[.slice Ao43 t963.length co43, .slice Ao46 t966.length co46] 45 (0, 0)) (by (with_reducible repeat (first | refine blk_drewN ?_ _ | refine blk_drew ?_ | refine blk_alloc ?_ _)); exact BK969.out) hb)
                        have n18_ := Aside0.mk (blk_below (g := gb982) (o := .cells #[.slice Ao53 t976.length co53, .slice Ao57 t979.length co57] 45 (0, 0)) (by (with_reducible repeat (first | refine blk_drewN ?_ _ | refine blk_drew ?_ | refine blk_alloc ?_ _)); exact BK982.out) hb)
                        have n19_ := Aside0.mk (blk_below (g := gb990) (o := .cells #[.slice Ao61 t983.length co61, .slice Ao66 t986.length co66] 45 (0, 0)) (by (with_reducible repeat (first | refine blk_drewN ?_ _ | refine blk_drew ?_ | refine blk_alloc ?_ _)); exact BK990.out) hb)
                        have n20_ := Aside0.mk (below_step (by repeat (first | (with_reducible first | exact HB.out | apply below_alloc | apply pw_below_drewN | apply below_drew1 | refine below_set ?_ GE962.out | refine below_set ?_ GE969.out | refine below_set ?_ GE982.out | refine below_set ?_ GE990.out) | exact HB.out)) hb)
                        clear HO_6
                        clear HO_7
                        clear HO_8
                        clear HO958
                        clear HO961
                        clear HO965
                        clear HO968
                        clear HO975
                        clear HO978
                        clear HO981
                        clear HO985
                        clear HO988
                        clear HO993
                        clear HO996
                        clear HO1000
                        clear HO1003
                        clear BK962
                        clear BK969
                        clear BK982
                        clear BK990
                        clear HB
                        have HO_6 := n0_
                        have HO_7 := n1_
                        have HO_8 := n2_
                        have HO958 := n3_
                        have HO961 := n4_
                        have HO965 := n5_
                        have HO968 := n6_
                        have HO975 := n7_
                        have HO978 := n8_
                        have HO981 := n9_
                        have HO985 := n10_
                        have HO988 := n11_
                        have HO993 := n12_
                        have HO996 := n13_
                        have HO1000 := n14_
                        have HO1003 := n15_
                        have BK962 := n16_
                        have BK969 := n17_
                        have BK982 := n18_
                        have BK990 := n19_
                        have HB := n20_
                        clear n0_ n1_ n2_ n3_ n4_ n5_ n6_ n7_ n8_ n9_ n10_ n11_ n12_ n13_ n14_ n15_ n16_ n17_ n18_ n19_ n20_
                        (try clear hb)
                        (try clear hb2)
                        (try clear hk)
                        (try clear hi)
                        obtain ⟨Ao78, co78, eo78⟩ := Kd.R_slice HO975.out
                        (first | subst eo78 | (injection eo78 with f1_ f2_ f3_; have f4_ := f1_.symm; have f5_ := f3_.symm; clear f1_ f2_ f3_; subst f4_; subst f5_))
                        refine hK.out _ _ ⟨(blk_cell BK962.out 0).trans rfl, (blk_cell BK962.out 1).trans rfl, (blk_cell BK982.out 0).trans rfl, (blk_cell BK982.out 1).trans rfl, (blk_cell BK969.out 0).trans rfl, (blk_cell BK969.out 1).trans rfl, (blk_cell BK990.out 0).trans rfl, (blk_cell BK990.out 1).trans rfl⟩ (fun hHeld => ?_)
                        clear hK K
                        refine norm_ (a' := ?_) ?_ ?_
                        rotate_left
                        · show Act.put _ (some 66) _ = _
                          simp only [Act.put, List.setIfInBounds_toArray, List.set_cons_zero, List.set_cons_succ, i64_w, i32_w]
                          rfl
                        refine pure_ (i := 13) (N := some 67) (v := ?_) (a' := ?_) #[true, true, true, true, true, true, true, true, true, true, true, true, true, true, false, false, false, false, false, false, false, false, false, false, false, false, false, false, false, false, false, false, false, false, false, false] rfl rfl (any_of HT_.out (by kernel_rfl)) (fun _ _ _ h => h) (Or.inl ⟨by rfl, ?_⟩) ?_ ?_
                        rotate_left
                        · intro w'
                          go_simp
                          with_reducible rfl
                        rotate_left
                        · simp only [Act.put, List.setIfInBounds_toArray, List.set_cons_zero, List.set_cons_succ, i64_w, i32_w]
                          rfl
                        refine pure_ (i := 14) (N := some 68) (v := ?_) (a' := ?_) #[true, true, true, true, true, true, true, true, true, true, true, true, true, true, true, false, false, false, false, false, false, false, false, false, false, false, false, false, false, false, false, false, false, false, false, false] rfl rfl (any_of HT_.out (by kernel_rfl)) (fun _ _ _ h => h) (Or.inl ⟨by rfl, ?_⟩) ?_ ?_
                        rotate_left
                        · intro w'
                          go_simp
                          with_reducible rfl
                        rotate_left
                        · simp only [Act.put, List.setIfInBounds_toArray, List.set_cons_zero, List.set_cons_succ, i64_w, i32_w]
                          rfl
                        refine pure_ (i := 15) (N := some 69) (v := ?_) (a' := ?_) #[true, true, true, true, true, true, true, true, true, true, true, true, true, true, true, true, false, false, false, false, false, false, false, false, false, false, false, false, false, false, false, false, false, false, false, false] rfl rfl (any_of HT_.out (by kernel_rfl)) (fun _ _ _ h => h) (Or.inl ⟨by rfl, ?_⟩) ?_ ?_
                        rotate_left
                        · intro w'
                          go_simp
                          with_reducible rfl
                        rotate_left
                        · simp only [Act.put, List.setIfInBounds_toArray, List.set_cons_zero, List.set_cons_succ, i64_w, i32_w]
                          rfl
                        refine take_ (i := 17) (N := some 71) (v := ?_) (a' := ?_) #[true, true, true, true, true, true, true, true, true, true, true, true, true, true, true, true, false, true, false, false, false, false, false, false, false, false, false, false, false, false, false, false, false, false, false, false] rfl rfl (take_ofW HT_.out HW_.out (by kernel_rfl)) (fun _ _ _ h => h) (Or.inl ⟨by rfl, ?_⟩) hHeld ?_ ?_
                        rotate_left
                        · rintro w' ⟨s0, s1, s2, s3, s4, s5, s6, s7⟩
                          go_simp
                          with_reducible rfl
                        rotate_left
                        · simp only [Act.put, List.setIfInBounds_toArray, List.set_cons_zero, List.set_cons_succ, i64_w, i32_w]
                          rfl
                        refine one_ (i := 16) (N := some 70) #[true, true, true, true, true, true, true, true, true, true, true, true, true, true, true, true, true, true, false, false, false, false, false, false, false, false, false, false, false, false, false, false, false, false, false, false] rfl rfl (one_of HT_.out (by kernel_rfl)) (by decide) (fun K hK => ?_)
                        refine goes_ Try.func42 (by kernel_rfl) rfl #[.slice Ao78 y973.length co78] (by rfl) rfl rfl (by (try simp only [List.map_toArray, List.map_cons, List.map_nil]); first | done | rfl | (simp only [List.length_drop, List.length_take]; rfl)) ?_
                        with_reducible refine (ratio_Sum.calls k1 _ _ y973 t1005 t1008 _ ?side1 ?side2 A28.out).mono ?_
                        (case side1 => repeat (first | exact (Kd.R_reads' HO975.out).2.2 | (with_reducible refine Kd.C_alloc ?_ _) | (with_reducible refine Kd.C_drewN ?_ _) | (with_reducible refine Kd.C_drew ?_)))
                        (case side2 => exact (Kd.R_reads' HO975.out).2.1)
                        rintro e w79 ⟨v1006, v1009, rfl, ho0, ho1, hb⟩
                        refine ⟨_, rfl, ?_⟩
                        have n0_ := Aside0.mk (Kd.R_below (by (with_reducible repeat (first | apply Kd.R_alloc | apply Kd.R_drewN | apply Kd.R_drew)); exact HO_6.out) hb)
                        have n1_ := Aside0.mk (Kd.R_below (by (with_reducible repeat (first | apply Kd.R_alloc | apply Kd.R_drewN | apply Kd.R_drew)); exact HO_7.out) hb)
                        have n2_ := Aside0.mk (Kd.R_below (by (with_reducible repeat (first | apply Kd.R_alloc | apply Kd.R_drewN | apply Kd.R_drew)); exact HO_8.out) hb)
                        have n3_ := Aside0.mk (Kd.V_below (by (with_reducible repeat (first | apply Kd.V_alloc | apply Kd.V_drewN | apply Kd.V_drew)); exact HO958.out) hb)
                        have n4_ := Aside0.mk (Kd.V_below (by (with_reducible repeat (first | apply Kd.V_alloc | apply Kd.V_drewN | apply Kd.V_drew)); exact HO961.out) hb)
                        have n5_ := Aside0.mk (Kd.V_below (by (with_reducible repeat (first | apply Kd.V_alloc | apply Kd.V_drewN | apply Kd.V_drew)); exact HO965.out) hb)
                        have n6_ := Aside0.mk (Kd.V_below (by (with_reducible repeat (first | apply Kd.V_alloc | apply Kd.V_drewN | apply Kd.V_drew)); exact HO968.out) hb)
                        have n7_ := Aside0.mk (Kd.R_below (by (with_reducible repeat (first | apply Kd.R_alloc | apply Kd.R_drewN | apply Kd.R_drew)); exact HO975.out) hb)
                        have n8_ := Aside0.mk (Kd.V_below (by (with_reducible repeat (first | apply Kd.V_alloc | apply Kd.V_drewN | apply Kd.V_drew)); exact HO978.out) hb)
                        have n9_ := Aside0.mk (Kd.V_below (by (with_reducible repeat (first | apply Kd.V_alloc | apply Kd.V_drewN | apply Kd.V_drew)); exact HO981.out) hb)
                        have n10_ := Aside0.mk (Kd.V_below (by (with_reducible repeat (first | apply Kd.V_alloc | apply Kd.V_drewN | apply Kd.V_drew)); exact HO985.out) hb)
                        have n11_ := Aside0.mk (Kd.V_below (by (with_reducible repeat (first | apply Kd.V_alloc | apply Kd.V_drewN | apply Kd.V_drew)); exact HO988.out) hb)
                        have n12_ := Aside0.mk (Kd.V_below (by (with_reducible repeat (first | apply Kd.V_alloc | apply Kd.V_drewN | apply Kd.V_drew)); exact HO993.out) hb)
                        have n13_ := Aside0.mk (Kd.V_below (by (with_reducible repeat (first | apply Kd.V_alloc | apply Kd.V_drewN | apply Kd.V_drew)); exact HO996.out) hb)
                        have n14_ := Aside0.mk (Kd.V_below (by (with_reducible repeat (first | apply Kd.V_alloc | apply Kd.V_drewN | apply Kd.V_drew)); exact HO1000.out) hb)
                        have n15_ := Aside0.mk (Kd.V_below (by (with_reducible repeat (first | apply Kd.V_alloc | apply Kd.V_drewN | apply Kd.V_drew)); exact HO1003.out) hb)
                        have n16_ := Aside0.mk (Kd.V_lower (Kd.V_mono (ok' := fun k_ => some k_ ≠ (.slice Ao9 t946.length co9 : Value).ownBlock ∧ some k_ ≠ (.slice Ao40 t949.length co40 : Value).ownBlock ∧ some k_ ≠ (.slice Ao69 x8_1.length co69 : Value).ownBlock ∧ some k_ ≠ (.slice Ao78 y973.length co78 : Value).ownBlock ∧ k_ ≠ gb962 ∧ k_ ≠ gb969 ∧ k_ ≠ gb982 ∧ k_ ≠ gb990) ho0 (fun k_ hk_ => ⟨(Kd.fresh' (Kd.R_lt (by (with_reducible repeat (first | apply Kd.R_alloc | apply Kd.R_drewN | apply Kd.R_drew)); exact HO_6.out)) k_ hk_), (Kd.fresh' (Kd.R_lt (by (with_reducible repeat (first | apply Kd.R_alloc | apply Kd.R_drewN | apply Kd.R_drew)); exact HO_7.out)) k_ hk_), (Kd.fresh' (Kd.R_lt (by (with_reducible repeat (first | apply Kd.R_alloc | apply Kd.R_drewN | apply Kd.R_drew)); exact HO_8.out)) k_ hk_), (Kd.fresh' (Kd.R_lt (by (with_reducible repeat (first | apply Kd.R_alloc | apply Kd.R_drewN | apply Kd.R_drew)); exact HO975.out)) k_ hk_), (Kd.freshB (g := gb962) (o := .cells #[.slice Ao37 t956.length co37, .slice Ao39 t959.length co39] 45 (0, 0)) (by (with_reducible repeat (first | refine blk_drewN ?_ _ | refine blk_drew ?_ | refine blk_alloc ?_ _)); exact BK962.out) k_ hk_), (Kd.freshB (g := gb969) (o := .cells #[.slice Ao43 t963.length co43, .slice Ao46 t966.length co46] 45 (0, 0)) (by (with_reducible repeat (first | refine blk_drewN ?_ _ | refine blk_drew ?_ | refine blk_alloc ?_ _)); exact BK969.out) k_ hk_), (Kd.freshB (g := gb982) (o := .cells #[.slice Ao53 t976.length co53, .slice Ao57 t979.length co57] 45 (0, 0)) (by (with_reducible repeat (first | refine blk_drewN ?_ _ | refine blk_drew ?_ | refine blk_alloc ?_ _)); exact BK982.out) k_ hk_), (Kd.freshB (g := gb990) (o := .cells #[.slice Ao61 t983.length co61, .slice Ao66 t986.length co66] 45 (0, 0)) (by (with_reducible repeat (first | refine blk_drewN ?_ _ | refine blk_drew ?_ | refine blk_alloc ?_ _)); exact BK990.out) k_ hk_)⟩)) (below_size (by repeat (first | (with_reducible first | exact HB.out | apply below_alloc | apply pw_below_drewN | apply below_drew1 | refine below_set ?_ GE962.out | refine below_set ?_ GE969.out | refine below_set ?_ GE982.out | refine below_set ?_ GE990.out) | exact HB.out))))
                        have n17_ := Aside0.mk (Kd.V_lower (Kd.V_mono (ok' := fun k_ => some k_ ≠ (.slice Ao9 t946.length co9 : Value).ownBlock ∧ some k_ ≠ (.slice Ao40 t949.length co40 : Value).ownBlock ∧ some k_ ≠ (.slice Ao69 x8_1.length co69 : Value).ownBlock ∧ some k_ ≠ (.slice Ao78 y973.length co78 : Value).ownBlock ∧ k_ ≠ gb962 ∧ k_ ≠ gb969 ∧ k_ ≠ gb982 ∧ k_ ≠ gb990) ho1 (fun k_ hk_ => ⟨(Kd.fresh' (Kd.R_lt (by (with_reducible repeat (first | apply Kd.R_alloc | apply Kd.R_drewN | apply Kd.R_drew)); exact HO_6.out)) k_ hk_), (Kd.fresh' (Kd.R_lt (by (with_reducible repeat (first | apply Kd.R_alloc | apply Kd.R_drewN | apply Kd.R_drew)); exact HO_7.out)) k_ hk_), (Kd.fresh' (Kd.R_lt (by (with_reducible repeat (first | apply Kd.R_alloc | apply Kd.R_drewN | apply Kd.R_drew)); exact HO_8.out)) k_ hk_), (Kd.fresh' (Kd.R_lt (by (with_reducible repeat (first | apply Kd.R_alloc | apply Kd.R_drewN | apply Kd.R_drew)); exact HO975.out)) k_ hk_), (Kd.freshB (g := gb962) (o := .cells #[.slice Ao37 t956.length co37, .slice Ao39 t959.length co39] 45 (0, 0)) (by (with_reducible repeat (first | refine blk_drewN ?_ _ | refine blk_drew ?_ | refine blk_alloc ?_ _)); exact BK962.out) k_ hk_), (Kd.freshB (g := gb969) (o := .cells #[.slice Ao43 t963.length co43, .slice Ao46 t966.length co46] 45 (0, 0)) (by (with_reducible repeat (first | refine blk_drewN ?_ _ | refine blk_drew ?_ | refine blk_alloc ?_ _)); exact BK969.out) k_ hk_), (Kd.freshB (g := gb982) (o := .cells #[.slice Ao53 t976.length co53, .slice Ao57 t979.length co57] 45 (0, 0)) (by (with_reducible repeat (first | refine blk_drewN ?_ _ | refine blk_drew ?_ | refine blk_alloc ?_ _)); exact BK982.out) k_ hk_), (Kd.freshB (g := gb990) (o := .cells #[.slice Ao61 t983.length co61, .slice Ao66 t986.length co66] 45 (0, 0)) (by (with_reducible repeat (first | refine blk_drewN ?_ _ | refine blk_drew ?_ | refine blk_alloc ?_ _)); exact BK990.out) k_ hk_)⟩)) (below_size (by repeat (first | (with_reducible first | exact HB.out | apply below_alloc | apply pw_below_drewN | apply below_drew1 | refine below_set ?_ GE962.out | refine below_set ?_ GE969.out | refine below_set ?_ GE982.out | refine below_set ?_ GE990.out) | exact HB.out))))
                        have n18_ := Aside0.mk (blk_below (g := gb962) (o := .cells #[.slice Ao37 t956.length co37, .slice Ao39 t959.length co39] 45 (0, 0)) (by (with_reducible repeat (first | refine blk_drewN ?_ _ | refine blk_drew ?_ | refine blk_alloc ?_ _)); exact BK962.out) hb)
                        have n19_ := Aside0.mk (blk_below (g := gb969) (o := .cells #[.slice Ao43 t963.length co43, .slice Ao46 t966.length co46] 45 (0, 0)) (by (with_reducible repeat (first | refine blk_drewN ?_ _ | refine blk_drew ?_ | refine blk_alloc ?_ _)); exact BK969.out) hb)
                        have n20_ := Aside0.mk (blk_below (g := gb982) (o := .cells #[.slice Ao53 t976.length co53, .slice Ao57 t979.length co57] 45 (0, 0)) (by (with_reducible repeat (first | refine blk_drewN ?_ _ | refine blk_drew ?_ | refine blk_alloc ?_ _)); exact BK982.out) hb)
                        have n21_ := Aside0.mk (blk_below (g := gb990) (o := .cells #[.slice Ao61 t983.length co61, .slice Ao66 t986.length co66] 45 (0, 0)) (by (with_reducible repeat (first | refine blk_drewN ?_ _ | refine blk_drew ?_ | refine blk_alloc ?_ _)); exact BK990.out) hb)
                        have n22_ := Aside0.mk (below_step (by repeat (first | (with_reducible first | exact HB.out | apply below_alloc | apply pw_below_drewN | apply below_drew1 | refine below_set ?_ GE962.out | refine below_set ?_ GE969.out | refine below_set ?_ GE982.out | refine below_set ?_ GE990.out) | exact HB.out)) hb)
                        clear HO_6
                        clear HO_7
                        clear HO_8
                        clear HO958
                        clear HO961
                        clear HO965
                        clear HO968
                        clear HO975
                        clear HO978
                        clear HO981
                        clear HO985
                        clear HO988
                        clear HO993
                        clear HO996
                        clear HO1000
                        clear HO1003
                        clear BK962
                        clear BK969
                        clear BK982
                        clear BK990
                        clear HB
                        have HO_6 := n0_
                        have HO_7 := n1_
                        have HO_8 := n2_
                        have HO958 := n3_
                        have HO961 := n4_
                        have HO965 := n5_
                        have HO968 := n6_
                        have HO975 := n7_
                        have HO978 := n8_
                        have HO981 := n9_
                        have HO985 := n10_
                        have HO988 := n11_
                        have HO993 := n12_
                        have HO996 := n13_
                        have HO1000 := n14_
                        have HO1003 := n15_
                        have HO1007 := n16_
                        have HO1010 := n17_
                        have BK962 := n18_
                        have BK969 := n19_
                        have BK982 := n20_
                        have BK990 := n21_
                        have HB := n22_
                        clear n0_ n1_ n2_ n3_ n4_ n5_ n6_ n7_ n8_ n9_ n10_ n11_ n12_ n13_ n14_ n15_ n16_ n17_ n18_ n19_ n20_ n21_ n22_
                        (try clear hb)
                        (try clear hb2)
                        (try clear hk)
                        (try clear hi)
                        (try clear ho0)
                        (try clear ho1)
                        obtain ⟨Ao80, co80, eo80⟩ := Kd.V_slice HO1007.out
                        (first | subst eo80 | (injection eo80 with f1_ f2_ f3_; have f4_ := f1_.symm; have f5_ := f3_.symm; clear f1_ f2_ f3_; subst f4_; subst f5_))
                        obtain ⟨Ao81, co81, eo81⟩ := Kd.V_slice HO1010.out
                        (first | subst eo81 | (injection eo81 with f1_ f2_ f3_; have f4_ := f1_.symm; have f5_ := f3_.symm; clear f1_ f2_ f3_; subst f4_; subst f5_))
                        refine hK.out _ _ ⟨(blk_cell BK962.out 0).trans rfl, (blk_cell BK962.out 1).trans rfl, (blk_cell BK982.out 0).trans rfl, (blk_cell BK982.out 1).trans rfl, (blk_cell BK969.out 0).trans rfl, (blk_cell BK969.out 1).trans rfl, (blk_cell BK990.out 0).trans rfl, (blk_cell BK990.out 1).trans rfl⟩ (fun hHeld => ?_)
                        clear hK K
                        refine norm_ (a' := ?_) ?_ ?_
                        rotate_left
                        · show Act.put _ (some 70) _ = _
                          simp only [Act.put, List.setIfInBounds_toArray, List.set_cons_zero, List.set_cons_succ, i64_w, i32_w]
                          rfl
                        refine one_ (i := 18) (N := some 72) #[true, true, true, true, true, true, true, true, true, true, true, true, true, true, true, true, true, true, true, false, false, false, false, false, false, false, false, false, false, false, false, false, false, false, false, false] rfl rfl (one_of HT_.out (by kernel_rfl)) (by decide) (fun K hK => ?_)
                        refine goes_ Try.func35 (by kernel_rfl) rfl #[.agg #[.slice Ao80 t1005.length co80, .slice Ao81 t1008.length co81], .agg #[.slice Ao53 t976.length co53, .slice Ao57 t979.length co57]] (by rfl) rfl rfl (by (try simp only [List.map_toArray, List.map_cons, List.map_nil]); first | done | rfl | (simp only [List.length_drop, List.length_take]; rfl)) ?_
                        with_reducible refine (regattalaw03_same.calls k1 _ _ t1005 _ _ t1008 _ _ t976 _ _ t979 true _ ?side1 ?side2 ?side3 ?side4 ?side5 ?side6 ?side7 ?side8 A29.out).mono ?_
                        (case side1 => repeat (first | exact (Kd.V_reads' HO1007.out).2.2 | (with_reducible refine Kd.C_alloc ?_ _) | (with_reducible refine Kd.C_drewN ?_ _) | (with_reducible refine Kd.C_drew ?_)))
                        (case side2 => exact (Kd.V_reads' HO1007.out).2.1)
                        (case side3 => repeat (first | exact (Kd.V_reads' HO1010.out).2.2 | (with_reducible refine Kd.C_alloc ?_ _) | (with_reducible refine Kd.C_drewN ?_ _) | (with_reducible refine Kd.C_drew ?_)))
                        (case side4 => exact (Kd.V_reads' HO1010.out).2.1)
                        (case side5 => repeat (first | exact (Kd.V_reads' HO978.out).2.2 | (with_reducible refine Kd.C_alloc ?_ _) | (with_reducible refine Kd.C_drewN ?_ _) | (with_reducible refine Kd.C_drew ?_)))
                        (case side6 => exact (Kd.V_reads' HO978.out).2.1)
                        (case side7 => repeat (first | exact (Kd.V_reads' HO981.out).2.2 | (with_reducible refine Kd.C_alloc ?_ _) | (with_reducible refine Kd.C_drewN ?_ _) | (with_reducible refine Kd.C_drew ?_)))
                        (case side8 => exact (Kd.V_reads' HO981.out).2.1)
                        rintro e w82 ⟨rfl, hb⟩
                        refine ⟨_, rfl, ?_⟩
                        have n0_ := Aside0.mk (Kd.R_below (by (with_reducible repeat (first | apply Kd.R_alloc | apply Kd.R_drewN | apply Kd.R_drew)); exact HO_6.out) hb)
                        have n1_ := Aside0.mk (Kd.R_below (by (with_reducible repeat (first | apply Kd.R_alloc | apply Kd.R_drewN | apply Kd.R_drew)); exact HO_7.out) hb)
                        have n2_ := Aside0.mk (Kd.R_below (by (with_reducible repeat (first | apply Kd.R_alloc | apply Kd.R_drewN | apply Kd.R_drew)); exact HO_8.out) hb)
                        have n3_ := Aside0.mk (Kd.V_below (by (with_reducible repeat (first | apply Kd.V_alloc | apply Kd.V_drewN | apply Kd.V_drew)); exact HO958.out) hb)
                        have n4_ := Aside0.mk (Kd.V_below (by (with_reducible repeat (first | apply Kd.V_alloc | apply Kd.V_drewN | apply Kd.V_drew)); exact HO961.out) hb)
                        have n5_ := Aside0.mk (Kd.V_below (by (with_reducible repeat (first | apply Kd.V_alloc | apply Kd.V_drewN | apply Kd.V_drew)); exact HO965.out) hb)
                        have n6_ := Aside0.mk (Kd.V_below (by (with_reducible repeat (first | apply Kd.V_alloc | apply Kd.V_drewN | apply Kd.V_drew)); exact HO968.out) hb)
                        have n7_ := Aside0.mk (Kd.R_below (by (with_reducible repeat (first | apply Kd.R_alloc | apply Kd.R_drewN | apply Kd.R_drew)); exact HO975.out) hb)
                        have n8_ := Aside0.mk (Kd.V_below (by (with_reducible repeat (first | apply Kd.V_alloc | apply Kd.V_drewN | apply Kd.V_drew)); exact HO978.out) hb)
                        have n9_ := Aside0.mk (Kd.V_below (by (with_reducible repeat (first | apply Kd.V_alloc | apply Kd.V_drewN | apply Kd.V_drew)); exact HO981.out) hb)
                        have n10_ := Aside0.mk (Kd.V_below (by (with_reducible repeat (first | apply Kd.V_alloc | apply Kd.V_drewN | apply Kd.V_drew)); exact HO985.out) hb)
                        have n11_ := Aside0.mk (Kd.V_below (by (with_reducible repeat (first | apply Kd.V_alloc | apply Kd.V_drewN | apply Kd.V_drew)); exact HO988.out) hb)
                        have n12_ := Aside0.mk (Kd.V_below (by (with_reducible repeat (first | apply Kd.V_alloc | apply Kd.V_drewN | apply Kd.V_drew)); exact HO993.out) hb)
                        have n13_ := Aside0.mk (Kd.V_below (by (with_reducible repeat (first | apply Kd.V_alloc | apply Kd.V_drewN | apply Kd.V_drew)); exact HO996.out) hb)
                        have n14_ := Aside0.mk (Kd.V_below (by (with_reducible repeat (first | apply Kd.V_alloc | apply Kd.V_drewN | apply Kd.V_drew)); exact HO1000.out) hb)
                        have n15_ := Aside0.mk (Kd.V_below (by (with_reducible repeat (first | apply Kd.V_alloc | apply Kd.V_drewN | apply Kd.V_drew)); exact HO1003.out) hb)
                        have n16_ := Aside0.mk (Kd.V_below (by (with_reducible repeat (first | apply Kd.V_alloc | apply Kd.V_drewN | apply Kd.V_drew)); exact HO1007.out) hb)
                        have n17_ := Aside0.mk (Kd.V_below (by (with_reducible repeat (first | apply Kd.V_alloc | apply Kd.V_drewN | apply Kd.V_drew)); exact HO1010.out) hb)
                        have n18_ := Aside0.mk (blk_below (g := gb962) (o := .cells #[.slice Ao37 t956.length co37, .slice Ao39 t959.length co39] 45 (0, 0)) (by (with_reducible repeat (first | refine blk_drewN ?_ _ | refine blk_drew ?_ | refine blk_alloc ?_ _)); exact BK962.out) hb)
                        have n19_ := Aside0.mk (blk_below (g := gb969) (o := .cells #[.slice Ao43 t963.length co43, .slice Ao46 t966.length co46] 45 (0, 0)) (by (with_reducible repeat (first | refine blk_drewN ?_ _ | refine blk_drew ?_ | refine blk_alloc ?_ _)); exact BK969.out) hb)
                        have n20_ := Aside0.mk (blk_below (g := gb982) (o := .cells #[.slice Ao53 t976.length co53, .slice Ao57 t979.length co57] 45 (0, 0)) (by (with_reducible repeat (first | refine blk_drewN ?_ _ | refine blk_drew ?_ | refine blk_alloc ?_ _)); exact BK982.out) hb)
                        have n21_ := Aside0.mk (blk_below (g := gb990) (o := .cells #[.slice Ao61 t983.length co61, .slice Ao66 t986.length co66] 45 (0, 0)) (by (with_reducible repeat (first | refine blk_drewN ?_ _ | refine blk_drew ?_ | refine blk_alloc ?_ _)); exact BK990.out) hb)
                        have n22_ := Aside0.mk (below_step (by repeat (first | (with_reducible first | exact HB.out | apply below_alloc | apply pw_below_drewN | apply below_drew1 | refine below_set ?_ GE962.out | refine below_set ?_ GE969.out | refine below_set ?_ GE982.out | refine below_set ?_ GE990.out) | exact HB.out)) hb)
                        clear HO_6
                        clear HO_7
                        clear HO_8
                        clear HO958
                        clear HO961
                        clear HO965
                        clear HO968
                        clear HO975
                        clear HO978
                        clear HO981
                        clear HO985
                        clear HO988
                        clear HO993
                        clear HO996
                        clear HO1000
                        clear HO1003
                        clear HO1007
                        clear HO1010
                        clear BK962
                        clear BK969
                        clear BK982
                        clear BK990
                        clear HB
                        have HO_6 := n0_
                        have HO_7 := n1_
                        have HO_8 := n2_
                        have HO958 := n3_
                        have HO961 := n4_
                        have HO965 := n5_
                        have HO968 := n6_
                        have HO975 := n7_
                        have HO978 := n8_
                        have HO981 := n9_
                        have HO985 := n10_
                        have HO988 := n11_
                        have HO993 := n12_
                        have HO996 := n13_
                        have HO1000 := n14_
                        have HO1003 := n15_
                        have HO1007 := n16_
                        have HO1010 := n17_
                        have BK962 := n18_
                        have BK969 := n19_
                        have BK982 := n20_
                        have BK990 := n21_
                        have HB := n22_
                        clear n0_ n1_ n2_ n3_ n4_ n5_ n6_ n7_ n8_ n9_ n10_ n11_ n12_ n13_ n14_ n15_ n16_ n17_ n18_ n19_ n20_ n21_ n22_
                        (try clear hb)
                        (try clear hb2)
                        (try clear hk)
                        (try clear hi)
                        refine hK.out _ _ ⟨(blk_cell BK962.out 0).trans rfl, (blk_cell BK962.out 1).trans rfl, (blk_cell BK982.out 0).trans rfl, (blk_cell BK982.out 1).trans rfl, (blk_cell BK969.out 0).trans rfl, (blk_cell BK969.out 1).trans rfl, (blk_cell BK990.out 0).trans rfl, (blk_cell BK990.out 1).trans rfl⟩ (fun hHeld => ?_)
                        clear hK K
                        refine norm_ (a' := ?_) ?_ ?_
                        rotate_left
                        · show Act.put _ (some 72) _ = _
                          simp only [Act.put, List.setIfInBounds_toArray, List.set_cons_zero, List.set_cons_succ, i64_w, i32_w]
                          rfl
                        refine pure_ (i := 19) (N := some 73) (v := ?_) (a' := ?_) #[true, true, true, true, true, true, true, true, true, true, true, true, true, true, true, true, true, true, true, true, false, false, false, false, false, false, false, false, false, false, false, false, false, false, false, false] rfl rfl (any_of HT_.out (by kernel_rfl)) (fun _ _ _ h => h) (Or.inl ⟨by rfl, ?_⟩) ?_ ?_
                        rotate_left
                        · intro w'
                          go_simp
                          with_reducible rfl
                        rotate_left
                        · simp only [Act.put, List.setIfInBounds_toArray, List.set_cons_zero, List.set_cons_succ, i64_w, i32_w]
                          rfl
                        refine pure_ (i := 20) (N := some 74) (v := ?_) (a' := ?_) #[true, true, true, true, true, true, true, true, true, true, true, true, true, true, true, true, true, true, true, true, true, false, false, false, false, false, false, false, false, false, false, false, false, false, false, false] rfl rfl (any_of HT_.out (by kernel_rfl)) (fun _ _ _ h => h) (Or.inl ⟨by rfl, ?_⟩) ?_ ?_
                        rotate_left
                        · intro w'
                          go_simp
                          with_reducible rfl
                        rotate_left
                        · simp only [Act.put, List.setIfInBounds_toArray, List.set_cons_zero, List.set_cons_succ, i64_w, i32_w]
                          rfl
                        refine pure_ (i := 21) (N := some 75) (v := ?_) (a' := ?_) #[true, true, true, true, true, true, true, true, true, true, true, true, true, true, true, true, true, true, true, true, true, true, false, false, false, false, false, false, false, false, false, false, false, false, false, false] rfl rfl (any_of HT_.out (by kernel_rfl)) (fun _ _ _ h => h) (Or.inl ⟨by rfl, ?_⟩) ?_ ?_
                        rotate_left
                        · intro w'
                          go_simp
                          with_reducible rfl
                        rotate_left
                        · simp only [Act.put, List.setIfInBounds_toArray, List.set_cons_zero, List.set_cons_succ, i64_w, i32_w]
                          rfl
                        refine pure_ (i := 22) (N := some 76) (v := ?_) (a' := ?_) #[true, true, true, true, true, true, true, true, true, true, true, true, true, true, true, true, true, true, true, true, true, true, true, false, false, false, false, false, false, false, false, false, false, false, false, false] rfl rfl (any_of HT_.out (by kernel_rfl)) (fun _ _ _ h => h) (Or.inl ⟨by rfl, ?_⟩) ?_ ?_
                        rotate_left
                        · intro w'
                          go_simp
                          with_reducible rfl
                        rotate_left
                        · simp only [Act.put, List.setIfInBounds_toArray, List.set_cons_zero, List.set_cons_succ, i64_w, i32_w]
                          rfl
                        refine pure_ (i := 23) (N := some 77) (v := ?_) (a' := ?_) #[true, true, true, true, true, true, true, true, true, true, true, true, true, true, true, true, true, true, true, true, true, true, true, true, false, false, false, false, false, false, false, false, false, false, false, false] rfl rfl (any_of HT_.out (by kernel_rfl)) (fun _ _ _ h => h) (Or.inl ⟨by rfl, ?_⟩) ?_ ?_
                        rotate_left
                        · intro w'
                          go_simp
                          with_reducible rfl
                        rotate_left
                        · simp only [Act.put, List.setIfInBounds_toArray, List.set_cons_zero, List.set_cons_succ, i64_w, i32_w]
                          rfl
                        refine pure_ (i := 24) (N := some 78) (v := ?_) (a' := ?_) #[true, true, true, true, true, true, true, true, true, true, true, true, true, true, true, true, true, true, true, true, true, true, true, true, true, false, false, false, false, false, false, false, false, false, false, false] rfl rfl (any_of HT_.out (by kernel_rfl)) (fun _ _ _ h => h) (Or.inl ⟨by rfl, ?_⟩) ?_ ?_
                        rotate_left
                        · intro w'
                          go_simp
                          with_reducible rfl
                        rotate_left
                        · simp only [Act.put, List.setIfInBounds_toArray, List.set_cons_zero, List.set_cons_succ, i64_w, i32_w]
                          rfl
                        refine take_ (i := 25) (N := some 79) (v := ?_) (a' := ?_) #[true, true, true, true, true, true, true, true, true, true, true, true, true, true, true, true, true, true, true, true, true, true, true, true, true, true, false, false, false, false, false, false, false, false, false, false] rfl rfl (take_ofW HT_.out HW_.out (by kernel_rfl)) (fun _ _ _ h => h) (Or.inl ⟨by rfl, ?_⟩) hHeld ?_ ?_
                        rotate_left
                        · rintro w' ⟨s0, s1, s2, s3, s4, s5, s6, s7⟩
                          go_simp
                          with_reducible rfl
                        rotate_left
                        · simp only [Act.put, List.setIfInBounds_toArray, List.set_cons_zero, List.set_cons_succ, i64_w, i32_w]
                          rfl
                        refine take_ (i := 26) (N := some 80) (v := ?_) (a' := ?_) #[true, true, true, true, true, true, true, true, true, true, true, true, true, true, true, true, true, true, true, true, true, true, true, true, true, true, true, false, false, false, false, false, false, false, false, false] rfl rfl (take_ofW HT_.out HW_.out (by kernel_rfl)) (fun _ _ _ h => h) (Or.inl ⟨by rfl, ?_⟩) hHeld ?_ ?_
                        rotate_left
                        · rintro w' ⟨s0, s1, s2, s3, s4, s5, s6, s7⟩
                          go_simp
                          with_reducible rfl
                        rotate_left
                        · simp only [Act.put, List.setIfInBounds_toArray, List.set_cons_zero, List.set_cons_succ, i64_w, i32_w]
                          rfl
                        refine one_ (i := 27) (N := some 81) #[true, true, true, true, true, true, true, true, true, true, true, true, true, true, true, true, true, true, true, true, true, true, true, true, true, true, true, true, false, false, false, false, false, false, false, false] rfl rfl (one_of HT_.out (by kernel_rfl)) (by decide) (fun K hK => ?_)
                        refine goes_ Try.func35 (by kernel_rfl) rfl #[.agg #[.slice Ao61 t983.length co61, .slice Ao66 t986.length co66], .agg #[.slice Ao37 t956.length co37, .slice Ao39 t959.length co39]] (by rfl) rfl rfl (by (try simp only [List.map_toArray, List.map_cons, List.map_nil]); first | done | rfl | (simp only [List.length_drop, List.length_take]; rfl)) ?_
                        with_reducible refine (regattalaw03_same.calls k1 _ _ t983 _ _ t986 _ _ t956 _ _ t959 true _ ?side1 ?side2 ?side3 ?side4 ?side5 ?side6 ?side7 ?side8 A32.out).mono ?_
                        (case side1 => repeat (first | exact (Kd.V_reads' HO985.out).2.2 | (with_reducible refine Kd.C_alloc ?_ _) | (with_reducible refine Kd.C_drewN ?_ _) | (with_reducible refine Kd.C_drew ?_)))
                        (case side2 => exact (Kd.V_reads' HO985.out).2.1)
                        (case side3 => repeat (first | exact (Kd.V_reads' HO988.out).2.2 | (with_reducible refine Kd.C_alloc ?_ _) | (with_reducible refine Kd.C_drewN ?_ _) | (with_reducible refine Kd.C_drew ?_)))
                        (case side4 => exact (Kd.V_reads' HO988.out).2.1)
                        (case side5 => repeat (first | exact (Kd.V_reads' HO958.out).2.2 | (with_reducible refine Kd.C_alloc ?_ _) | (with_reducible refine Kd.C_drewN ?_ _) | (with_reducible refine Kd.C_drew ?_)))
                        (case side6 => exact (Kd.V_reads' HO958.out).2.1)
                        (case side7 => repeat (first | exact (Kd.V_reads' HO961.out).2.2 | (with_reducible refine Kd.C_alloc ?_ _) | (with_reducible refine Kd.C_drewN ?_ _) | (with_reducible refine Kd.C_drew ?_)))
                        (case side8 => exact (Kd.V_reads' HO961.out).2.1)
                        rintro e w83 ⟨rfl, hb⟩
                        refine ⟨_, rfl, ?_⟩
                        have n0_ := Aside0.mk (Kd.R_below (by (with_reducible repeat (first | apply Kd.R_alloc | apply Kd.R_drewN | apply Kd.R_drew)); exact HO_6.out) hb)
                        have n1_ := Aside0.mk (Kd.R_below (by (with_reducible repeat (first | apply Kd.R_alloc | apply Kd.R_drewN | apply Kd.R_drew)); exact HO_7.out) hb)
                        have n2_ := Aside0.mk (Kd.R_below (by (with_reducible repeat (first | apply Kd.R_alloc | apply Kd.R_drewN | apply Kd.R_drew)); exact HO_8.out) hb)
                        have n3_ := Aside0.mk (Kd.V_below (by (with_reducible repeat (first | apply Kd.V_alloc | apply Kd.V_drewN | apply Kd.V_drew)); exact HO958.out) hb)
                        have n4_ := Aside0.mk (Kd.V_below (by (with_reducible repeat (first | apply Kd.V_alloc | apply Kd.V_drewN | apply Kd.V_drew)); exact HO961.out) hb)
                        have n5_ := Aside0.mk (Kd.V_below (by (with_reducible repeat (first | apply Kd.V_alloc | apply Kd.V_drewN | apply Kd.V_drew)); exact HO965.out) hb)
                        have n6_ := Aside0.mk (Kd.V_below (by (with_reducible repeat (first | apply Kd.V_alloc | apply Kd.V_drewN | apply Kd.V_drew)); exact HO968.out) hb)
                        have n7_ := Aside0.mk (Kd.R_below (by (with_reducible repeat (first | apply Kd.R_alloc | apply Kd.R_drewN | apply Kd.R_drew)); exact HO975.out) hb)
                        have n8_ := Aside0.mk (Kd.V_below (by (with_reducible repeat (first | apply Kd.V_alloc | apply Kd.V_drewN | apply Kd.V_drew)); exact HO978.out) hb)
                        have n9_ := Aside0.mk (Kd.V_below (by (with_reducible repeat (first | apply Kd.V_alloc | apply Kd.V_drewN | apply Kd.V_drew)); exact HO981.out) hb)
                        have n10_ := Aside0.mk (Kd.V_below (by (with_reducible repeat (first | apply Kd.V_alloc | apply Kd.V_drewN | apply Kd.V_drew)); exact HO985.out) hb)
                        have n11_ := Aside0.mk (Kd.V_below (by (with_reducible repeat (first | apply Kd.V_alloc | apply Kd.V_drewN | apply Kd.V_drew)); exact HO988.out) hb)
                        have n12_ := Aside0.mk (Kd.V_below (by (with_reducible repeat (first | apply Kd.V_alloc | apply Kd.V_drewN | apply Kd.V_drew)); exact HO993.out) hb)
                        have n13_ := Aside0.mk (Kd.V_below (by (with_reducible repeat (first | apply Kd.V_alloc | apply Kd.V_drewN | apply Kd.V_drew)); exact HO996.out) hb)
                        have n14_ := Aside0.mk (Kd.V_below (by (with_reducible repeat (first | apply Kd.V_alloc | apply Kd.V_drewN | apply Kd.V_drew)); exact HO1000.out) hb)
                        have n15_ := Aside0.mk (Kd.V_below (by (with_reducible repeat (first | apply Kd.V_alloc | apply Kd.V_drewN | apply Kd.V_drew)); exact HO1003.out) hb)
                        have n16_ := Aside0.mk (Kd.V_below (by (with_reducible repeat (first | apply Kd.V_alloc | apply Kd.V_drewN | apply Kd.V_drew)); exact HO1007.out) hb)
                        have n17_ := Aside0.mk (Kd.V_below (by (with_reducible repeat (first | apply Kd.V_alloc | apply Kd.V_drewN | apply Kd.V_drew)); exact HO1010.out) hb)
                        have n18_ := Aside0.mk (blk_below (g := gb962) (o := .cells #[.slice Ao37 t956.length co37, .slice Ao39 t959.length co39] 45 (0, 0)) (by (with_reducible repeat (first | refine blk_drewN ?_ _ | refine blk_drew ?_ | refine blk_alloc ?_ _)); exact BK962.out) hb)
                        have n19_ := Aside0.mk (blk_below (g := gb969) (o := .cells #[.slice Ao43 t963.length co43, .slice Ao46 t966.length co46] 45 (0, 0)) (by (with_reducible repeat (first | refine blk_drewN ?_ _ | refine blk_drew ?_ | refine blk_alloc ?_ _)); exact BK969.out) hb)
                        have n20_ := Aside0.mk (blk_below (g := gb982) (o := .cells #[.slice Ao53 t976.length co53, .slice Ao57 t979.length co57] 45 (0, 0)) (by (with_reducible repeat (first | refine blk_drewN ?_ _ | refine blk_drew ?_ | refine blk_alloc ?_ _)); exact BK982.out) hb)
                        have n21_ := Aside0.mk (blk_below (g := gb990) (o := .cells #[.slice Ao61 t983.length co61, .slice Ao66 t986.length co66] 45 (0, 0)) (by (with_reducible repeat (first | refine blk_drewN ?_ _ | refine blk_drew ?_ | refine blk_alloc ?_ _)); exact BK990.out) hb)
                        have n22_ := Aside0.mk (below_step (by repeat (first | (with_reducible first | exact HB.out | apply below_alloc | apply pw_below_drewN | apply below_drew1 | refine below_set ?_ GE962.out | refine below_set ?_ GE969.out | refine below_set ?_ GE982.out | refine below_set ?_ GE990.out) | exact HB.out)) hb)
                        clear HO_6
                        clear HO_7
                        clear HO_8
                        clear HO958
                        clear HO961
                        clear HO965
                        clear HO968
                        clear HO975
                        clear HO978
                        clear HO981
                        clear HO985
                        clear HO988
                        clear HO993
                        clear HO996
                        clear HO1000
                        clear HO1003
                        clear HO1007
                        clear HO1010
                        clear BK962
                        clear BK969
                        clear BK982
                        clear BK990
                        clear HB
                        have HO_6 := n0_
                        have HO_7 := n1_
                        have HO_8 := n2_
                        have HO958 := n3_
                        have HO961 := n4_
                        have HO965 := n5_
                        have HO968 := n6_
                        have HO975 := n7_
                        have HO978 := n8_
                        have HO981 := n9_
                        have HO985 := n10_
                        have HO988 := n11_
                        have HO993 := n12_
                        have HO996 := n13_
                        have HO1000 := n14_
                        have HO1003 := n15_
                        have HO1007 := n16_
                        have HO1010 := n17_
                        have BK962 := n18_
                        have BK969 := n19_
                        have BK982 := n20_
                        have BK990 := n21_
                        have HB := n22_
                        clear n0_ n1_ n2_ n3_ n4_ n5_ n6_ n7_ n8_ n9_ n10_ n11_ n12_ n13_ n14_ n15_ n16_ n17_ n18_ n19_ n20_ n21_ n22_
                        (try clear hb)
                        (try clear hb2)
                        (try clear hk)
                        (try clear hi)
                        refine hK.out _ _ ⟨(blk_cell BK962.out 0).trans rfl, (blk_cell BK962.out 1).trans rfl, (blk_cell BK982.out 0).trans rfl, (blk_cell BK982.out 1).trans rfl, (blk_cell BK969.out 0).trans rfl, (blk_cell BK969.out 1).trans rfl, (blk_cell BK990.out 0).trans rfl, (blk_cell BK990.out 1).trans rfl⟩ (fun hHeld => ?_)
                        clear hK K
                        refine norm_ (a' := ?_) ?_ ?_
                        rotate_left
                        · show Act.put _ (some 81) _ = _
                          simp only [Act.put, List.setIfInBounds_toArray, List.set_cons_zero, List.set_cons_succ, i64_w, i32_w]
                          rfl
                        refine pure_ (i := 28) (N := some 82) (v := ?_) (a' := ?_) #[true, true, true, true, true, true, true, true, true, true, true, true, true, true, true, true, true, true, true, true, true, true, true, true, true, true, true, true, true, false, false, false, false, false, false, false] rfl rfl (any_of HT_.out (by kernel_rfl)) (fun _ _ _ h => h) (Or.inl ⟨by rfl, ?_⟩) ?_ ?_
                        rotate_left
                        · intro w'
                          go_simp
                          with_reducible rfl
                        rotate_left
                        · simp only [Act.put, List.setIfInBounds_toArray, List.set_cons_zero, List.set_cons_succ, i64_w, i32_w]
                          rfl
                        refine pure_ (i := 29) (N := some 83) (v := ?_) (a' := ?_) #[true, true, true, true, true, true, true, true, true, true, true, true, true, true, true, true, true, true, true, true, true, true, true, true, true, true, true, true, true, true, false, false, false, false, false, false] rfl rfl (any_of HT_.out (by kernel_rfl)) (fun _ _ _ h => h) (Or.inl ⟨by rfl, ?_⟩) ?_ ?_
                        rotate_left
                        · intro w'
                          go_simp
                          with_reducible rfl
                        rotate_left
                        · simp only [Act.put, List.setIfInBounds_toArray, List.set_cons_zero, List.set_cons_succ, i64_w, i32_w]
                          rfl
                        refine take_ (i := 30) (N := some 84) (v := ?_) (a' := ?_) #[true, true, true, true, true, true, true, true, true, true, true, true, true, true, true, true, true, true, true, true, true, true, true, true, true, true, true, true, true, true, true, false, false, false, false, false] rfl rfl (take_ofW HT_.out HW_.out (by kernel_rfl)) (fun _ _ _ h => h) (Or.inl ⟨by rfl, ?_⟩) hHeld ?_ ?_
                        rotate_left
                        · rintro w' ⟨s0, s1, s2, s3, s4, s5, s6, s7⟩
                          go_simp
                          with_reducible rfl
                        rotate_left
                        · simp only [Act.put, List.setIfInBounds_toArray, List.set_cons_zero, List.set_cons_succ, i64_w, i32_w]
                          rfl
                        refine take_ (i := 31) (N := some 85) (v := ?_) (a' := ?_) #[true, true, true, true, true, true, true, true, true, true, true, true, true, true, true, true, true, true, true, true, true, true, true, true, true, true, true, true, true, true, true, true, false, false, false, false] rfl rfl (take_ofW HT_.out HW_.out (by kernel_rfl)) (fun _ _ _ h => h) (Or.inl ⟨by rfl, ?_⟩) hHeld ?_ ?_
                        rotate_left
                        · rintro w' ⟨s0, s1, s2, s3, s4, s5, s6, s7⟩
                          go_simp
                          with_reducible rfl
                        rotate_left
                        · simp only [Act.put, List.setIfInBounds_toArray, List.set_cons_zero, List.set_cons_succ, i64_w, i32_w]
                          rfl
                        refine one_ (i := 32) (N := some 86) #[true, true, true, true, true, true, true, true, true, true, true, true, true, true, true, true, true, true, true, true, true, true, true, true, true, true, true, true, true, true, true, true, true, false, false, false] rfl rfl (one_of HT_.out (by kernel_rfl)) (by decide) (fun K hK => ?_)
                        refine goes_ Try.func44 (by kernel_rfl) rfl #[.agg #[.slice Ao53 t976.length co53, .slice Ao57 t979.length co57], .agg #[.slice Ao37 t956.length co37, .slice Ao39 t959.length co39]] (by rfl) rfl rfl (by (try simp only [List.map_toArray, List.map_cons, List.map_nil]); first | done | rfl | (simp only [List.length_drop, List.length_take]; rfl)) ?_
                        with_reducible refine (ratio_Cmp.calls k1 _ _ t976 _ _ t979 _ _ t956 _ _ t959 t1013 _ ?side1 ?side2 ?side3 ?side4 ?side5 ?side6 ?side7 ?side8 A34.out).mono ?_
                        (case side1 => repeat (first | exact (Kd.V_reads' HO978.out).2.2 | (with_reducible refine Kd.C_alloc ?_ _) | (with_reducible refine Kd.C_drewN ?_ _) | (with_reducible refine Kd.C_drew ?_)))
                        (case side2 => exact (Kd.V_reads' HO978.out).2.1)
                        (case side3 => repeat (first | exact (Kd.V_reads' HO981.out).2.2 | (with_reducible refine Kd.C_alloc ?_ _) | (with_reducible refine Kd.C_drewN ?_ _) | (with_reducible refine Kd.C_drew ?_)))
                        (case side4 => exact (Kd.V_reads' HO981.out).2.1)
                        (case side5 => repeat (first | exact (Kd.V_reads' HO958.out).2.2 | (with_reducible refine Kd.C_alloc ?_ _) | (with_reducible refine Kd.C_drewN ?_ _) | (with_reducible refine Kd.C_drew ?_)))
                        (case side6 => exact (Kd.V_reads' HO958.out).2.1)
                        (case side7 => repeat (first | exact (Kd.V_reads' HO961.out).2.2 | (with_reducible refine Kd.C_alloc ?_ _) | (with_reducible refine Kd.C_drewN ?_ _) | (with_reducible refine Kd.C_drew ?_)))
                        (case side8 => exact (Kd.V_reads' HO961.out).2.1)
                        rintro e w84 ⟨rfl, hb⟩
                        refine ⟨_, rfl, ?_⟩
                        have n0_ := Aside0.mk (Kd.R_below (by (with_reducible repeat (first | apply Kd.R_alloc | apply Kd.R_drewN | apply Kd.R_drew)); exact HO_6.out) hb)
                        have n1_ := Aside0.mk (Kd.R_below (by (with_reducible repeat (first | apply Kd.R_alloc | apply Kd.R_drewN | apply Kd.R_drew)); exact HO_7.out) hb)
                        have n2_ := Aside0.mk (Kd.R_below (by (with_reducible repeat (first | apply Kd.R_alloc | apply Kd.R_drewN | apply Kd.R_drew)); exact HO_8.out) hb)
                        have n3_ := Aside0.mk (Kd.V_below (by (with_reducible repeat (first | apply Kd.V_alloc | apply Kd.V_drewN | apply Kd.V_drew)); exact HO958.out) hb)
                        have n4_ := Aside0.mk (Kd.V_below (by (with_reducible repeat (first | apply Kd.V_alloc | apply Kd.V_drewN | apply Kd.V_drew)); exact HO961.out) hb)
                        have n5_ := Aside0.mk (Kd.V_below (by (with_reducible repeat (first | apply Kd.V_alloc | apply Kd.V_drewN | apply Kd.V_drew)); exact HO965.out) hb)
                        have n6_ := Aside0.mk (Kd.V_below (by (with_reducible repeat (first | apply Kd.V_alloc | apply Kd.V_drewN | apply Kd.V_drew)); exact HO968.out) hb)
                        have n7_ := Aside0.mk (Kd.R_below (by (with_reducible repeat (first | apply Kd.R_alloc | apply Kd.R_drewN | apply Kd.R_drew)); exact HO975.out) hb)
                        have n8_ := Aside0.mk (Kd.V_below (by (with_reducible repeat (first | apply Kd.V_alloc | apply Kd.V_drewN | apply Kd.V_drew)); exact HO978.out) hb)
                        have n9_ := Aside0.mk (Kd.V_below (by (with_reducible repeat (first | apply Kd.V_alloc | apply Kd.V_drewN | apply Kd.V_drew)); exact HO981.out) hb)
                        have n10_ := Aside0.mk (Kd.V_below (by (with_reducible repeat (first | apply Kd.V_alloc | apply Kd.V_drewN | apply Kd.V_drew)); exact HO985.out) hb)
                        have n11_ := Aside0.mk (Kd.V_below (by (with_reducible repeat (first | apply Kd.V_alloc | apply Kd.V_drewN | apply Kd.V_drew)); exact HO988.out) hb)
                        have n12_ := Aside0.mk (Kd.V_below (by (with_reducible repeat (first | apply Kd.V_alloc | apply Kd.V_drewN | apply Kd.V_drew)); exact HO993.out) hb)
                        have n13_ := Aside0.mk (Kd.V_below (by (with_reducible repeat (first | apply Kd.V_alloc | apply Kd.V_drewN | apply Kd.V_drew)); exact HO996.out) hb)
                        have n14_ := Aside0.mk (Kd.V_below (by (with_reducible repeat (first | apply Kd.V_alloc | apply Kd.V_drewN | apply Kd.V_drew)); exact HO1000.out) hb)
                        have n15_ := Aside0.mk (Kd.V_below (by (with_reducible repeat (first | apply Kd.V_alloc | apply Kd.V_drewN | apply Kd.V_drew)); exact HO1003.out) hb)
                        have n16_ := Aside0.mk (Kd.V_below (by (with_reducible repeat (first | apply Kd.V_alloc | apply Kd.V_drewN | apply Kd.V_drew)); exact HO1007.out) hb)
                        have n17_ := Aside0.mk (Kd.V_below (by (with_reducible repeat (first | apply Kd.V_alloc | apply Kd.V_drewN | apply Kd.V_drew)); exact HO1010.out) hb)
                        have n18_ := Aside0.mk (blk_below (g := gb962) (o := .cells #[.slice Ao37 t956.length co37, .slice Ao39 t959.length co39] 45 (0, 0)) (by (with_reducible repeat (first | refine blk_drewN ?_ _ | refine blk_drew ?_ | refine blk_alloc ?_ _)); exact BK962.out) hb)
                        have n19_ := Aside0.mk (blk_below (g := gb969) (o := .cells #[.slice Ao43 t963.length co43, .slice Ao46 t966.length co46] 45 (0, 0)) (by (with_reducible repeat (first | refine blk_drewN ?_ _ | refine blk_drew ?_ | refine blk_alloc ?_ _)); exact BK969.out) hb)
                        have n20_ := Aside0.mk (blk_below (g := gb982) (o := .cells #[.slice Ao53 t976.length co53, .slice Ao57 t979.length co57] 45 (0, 0)) (by (with_reducible repeat (first | refine blk_drewN ?_ _ | refine blk_drew ?_ | refine blk_alloc ?_ _)); exact BK982.out) hb)
                        have n21_ := Aside0.mk (blk_below (g := gb990) (o := .cells #[.slice Ao61 t983.length co61, .slice Ao66 t986.length co66] 45 (0, 0)) (by (with_reducible repeat (first | refine blk_drewN ?_ _ | refine blk_drew ?_ | refine blk_alloc ?_ _)); exact BK990.out) hb)
                        have n22_ := Aside0.mk (below_step (by repeat (first | (with_reducible first | exact HB.out | apply below_alloc | apply pw_below_drewN | apply below_drew1 | refine below_set ?_ GE962.out | refine below_set ?_ GE969.out | refine below_set ?_ GE982.out | refine below_set ?_ GE990.out) | exact HB.out)) hb)
                        clear HO_6
                        clear HO_7
                        clear HO_8
                        clear HO958
                        clear HO961
                        clear HO965
                        clear HO968
                        clear HO975
                        clear HO978
                        clear HO981
                        clear HO985
                        clear HO988
                        clear HO993
                        clear HO996
                        clear HO1000
                        clear HO1003
                        clear HO1007
                        clear HO1010
                        clear BK962
                        clear BK969
                        clear BK982
                        clear BK990
                        clear HB
                        have HO_6 := n0_
                        have HO_7 := n1_
                        have HO_8 := n2_
                        have HO958 := n3_
                        have HO961 := n4_
                        have HO965 := n5_
                        have HO968 := n6_
                        have HO975 := n7_
                        have HO978 := n8_
                        have HO981 := n9_
                        have HO985 := n10_
                        have HO988 := n11_
                        have HO993 := n12_
                        have HO996 := n13_
                        have HO1000 := n14_
                        have HO1003 := n15_
                        have HO1007 := n16_
                        have HO1010 := n17_
                        have BK962 := n18_
                        have BK969 := n19_
                        have BK982 := n20_
                        have BK990 := n21_
                        have HB := n22_
                        clear n0_ n1_ n2_ n3_ n4_ n5_ n6_ n7_ n8_ n9_ n10_ n11_ n12_ n13_ n14_ n15_ n16_ n17_ n18_ n19_ n20_ n21_ n22_
                        (try clear hb)
                        (try clear hb2)
                        (try clear hk)
                        (try clear hi)
                        refine hK.out _ _ ⟨(blk_cell BK962.out 0).trans rfl, (blk_cell BK962.out 1).trans rfl, (blk_cell BK982.out 0).trans rfl, (blk_cell BK982.out 1).trans rfl, (blk_cell BK969.out 0).trans rfl, (blk_cell BK969.out 1).trans rfl, (blk_cell BK990.out 0).trans rfl, (blk_cell BK990.out 1).trans rfl⟩ (fun hHeld => ?_)
                        clear hK K
                        refine norm_ (a' := ?_) ?_ ?_
                        rotate_left
                        · show Act.put _ (some 86) _ = _
                          simp only [Act.put, List.setIfInBounds_toArray, List.set_cons_zero, List.set_cons_succ, i64_w, i32_w]
                          rfl
                        refine pure_ (i := 33) (N := some 87) (v := ?_) (a' := ?_) #[true, true, true, true, true, true, true, true, true, true, true, true, true, true, true, true, true, true, true, true, true, true, true, true, true, true, true, true, true, true, true, true, true, true, false, false] rfl rfl (any_of HT_.out (by kernel_rfl)) (fun _ _ _ h => h) (Or.inl ⟨by rfl, ?_⟩) ?_ ?_
                        rotate_left
                        · intro w'
                          go_simp
                          with_reducible rfl
                        rotate_left
                        · simp only [Act.put, List.setIfInBounds_toArray, List.set_cons_zero, List.set_cons_succ, i64_w, i32_w]
                          rfl
                        refine pure_ (i := 34) (N := some 88) (v := ?_) (a' := ?_) #[true, true, true, true, true, true, true, true, true, true, true, true, true, true, true, true, true, true, true, true, true, true, true, true, true, true, true, true, true, true, true, true, true, true, true, false] rfl rfl (any_of HT_.out (by kernel_rfl)) (fun _ _ _ h => h) (Or.inl ⟨by rfl, ?_⟩) ?_ ?_
                        rotate_left
                        · intro w'
                          go_simp
                          with_reducible rfl
                        rotate_left
                        · simp only [Act.put, List.setIfInBounds_toArray, List.set_cons_zero, List.set_cons_succ, i64_w, i32_w]
                          rfl
                        refine pure_ (i := 35) (N := some 4) (v := ?_) (a' := ?_) #[true, true, true, true, true, true, true, true, true, true, true, true, true, true, true, true, true, true, true, true, true, true, true, true, true, true, true, true, true, true, true, true, true, true, true, true] rfl rfl (any_of HT_.out (by kernel_rfl)) (fun _ _ _ h => h) (Or.inl ⟨by rfl, ?_⟩) ?_ ?_
                        rotate_left
                        · intro w'
                          go_simp
                          with_reducible rfl
                        rotate_left
                        · simp only [Act.put, List.setIfInBounds_toArray, List.set_cons_zero, List.set_cons_succ, i64_w, i32_w]
                          rfl
                        refine done_ (done_of HT_.out (by kernel_rfl)) ?_
                        try go_wp2
                        go_ret
                        exact ⟨by first | rfl | (simp [errW_none, errW_some] <;> rfl) | (simp [*, errW_none, errW_some] <;> rfl), by repeat (first | (with_reducible first | exact HB.out | apply below_alloc | apply pw_below_drewN | apply below_drew1 | refine below_set ?_ GE962.out | refine below_set ?_ GE969.out | refine below_set ?_ GE982.out | refine below_set ?_ GE990.out) | exact HB.out)⟩
                      · replace c33 := Bool.eq_false_iff.mpr c33
                        subst c33
                        have H1 : (some false) = some r := by rw [if_neg (show ¬ (false = true) by decide)] at H; exact H
                        clear H
                        have H := H1
                        clear H1
                        exact absurd ((Option.some.inj H).trans hr_.out) (by simp)
                    · rw [if_neg c31] at H
                      have c31b0 : (t989 == 0) = false := beq_eq_false_iff_ne.mpr c31
                      have c31b1 : (t989 != 0) = true := bne_iff_ne.mpr c31
                      exact absurd ((Option.some.inj H).trans hr_.out) (by simp)
                  · replace c30 := Bool.eq_false_iff.mpr c30
                    subst c30
                    have H1 : (some false) = some r := by rw [if_neg (show ¬ (false = true) by decide)] at H; exact H
                    clear H
                    have H := H1
                    clear H1
                    exact absurd ((Option.some.inj H).trans hr_.out) (by simp)
                · replace c27 := Bool.eq_false_iff.mpr c27
                  subst c27
                  have H1 : (some false) = some r := by rw [if_neg (show ¬ (false = true) by decide)] at H; exact H
                  clear H
                  have H := H1
                  clear H1
                  exact absurd ((Option.some.inj H).trans hr_.out) (by simp)
              · replace c24 := Bool.eq_false_iff.mpr c24
                subst c24
                have H1 : (some false) = some r := by rw [if_neg (show ¬ (false = true) by decide)] at H; exact H
                clear H
                have H := H1
                clear H1
                exact absurd ((Option.some.inj H).trans hr_.out) (by simp)
            · replace c21 := Bool.eq_false_iff.mpr c21
              subst c21
              have H1 : (some false) = some r := by rw [if_neg (show ¬ (false = true) by decide)] at H; exact H
              clear H
              have H := H1
              clear H1
              exact absurd ((Option.some.inj H).trans hr_.out) (by simp)
          · rw [if_neg c18] at H
            exact absurd H (by simp)
        · rw [if_neg c17] at H
          exact absurd H (by simp)

/-- THE ONE PURE STATEMENT of regattalaw03_RatioOrder: yours. -/
def regattalaw03_RatioOrder.Pure : Prop := ∀ (x0 : List (S55)) (x1 : List (S55)), (x0.length ≤ 9223372036854775807 ∧ ∀ y ∈ x0, ok55 y) → (x1.length ≤ 9223372036854775807 ∧ ∀ y ∈ x1, ok55 y) → ∃ k, regattalaw03_RatioOrder.f k x0 x1 = some true

end Go.Proofs.Ytcfliceeablckaa.PNr
