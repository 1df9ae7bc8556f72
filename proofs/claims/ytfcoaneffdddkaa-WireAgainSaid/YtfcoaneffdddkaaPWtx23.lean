-- Written by wip/rprint.py of this session's repo (the kit's printer with patches), out of the translation. Not trusted: Lean checks it.
import Derived.Test.YtfcoaneffdddkaaPWtx0
import Derived.Test.YtfcoaneffdddkaaPWtx17
import Derived.Test.YtfcoaneffdddkaaPWtx22
namespace Go.Proofs.Ytfcoaneffdddkaa.PWt
open Go.RowKit Go.Proofs.YtfcoaneffdddkaaW.PrintWords Go.Proofs.YtfcoaneffdddkaaW.PrintLast Go.Proofs.YtfcoaneffdddkaaW.PrintMore Go.Proofs.Ytfcoaneffdddkaa.MWords
attribute [local go_sem] max2_int min2_int max_two min_two max_three min_three max_four min_four   -- for this text's walks alone
set_option linter.unusedVariables false
set_option linter.unusedSimpArgs false

/-! ### regattalaw18_good: function 8 -/
def regattalaw18_good.l0 : Nat → List (S31) → List (S31) → Int → Option ((List (S31)))
  | 0, _, _, _ => none
  | k + 1, x3, x4, x5 => if x5 < (x4.length : Int) then (if 0 ≤ x5 then ((regattaref18_Check.f k ((rd_T31 x4 x5).f0) ((rd_T31 x4 x5).f1) ((rd_T31 x4 x5).f2) ((rd_T31 x4 x5).f3) ((rd_T31 x4 x5).f4) ((rd_T31 x4 x5).f5.f0) ((rd_T31 x4 x5).f5.f1) ((rd_T31 x4 x5).f6) ((rd_T31 x4 x5).f7)).bind fun t205 => (if t205 = true then (if x3.length < 1599289640401 then (regattalaw18_good.l0 k (x3 ++ [(⟨(rd_T31 x4 x5).f0, (rd_T31 x4 x5).f1, (rd_T31 x4 x5).f2, (rd_T31 x4 x5).f3, (rd_T31 x4 x5).f4, (⟨(rd_T31 x4 x5).f5.f0, (rd_T31 x4 x5).f5.f1⟩ : S28), (rd_T31 x4 x5).f6, (rd_T31 x4 x5).f7⟩ : S31)]) x4 (wrap64 (x5 + 1))) else (none)) else (regattalaw18_good.l0 k x3 x4 (wrap64 (x5 + 1))))) else (none)) else (some x3)
def regattalaw18_good.f (k : Nat) (l0 : List (S31)) : Option ((List (S31))) := (regattalaw18_few.f k l0).bind fun t201 => (regattalaw18_good.l0 k ([] : List (S31)) t201 0)
theorem regattalaw18_good.mono_l : ∀ k, (∀ y0 y1 y2, LeO (regattalaw18_good.l0 k y0 y1 y2) (regattalaw18_good.l0 (k + 1) y0 y1 y2))
  | 0 => fun _ _ _ r h => by simp [regattalaw18_good.l0] at h
  | k + 1 => by
    have ih0 := regattalaw18_good.mono_l k
    · intro y0 y1 y2
      unfold regattalaw18_good.l0
      repeat' first
      | (with_reducible exact ih0 _ _ _)
      | (with_reducible exact regattalaw18_few.mono _ _)
      | (with_reducible exact regattaref18_Check.mono _ _ _ _ _ _ _ _ _ _)
      | (with_reducible exact LeO.refl _)
      | (with_reducible exact LeO.none _)
      | (with_reducible refine LeO.ite ?_ ?_)
      | (with_reducible refine LeO.bind ?_ (fun _ => ?_))
      | exact ih0 _ _ _
      | exact regattalaw18_few.mono _ _
      | exact regattaref18_Check.mono _ _ _ _ _ _ _ _ _ _
      | exact LeO.none _
      | refine LeO.ite ?_ ?_
      | refine LeO.bind ?_ (fun _ => ?_)
theorem regattalaw18_good.mono : ∀ a0 k, LeO (regattalaw18_good.f k a0) (regattalaw18_good.f (k + 1) a0) := by
  intro a0 k
  have ih0 := regattalaw18_good.mono_l k
  unfold regattalaw18_good.f
  repeat' first
      | (with_reducible exact ih0 _ _ _)
      | (with_reducible exact regattalaw18_few.mono _ _)
      | (with_reducible exact regattaref18_Check.mono _ _ _ _ _ _ _ _ _ _)
      | (with_reducible exact LeO.refl _)
      | (with_reducible exact LeO.none _)
      | (with_reducible refine LeO.ite ?_ ?_)
      | (with_reducible refine LeO.bind ?_ (fun _ => ?_))
      | exact ih0 _ _ _
      | exact regattalaw18_few.mono _ _
      | exact regattaref18_Check.mono _ _ _ _ _ _ _ _ _ _
      | exact LeO.none _
      | refine LeO.ite ?_ ?_
      | refine LeO.bind ?_ (fun _ => ?_)
set_option maxHeartbeats 8000000 in
set_option maxRecDepth 100000 in
theorem regattalaw18_good.calls (k : Nat) (P0_ : Nat → Prop) (A0 : Option Addr) (c0 : Nat) (l0 : List (S31)) (r : List (S31)) (w : World) (hs0 : Kd.V k31 31 w w.heap.size (fun k_ => P0_ k_) (.slice A0 l0.length c0) l0) (h : regattalaw18_good.f k l0 = some r) :
    Calls Try.prog 8 #[.slice A0 l0.length c0] w fun e w' => ∃ v0_ : Value, e = .returned (v0_) ∧ Kd.N k31 31 w' w.heap.size (fun k_ => (P0_ k_ ∨ w.heap.size ≤ k_)) v0_ r ∧ Below w.heap.size w w' := by
  have hu31 := Try.underlying31
  have HO0 := Aside0.mk (show Kd.V k31 31 w w.heap.size (fun k_ => (P0_ k_ ∨ w.heap.size ≤ k_)) (.slice A0 l0.length c0) l0 from Kd.V_mono hs0 (fun k_ hk => .inl hk))
  have HB := Aside0.mk (Below.refl w.heap.size w)
  have H : ((regattalaw18_few.f k l0).bind fun t201 => (regattalaw18_good.l0 k ([] : List (S31)) t201 0)) = some r := h
  clear h
  replace H := Option.bind_eq_some_iff.mp H
  obtain ⟨t201, A20, H⟩ := H
  replace H : (regattalaw18_good.l0 k ([] : List (S31)) t201 0) = some r := H
  have A2 := Aside0.mk A20
  clear A20
  have H' := Aside0.mk H
  clear H
  go_enter Try.func8, Try.ntmps8
  go_wp2_with (first | ((with_reducible refine gate_callee (f := 14) rfl ?_); refine goesL_ (some 8) rfl rfl Try.func14 (by kernel_rfl) rfl #[.slice A0 l0.length c0] rfl (by (try simp only [List.map_toArray, List.map_cons, List.map_nil]); first | done | rfl | (simp only [List.length_drop, List.length_take]; rfl)) ?_; (with_reducible refine (regattalaw18_few.calls k (fun k_ => (P0_ k_ ∨ w.heap.size ≤ k_)) _ _ l0 t201 _ ?side1 A2.out).mono ?_); (case side1 => exact HO0.out); rintro e w3 ⟨v202, rfl, ho0, hb⟩; refine ⟨_, rfl, ?_⟩; have n0_ := Aside0.mk (Kd.V_elder' (by (with_reducible repeat (first | apply Kd.V_alloc | apply Kd.V_drewN | apply Kd.V_drew)); exact HO0.out) (by first | exact Kd.N_base ho0 | exact Kd.S_base ho0) hb); have n1_ := Aside0.mk (Kd.N_lower (Kd.N_mono (ok' := fun k_ => (P0_ k_ ∨ w.heap.size ≤ k_)) ho0 (fun k_ hk_ => Or.elim hk_ (fun hs_ => hs_) (fun hn_ => (.inr (Nat.le_trans (below_size (by repeat (first | (with_reducible first | exact HB.out | apply below_alloc | apply pw_below_drewN | apply below_drew1) | exact HB.out))) hn_))))) (below_size (by repeat (first | (with_reducible first | exact HB.out | apply below_alloc | apply pw_below_drewN | apply below_drew1) | exact HB.out)))); have n2_ := Aside0.mk (below_step (by repeat (first | (with_reducible first | exact HB.out | apply below_alloc | apply pw_below_drewN | apply below_drew1) | exact HB.out)) hb); clear HO0; clear HB; have HO0 := n0_; have HO203 := n1_; have HB := n2_; clear n0_ n1_ n2_; (try clear hb); (try clear hb2); (try clear hk); (try clear hi); (try clear ho0)))
  go_loopg [3, 5] k (fun kq v3 v5 w' => ∃ (x3_1 : List (S31)) (x5_1 : Int), v5 = .int .i64 x5_1 ∧ Aside0 (regattalaw18_good.l0 kq x3_1 t201 x5_1 = some r) ∧ Aside0 (kq ≤ k) ∧ Aside0 (Kd.N k31 31 w' w.heap.size (fun k_ => (P0_ k_ ∨ w.heap.size ≤ k_) ∧ some k_ ≠ (v202 : Value).ownBlock) v3 x3_1) ∧ Aside0 (Kd.N k31 31 w' w.heap.size (fun k_ => (P0_ k_ ∨ w.heap.size ≤ k_) ∧ some k_ ≠ (v3 : Value).ownBlock) v202 t201) ∧ Aside0 (Below w.heap.size w w'))
  case atStart => exact ⟨(([] : List (S31))), (0), (by first | rfl | (simp; done) | (simp [*]; done)), H', ⟨Nat.le_refl _⟩, ⟨by first | exact Kd.S_nil _ _ _ _ _ | exact Kd.N_nil _ _ _ _ _ | exact Kd.V_nil _ _ _ _ _ | exact Kd.Q_nil _ _ _ _ _ | exact Kd.R_nil _ _ _ _ _⟩, ⟨by (with_reducible repeat (first | apply Kd.N_alloc | apply Kd.N_drewN | apply Kd.N_drew)); exact Kd.N_mono HO203.out (fun _ hk => ⟨hk, (by simp [Value.ownBlock])⟩)⟩, ⟨by repeat (first | (with_reducible first | exact HB.out | apply below_alloc | apply pw_below_drewN | apply below_drew1) | exact HB.out)⟩⟩
  case round =>
    clear H'
    try clear c1
    try clear p2
    obtain ⟨x3_1, x5_1, rfl, HA, HK1, HO_3, HO_4, HB⟩ := hrel
    cases gk with
    | zero => exact absurd HA.out (by simp [regattalaw18_good.l0])
    | succ k1 =>
      have H := HA.out
      clear HA
      simp only [regattalaw18_good.l0] at H
      by_cases c4 : x5_1 < (t201.length : Int)
      · rw [if_pos c4] at H
        have c4b0 : decide (x5_1 < (t201.length : Int)) = true := decide_eq_true c4
        clear c4
        by_cases c5 : 0 ≤ x5_1
        · rw [if_pos c5] at H
          have c5b0 : decide (0 ≤ x5_1) = true := decide_eq_true c5
          clear c5
          replace H := Option.bind_eq_some_iff.mp H
          obtain ⟨t205, A60, H⟩ := H
          replace H : (if t205 = true then (if x3_1.length < 1599289640401 then (regattalaw18_good.l0 k1 (x3_1 ++ [(⟨(rd_T31 t201 x5_1).f0, (rd_T31 t201 x5_1).f1, (rd_T31 t201 x5_1).f2, (rd_T31 t201 x5_1).f3, (rd_T31 t201 x5_1).f4, (⟨(rd_T31 t201 x5_1).f5.f0, (rd_T31 t201 x5_1).f5.f1⟩ : S28), (rd_T31 t201 x5_1).f6, (rd_T31 t201 x5_1).f7⟩ : S31)]) t201 (wrap64 (x5_1 + 1))) else (none)) else (regattalaw18_good.l0 k1 x3_1 t201 (wrap64 (x5_1 + 1)))) = some r := H
          have A6 := Aside0.mk A60
          clear A60
          by_cases c7 : t205 = true
          · subst c7
            have H1 : (if x3_1.length < 1599289640401 then (regattalaw18_good.l0 k1 (x3_1 ++ [(⟨(rd_T31 t201 x5_1).f0, (rd_T31 t201 x5_1).f1, (rd_T31 t201 x5_1).f2, (rd_T31 t201 x5_1).f3, (rd_T31 t201 x5_1).f4, (⟨(rd_T31 t201 x5_1).f5.f0, (rd_T31 t201 x5_1).f5.f1⟩ : S28), (rd_T31 t201 x5_1).f6, (rd_T31 t201 x5_1).f7⟩ : S31)]) t201 (wrap64 (x5_1 + 1))) else (none)) = some r := by rw [if_pos rfl] at H; exact H
            clear H
            have H := H1
            clear H1
            by_cases c8 : x3_1.length < 1599289640401
            · rw [if_pos c8] at H
              have LMc8 := Aside0.mk c8
              clear c8
              obtain ⟨y207, hy207⟩ : ∃ y_ : List (S31), y_ = (x3_1 ++ [(⟨(rd_T31 t201 x5_1).f0, (rd_T31 t201 x5_1).f1, (rd_T31 t201 x5_1).f2, (rd_T31 t201 x5_1).f3, (rd_T31 t201 x5_1).f4, (⟨(rd_T31 t201 x5_1).f5.f0, (rd_T31 t201 x5_1).f5.f1⟩ : S28), (rd_T31 t201 x5_1).f6, (rd_T31 t201 x5_1).f7⟩ : S31)]) := ⟨_, rfl⟩
              replace H : (regattalaw18_good.l0 k1 y207 t201 (wrap64 (x5_1 + 1))) = some r := by first | (rw [hy207]; with_reducible exact H) | (have H2_ := (Option.bind_some _ _).symm.trans H; rw [hy207]; with_reducible exact H2_) | (have H2_ := (Option.bind_some _ _).symm.trans H; with_reducible exact H2_) | with_reducible exact H | (rw [hy207]; exact H) | exact H
              have Ny207 := Aside0.mk hy207
              clear hy207
              have H' := Aside0.mk H
              clear H
              obtain ⟨Ao9, co9, eo9⟩ := Kd.N_slice HO_4.out
              subst eo9
              have p204 : 0 ≤ (x5_1 : Int) := of_decide_eq_true (by first | (with_reducible assumption) | assumption)
              have q204 : x5_1 < (t201.length : Int) := of_decide_eq_true (by first | (with_reducible assumption) | assumption)
              obtain ⟨ad204, A204_8, c204_8, e204, hx204_0, hx204_1, hx204_2, hx204_3, hx204_4, hx204_5, hx204_6, hx204_7, hx204_8, hl204_8, hi204_8⟩ := at_T31 (Kd.N_reads' HO_4.out).2.2 x5_1 p204 q204
              cases e204
              obtain ⟨ce204, hce204, hMe204, hcc204⟩ := Kd.N_get HO_4.out z31 x5_1 p204 (by first | exact q204 | exact of_decide_eq_true (by first | (with_reducible assumption) | assumption) | (have e_ := (Kd.N_reads' HO_4.out).1; omega))
              obtain ⟨ua204_8, uc204_8, rfl, ul204_8, ge204_8⟩ := k31_openF hMe204
              have hv204_8 := hcc204 8 _ rfl
              rw [add_field _ _ 8 (by omega)] at hv204_8
              replace hv204_8 := Option.some.inj (hv204_8.symm.trans hx204_8)
              injection hv204_8 with hva_ hvn_ hvc_
              rw [hva_] at ge204_8
              rw [hvc_] at ul204_8
              have HL204_8 := Aside0.mk (show Kd.V k67 67 _ w.heap.size _ _ ((rd_T31 t201 x5_1).f7) from Kd.V_mk ul204_8 ge204_8)
              clear hva_ hvn_ hvc_ ge204_8 ul204_8
              clear hcc204 hce204
              have HR204_8 := Aside0.mk hi204_8
              have HC204_8 := Aside0.mk hl204_8
              clear hi204_8 hl204_8
              replace p204 := eq_true p204
              replace q204 := eq_true q204
              go_wp2_with (first | ((with_reducible refine gate_callee (f := 15) rfl ?_); refine goesL_ (some 19) rfl rfl Try.func15 (by kernel_rfl) rfl #[.agg #[.int .i64 ((rd_T31 t201 x5_1).f0), .int .i64 ((rd_T31 t201 x5_1).f1), .int .i64 ((rd_T31 t201 x5_1).f2), .int .i64 ((rd_T31 t201 x5_1).f3), .int .i64 ((rd_T31 t201 x5_1).f4), .int .i64 ((rd_T31 t201 x5_1).f5.f0), .int .i64 ((rd_T31 t201 x5_1).f5.f1), .bool ((rd_T31 t201 x5_1).f6), .slice A204_8 ((rd_T31 t201 x5_1).f7).length c204_8]] rfl (by (try simp only [List.map_toArray, List.map_cons, List.map_nil]); first | done | rfl | (simp only [List.length_drop, List.length_take]; rfl)) ?_; (with_reducible refine (regattaref18_Check.calls k1 ((rd_T31 t201 x5_1).f0) ((rd_T31 t201 x5_1).f1) ((rd_T31 t201 x5_1).f2) ((rd_T31 t201 x5_1).f3) ((rd_T31 t201 x5_1).f4) ((rd_T31 t201 x5_1).f5.f0) ((rd_T31 t201 x5_1).f5.f1) ((rd_T31 t201 x5_1).f6) _ _ ((rd_T31 t201 x5_1).f7) true _ ?side1 ?side2 A6.out).mono ?_); (case side1 => repeat (first | exact (by repeat (first | (with_reducible exact HR204_8.out) | (with_reducible refine Kd.C_alloc ?_ _) | (with_reducible refine Kd.C_drewN ?_ _) | (with_reducible refine Kd.C_drew ?_) | exact HR204_8.out)) | (with_reducible refine Kd.C_alloc ?_ _) | (with_reducible refine Kd.C_drewN ?_ _) | (with_reducible refine Kd.C_drew ?_))); (case side2 => exact HC204_8.out); rintro e w10 ⟨rfl, hb⟩; refine ⟨_, rfl, ?_⟩; have n0_ := Aside0.mk (Kd.N_below (by (with_reducible repeat (first | apply Kd.N_alloc | apply Kd.N_drewN | apply Kd.N_drew)); exact HO_3.out) hb); have n1_ := Aside0.mk (Kd.N_below (by (with_reducible repeat (first | apply Kd.N_alloc | apply Kd.N_drewN | apply Kd.N_drew)); exact HO_4.out) hb); have n2_ := Aside0.mk (Kd.V_below (by (with_reducible repeat (first | apply Kd.V_alloc | apply Kd.V_drewN | apply Kd.V_drew)); exact HL204_8.out) hb); have n3_ := Aside0.mk (Kd.C_below (by repeat (first | (with_reducible exact HR204_8.out) | (with_reducible refine Kd.C_alloc ?_ _) | (with_reducible refine Kd.C_drewN ?_ _) | (with_reducible refine Kd.C_drew ?_) | exact HR204_8.out)) hb); have n4_ := Aside0.mk (below_step (by repeat (first | (with_reducible first | exact HB.out | apply below_alloc | apply pw_below_drewN | apply below_drew1) | exact HB.out)) hb); clear HO_3; clear HO_4; clear HL204_8; clear HR204_8; clear HB; have HO_3 := n0_; have HO_4 := n1_; have HL204_8 := n2_; have HR204_8 := n3_; have HB := n4_; clear n0_ n1_ n2_ n3_ n4_; (try clear hb); (try clear hb2); (try clear hk); (try clear hi); have p206 : 0 ≤ (x5_1 : Int) := of_decide_eq_true (by first | (with_reducible assumption) | assumption); have q206 : x5_1 < (t201.length : Int) := of_decide_eq_true (by first | (with_reducible assumption) | assumption); obtain ⟨ad206, A206_8, c206_8, e206, hx206_0, hx206_1, hx206_2, hx206_3, hx206_4, hx206_5, hx206_6, hx206_7, hx206_8, hl206_8, hi206_8⟩ := at_T31 (Kd.N_reads' HO_4.out).2.2 x5_1 p206 q206; obtain rfl : ad204 = ad206 := (by injection e206); obtain ⟨ce206, hce206, hMe206, hcc206⟩ := Kd.N_get HO_4.out z31 x5_1 p206 (by first | exact q206 | exact of_decide_eq_true (by first | (with_reducible assumption) | assumption) | (have e_ := (Kd.N_reads' HO_4.out).1; omega)); obtain ⟨ua206_8, uc206_8, rfl, ul206_8, ge206_8⟩ := k31_openF hMe206; have hv206_8 := hcc206 8 _ rfl; rw [add_field _ _ 8 (by omega)] at hv206_8; replace hv206_8 := Option.some.inj (hv206_8.symm.trans hx206_8); injection hv206_8 with hva_ hvn_ hvc_; rw [hva_] at ge206_8; rw [hvc_] at ul206_8; have HL206_8 := Aside0.mk (show Kd.V k67 67 _ w.heap.size _ _ ((rd_T31 t201 x5_1).f7) from Kd.V_mk ul206_8 ge206_8); clear hva_ hvn_ hvc_ ge206_8 ul206_8; clear hcc206 hce206; have HR206_8 := Aside0.mk hi206_8; have HC206_8 := Aside0.mk hl206_8; clear hi206_8 hl206_8; replace p206 := eq_true p206; replace q206 := eq_true q206) | ((with_reducible refine gate_builtin (b := .append) (xs := #[.tmp 21, .tmp 26]) rfl ?_); at_builtin; refine Kd.N_append k31 (w0 := w) w.heap.size rfl (.tmp 21) (.tmp 26) 22 31 (.agg #[(.int .i64 0), (.int .i64 0), (.int .i64 0), (.int .i64 0), (.int .i64 0), (.int .i64 0), (.int .i64 0), (.bool false), (.slice none 0 0)]) 88 rfl Try.underlying22 info31 rfl (by decide) (by omega) u3 x3_1 (⟨(rd_T31 t201 x5_1).f0, (rd_T31 t201 x5_1).f1, (rd_T31 t201 x5_1).f2, (rd_T31 t201 x5_1).f3, (rd_T31 t201 x5_1).f4, (⟨(rd_T31 t201 x5_1).f5.f0, (rd_T31 t201 x5_1).f5.f1⟩ : S28), (rd_T31 t201 x5_1).f6, (rd_T31 t201 x5_1).f7⟩ : S31) [.int .i64 ((rd_T31 t201 x5_1).f0), .int .i64 ((rd_T31 t201 x5_1).f1), .int .i64 ((rd_T31 t201 x5_1).f2), .int .i64 ((rd_T31 t201 x5_1).f3), .int .i64 ((rd_T31 t201 x5_1).f4), .int .i64 ((rd_T31 t201 x5_1).f5.f0), .int .i64 ((rd_T31 t201 x5_1).f5.f1), .bool ((rd_T31 t201 x5_1).f6), .slice A206_8 ((rd_T31 t201 x5_1).f7).length c206_8] (fun k_ => (P0_ k_ ∨ w.heap.size ≤ k_) ∧ some k_ ≠ (.slice (some ad204) t201.length co9 : Value).ownBlock) (fun k_ => ((fun k_ => (P0_ k_ ∨ w.heap.size ≤ k_) ∧ some k_ ≠ (.slice (some ad204) t201.length co9 : Value).ownBlock)) k_ ∧ some k_ ≠ (u3 : Value).ownBlock) rfl rfl ?aP (fun _ hk => hk) ?aF ?aO ?aB ?aS ?aL ?_; (case aP => exact (k31_mkF _ _ (⟨(rd_T31 t201 x5_1).f0, (rd_T31 t201 x5_1).f1, (rd_T31 t201 x5_1).f2, (rd_T31 t201 x5_1).f3, (rd_T31 t201 x5_1).f4, (⟨(rd_T31 t201 x5_1).f5.f0, (rd_T31 t201 x5_1).f5.f1⟩ : S28), (rd_T31 t201 x5_1).f6, (rd_T31 t201 x5_1).f7⟩ : S31) (Kd.V_reads' (Kd.V_mono (ok' := (fun k_ => ((fun k_ => (P0_ k_ ∨ w.heap.size ≤ k_) ∧ some k_ ≠ (.slice (some ad204) t201.length co9 : Value).ownBlock)) k_ ∧ some k_ ≠ (u3 : Value).ownBlock)) (HL206_8.out) (fun k_ hk => ⟨⟨hk.1.1, hk.2⟩, hk.1.2⟩))).2.1 (Kd.V_F (Kd.V_mono (ok' := (fun k_ => ((fun k_ => (P0_ k_ ∨ w.heap.size ≤ k_) ∧ some k_ ≠ (.slice (some ad204) t201.length co9 : Value).ownBlock)) k_ ∧ some k_ ≠ (u3 : Value).ownBlock)) (HL206_8.out) (fun k_ hk => ⟨⟨hk.1.1, hk.2⟩, hk.1.2⟩))))); (case aB => exact (by repeat (first | (with_reducible first | exact HB.out | apply below_alloc | apply pw_below_drewN | apply below_drew1) | exact HB.out))); (case aF => exact (fun k_ hk => ⟨(.inr (Nat.le_trans (below_size (by repeat (first | (with_reducible first | exact HB.out | apply below_alloc | apply pw_below_drewN | apply below_drew1) | exact HB.out))) hk)), Kd.fresh' (Kd.N_lt (by (with_reducible repeat (first | apply Kd.N_alloc | apply Kd.N_drewN | apply Kd.N_drew)); exact HO_4.out)) k_ hk⟩)); (case aO => exact (by (with_reducible repeat (first | apply Kd.N_alloc | apply Kd.N_drewN | apply Kd.N_drew)); exact HO_3.out)); (case aS => exact (below_size (by repeat (first | (with_reducible first | exact HB.out | apply below_alloc | apply pw_below_drewN | apply below_drew1) | exact HB.out)))); (case aL => have := LMc8.out; omega); intro v208 w11 ho hb hg hat; rw [← Ny207.out] at ho; have n0_ := Aside0.mk (Kd.N_afterv (ok := (fun k_ => (P0_ k_ ∨ w.heap.size ≤ k_))) (by (with_reducible repeat (first | apply Kd.N_alloc | apply Kd.N_drewN | apply Kd.N_drew)); exact HO_4.out) hg hat); have n1_ := Aside0.mk (Kd.V_afterv (ok := (fun k_ => (P0_ k_ ∨ w.heap.size ≤ k_) ∧ some k_ ≠ (.slice (some ad204) t201.length co9 : Value).ownBlock)) (by (with_reducible repeat (first | apply Kd.V_alloc | apply Kd.V_drewN | apply Kd.V_drew)); exact Kd.V_mono HL204_8.out (fun _ hk => ⟨⟨hk.1.1, hk.2⟩, hk.1.2⟩)) hg hat); have n2_ := Aside0.mk (Kd.V_afterv (ok := (fun k_ => (P0_ k_ ∨ w.heap.size ≤ k_) ∧ some k_ ≠ (.slice (some ad204) t201.length co9 : Value).ownBlock)) (by (with_reducible repeat (first | apply Kd.V_alloc | apply Kd.V_drewN | apply Kd.V_drew)); exact Kd.V_mono HL206_8.out (fun _ hk => ⟨⟨hk.1.1, hk.2⟩, hk.1.2⟩)) hg hat); have n3_ := Aside0.mk (hb); have n4_ := Aside0.mk (ho); clear HO_4; clear HL204_8; clear HL206_8; clear HB; clear HO_3; have HO_4 := n0_; have HL204_8 := n1_; have HL206_8 := n2_; have HB := n3_; have HO209 := n4_; clear n0_ n1_ n2_ n3_ n4_; clear ho hb hg hat))
              go_roundg k1
              case measure => have := HK1.out; omega
              case rel => exact ⟨(y207), (wrap64 (x5_1 + 1)), (by first | rfl | (simp; done) | (simp [*]; done)), H', ⟨by have := HK1.out; omega⟩, ⟨by (with_reducible repeat (first | apply Kd.N_alloc | apply Kd.N_drewN | apply Kd.N_drew)); exact HO209.out⟩, ⟨by (with_reducible repeat (first | apply Kd.N_alloc | apply Kd.N_drewN | apply Kd.N_drew)); exact HO_4.out⟩, ⟨by repeat (first | (with_reducible first | exact HB.out | apply below_alloc | apply pw_below_drewN | apply below_drew1) | exact HB.out)⟩⟩
            · rw [if_neg c8] at H
              exact absurd H (by simp)
          · replace c7 := Bool.eq_false_iff.mpr c7
            subst c7
            have H1 : (regattalaw18_good.l0 k1 x3_1 t201 (wrap64 (x5_1 + 1))) = some r := by rw [if_neg (show ¬ (false = true) by decide)] at H; exact H
            clear H
            have H := H1
            clear H1
            have H' := Aside0.mk H
            clear H
            obtain ⟨Ao12, co12, eo12⟩ := Kd.N_slice HO_4.out
            subst eo12
            have p204 : 0 ≤ (x5_1 : Int) := of_decide_eq_true (by first | (with_reducible assumption) | assumption)
            have q204 : x5_1 < (t201.length : Int) := of_decide_eq_true (by first | (with_reducible assumption) | assumption)
            obtain ⟨ad204, A204_8, c204_8, e204, hx204_0, hx204_1, hx204_2, hx204_3, hx204_4, hx204_5, hx204_6, hx204_7, hx204_8, hl204_8, hi204_8⟩ := at_T31 (Kd.N_reads' HO_4.out).2.2 x5_1 p204 q204
            cases e204
            obtain ⟨ce204, hce204, hMe204, hcc204⟩ := Kd.N_get HO_4.out z31 x5_1 p204 (by first | exact q204 | exact of_decide_eq_true (by first | (with_reducible assumption) | assumption) | (have e_ := (Kd.N_reads' HO_4.out).1; omega))
            obtain ⟨ua204_8, uc204_8, rfl, ul204_8, ge204_8⟩ := k31_openF hMe204
            have hv204_8 := hcc204 8 _ rfl
            rw [add_field _ _ 8 (by omega)] at hv204_8
            replace hv204_8 := Option.some.inj (hv204_8.symm.trans hx204_8)
            injection hv204_8 with hva_ hvn_ hvc_
            rw [hva_] at ge204_8
            rw [hvc_] at ul204_8
            have HL204_8 := Aside0.mk (show Kd.V k67 67 _ w.heap.size _ _ ((rd_T31 t201 x5_1).f7) from Kd.V_mk ul204_8 ge204_8)
            clear hva_ hvn_ hvc_ ge204_8 ul204_8
            clear hcc204 hce204
            have HR204_8 := Aside0.mk hi204_8
            have HC204_8 := Aside0.mk hl204_8
            clear hi204_8 hl204_8
            replace p204 := eq_true p204
            replace q204 := eq_true q204
            go_wp2_with (first | ((with_reducible refine gate_callee (f := 15) rfl ?_); refine goesL_ (some 19) rfl rfl Try.func15 (by kernel_rfl) rfl #[.agg #[.int .i64 ((rd_T31 t201 x5_1).f0), .int .i64 ((rd_T31 t201 x5_1).f1), .int .i64 ((rd_T31 t201 x5_1).f2), .int .i64 ((rd_T31 t201 x5_1).f3), .int .i64 ((rd_T31 t201 x5_1).f4), .int .i64 ((rd_T31 t201 x5_1).f5.f0), .int .i64 ((rd_T31 t201 x5_1).f5.f1), .bool ((rd_T31 t201 x5_1).f6), .slice A204_8 ((rd_T31 t201 x5_1).f7).length c204_8]] rfl (by (try simp only [List.map_toArray, List.map_cons, List.map_nil]); first | done | rfl | (simp only [List.length_drop, List.length_take]; rfl)) ?_; (with_reducible refine (regattaref18_Check.calls k1 ((rd_T31 t201 x5_1).f0) ((rd_T31 t201 x5_1).f1) ((rd_T31 t201 x5_1).f2) ((rd_T31 t201 x5_1).f3) ((rd_T31 t201 x5_1).f4) ((rd_T31 t201 x5_1).f5.f0) ((rd_T31 t201 x5_1).f5.f1) ((rd_T31 t201 x5_1).f6) _ _ ((rd_T31 t201 x5_1).f7) false _ ?side1 ?side2 A6.out).mono ?_); (case side1 => repeat (first | exact (by repeat (first | (with_reducible exact HR204_8.out) | (with_reducible refine Kd.C_alloc ?_ _) | (with_reducible refine Kd.C_drewN ?_ _) | (with_reducible refine Kd.C_drew ?_) | exact HR204_8.out)) | (with_reducible refine Kd.C_alloc ?_ _) | (with_reducible refine Kd.C_drewN ?_ _) | (with_reducible refine Kd.C_drew ?_))); (case side2 => exact HC204_8.out); rintro e w13 ⟨rfl, hb⟩; refine ⟨_, rfl, ?_⟩; have n0_ := Aside0.mk (Kd.N_below (by (with_reducible repeat (first | apply Kd.N_alloc | apply Kd.N_drewN | apply Kd.N_drew)); exact HO_3.out) hb); have n1_ := Aside0.mk (Kd.N_below (by (with_reducible repeat (first | apply Kd.N_alloc | apply Kd.N_drewN | apply Kd.N_drew)); exact HO_4.out) hb); have n2_ := Aside0.mk (Kd.V_below (by (with_reducible repeat (first | apply Kd.V_alloc | apply Kd.V_drewN | apply Kd.V_drew)); exact HL204_8.out) hb); have n3_ := Aside0.mk (Kd.C_below (by repeat (first | (with_reducible exact HR204_8.out) | (with_reducible refine Kd.C_alloc ?_ _) | (with_reducible refine Kd.C_drewN ?_ _) | (with_reducible refine Kd.C_drew ?_) | exact HR204_8.out)) hb); have n4_ := Aside0.mk (below_step (by repeat (first | (with_reducible first | exact HB.out | apply below_alloc | apply pw_below_drewN | apply below_drew1) | exact HB.out)) hb); clear HO_3; clear HO_4; clear HL204_8; clear HR204_8; clear HB; have HO_3 := n0_; have HO_4 := n1_; have HL204_8 := n2_; have HR204_8 := n3_; have HB := n4_; clear n0_ n1_ n2_ n3_ n4_; (try clear hb); (try clear hb2); (try clear hk); (try clear hi)))
            go_roundg k1
            case measure => have := HK1.out; omega
            case rel => exact ⟨(x3_1), (wrap64 (x5_1 + 1)), (by first | rfl | (simp; done) | (simp [*]; done)), H', ⟨by have := HK1.out; omega⟩, ⟨by (with_reducible repeat (first | apply Kd.N_alloc | apply Kd.N_drewN | apply Kd.N_drew)); exact HO_3.out⟩, ⟨by (with_reducible repeat (first | apply Kd.N_alloc | apply Kd.N_drewN | apply Kd.N_drew)); exact HO_4.out⟩, ⟨by repeat (first | (with_reducible first | exact HB.out | apply below_alloc | apply pw_below_drewN | apply below_drew1) | exact HB.out)⟩⟩
        · rw [if_neg c5] at H
          exact absurd H (by simp)
      · rw [if_neg c4] at H
        have c4b0 : decide (x5_1 < (t201.length : Int)) = false := decide_eq_false c4
        clear c4
        obtain rfl := Option.some.inj H
        obtain ⟨Ao14, co14, eo14⟩ := Kd.N_slice HO_4.out
        subst eo14
        go_wp2
        go_ret
        exact ⟨_, by first | rfl | (simp [errW_none, errW_some] <;> rfl) | (simp [*, errW_none, errW_some] <;> rfl), by (with_reducible repeat (first | apply Kd.N_alloc | apply Kd.N_drewN | apply Kd.N_drew)); exact Kd.N_mono HO_3.out (fun _ hk => hk.1), by repeat (first | (with_reducible first | exact HB.out | apply below_alloc | apply pw_below_drewN | apply below_drew1) | exact HB.out)⟩

end Go.Proofs.Ytfcoaneffdddkaa.PWt
