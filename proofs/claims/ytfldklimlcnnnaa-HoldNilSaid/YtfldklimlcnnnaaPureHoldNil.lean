/- HoldNil: of no ledger nothing comes; one is of a ratio that may be. The walk of the law. -/
import Derived.Test.YtfldklimlcnnnaaXNil
import Derived.Deep.DeepCutAuto
import Derived.Laws.IdiomStrings
import Derived.Test.YtfldklimlcnnnaaPHqx37
import Derived.Test.YtfldklimlcnnnaaPHqx49
namespace Go.Proofs.Ytfldklimlcnnnaa.PureHoldNil
open Go.RowKit Go.Shelf Go.Proofs.Ytfldklimlcnnnaa.PHq Go.Proofs.YtfldklimlcnnnaaW.PrintWords Go.Proofs.YtfldklimlcnnnaaW.PrintLast Go.Proofs.YtfldklimlcnnnaaW.PrintMore Go.Proofs.Ytfldklimlcnnnaa.MWords
open Go.Proofs.Ytfldklimlcnnnaa.MNat Go.Proofs.Ytfldklimlcnnnaa.QNat Go.Proofs.Ytfldklimlcnnnaa.QText Go.Proofs.Ytfldklimlcnnnaa.QEv Go.Proofs.Ytfldklimlcnnnaa.QRatio Go.Proofs.Ytfldklimlcnnnaa.XRV Go.Proofs.Ytfldklimlcnnnaa.XHold Go.Proofs.Ytfldklimlcnnnaa.XWts Go.Proofs.Ytfldklimlcnnnaa.XLed Go.Proofs.Ytfldklimlcnnnaa.XPuts Go.Proofs.Ytfldklimlcnnnaa.XNew Go.Proofs.Ytfldklimlcnnnaa.XFits Go.Proofs.Ytfldklimlcnnnaa.XJoin Go.Proofs.Ytfldklimlcnnnaa.XMeth Go.Proofs.Ytfldklimlcnnnaa.XAsk Go.Proofs.Ytfldklimlcnnnaa.XEnd Go.Proofs.Ytfldklimlcnnnaa.XAwake Go.Proofs.Ytfldklimlcnnnaa.QHold Go.Proofs.Ytfldklimlcnnnaa.XLeft Go.Proofs.Ytfldklimlcnnnaa.XNil
set_option linter.unusedVariables false
set_option linter.unusedSimpArgs false
-- regattaref03_Check.calls regattaref03_Cmp.f

theorem C_take {w : World} {A : Option Addr} {xs : List Int} (h : Kd.C (Kd.int .u32) w A xs.length xs) (k : Nat) (hk : k ≤ xs.length) : Kd.C (Kd.int .u32) w A (xs.take k).length (xs.take k) := by
  have hl : (xs.take k).length = k := by rw [List.length_take]; omega
  refine ⟨rfl, by have := h.2.1; omega, fun hp => ?_⟩
  obtain ⟨ad, e, hc⟩ := h.2.2 (by omega)
  refine ⟨ad, e, fun j p hj => hc j p ?_⟩
  rw [List.getElem?_take] at hj
  split at hj
  · exact hj
  · cases hj
/-- A row of at most three limbs. -/
structure Row3 (w : World) (A : Option Addr) (c : Nat) (a : List Int) : Prop where
  rows : Kd.C (Kd.int .u32) w A a.length a
  cap : a.length ≤ c
  len : a.length ≤ 3
  lim : Lim a
theorem field_den (A B : Option Addr) (n m c d : Nat) (w : World) : (Instr.field 28 (.agg #[.slice A n c, .slice B m d]) 1).run Try.prog w = .ok (.slice B m d) w := by kernel_rfl
theorem cmp_zero : ∃ k, regattaref03_Cmp.f k [] [1] [] [1] = some 0 := by
  have h := r3cmp_t 2 2 0 1 0 1 (F_u64 (by omega)) (F_u64 (by omega)) (F_u64 (by omega)) (F_u64 (by omega)) (by omega) (by omega) (by omega)
  rw [cmpR_self, limbs_zero, limbs_one] at h
  exact h.get
set_option maxHeartbeats 4000000 in
set_option maxRecDepth 100000 in
theorem nil_calls (A0 A1 : Option Addr) (c0 c1 : Nat) (xs ys : List Int) (w : World) (hx : Kd.C (Kd.int .u32) w A0 xs.length xs) (hxc : xs.length ≤ c0) (hy : Kd.C (Kd.int .u32) w A1 ys.length ys) (hyc : ys.length ≤ c1) (lx : Lim xs) (ly : Lim ys) :
    Calls Try.prog 8 #[.slice A0 xs.length c0, .slice A1 ys.length c1] w fun e w' => e = .returned (.bool true) ∧ Below w.heap.size w w' := by
  have mixed : Try.prog.follows Departure.mixedOrders = true := by kernel_rfl
  have HX := Aside0.mk (And.intro hx lx)
  have HY := Aside0.mk (And.intro hy ly)
  have bx := hx.2.1
  have b_y := hy.2.1
  clear hx hy lx ly
  have hfd := field_den
  go_enter Try.func8, Try.ntmps8
  go_upto_if 14 with fail
  go_cut [0] (fun v0 wc => ∃ a, v0 = .slice A0 a.length c0 ∧ w = wc ∧ Aside0 (Row3 w A0 c0 a))
  case first =>
    by_cases h3 : 3 < xs.length
    · have d1 : decide (3 < (xs.length : Int)) = true := decide_eq_true (by omega)
      have q1 : (3 : Int) ≤ (c0 : Int) := by omega
      obtain ⟨ad, e, _⟩ := HX.out.1.2.2 (by omega)
      subst e
      go_wp2_with fail
      go_meet
      case rel => exact ⟨xs.take 3, by simp [List.length_take, show min 3 xs.length = 3 by omega], rfl, ⟨C_take HX.out.1 3 (by omega), by rw [List.length_take]; omega, by rw [List.length_take]; omega, fun x h => HX.out.2 x (List.mem_of_mem_take h)⟩⟩
    · have d1 : decide (3 < (xs.length : Int)) = false := decide_eq_false (by omega)
      go_wp2_with fail
      go_meet
      case rel => exact ⟨xs, rfl, rfl, ⟨HX.out.1, hxc, by omega, HX.out.2⟩⟩
  case rest =>
    obtain ⟨a, rfl, rfl, HA⟩ := hcut
    clear HX hxc bx
    go_upto_if 19 with fail
    go_cut [1] (fun v1 wc => ∃ b, v1 = .slice A1 b.length c1 ∧ w = wc ∧ Aside0 (Row3 w A1 c1 b))
    case first =>
      by_cases h3 : 3 < ys.length
      · have d1 : decide (3 < (ys.length : Int)) = true := decide_eq_true (by omega)
        have q1 : (3 : Int) ≤ (c1 : Int) := by omega
        obtain ⟨ad, e, _⟩ := HY.out.1.2.2 (by omega)
        subst e
        go_wp2_with fail
        go_meet
        case rel => exact ⟨ys.take 3, by simp [List.length_take, show min 3 ys.length = 3 by omega], rfl, ⟨C_take HY.out.1 3 (by omega), by rw [List.length_take]; omega, by rw [List.length_take]; omega, fun x h => HY.out.2 x (List.mem_of_mem_take h)⟩⟩
      · have d1 : decide (3 < (ys.length : Int)) = false := decide_eq_false (by omega)
        go_wp2_with fail
        go_meet
        case rel => exact ⟨ys, rfl, rfl, ⟨HY.out.1, hyc, by omega, HY.out.2⟩⟩
    case rest =>
      obtain ⟨b, rfl, rfl, HB⟩ := hcut
      clear HY hyc b_y
      go_upto_region 6 with fail
      obtain ⟨ga, hga⟩ : ∃ ga, ga = w.heap.size := ⟨_, rfl⟩
      obtain ⟨w1, hw1⟩ : ∃ w1, w1 = w.alloc (.cells #[.slice A0 a.length c0, .slice A1 b.length c1] 28) := ⟨_, rfl⟩
      have hb1 : Below w.heap.size w w1 := by rw [hw1]; exact below_alloc (Below.refl _ _) _
      have HB1 := Aside0.mk hb1
      have HM1 := Aside0.mk (show MBlk w1 ga 28 #[.slice A0 a.length c0, .slice A1 b.length c1] by rw [hw1, hga]; exact mblk_new _ _ _)
      have HV1 := Aside0.mk (show RV w1 (.slice A0 a.length c0) (.slice A1 b.length c1) a b from RV.below ⟨⟨A0, c0, rfl, HA.out.cap, HA.out.rows⟩, A1, c1, rfl, HB.out.cap, HB.out.rows⟩ hb1)
      rw [← hw1, ← hga]
      clear hw1 hga hb1
      have k0 : w1.cell? ⟨ga, 0, none⟩ = some (.slice A0 a.length c0) := (mblk_cell HM1.out 0).trans rfl
      have k1 : w1.cell? ⟨ga, 1, none⟩ = some (.slice A1 b.length c1) := (mblk_cell HM1.out 1).trans rfl
      obtain ⟨r, hr1, hr2, hr3⟩ := checks_eq a b (by have := HA.out.len; omega) (by have := HB.out.len; omega)
      obtain ⟨k, hk⟩ := cmp_zero
      have HK := Aside0.mk hk
      have HRR := Aside0.mk (And.intro hr1 (And.intro hr2 hr3))
      clear hr1 hr2 hr3 hk
      cases r with
      | false =>
        go_upto_region 7 with (go_at_call 16; refine (new_bad _ _ a b w1 HV1.out HRR.out.1).mono ?_; rintro e w2 ⟨rfl, hb⟩; have HB2 := Aside0.mk (below_step HB1.out hb); have HM2 := Aside0.mk ((hb.block _ (mblk_lt HM1.out)).trans HM1.out); have HV2 := Aside0.mk (HV1.out.below hb); clear hb)
        have HVN := Aside0.mk trivial
        clear HVN k0 k1
        go_upto_region 9 with fail
        obtain ⟨gw, hgw⟩ : ∃ gw, gw = w2.heap.size := ⟨_, rfl⟩
        obtain ⟨w3, hw3⟩ : ∃ w3, w3 = w2.alloc (.cells #[.int .i64 1, .int .i64 2] 34) := ⟨_, rfl⟩
        have hb3 : Below w2.heap.size w2 w3 := by rw [hw3]; exact below_alloc (Below.refl _ _) _
        have HB3 := Aside0.mk (below_step HB2.out hb3)
        have HM3 := Aside0.mk (show MBlk w3 ga 28 #[.slice A0 a.length c0, .slice A1 b.length c1] from (hb3.block _ (mblk_lt HM2.out)).trans HM2.out)
        have HV3 := Aside0.mk (HV2.out.below hb3)
        have HW3 := Aside0.mk (show MBlk w3 gw 34 #[.int .i64 1, .int .i64 2] by rw [hw3, hgw]; exact mblk_new _ _ _)
        rw [← hw3, ← hgw]
        clear hw3 hgw hb3 HB2 HM2 HV2
        go_upto_region 10 with (go_at_call 27; refine (of_nil 1 _).mono ?_; rintro e w4 ⟨rfl, hb⟩; have HB4 := Aside0.mk hb; clear hb)
        obtain ⟨w5, hw5⟩ : ∃ w5, w5 = (w4.alloc (.cells #[.int .i64 0, .int .i64 0] 34)).alloc (.cells #[.int .i64 0, .int .i64 0] 34) := ⟨_, rfl⟩
        have hb5 : Below w3.heap.size w3 w5 := by rw [hw5]; exact below_alloc (below_alloc HB4.out _) _
        have HB5 := Aside0.mk (below_step HB3.out hb5)
        have HM5 := Aside0.mk (show MBlk w5 ga 28 #[.slice A0 a.length c0, .slice A1 b.length c1] from (hb5.block _ (mblk_lt HM3.out)).trans HM3.out)
        have HV5 := Aside0.mk (HV3.out.below hb5)
        have HW5 := Aside0.mk (show MBlk w5 gw 34 #[.int .i64 1, .int .i64 2] from (hb5.block _ (mblk_lt HW3.out)).trans HW3.out)
        rw [← hw5]
        clear hw5 hb5 HB3 HM3 HV3 HW3 HB4
        go_upto_region 12 with (first
          | (go_at_call 20; refine (held_nil _).mono ?_; rintro e w6 ⟨t, t', rfl, h6, hb⟩; rw [limbs_zero, limbs_one] at h6; obtain ⟨T1, u1, T2, u2, rfl, rfl⟩ := h6.shape; have HB6 := Aside0.mk hb; clear h6 hb)
          | (go_at_call 24; refine (left_nil _).mono ?_; rintro e w7 ⟨t, t', rfl, h6, hb⟩; rw [limbs_zero, limbs_one] at h6; obtain ⟨V1, v1, V2, v2, rfl, rfl⟩ := h6.shape; have hb7 := below_step HB6.out hb; have HB7 := Aside0.mk (below_step HB5.out hb7); have HM7 := Aside0.mk ((hb7.block _ (mblk_lt HM5.out)).trans HM5.out); have HV7 := Aside0.mk (HV5.out.below hb7); have HW7 := Aside0.mk ((hb7.block _ (mblk_lt HW5.out)).trans HW5.out); clear h6 hb hb7))
        clear HB5 HM5 HV5 HW5 HB6
        go_wp2_with (first
          | (go_at_call 15; refine (awake_calls _).mono ?_; rintro e w8 ⟨rfl, hb⟩; have HB8 := Aside0.mk (below_step HB7.out hb); have HM8 := Aside0.mk ((hb.block _ (mblk_lt HM7.out)).trans HM7.out); have HV8 := Aside0.mk (HV7.out.below hb); have HW8 := Aside0.mk ((hb.block _ (mblk_lt HW7.out)).trans HW7.out); have k0 : w8.cell? ⟨ga, 0, none⟩ = some (.slice A0 a.length c0) := (mblk_cell HM8.out 0).trans rfl; have k1 : w8.cell? ⟨ga, 1, none⟩ = some (.slice A1 b.length c1) := (mblk_cell HM8.out 1).trans rfl; clear hb)
          | (go_at_call 38; refine (regattaref03_Check.calls A0 c0 a A1 c1 b _ _ (show Kd.C (Kd.int .u32) w8 A0 a.length a by obtain ⟨⟨A, c, e1, _, h⟩, _⟩ := HV8.out; cases e1; exact h) HA.out.cap (show Kd.C (Kd.int .u32) w8 A1 b.length b by obtain ⟨_, A, c, e1, _, h⟩ := HV8.out; cases e1; exact h) HB.out.cap HRR.out.2.1).mono ?_; rintro e w9 ⟨rfl, hb⟩; have HB9 := Aside0.mk (below_step HB8.out hb); have HW9 := Aside0.mk ((hb.block _ (mblk_lt HW8.out)).trans HW8.out); have g0 : w9.cell? ⟨gw, 0, none⟩ = some (.int .i64 1) := (mblk_cell HW9.out 0).trans rfl; have g1 : w9.cell? ⟨gw, 1, none⟩ = some (.int .i64 2) := (mblk_cell HW9.out 1).trans rfl; clear hb k0 k1)
          | (go_at_call 18; refine (join_nil 1 ⟨1, 2⟩ _).mono ?_; rintro e w10 ⟨rfl, hb⟩; have HB10 := Aside0.mk (below_step HB9.out hb); have HW10 := Aside0.mk ((hb.block _ (mblk_lt HW9.out)).trans HW9.out); have g0 : w10.cell? ⟨gw, 0, none⟩ = some (.int .i64 1) := (mblk_cell HW10.out 0).trans rfl; have g1 : w10.cell? ⟨gw, 1, none⟩ = some (.int .i64 2) := (mblk_cell HW10.out 1).trans rfl; clear hb)
          | (go_at_call 28; refine (ask_nil 1 ⟨1, 2⟩ _).mono ?_; rintro e w11 ⟨rfl, hb⟩; have HB11 := Aside0.mk (below_step HB10.out hb); have HW11 := Aside0.mk ((hb.block _ (mblk_lt HW10.out)).trans HW10.out); clear hb)
          | (go_at_call 30; refine (settle_nil 1 _).mono ?_; rintro e w12 ⟨rfl, hb⟩; have HB12 := Aside0.mk (below_step HB11.out hb); have HW12 := Aside0.mk ((hb.block _ (mblk_lt HW11.out)).trans HW11.out); clear hb)
          | (go_at_call 25; refine (free_nil 1 _).mono ?_; rintro e w13 ⟨rfl, hb⟩; have HB13 := Aside0.mk (below_step HB12.out hb); have HW13 := Aside0.mk ((hb.block _ (mblk_lt HW12.out)).trans HW12.out); have g0 : w13.cell? ⟨gw, 0, none⟩ = some (.int .i64 1) := (mblk_cell HW13.out 0).trans rfl; have g1 : w13.cell? ⟨gw, 1, none⟩ = some (.int .i64 2) := (mblk_cell HW13.out 1).trans rfl; clear hb)
          | (go_at_call 22; refine (fits_nil ⟨1, 2⟩ ⟨1, 2⟩ _).mono ?_; rintro e w14 ⟨rfl, hb⟩; have HB14 := Aside0.mk (below_step HB13.out hb); clear hb)
          | (go_at_call 21; refine (len_nil _).mono ?_; rintro e w15 ⟨rfl, rfl⟩)
          | (go_at_call 20; refine (held_nil _).mono ?_; rintro e w16 ⟨t, t', rfl, h6, hb⟩; rw [limbs_zero, limbs_one] at h6; obtain ⟨X1, x1, X2, x2, rfl, rfl⟩ := h6.shape; have HB16 := Aside0.mk (below_step HB14.out hb); have HX16 := Aside0.mk h6; clear h6 hb)
          | (go_at_call 17; refine (one_rv 0 1 (by omega) (by omega) _).mono ?_; rintro e w17 ⟨t, t', rfl, h6, hb⟩; rw [limbs_zero, limbs_one] at h6; obtain ⟨Y1, y1, Y2, y2, rfl, rfl⟩ := h6.shape; have HX17 := Aside0.mk (HX16.out.below hb); have HB17 := Aside0.mk (below_step HB16.out hb); have HY17 := Aside0.mk h6; clear h6 hb HX16 HB16)
          | (go_at_call 19; refine (rcmp_rv HX17.out HY17.out HK.out).mono ?_; rintro e w18 ⟨rfl, hb⟩; have HB18 := Aside0.mk (below_step HB17.out hb); clear hb HX17 HY17)
          | (go_at_call 24; refine (left_nil _).mono ?_; rintro e w19 ⟨t, t', rfl, h6, hb⟩; rw [limbs_zero, limbs_one] at h6; obtain ⟨X3, x3, X4, x4, rfl, rfl⟩ := h6.shape; have HB19 := Aside0.mk (below_step HB18.out hb); have HX19 := Aside0.mk h6; clear h6 hb)
          | (go_at_call 17; refine (one_rv 0 1 (by omega) (by omega) _).mono ?_; rintro e w20 ⟨t, t', rfl, h6, hb⟩; rw [limbs_zero, limbs_one] at h6; obtain ⟨Y3, y3, Y4, y4, rfl, rfl⟩ := h6.shape; have HX20 := Aside0.mk (HX19.out.below hb); have HB20 := Aside0.mk (below_step HB19.out hb); have HY20 := Aside0.mk h6; clear h6 hb HX19)
          | (go_at_call 19; refine (rcmp_rv HX20.out HY20.out HK.out).mono ?_; rintro e w21 ⟨rfl, hb⟩; have HB21 := Aside0.mk (below_step HB20.out hb); clear hb))
        exact bodyPost_ret (results_tmp rfl _ _ _) rfl ⟨rfl, HB21.out⟩
      | true =>
        obtain ⟨la, lb, b0⟩ := HRR.out.2.2 rfl
        have ia := last_isN (by have := HA.out.len; omega) HA.out.lim la
        have ib := last_isN (by have := HB.out.len; omega) HB.out.lim lb
        have fa : F 3 (nval a) := Nat.lt_of_lt_of_le (nval_lt HA.out.lim) (Nat.pow_le_pow_right (by omega) HA.out.len)
        have fb : F 3 (nval b) := Nat.lt_of_lt_of_le (nval_lt HB.out.lim) (Nat.pow_le_pow_right (by omega) HB.out.len)
        have pb : 0 < nval b := by
          rcases Nat.eq_zero_or_pos (nval b) with h | h
          · have := ib.1
            rw [h, limbs_zero] at this
            rw [this] at b0
            simp at b0
          · exact h
        have HVN := Aside0.mk (show RV w1 (.slice A0 a.length c0) (.slice A1 b.length c1) (limbs (nval a)) (limbs (nval b)) by rw [← ia.1, ← ib.1]; exact HV1.out)
        have HFF := Aside0.mk (And.intro fa (And.intro fb pb))
        clear la lb b0 ia ib fa fb pb
        go_upto_region 7 with (go_at_call 16; refine (new_calls _ _ (nval a) (nval b) 3 w1 HVN.out HFF.out.1 HFF.out.2.1 (by omega) HFF.out.2.2).mono ?_; rintro e w2 ⟨g, bb, rfl, hl, hb, hg1, hg2⟩; have HB2 := Aside0.mk (below_step HB1.out hb); have HM2 := Aside0.mk ((hb.block _ (mblk_lt HM1.out)).trans HM1.out); have HV2 := Aside0.mk (HV1.out.below hb); clear hl hb hg1 hg2)
        clear HVN k0 k1
        go_upto_region 9 with fail
        obtain ⟨gw, hgw⟩ : ∃ gw, gw = w2.heap.size := ⟨_, rfl⟩
        obtain ⟨w3, hw3⟩ : ∃ w3, w3 = w2.alloc (.cells #[.int .i64 1, .int .i64 2] 34) := ⟨_, rfl⟩
        have hb3 : Below w2.heap.size w2 w3 := by rw [hw3]; exact below_alloc (Below.refl _ _) _
        have HB3 := Aside0.mk (below_step HB2.out hb3)
        have HM3 := Aside0.mk (show MBlk w3 ga 28 #[.slice A0 a.length c0, .slice A1 b.length c1] from (hb3.block _ (mblk_lt HM2.out)).trans HM2.out)
        have HV3 := Aside0.mk (HV2.out.below hb3)
        have HW3 := Aside0.mk (show MBlk w3 gw 34 #[.int .i64 1, .int .i64 2] by rw [hw3, hgw]; exact mblk_new _ _ _)
        rw [← hw3, ← hgw]
        clear hw3 hgw hb3 HB2 HM2 HV2
        go_upto_region 10 with (go_at_call 27; refine (of_nil 1 _).mono ?_; rintro e w4 ⟨rfl, hb⟩; have HB4 := Aside0.mk hb; clear hb)
        obtain ⟨w5, hw5⟩ : ∃ w5, w5 = (w4.alloc (.cells #[.int .i64 0, .int .i64 0] 34)).alloc (.cells #[.int .i64 0, .int .i64 0] 34) := ⟨_, rfl⟩
        have hb5 : Below w3.heap.size w3 w5 := by rw [hw5]; exact below_alloc (below_alloc HB4.out _) _
        have HB5 := Aside0.mk (below_step HB3.out hb5)
        have HM5 := Aside0.mk (show MBlk w5 ga 28 #[.slice A0 a.length c0, .slice A1 b.length c1] from (hb5.block _ (mblk_lt HM3.out)).trans HM3.out)
        have HV5 := Aside0.mk (HV3.out.below hb5)
        have HW5 := Aside0.mk (show MBlk w5 gw 34 #[.int .i64 1, .int .i64 2] from (hb5.block _ (mblk_lt HW3.out)).trans HW3.out)
        rw [← hw5]
        clear hw5 hb5 HB3 HM3 HV3 HW3 HB4
        go_upto_region 12 with (first
          | (go_at_call 20; refine (held_nil _).mono ?_; rintro e w6 ⟨t, t', rfl, h6, hb⟩; rw [limbs_zero, limbs_one] at h6; obtain ⟨T1, u1, T2, u2, rfl, rfl⟩ := h6.shape; have HB6 := Aside0.mk hb; clear h6 hb)
          | (go_at_call 24; refine (left_nil _).mono ?_; rintro e w7 ⟨t, t', rfl, h6, hb⟩; rw [limbs_zero, limbs_one] at h6; obtain ⟨V1, v1, V2, v2, rfl, rfl⟩ := h6.shape; have hb7 := below_step HB6.out hb; have HB7 := Aside0.mk (below_step HB5.out hb7); have HM7 := Aside0.mk ((hb7.block _ (mblk_lt HM5.out)).trans HM5.out); have HV7 := Aside0.mk (HV5.out.below hb7); have HW7 := Aside0.mk ((hb7.block _ (mblk_lt HW5.out)).trans HW5.out); clear h6 hb hb7))
        clear HB5 HM5 HV5 HW5 HB6
        go_wp2_with (first
          | (go_at_call 15; refine (awake_calls _).mono ?_; rintro e w8 ⟨rfl, hb⟩; have HB8 := Aside0.mk (below_step HB7.out hb); have HM8 := Aside0.mk ((hb.block _ (mblk_lt HM7.out)).trans HM7.out); have HV8 := Aside0.mk (HV7.out.below hb); have HW8 := Aside0.mk ((hb.block _ (mblk_lt HW7.out)).trans HW7.out); have k0 : w8.cell? ⟨ga, 0, none⟩ = some (.slice A0 a.length c0) := (mblk_cell HM8.out 0).trans rfl; have k1 : w8.cell? ⟨ga, 1, none⟩ = some (.slice A1 b.length c1) := (mblk_cell HM8.out 1).trans rfl; clear hb)
          | (go_at_call 38; refine (regattaref03_Check.calls A0 c0 a A1 c1 b _ _ (show Kd.C (Kd.int .u32) w8 A0 a.length a by obtain ⟨⟨A, c, e1, _, h⟩, _⟩ := HV8.out; cases e1; exact h) HA.out.cap (show Kd.C (Kd.int .u32) w8 A1 b.length b by obtain ⟨_, A, c, e1, _, h⟩ := HV8.out; cases e1; exact h) HB.out.cap HRR.out.2.1).mono ?_; rintro e w9 ⟨rfl, hb⟩; have HB9 := Aside0.mk (below_step HB8.out hb); have HW9 := Aside0.mk ((hb.block _ (mblk_lt HW8.out)).trans HW8.out); have g0 : w9.cell? ⟨gw, 0, none⟩ = some (.int .i64 1) := (mblk_cell HW9.out 0).trans rfl; have g1 : w9.cell? ⟨gw, 1, none⟩ = some (.int .i64 2) := (mblk_cell HW9.out 1).trans rfl; clear hb k0 k1)
          | (go_at_call 18; refine (join_nil 1 ⟨1, 2⟩ _).mono ?_; rintro e w10 ⟨rfl, hb⟩; have HB10 := Aside0.mk (below_step HB9.out hb); have HW10 := Aside0.mk ((hb.block _ (mblk_lt HW9.out)).trans HW9.out); have g0 : w10.cell? ⟨gw, 0, none⟩ = some (.int .i64 1) := (mblk_cell HW10.out 0).trans rfl; have g1 : w10.cell? ⟨gw, 1, none⟩ = some (.int .i64 2) := (mblk_cell HW10.out 1).trans rfl; clear hb)
          | (go_at_call 28; refine (ask_nil 1 ⟨1, 2⟩ _).mono ?_; rintro e w11 ⟨rfl, hb⟩; have HB11 := Aside0.mk (below_step HB10.out hb); have HW11 := Aside0.mk ((hb.block _ (mblk_lt HW10.out)).trans HW10.out); clear hb)
          | (go_at_call 30; refine (settle_nil 1 _).mono ?_; rintro e w12 ⟨rfl, hb⟩; have HB12 := Aside0.mk (below_step HB11.out hb); have HW12 := Aside0.mk ((hb.block _ (mblk_lt HW11.out)).trans HW11.out); clear hb)
          | (go_at_call 25; refine (free_nil 1 _).mono ?_; rintro e w13 ⟨rfl, hb⟩; have HB13 := Aside0.mk (below_step HB12.out hb); have HW13 := Aside0.mk ((hb.block _ (mblk_lt HW12.out)).trans HW12.out); have g0 : w13.cell? ⟨gw, 0, none⟩ = some (.int .i64 1) := (mblk_cell HW13.out 0).trans rfl; have g1 : w13.cell? ⟨gw, 1, none⟩ = some (.int .i64 2) := (mblk_cell HW13.out 1).trans rfl; clear hb)
          | (go_at_call 22; refine (fits_nil ⟨1, 2⟩ ⟨1, 2⟩ _).mono ?_; rintro e w14 ⟨rfl, hb⟩; have HB14 := Aside0.mk (below_step HB13.out hb); clear hb)
          | (go_at_call 21; refine (len_nil _).mono ?_; rintro e w15 ⟨rfl, rfl⟩)
          | (go_at_call 20; refine (held_nil _).mono ?_; rintro e w16 ⟨t, t', rfl, h6, hb⟩; rw [limbs_zero, limbs_one] at h6; obtain ⟨X1, x1, X2, x2, rfl, rfl⟩ := h6.shape; have HB16 := Aside0.mk (below_step HB14.out hb); have HX16 := Aside0.mk h6; clear h6 hb)
          | (go_at_call 17; refine (one_rv 0 1 (by omega) (by omega) _).mono ?_; rintro e w17 ⟨t, t', rfl, h6, hb⟩; rw [limbs_zero, limbs_one] at h6; obtain ⟨Y1, y1, Y2, y2, rfl, rfl⟩ := h6.shape; have HX17 := Aside0.mk (HX16.out.below hb); have HB17 := Aside0.mk (below_step HB16.out hb); have HY17 := Aside0.mk h6; clear h6 hb HX16 HB16)
          | (go_at_call 19; refine (rcmp_rv HX17.out HY17.out HK.out).mono ?_; rintro e w18 ⟨rfl, hb⟩; have HB18 := Aside0.mk (below_step HB17.out hb); clear hb HX17 HY17)
          | (go_at_call 24; refine (left_nil _).mono ?_; rintro e w19 ⟨t, t', rfl, h6, hb⟩; rw [limbs_zero, limbs_one] at h6; obtain ⟨X3, x3, X4, x4, rfl, rfl⟩ := h6.shape; have HB19 := Aside0.mk (below_step HB18.out hb); have HX19 := Aside0.mk h6; clear h6 hb)
          | (go_at_call 17; refine (one_rv 0 1 (by omega) (by omega) _).mono ?_; rintro e w20 ⟨t, t', rfl, h6, hb⟩; rw [limbs_zero, limbs_one] at h6; obtain ⟨Y3, y3, Y4, y4, rfl, rfl⟩ := h6.shape; have HX20 := Aside0.mk (HX19.out.below hb); have HB20 := Aside0.mk (below_step HB19.out hb); have HY20 := Aside0.mk h6; clear h6 hb HX19)
          | (go_at_call 19; refine (rcmp_rv HX20.out HY20.out HK.out).mono ?_; rintro e w21 ⟨rfl, hb⟩; have HB21 := Aside0.mk (below_step HB20.out hb); clear hb))
        exact bodyPost_ret (results_tmp rfl _ _ _) rfl ⟨rfl, HB21.out⟩
end Go.Proofs.Ytfldklimlcnnnaa.PureHoldNil
