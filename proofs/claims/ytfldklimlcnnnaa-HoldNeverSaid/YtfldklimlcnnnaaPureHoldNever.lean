/- HoldNever: never is more held than there is; what is refused changes nothing. The walk of the law. -/
import Derived.Test.YtfldklimlcnnnaaXOp
import Derived.Laws.IdiomStrings
import Derived.Deep.DrawnRows
import Derived.Deep.DeepCutAuto
import Derived.Deep.RegionHeld3

namespace Go.Proofs.Ytfldklimlcnnnaa.PureHoldNever
open Go.RowKit Go.Shelf Go.Proofs.Ytfldklimlcnnnaa.PHq Go.Proofs.YtfldklimlcnnnaaW.PrintWords Go.Proofs.YtfldklimlcnnnaaW.PrintLast Go.Proofs.YtfldklimlcnnnaaW.PrintMore Go.Proofs.Ytfldklimlcnnnaa.MWords
open Go.Proofs.Ytfldklimlcnnnaa.MNat Go.Proofs.Ytfldklimlcnnnaa.QNat Go.Proofs.Ytfldklimlcnnnaa.QText Go.Proofs.Ytfldklimlcnnnaa.QEv Go.Proofs.Ytfldklimlcnnnaa.QRatio Go.Proofs.Ytfldklimlcnnnaa.XRV Go.Proofs.Ytfldklimlcnnnaa.XHold Go.Proofs.Ytfldklimlcnnnaa.XWts Go.Proofs.Ytfldklimlcnnnaa.XLed Go.Proofs.Ytfldklimlcnnnaa.XPuts Go.Proofs.Ytfldklimlcnnnaa.XNew Go.Proofs.Ytfldklimlcnnnaa.XFits Go.Proofs.Ytfldklimlcnnnaa.XJoin Go.Proofs.Ytfldklimlcnnnaa.XMeth Go.Proofs.Ytfldklimlcnnnaa.XAsk Go.Proofs.Ytfldklimlcnnnaa.XEnd Go.Proofs.Ytfldklimlcnnnaa.XAwake Go.Proofs.Ytfldklimlcnnnaa.QHold Go.Proofs.Ytfldklimlcnnnaa.XOp
set_option linter.unusedVariables false
set_option linter.unusedSimpArgs false
attribute [local go_sem ↓] Go.wp_at_zero Go.wp_at_succ

theorem and_mask_nat (k : Nat) (hk : k ≤ 62) (x m : Int) (hm : m = 2 ^ k - 1) : ∃ n : Nat, Go.bits .and .i64 x m = (n : Int) ∧ (n : Int) ≤ m := by
  have e : Go.bits .and .i64 x m = x % 2 ^ k := QBits.and_mask k hk x m hm
  have h0 : (0 : Int) < 2 ^ k := Int.pow_pos (by omega)
  have b1 := Int.emod_nonneg x (show (2 : Int) ^ k ≠ 0 by omega)
  have b2 := Int.emod_lt_of_pos x h0
  obtain ⟨n, hn⟩ := Int.eq_ofNat_of_zero_le b1
  exact ⟨n, by rw [e, hn], by rw [hm]; omega⟩
set_option maxHeartbeats 4000000 in
set_option maxRecDepth 100000 in
theorem never_calls (p q : Int) (A : Option Addr) (cp : Nat) (xs : List OpV) (w : World) (hC : Kd.C kOp w A xs.length xs) (hc : xs.length ≤ cp) (hx : xs.length ≤ 9223372036854775807) :
    Calls Try.prog 5 #[.agg #[.int .i64 p, .int .i64 q], .slice A xs.length cp] w fun e w' => e = .returned (.bool true) ∧ Below w.heap.size w w' := by
  have mixed : Try.prog.follows Departure.mixedOrders = true := by kernel_rfl
  have HC := Aside0.mk (And.intro hC (And.intro hc hx))
  obtain ⟨n, hn, n1⟩ := and_mask_nat 3 (by omega) p 7 rfl
  obtain ⟨d', hd, d1⟩ := and_mask_nat 2 (by omega) q 3 rfl
  obtain ⟨d, hdd⟩ : ∃ d : Nat, d = 1 + d' := ⟨_, rfl⟩
  have hd2 : wrap64 (1 + (d' : Int)) = (d : Int) := by rw [QBits.w64 (by omega) (by omega)]; omega
  have hn8 : n ≤ 7 := by omega
  have hd0 : 0 < d := by omega
  have hd4 : d ≤ 4 := by omega
  have un : IntKind.u64.wrap (n : Int) = (n : Int) := by rw [IntKind.wrap_u64]; omega
  have ud : IntKind.u64.wrap (d : Int) = (d : Int) := by rw [IntKind.wrap_u64]; omega
  clear hdd n1 d1 hC hc
  have HS := Aside0.mk (mkR_sz (n := n) (d := d) (by omega) (by omega) hd0)
  go_enter Try.func5, Try.ntmps5
  go_upto_region 1 with fail
  obtain ⟨w0, hw0⟩ : ∃ w0, w0 = w.alloc (.cells #[.int .i64 p, .int .i64 q] 39) := ⟨_, rfl⟩
  have hb0 : Below w.heap.size w w0 := by rw [hw0]; exact below_alloc (Below.refl _ _) _
  have HX0 := Aside0.mk (show MBlk w0 w.heap.size 39 #[.int .i64 p, .int .i64 q] by rw [hw0]; exact mblk_new _ _ _)
  rw [← hw0]
  have HB0 := Aside0.mk hb0
  clear hw0 hb0
  go_upto_region 2 with (go_at_call 15; refine (awake_calls _).mono ?_; rintro e w1 ⟨rfl, hb⟩; have HB1 := Aside0.mk (below_step HB0.out hb); have HX1 := Aside0.mk ((hb.block _ (mblk_lt HX0.out)).trans HX0.out); clear hb)
  have x0 : w1.cell? ⟨w.heap.size, 0, none⟩ = some (.int .i64 p) := (mblk_cell HX1.out 0).trans rfl
  have x1 : w1.cell? ⟨w.heap.size, 1, none⟩ = some (.int .i64 q) := (mblk_cell HX1.out 1).trans rfl
  go_upto_region 3 with (go_at_call 17; refine (one_rv n d (by omega) (by omega) _).mono ?_; rintro e w2 ⟨q1, q2, rfl, h1, hb⟩; obtain ⟨P1, e1, P2, e2, rfl, rfl⟩ := h1.shape; have HB2 := Aside0.mk (below_step HB1.out hb); have H2 := Aside0.mk h1; clear h1 hb)
  obtain ⟨ga, hga⟩ : ∃ ga, ga = w2.heap.size := ⟨_, rfl⟩
  obtain ⟨w3, hw3⟩ : ∃ w3, w3 = w2.alloc (.cells #[.slice P1 (limbs n).length e1, .slice P2 (limbs d).length e2] 28) := ⟨_, rfl⟩
  have hb3 : Below w2.heap.size w2 w3 := by rw [hw3]; exact below_alloc (Below.refl _ _) _
  have HB3 := Aside0.mk (below_step HB2.out hb3)
  have HA3 := Aside0.mk (show MBlk w3 ga 28 #[.slice P1 (limbs n).length e1, .slice P2 (limbs d).length e2] by rw [hw3, hga]; exact mblk_new _ _ _)
  have HR3 := Aside0.mk (H2.out.below hb3)
  rw [← hw3, ← hga]
  clear hw3 hga hb3 H2 HB2 HB1 HB0 HX0 HX1 x0 x1
  have z0 : w3.cell? ⟨ga, 0, none⟩ = some (.slice P1 (limbs n).length e1) := (mblk_cell HA3.out 0).trans rfl
  have z1 : w3.cell? ⟨ga, 1, none⟩ = some (.slice P2 (limbs d).length e2) := (mblk_cell HA3.out 1).trans rfl
  go_upto_region 6 with (go_at_call 16; refine (new_calls _ _ n d 2 w3 HR3.out (F_u64 (by omega)) (F_u64 (by omega)) (by omega) hd0).mono ?_; rintro e w4 ⟨g, b, rfl, hl, hb, hg1, hg2⟩; have HL4 := Aside0.mk (show Led w4 g b (mkRat (n : Int) d) (heldL []) [] from hl); have HB4 := Aside0.mk (below_step HB3.out hb); have HA4 := Aside0.mk ((hb.block _ (mblk_lt HA3.out)).trans HA3.out); have HR4 := Aside0.mk (HR3.out.below hb); have HG := Aside0.mk (And.intro (Nat.le_trans HB3.out.size hg1) (Nat.le_trans HB3.out.size hg2)); clear hl hb hg1 hg2)
  clear HB3 HA3 HR3 z0 z1
  obtain ⟨All, hAll⟩ : ∃ All, All = mkRat (n : Int) d := ⟨_, rfl⟩
  rw [← hAll] at HL4 HS
  have H0 := Aside0.mk (show Ok All [] 0 from ⟨good_nil, by simp, by rw [hAll]; exact mk_nonneg _ _⟩)
  have HAL := Aside0.mk hAll
  clear hAll
  obtain ⟨ln, hln⟩ : ∃ ln, ln = limbs n := ⟨_, rfl⟩
  obtain ⟨ld, hld⟩ : ∃ ld, ld = limbs d := ⟨_, rfl⟩
  rw [← hln, ← hld] at HA4 HR4
  have HLL := Aside0.mk (And.intro hln hld)
  clear hln hld
  go_wp2_with fail
  go_loopw [8] (fun v8 wr => ∃ (i : Nat) (l : List (Int × Hd)), v8 = .int .i64 i ∧ i ≤ 50 ∧ i ≤ xs.length ∧ Aside0 (Led wr g b All (heldL l) l) ∧ Aside0 (Ok All l i) ∧ Aside0 (Below w.heap.size w wr) ∧ Aside0 (MBlk wr ga 28 #[.slice P1 ln.length e1, .slice P2 ld.length e2]) ∧ Aside0 (RV wr (.slice P1 ln.length e1) (.slice P2 ld.length e2) ln ld)) (fun v8 _ => 50 - (intOf v8).toNat)
  case atStart => exact ⟨0, [], rfl, by omega, by omega, HL4, H0, HB4, by first | exact HA4 | (rw [HLL.out.1, HLL.out.2] at *; exact HA4), HR4⟩
  case round =>
    obtain ⟨i, l, rfl, hi, hix, HL, HO, HB, HA, HR⟩ := hrel
    by_cases hlt : i < xs.length ∧ i < 50
    case neg =>
      by_cases h1 : i < xs.length
      · have h2 : i = 50 := by omega
        subst h2
        have dd : decide (((50 : Nat) : Int) < (xs.length : Int)) = true := decide_eq_true (by omega)
        clear hlt
        go_wp2_with fail
        exact bodyPost_ret (results_tmp rfl _ _ _) rfl ⟨rfl, HB.out⟩
      · have h2 : i = xs.length := by omega
        subst h2
        clear hlt h1
        go_wp2_with fail
        exact bodyPost_ret (results_tmp rfl _ _ _) rfl ⟨rfl, HB.out⟩
    obtain ⟨hlx, hl50⟩ := hlt
    have dd1 : decide ((i : Int) < (xs.length : Int)) = true := decide_eq_true (by omega)
    have dd2 : decide ((i : Int) < 50) = true := decide_eq_true (by omega)
    obtain ⟨ad, e, a0, a1, a2, a3, a4, a5⟩ := at_Op (Kd.C_below HC.out.1 HB.out) i hlx
    subst e
    generalize xs.getD i opZ = o at a0 a1 a2 a3 a4 a5
    obtain ⟨o0, o1, ⟨o2, o3⟩, o4, o5⟩ := o
    simp only at a0 a1 a2 a3 a4 a5
    go_upto_region 10 with fail
    obtain ⟨go, hgo⟩ : ∃ go, go = wr.heap.size := ⟨_, rfl⟩
    obtain ⟨w5, hw5⟩ : ∃ w5, w5 = wr.alloc (.cells #[.int .i64 o0, .int .i64 o1, .int .i64 o2, .int .i64 o3, .int .i64 o4, .int .i64 o5] 48) := ⟨_, rfl⟩
    have hb5 : Below wr.heap.size wr w5 := by rw [hw5]; exact below_alloc (Below.refl _ _) _
    have HX5 := Aside0.mk (show MBlk w5 go 48 #[.int .i64 o0, .int .i64 o1, .int .i64 o2, .int .i64 o3, .int .i64 o4, .int .i64 o5] by rw [hw5, hgo]; exact mblk_new _ _ _)
    have HL5 := Aside0.mk (HL.out.below hb5)
    have HB5 := Aside0.mk (below_step HB.out hb5)
    have HA5 := Aside0.mk ((hb5.block _ (mblk_lt HA.out)).trans HA.out)
    have HR5 := Aside0.mk (HR.out.below hb5)
    rw [← hw5, ← hgo]
    clear hw5 hgo hb5 HL HB HA HR a0 a1 a2 a3 a4 a5
    obtain ⟨z, hz, z15⟩ := and_mask_nat 4 (by omega) o1 15 rfl
    have HZ := Aside0.mk (wfI_of (x := (z : Int)) (by omega) (by omega))
    have oc1 : w5.cell? ⟨go, 1, none⟩ = some (.int .i64 o1) := (mblk_cell HX5.out 1).trans rfl
    go_upto_region 11 with fail
    clear oc1 hz z15
    obtain ⟨Q, hQ⟩ : ∃ Q : List Int × List Int, Q = L (heldL l) := ⟨_, rfl⟩
    have HQ := Aside0.mk hQ
    clear hQ
    go_upto_region 12 with (go_at_call 20; refine (held_calls g b All (heldL l) l _ HL5.out (sz_mono (held_sz HO.out.good) (by omega))).mono ?_; rintro e w6 ⟨t, t', rfl, h6, hb⟩; rw [← HQ.out] at h6; obtain ⟨T1, t1, T2, t2, rfl, rfl⟩ := h6.shape; have HL6 := Aside0.mk (HL5.out.below hb); have HB6 := Aside0.mk (below_step HB5.out hb); have HA6 := Aside0.mk ((hb.block _ (mblk_lt HA5.out)).trans HA5.out); have HR6 := Aside0.mk (HR5.out.below hb); have HX6 := Aside0.mk ((hb.block _ (mblk_lt HX5.out)).trans HX5.out); have HT6 := Aside0.mk h6; clear h6 hb)
    clear HL5 HB5 HA5 HR5 HX5
    obtain ⟨gh, hgh⟩ : ∃ gh, gh = w6.heap.size := ⟨_, rfl⟩
    obtain ⟨w7, hw7⟩ : ∃ w7, w7 = w6.alloc (.cells #[.slice T1 Q.1.length t1, .slice T2 Q.2.length t2] 28) := ⟨_, rfl⟩
    have hb7 : Below w6.heap.size w6 w7 := by rw [hw7]; exact below_alloc (Below.refl _ _) _
    have HH7 := Aside0.mk (show MBlk w7 gh 28 #[.slice T1 Q.1.length t1, .slice T2 Q.2.length t2] by rw [hw7, hgh]; exact mblk_new _ _ _)
    have HL7 := Aside0.mk (HL6.out.below hb7)
    have HB7 := Aside0.mk (below_step HB6.out hb7)
    have HA7 := Aside0.mk (show MBlk w7 ga 28 #[.slice P1 ln.length e1, .slice P2 ld.length e2] from (hb7.block _ (mblk_lt HA6.out)).trans HA6.out)
    have HR7 := Aside0.mk (HR6.out.below hb7)
    have HX7 := Aside0.mk (show MBlk w7 go 48 _ from (hb7.block _ (mblk_lt HX6.out)).trans HX6.out)
    have HT7 := Aside0.mk (HT6.out.below hb7)
    rw [← hw7, ← hgh]
    clear hw7 hgh hb7 HL6 HB6 HA6 HR6 HX6 HT6
    obtain ⟨h, hh⟩ : ∃ h, h = (getL l z).getD zeroH := ⟨_, rfl⟩
    have HH := Aside0.mk hh
    clear hh
    go_upto_region 13 with (go_at_call 27; refine (of_calls g b All (heldL l) l z h _ HL7.out HZ.out HH.out).mono ?_; rintro e w8 ⟨rfl, hb⟩; have HB8 := Aside0.mk hb; clear hb)
    obtain ⟨gn, hgn⟩ : ∃ gn, gn = w8.heap.size := ⟨_, rfl⟩
    obtain ⟨w9, hw9⟩ : ∃ w9, w9 = (w8.alloc (.cells #[.int .i64 h.e, .int .i64 h.p] 34)).alloc (.cells #[.int .i64 h.e2, .int .i64 h.p2] 34) := ⟨_, rfl⟩
    have hb9 : Below w7.heap.size w7 w9 := by rw [hw9]; exact below_alloc (below_alloc HB8.out _) _
    have HN9 := Aside0.mk (show MBlk w9 gn 34 #[.int .i64 h.e, .int .i64 h.p] by rw [hw9, hgn]; exact mblk_alloc (mblk_new _ _ _) _)
    have HM9 := Aside0.mk (show MBlk w9 (gn + 1) 34 #[.int .i64 h.e2, .int .i64 h.p2] by rw [hw9, hgn, show w8.heap.size + 1 = (w8.alloc (.cells #[.int .i64 h.e, .int .i64 h.p] 34)).heap.size by simp]; exact mblk_new _ _ _)
    have HL9 := Aside0.mk (HL7.out.below hb9)
    have HB9 := Aside0.mk (below_step HB7.out hb9)
    have HA9 := Aside0.mk (show MBlk w9 ga 28 #[.slice P1 ln.length e1, .slice P2 ld.length e2] from (hb9.block _ (mblk_lt HA7.out)).trans HA7.out)
    have HR9 := Aside0.mk (HR7.out.below hb9)
    have HX9 := Aside0.mk (show MBlk w9 go 48 _ from (hb9.block _ (mblk_lt HX7.out)).trans HX7.out)
    have HH9 := Aside0.mk (show MBlk w9 gh 28 _ from (hb9.block _ (mblk_lt HH7.out)).trans HH7.out)
    have HT9 := Aside0.mk (HT7.out.below hb9)
    rw [← hw9, ← hgn]
    clear hw9 hgn hb9 HL7 HB7 HA7 HR7 HX7 HH7 HT7 HB8
    go_upto_region 14 with (go_at_call 21; refine (len_calls g b All (heldL l) l _ HL9.out (by have := HO.out.len; omega)).mono ?_; rintro e w10 ⟨rfl, rfl⟩)
    obtain ⟨kd, hkd, kd7⟩ := and_mask_nat 3 (by omega) o0 7 rfl
    have oc0 : w10.cell? ⟨go, 0, none⟩ = some (.int .i64 o0) := (mblk_cell HX9.out 0).trans rfl
    go_upto_if 72 with fail
    clear oc0 hkd
    have HNK := Aside0.mk (Led.nodk HL9.out)
    refine wp_last (fun KC hKC => ?_)
    go_cut [16] from 66 to 133 (fun v16 wc => ∃ (e : Int) (l' : List (Int × Hd)), v16 = .int .i64 e ∧ Aside0 (Led wc g b All (heldL l') l') ∧ Aside0 (Ok All l' (i + 1)) ∧ Aside0 (e ≠ 0 → l' = l) ∧ Aside0 (Kp g b w10 wc))
    case first =>
      have oc2 : w10.cell? ⟨go, 2, none⟩ = some (.int .i64 o2) := (mblk_cell HX9.out 2).trans rfl
      have oc3 : w10.cell? ⟨go, 3, none⟩ = some (.int .i64 o3) := (mblk_cell HX9.out 3).trans rfl
      obtain ⟨X, hX⟩ : ∃ X, X = madeW o2 o3 := ⟨_, rfl⟩
      have HX := Aside0.mk hX
      clear hX
      have hlen := HO.out.len
      by_cases k3 : kd = 3
      · subst k3
        go_wp2_with (first
          | (go_at_call 29; refine (made_any o2 o3 _).mono ?_; rw [← HX.out]; rintro e w11 ⟨rfl, hb⟩; have HB11 := Aside0.mk hb; have HL11 := Aside0.mk (HL9.out.below hb); clear hb)
          | (go_at_call 28; refine (ask_calls g b All l (z : Int) X w11 HL11.out HS.out HO.out.good (by omega) HZ.out).mono ?_; rintro e w12 ⟨rfl, hl, hk⟩; have HL12 := Aside0.mk hl; have HK12 := Aside0.mk ((Kp.of HB11.out).trans hk); clear hl hk))
        go_meet
        case rel => exact ⟨_, _, rfl, HL12, ⟨ok_ask HO.out (by omega) HNK.out _ _⟩, ⟨askL_same⟩, HK12⟩
      by_cases k4 : kd = 4
      · subst k4
        go_wp2_with (first
          | (go_at_call 30; refine (settle_calls g b All l (z : Int) _ HL9.out HO.out.good (by omega) HZ.out).mono ?_; rintro e w12 ⟨rfl, hl, hk⟩; have HL12 := Aside0.mk hl; have HK12 := Aside0.mk (hk); clear hl hk))
        go_meet
        case rel => exact ⟨_, _, rfl, HL12, ⟨ok_settle HO.out (by omega) HNK.out _⟩, ⟨settleL_same⟩, HK12⟩
      by_cases k5 : kd = 5
      · subst k5
        go_wp2_with (first
          | (go_at_call 25; refine (free_calls g b All l (z : Int) _ HL9.out HO.out.good HZ.out).mono ?_; rintro e w12 ⟨rfl, hl, hk⟩; have HL12 := Aside0.mk hl; have HK12 := Aside0.mk (hk); clear hl hk))
        go_meet
        case rel => exact ⟨_, _, rfl, HL12, ⟨ok_free HO.out HNK.out _⟩, ⟨freeL_same⟩, HK12⟩
      have n3 : ((kd : Int) == 3) = false := beq_eq_false_iff_ne.2 (by omega)
      have n4 : ((kd : Int) == 4) = false := beq_eq_false_iff_ne.2 (by omega)
      have n5 : ((kd : Int) == 5) = false := beq_eq_false_iff_ne.2 (by omega)
      clear k3 k4 k5
      skip
      go_wp2_with (first
        | (go_at_call 29; refine (made_any o2 o3 _).mono ?_; rw [← HX.out]; rintro e w11 ⟨rfl, hb⟩; have HB11 := Aside0.mk hb; have HL11 := Aside0.mk (HL9.out.below hb); clear hb)
        | (go_at_call 18; refine (join_calls g b All l (z : Int) X w11 HL11.out HS.out HO.out.good (by omega) HZ.out).mono ?_; rintro e w12 ⟨rfl, hl, hk⟩; have HL12 := Aside0.mk hl; have HK12 := Aside0.mk ((Kp.of HB11.out).trans hk); clear hl hk))
      go_meet
      case rel => exact ⟨_, _, rfl, HL12, ⟨ok_join HO.out (by omega) _ _⟩, ⟨joinL_same⟩, HK12⟩
    case rest =>
      subst hKC
      obtain ⟨e, l', rfl, HL12, HO12, HSM, HK12⟩ := hcut
      have HB12 := Aside0.mk (Kp.below HB9.out HG.out.1 HG.out.2 HK12.out)
      have HA12 := Aside0.mk (Led.keep HL9.out HK12.out HA9.out (by decide))
      have HR12 := Aside0.mk (RV.kp HR9.out HL9.out HK12.out)
      have HH12 := Aside0.mk (Led.keep HL9.out HK12.out HH9.out (by decide))
      have HT12 := Aside0.mk (RV.kp HT9.out HL9.out HK12.out)
      have HN12 := Aside0.mk (Led.keep HL9.out HK12.out HN9.out (by decide))
      have HM12 := Aside0.mk (Led.keep HL9.out HK12.out HM9.out (by decide))
      clear HL9 HB9 HA9 HR9 HX9 HH9 HT9 HN9 HM9 HK12 HNK
      obtain ⟨h', hh'⟩ : ∃ h', h' = (getL l' z).getD zeroH := ⟨_, rfl⟩
      have HH' := Aside0.mk hh'
      clear hh'
      go_upto_region 24 with (go_at_call 27; refine (of_calls g b All (heldL l') l' z h' _ HL12.out HZ.out HH'.out).mono ?_; rintro e w13 ⟨rfl, hb⟩; have HB13 := Aside0.mk hb; clear hb)
      obtain ⟨gx, hgx⟩ : ∃ gx, gx = w13.heap.size := ⟨_, rfl⟩
      obtain ⟨w14, hw14⟩ : ∃ w14, w14 = (w13.alloc (.cells #[.int .i64 h'.e, .int .i64 h'.p] 34)).alloc (.cells #[.int .i64 h'.e2, .int .i64 h'.p2] 34) := ⟨_, rfl⟩
      have hb14 : Below wc.heap.size wc w14 := by rw [hw14]; exact below_alloc (below_alloc HB13.out _) _
      have HX14 := Aside0.mk (show MBlk w14 gx 34 #[.int .i64 h'.e, .int .i64 h'.p] by rw [hw14, hgx]; exact mblk_alloc (mblk_new _ _ _) _)
      have HY14 := Aside0.mk (show MBlk w14 (gx + 1) 34 #[.int .i64 h'.e2, .int .i64 h'.p2] by rw [hw14, hgx, show w13.heap.size + 1 = (w13.alloc (.cells #[.int .i64 h'.e, .int .i64 h'.p] 34)).heap.size by simp]; exact mblk_new _ _ _)
      have HL14 := Aside0.mk (HL12.out.below hb14)
      have HB14 := Aside0.mk (below_step HB12.out hb14)
      have HA14 := Aside0.mk (show MBlk w14 ga 28 #[.slice P1 ln.length e1, .slice P2 ld.length e2] from (hb14.block _ (mblk_lt HA12.out)).trans HA12.out)
      have HR14 := Aside0.mk (HR12.out.below hb14)
      have HH14 := Aside0.mk (show MBlk w14 gh 28 #[.slice T1 Q.1.length t1, .slice T2 Q.2.length t2] from (hb14.block _ (mblk_lt HH12.out)).trans HH12.out)
      have HT14 := Aside0.mk (HT12.out.below hb14)
      have HN14 := Aside0.mk (show MBlk w14 gn 34 #[.int .i64 h.e, .int .i64 h.p] from (hb14.block _ (mblk_lt HN12.out)).trans HN12.out)
      have HM14 := Aside0.mk (show MBlk w14 (gn + 1) 34 #[.int .i64 h.e2, .int .i64 h.p2] from (hb14.block _ (mblk_lt HM12.out)).trans HM12.out)
      rw [← hw14, ← hgx]
      clear hw14 hgx hb14 HL12 HB12 HA12 HR12 HH12 HT12 HN12 HM12 HB13
      obtain ⟨Q', hQ'⟩ : ∃ Q' : List Int × List Int, Q' = L (heldL l') := ⟨_, rfl⟩
      have HQ' := Aside0.mk hQ'
      obtain ⟨c1, hc1⟩ : ∃ c1, c1 = cmpR (heldL l') (mkRat (n : Int) d) := ⟨_, rfl⟩
      obtain ⟨k1, hk1⟩ := cmp_held HO12.out.good (by have := HO12.out.len; omega) n d (by omega) (by omega) hd0
      rw [← hQ', ← HLL.out.1, ← HLL.out.2, ← hc1] at hk1
      have HK1 := Aside0.mk hk1
      have hc1n : ¬ c1 > 0 := by rw [hc1, ← HAL.out]; exact le_cmp HO12.out.le
      have hc1d : decide (c1 > 0) = false := decide_eq_false hc1n
      have hc1e : decide (0 < c1) = false := decide_eq_false hc1n
      clear hQ' hc1 hk1
      have HSZ := Aside0.mk (show Sz 100000 (heldL l') from sz_mono (held_sz HO12.out.good) (by omega))
      by_cases he : e = 0
      · subst he
        have z0 : w14.cell? ⟨ga, 0, none⟩ = some (.slice P1 ln.length e1) := (mblk_cell HA14.out 0).trans rfl
        have z1 : w14.cell? ⟨ga, 1, none⟩ = some (.slice P2 ld.length e2) := (mblk_cell HA14.out 1).trans rfl
        refine start_ (n := 37) (S := fun w' => w'.cell? ⟨ga, 0, none⟩ = some (.slice P1 ln.length e1) ∧ w'.cell? ⟨ga, 1, none⟩ = some (.slice P2 ld.length e2)) (ds := []) #[false, false, false, false, false, false, false, false, false, false, false, false, false, false, false, false, false, false, false, false, false, false, false, false, false, false, false, false, false, false, false, false, false, false, false, false, false] (by kernel_rfl) rfl rfl ⟨z0, z1⟩ (fun hHeld => ?_)
        refine pure_ (i := 0) (N := some 97) (v := ?_) (a' := ?_) #[true, false, false, false, false, false, false, false, false, false, false, false, false, false, false, false, false, false, false, false, false, false, false, false, false, false, false, false, false, false, false, false, false, false, false, false, false] rfl rfl (by kernel_rfl) (fun _ _ _ h => h) (Or.inl ⟨by rfl, ?_⟩) ?_ ?_
        rotate_left
        · intro w'
          go_simp
          with_reducible rfl
        rotate_left
        · simp only [Act.put, List.setIfInBounds_toArray, List.set_cons_zero, List.set_cons_succ, i64_w, i32_w]
          rfl
        refine take_ (i := 2) (N := some 99) (v := ?_) (a' := ?_) #[true, false, true, false, false, false, false, false, false, false, false, false, false, false, false, false, false, false, false, false, false, false, false, false, false, false, false, false, false, false, false, false, false, false, false, false, false] rfl rfl (by kernel_rfl) (fun _ _ _ h => h) (Or.inl ⟨by rfl, ?_⟩) hHeld ?_ ?_
        rotate_left
        · rintro w' ⟨s0, s1⟩
          go_simp
          with_reducible rfl
        rotate_left
        · simp only [Act.put, List.setIfInBounds_toArray, List.set_cons_zero, List.set_cons_succ, i64_w, i32_w]
          rfl
        refine one_ (i := 1) (N := some 98) #[true, true, true, false, false, false, false, false, false, false, false, false, false, false, false, false, false, false, false, false, false, false, false, false, false, false, false, false, false, false, false, false, false, false, false, false, false] rfl rfl (by kernel_rfl) (by decide) (fun K hK => ?_)
        refine goes_ Try.func20 (by kernel_rfl) rfl #[.pointer (some ⟨g, 0, none⟩)] (by rfl) rfl rfl (by simp only [List.map_toArray, List.map_cons, List.map_nil]; rfl) ?_
        with_reducible refine (held_calls g b All (heldL l') l' _ (HL14.out.below (below_drew (Below.refl _ _))) HSZ.out).mono ?_
        rintro e w15 ⟨t, t', rfl, h15, hb⟩
        refine ⟨_, rfl, ?_⟩
        rw [← HQ'.out] at h15
        obtain ⟨U1, u1, U2, u2, rfl, rfl⟩ := h15.shape
        have hb15 : Below w14.heap.size w14 w15 := below_step (below_drew (Below.refl _ _)) hb
        have HB15 := Aside0.mk hb15
        have HU15 := Aside0.mk h15
        clear h15 hb
        refine hK.out _ _ ⟨((mblk_cell ((hb15.block _ (mblk_lt HA14.out)).trans HA14.out) 0).trans rfl), ((mblk_cell ((hb15.block _ (mblk_lt HA14.out)).trans HA14.out) 1).trans rfl)⟩ (fun hHeld => ?_)
        clear hK K
        refine norm_ (a' := ?_) ?_ ?_
        rotate_left
        · show Act.put _ (some 98) _ = _
          simp only [Act.put, List.setIfInBounds_toArray, List.set_cons_zero, List.set_cons_succ, i64_w, i32_w]
          rfl
        refine one_ (i := 3) (N := some 100) #[true, true, true, true, false, false, false, false, false, false, false, false, false, false, false, false, false, false, false, false, false, false, false, false, false, false, false, false, false, false, false, false, false, false, false, false, false] rfl rfl (by kernel_rfl) (by decide) (fun K hK => ?_)
        refine goes_ Try.func19 (by kernel_rfl) rfl #[.agg #[.slice U1 Q'.1.length u1, .slice U2 Q'.2.length u2], .agg #[.slice P1 ln.length e1, .slice P2 ld.length e2]] (by rfl) rfl rfl (by simp only [List.map_toArray, List.map_cons, List.map_nil]; rfl) ?_
        with_reducible refine (rcmp_rv HU15.out (HR14.out.below HB15.out) HK1.out).mono ?_
        rintro e w16 ⟨rfl, hb⟩
        refine ⟨_, rfl, ?_⟩
        have hb16 : Below w14.heap.size w14 w16 := below_step HB15.out hb
        have HB16 := Aside0.mk hb16
        clear hb
        refine hK.out _ _ ⟨((mblk_cell ((hb16.block _ (mblk_lt HA14.out)).trans HA14.out) 0).trans rfl), ((mblk_cell ((hb16.block _ (mblk_lt HA14.out)).trans HA14.out) 1).trans rfl)⟩ (fun hHeld => ?_)
        clear hK K
        refine norm_ (a' := ?_) ?_ ?_
        rotate_left
        · show Act.put _ (some 100) _ = _
          simp only [Act.put, List.setIfInBounds_toArray, List.set_cons_zero, List.set_cons_succ, i64_w, i32_w]
          rfl
        refine pure_ (i := 4) (N := some 101) (v := ?_) (a' := ?_) #[true, true, true, true, true, false, false, false, false, false, false, false, false, false, false, false, false, false, false, false, false, false, false, false, false, false, false, false, false, false, false, false, false, false, false, false, false] rfl rfl (by kernel_rfl) (fun _ _ _ h => h) (Or.inl ⟨by rfl, ?_⟩) ?_ ?_
        rotate_left
        · intro w'
          go_simp
          with_reducible rfl
        rotate_left
        · simp only [Act.put, List.setIfInBounds_toArray, List.set_cons_zero, List.set_cons_succ, i64_w, i32_w]
          rfl
        refine pure_ (i := 5) (N := some 102) (v := ?_) (a' := ?_) #[true, true, true, true, true, true, false, false, false, false, false, false, false, false, false, false, false, false, false, false, false, false, false, false, false, false, false, false, false, false, false, false, false, false, false, false, false] rfl rfl (by kernel_rfl) (fun _ _ _ h => h) (Or.inl ⟨by rfl, ?_⟩) ?_ ?_
        rotate_left
        · intro w'
          go_simp
          with_reducible rfl
        rotate_left
        · simp only [Act.put, List.setIfInBounds_toArray, List.set_cons_zero, List.set_cons_succ, i64_w, i32_w]
          rfl
        refine pure_ (i := 6) (N := some 103) (v := ?_) (a' := ?_) #[true, true, true, true, true, true, true, false, false, false, false, false, false, false, false, false, false, false, false, false, false, false, false, false, false, false, false, false, false, false, false, false, false, false, false, false, false] rfl rfl (by kernel_rfl) (fun _ _ _ h => h) (Or.inl ⟨by rfl, ?_⟩) ?_ ?_
        rotate_left
        · intro w'
          go_simp
          with_reducible rfl
        rotate_left
        · simp only [Act.put, List.setIfInBounds_toArray, List.set_cons_zero, List.set_cons_succ, i64_w, i32_w]
          rfl
        refine pure_ (i := 7) (N := some 104) (v := ?_) (a' := ?_) #[true, true, true, true, true, true, true, true, false, false, false, false, false, false, false, false, false, false, false, false, false, false, false, false, false, false, false, false, false, false, false, false, false, false, false, false, false] rfl rfl (by kernel_rfl) (fun _ _ _ h => h) (Or.inl ⟨by rfl, ?_⟩) ?_ ?_
        rotate_left
        · intro w'
          go_simp
          with_reducible rfl
        rotate_left
        · simp only [Act.put, List.setIfInBounds_toArray, List.set_cons_zero, List.set_cons_succ, i64_w, i32_w]
          rfl
        refine pure_ (i := 8) (N := some 105) (v := ?_) (a' := ?_) #[true, true, true, true, true, true, true, true, true, false, false, false, false, false, false, false, false, false, false, false, false, false, false, false, false, false, false, false, false, false, false, false, false, false, false, false, false] rfl rfl (by kernel_rfl) (fun _ _ _ h => h) (Or.inl ⟨by rfl, ?_⟩) ?_ ?_
        rotate_left
        · intro w'
          go_simp
          with_reducible rfl
        rotate_left
        · simp only [Act.put, List.setIfInBounds_toArray, List.set_cons_zero, List.set_cons_succ, i64_w, i32_w]
          rfl
        refine pure_ (i := 9) (N := some 106) (v := undef) (a' := ?_) #[true, true, true, true, true, true, true, true, true, true, false, false, false, false, false, false, false, false, false, false, false, false, false, false, false, false, false, false, false, false, false, false, false, false, false, false, false] rfl rfl (by kernel_rfl) (fun _ _ _ h => h) (Or.inr ⟨by rfl, rfl⟩) ?_ ?_
        rotate_left
        · simp only [Act.put, List.setIfInBounds_toArray, List.set_cons_zero, List.set_cons_succ, i64_w, i32_w]
          rfl
        refine pure_ (i := 10) (N := some 107) (v := undef) (a' := ?_) #[true, true, true, true, true, true, true, true, true, true, true, false, false, false, false, false, false, false, false, false, false, false, false, false, false, false, false, false, false, false, false, false, false, false, false, false, false] rfl rfl (by kernel_rfl) (fun _ _ _ h => h) (Or.inr ⟨by rfl, rfl⟩) ?_ ?_
        rotate_left
        · simp only [Act.put, List.setIfInBounds_toArray, List.set_cons_zero, List.set_cons_succ, i64_w, i32_w]
          rfl
        refine pure_ (i := 11) (N := some 108) (v := undef) (a' := ?_) #[true, true, true, true, true, true, true, true, true, true, true, true, false, false, false, false, false, false, false, false, false, false, false, false, false, false, false, false, false, false, false, false, false, false, false, false, false] rfl rfl (by kernel_rfl) (fun _ _ _ h => h) (Or.inr ⟨by rfl, rfl⟩) ?_ ?_
        rotate_left
        · simp only [Act.put, List.setIfInBounds_toArray, List.set_cons_zero, List.set_cons_succ, i64_w, i32_w]
          rfl
        refine pure_ (i := 12) (N := some 109) (v := undef) (a' := ?_) #[true, true, true, true, true, true, true, true, true, true, true, true, true, false, false, false, false, false, false, false, false, false, false, false, false, false, false, false, false, false, false, false, false, false, false, false, false] rfl rfl (by kernel_rfl) (fun _ _ _ h => h) (Or.inr ⟨by rfl, rfl⟩) ?_ ?_
        rotate_left
        · simp only [Act.put, List.setIfInBounds_toArray, List.set_cons_zero, List.set_cons_succ, i64_w, i32_w]
          rfl
        refine pure_ (i := 13) (N := some 110) (v := undef) (a' := ?_) #[true, true, true, true, true, true, true, true, true, true, true, true, true, true, false, false, false, false, false, false, false, false, false, false, false, false, false, false, false, false, false, false, false, false, false, false, false] rfl rfl (by kernel_rfl) (fun _ _ _ h => h) (Or.inr ⟨by rfl, rfl⟩) ?_ ?_
        rotate_left
        · simp only [Act.put, List.setIfInBounds_toArray, List.set_cons_zero, List.set_cons_succ, i64_w, i32_w]
          rfl
        refine pure_ (i := 14) (N := some 111) (v := undef) (a' := ?_) #[true, true, true, true, true, true, true, true, true, true, true, true, true, true, true, false, false, false, false, false, false, false, false, false, false, false, false, false, false, false, false, false, false, false, false, false, false] rfl rfl (by kernel_rfl) (fun _ _ _ h => h) (Or.inr ⟨by rfl, rfl⟩) ?_ ?_
        rotate_left
        · simp only [Act.put, List.setIfInBounds_toArray, List.set_cons_zero, List.set_cons_succ, i64_w, i32_w]
          rfl
        refine pure_ (i := 15) (N := some 112) (v := undef) (a' := ?_) #[true, true, true, true, true, true, true, true, true, true, true, true, true, true, true, true, false, false, false, false, false, false, false, false, false, false, false, false, false, false, false, false, false, false, false, false, false] rfl rfl (by kernel_rfl) (fun _ _ _ h => h) (Or.inr ⟨by rfl, rfl⟩) ?_ ?_
        rotate_left
        · simp only [Act.put, List.setIfInBounds_toArray, List.set_cons_zero, List.set_cons_succ, i64_w, i32_w]
          rfl
        refine pure_ (i := 16) (N := some 113) (v := undef) (a' := ?_) #[true, true, true, true, true, true, true, true, true, true, true, true, true, true, true, true, true, false, false, false, false, false, false, false, false, false, false, false, false, false, false, false, false, false, false, false, false] rfl rfl (by kernel_rfl) (fun _ _ _ h => h) (Or.inr ⟨by rfl, rfl⟩) ?_ ?_
        rotate_left
        · simp only [Act.put, List.setIfInBounds_toArray, List.set_cons_zero, List.set_cons_succ, i64_w, i32_w]
          rfl
        refine pure_ (i := 17) (N := some 114) (v := undef) (a' := ?_) #[true, true, true, true, true, true, true, true, true, true, true, true, true, true, true, true, true, true, false, false, false, false, false, false, false, false, false, false, false, false, false, false, false, false, false, false, false] rfl rfl (by kernel_rfl) (fun _ _ _ h => h) (Or.inr ⟨by rfl, rfl⟩) ?_ ?_
        rotate_left
        · simp only [Act.put, List.setIfInBounds_toArray, List.set_cons_zero, List.set_cons_succ, i64_w, i32_w]
          rfl
        refine pure_ (i := 18) (N := some 115) (v := undef) (a' := ?_) #[true, true, true, true, true, true, true, true, true, true, true, true, true, true, true, true, true, true, true, false, false, false, false, false, false, false, false, false, false, false, false, false, false, false, false, false, false] rfl rfl (by kernel_rfl) (fun _ _ _ h => h) (Or.inr ⟨by rfl, rfl⟩) ?_ ?_
        rotate_left
        · simp only [Act.put, List.setIfInBounds_toArray, List.set_cons_zero, List.set_cons_succ, i64_w, i32_w]
          rfl
        refine pure_ (i := 19) (N := some 116) (v := undef) (a' := ?_) #[true, true, true, true, true, true, true, true, true, true, true, true, true, true, true, true, true, true, true, true, false, false, false, false, false, false, false, false, false, false, false, false, false, false, false, false, false] rfl rfl (by kernel_rfl) (fun _ _ _ h => h) (Or.inr ⟨by rfl, rfl⟩) ?_ ?_
        rotate_left
        · simp only [Act.put, List.setIfInBounds_toArray, List.set_cons_zero, List.set_cons_succ, i64_w, i32_w]
          rfl
        refine pure_ (i := 20) (N := some 117) (v := undef) (a' := ?_) #[true, true, true, true, true, true, true, true, true, true, true, true, true, true, true, true, true, true, true, true, true, false, false, false, false, false, false, false, false, false, false, false, false, false, false, false, false] rfl rfl (by kernel_rfl) (fun _ _ _ h => h) (Or.inr ⟨by rfl, rfl⟩) ?_ ?_
        rotate_left
        · simp only [Act.put, List.setIfInBounds_toArray, List.set_cons_zero, List.set_cons_succ, i64_w, i32_w]
          rfl
        refine pure_ (i := 21) (N := some 118) (v := undef) (a' := ?_) #[true, true, true, true, true, true, true, true, true, true, true, true, true, true, true, true, true, true, true, true, true, true, false, false, false, false, false, false, false, false, false, false, false, false, false, false, false] rfl rfl (by kernel_rfl) (fun _ _ _ h => h) (Or.inr ⟨by rfl, rfl⟩) ?_ ?_
        rotate_left
        · simp only [Act.put, List.setIfInBounds_toArray, List.set_cons_zero, List.set_cons_succ, i64_w, i32_w]
          rfl
        refine pure_ (i := 22) (N := some 119) (v := undef) (a' := ?_) #[true, true, true, true, true, true, true, true, true, true, true, true, true, true, true, true, true, true, true, true, true, true, true, false, false, false, false, false, false, false, false, false, false, false, false, false, false] rfl rfl (by kernel_rfl) (fun _ _ _ h => h) (Or.inr ⟨by rfl, rfl⟩) ?_ ?_
        rotate_left
        · simp only [Act.put, List.setIfInBounds_toArray, List.set_cons_zero, List.set_cons_succ, i64_w, i32_w]
          rfl
        refine pure_ (i := 23) (N := some 120) (v := undef) (a' := ?_) #[true, true, true, true, true, true, true, true, true, true, true, true, true, true, true, true, true, true, true, true, true, true, true, true, false, false, false, false, false, false, false, false, false, false, false, false, false] rfl rfl (by kernel_rfl) (fun _ _ _ h => h) (Or.inr ⟨by rfl, rfl⟩) ?_ ?_
        rotate_left
        · simp only [Act.put, List.setIfInBounds_toArray, List.set_cons_zero, List.set_cons_succ, i64_w, i32_w]
          rfl
        refine pure_ (i := 24) (N := some 121) (v := undef) (a' := ?_) #[true, true, true, true, true, true, true, true, true, true, true, true, true, true, true, true, true, true, true, true, true, true, true, true, true, false, false, false, false, false, false, false, false, false, false, false, false] rfl rfl (by kernel_rfl) (fun _ _ _ h => h) (Or.inr ⟨by rfl, rfl⟩) ?_ ?_
        rotate_left
        · simp only [Act.put, List.setIfInBounds_toArray, List.set_cons_zero, List.set_cons_succ, i64_w, i32_w]
          rfl
        refine pure_ (i := 25) (N := some 122) (v := undef) (a' := ?_) #[true, true, true, true, true, true, true, true, true, true, true, true, true, true, true, true, true, true, true, true, true, true, true, true, true, true, false, false, false, false, false, false, false, false, false, false, false] rfl rfl (by kernel_rfl) (fun _ _ _ h => h) (Or.inr ⟨by rfl, rfl⟩) ?_ ?_
        rotate_left
        · simp only [Act.put, List.setIfInBounds_toArray, List.set_cons_zero, List.set_cons_succ, i64_w, i32_w]
          rfl
        refine pure_ (i := 26) (N := some 123) (v := undef) (a' := ?_) #[true, true, true, true, true, true, true, true, true, true, true, true, true, true, true, true, true, true, true, true, true, true, true, true, true, true, true, false, false, false, false, false, false, false, false, false, false] rfl rfl (by kernel_rfl) (fun _ _ _ h => h) (Or.inr ⟨by rfl, rfl⟩) ?_ ?_
        rotate_left
        · simp only [Act.put, List.setIfInBounds_toArray, List.set_cons_zero, List.set_cons_succ, i64_w, i32_w]
          rfl
        refine pure_ (i := 27) (N := some 124) (v := undef) (a' := ?_) #[true, true, true, true, true, true, true, true, true, true, true, true, true, true, true, true, true, true, true, true, true, true, true, true, true, true, true, true, false, false, false, false, false, false, false, false, false] rfl rfl (by kernel_rfl) (fun _ _ _ h => h) (Or.inr ⟨by rfl, rfl⟩) ?_ ?_
        rotate_left
        · simp only [Act.put, List.setIfInBounds_toArray, List.set_cons_zero, List.set_cons_succ, i64_w, i32_w]
          rfl
        refine pure_ (i := 28) (N := some 125) (v := undef) (a' := ?_) #[true, true, true, true, true, true, true, true, true, true, true, true, true, true, true, true, true, true, true, true, true, true, true, true, true, true, true, true, true, false, false, false, false, false, false, false, false] rfl rfl (by kernel_rfl) (fun _ _ _ h => h) (Or.inr ⟨by rfl, rfl⟩) ?_ ?_
        rotate_left
        · simp only [Act.put, List.setIfInBounds_toArray, List.set_cons_zero, List.set_cons_succ, i64_w, i32_w]
          rfl
        refine pure_ (i := 29) (N := some 126) (v := undef) (a' := ?_) #[true, true, true, true, true, true, true, true, true, true, true, true, true, true, true, true, true, true, true, true, true, true, true, true, true, true, true, true, true, true, false, false, false, false, false, false, false] rfl rfl (by kernel_rfl) (fun _ _ _ h => h) (Or.inr ⟨by rfl, rfl⟩) ?_ ?_
        rotate_left
        · simp only [Act.put, List.setIfInBounds_toArray, List.set_cons_zero, List.set_cons_succ, i64_w, i32_w]
          rfl
        refine pure_ (i := 30) (N := some 127) (v := undef) (a' := ?_) #[true, true, true, true, true, true, true, true, true, true, true, true, true, true, true, true, true, true, true, true, true, true, true, true, true, true, true, true, true, true, true, false, false, false, false, false, false] rfl rfl (by kernel_rfl) (fun _ _ _ h => h) (Or.inr ⟨by rfl, rfl⟩) ?_ ?_
        rotate_left
        · simp only [Act.put, List.setIfInBounds_toArray, List.set_cons_zero, List.set_cons_succ, i64_w, i32_w]
          rfl
        refine pure_ (i := 31) (N := some 128) (v := undef) (a' := ?_) #[true, true, true, true, true, true, true, true, true, true, true, true, true, true, true, true, true, true, true, true, true, true, true, true, true, true, true, true, true, true, true, true, false, false, false, false, false] rfl rfl (by kernel_rfl) (fun _ _ _ h => h) (Or.inr ⟨by rfl, rfl⟩) ?_ ?_
        rotate_left
        · simp only [Act.put, List.setIfInBounds_toArray, List.set_cons_zero, List.set_cons_succ, i64_w, i32_w]
          rfl
        refine pure_ (i := 32) (N := some 129) (v := undef) (a' := ?_) #[true, true, true, true, true, true, true, true, true, true, true, true, true, true, true, true, true, true, true, true, true, true, true, true, true, true, true, true, true, true, true, true, true, false, false, false, false] rfl rfl (by kernel_rfl) (fun _ _ _ h => h) (Or.inr ⟨by rfl, rfl⟩) ?_ ?_
        rotate_left
        · simp only [Act.put, List.setIfInBounds_toArray, List.set_cons_zero, List.set_cons_succ, i64_w, i32_w]
          rfl
        refine pure_ (i := 33) (N := some 130) (v := undef) (a' := ?_) #[true, true, true, true, true, true, true, true, true, true, true, true, true, true, true, true, true, true, true, true, true, true, true, true, true, true, true, true, true, true, true, true, true, true, false, false, false] rfl rfl (by kernel_rfl) (fun _ _ _ h => h) (Or.inr ⟨by rfl, rfl⟩) ?_ ?_
        rotate_left
        · simp only [Act.put, List.setIfInBounds_toArray, List.set_cons_zero, List.set_cons_succ, i64_w, i32_w]
          rfl
        refine pure_ (i := 34) (N := some 131) (v := undef) (a' := ?_) #[true, true, true, true, true, true, true, true, true, true, true, true, true, true, true, true, true, true, true, true, true, true, true, true, true, true, true, true, true, true, true, true, true, true, true, false, false] rfl rfl (by kernel_rfl) (fun _ _ _ h => h) (Or.inr ⟨by rfl, rfl⟩) ?_ ?_
        rotate_left
        · simp only [Act.put, List.setIfInBounds_toArray, List.set_cons_zero, List.set_cons_succ, i64_w, i32_w]
          rfl
        refine pure_ (i := 35) (N := some 132) (v := ?_) (a' := ?_) #[true, true, true, true, true, true, true, true, true, true, true, true, true, true, true, true, true, true, true, true, true, true, true, true, true, true, true, true, true, true, true, true, true, true, true, true, false] rfl rfl (by kernel_rfl) (fun _ _ _ h => h) (Or.inl ⟨by rfl, ?_⟩) ?_ ?_
        rotate_left
        · intro w'
          go_simp
          with_reducible rfl
        rotate_left
        · simp only [Act.put, List.setIfInBounds_toArray, List.set_cons_zero, List.set_cons_succ, i64_w, i32_w]
          rfl
        refine pure_ (i := 36) (N := some 133) (v := ?_) (a' := ?_) #[true, true, true, true, true, true, true, true, true, true, true, true, true, true, true, true, true, true, true, true, true, true, true, true, true, true, true, true, true, true, true, true, true, true, true, true, true] rfl rfl (by kernel_rfl) (fun _ _ _ h => h) (Or.inl ⟨by rfl, ?_⟩) ?_ ?_
        rotate_left
        · intro w'
          go_simp
          with_reducible rfl
        rotate_left
        · simp only [Act.put, List.setIfInBounds_toArray, List.set_cons_zero, List.set_cons_succ, i64_w, i32_w]
          rfl
        refine done_ (by kernel_rfl) ?_
        all_goals
          go_wp2_with fail
          go_roundw
          case rel => exact ⟨i + 1, l', by simp, by omega, by omega, ⟨HL14.out.below HB16.out⟩, HO12, ⟨below_step HB14.out HB16.out⟩, ⟨(HB16.out.block _ (mblk_lt HA14.out)).trans HA14.out⟩, ⟨HR14.out.below HB16.out⟩⟩
          case measure => simp [intOf]; omega
      · have hll : l = l' := (HSM.out he).symm
        subst hll
        have hhh : h = h' := HH.out.trans HH'.out.symm
        subst hhh
        have hqq : Q = Q' := HQ.out.trans HQ'.out.symm
        subst hqq
        have hen : (e == 0) = false := beq_eq_false_iff_ne.2 he
        have hen' : (e != 0) = true := by rw [bne, hen]; rfl
        obtain ⟨k2, hk2⟩ := cmp_same HO12.out.good (by have := HO12.out.len; omega)
        rw [← HQ.out] at hk2
        have HK2 := Aside0.mk hk2
        clear hk2
        have z0 : w14.cell? ⟨ga, 0, none⟩ = some (.slice P1 ln.length e1) := (mblk_cell HA14.out 0).trans rfl
        have z1 : w14.cell? ⟨ga, 1, none⟩ = some (.slice P2 ld.length e2) := (mblk_cell HA14.out 1).trans rfl
        have z2 : w14.cell? ⟨gh, 0, none⟩ = some (.slice T1 Q.1.length t1) := (mblk_cell HH14.out 0).trans rfl
        have z3 : w14.cell? ⟨gh, 1, none⟩ = some (.slice T2 Q.2.length t2) := (mblk_cell HH14.out 1).trans rfl
        have z4 : w14.cell? ⟨gn, 0, none⟩ = some (.int .i64 h.e) := (mblk_cell HN14.out 0).trans rfl
        have z5 : w14.cell? ⟨gn, 1, none⟩ = some (.int .i64 h.p) := (mblk_cell HN14.out 1).trans rfl
        have z6 : w14.cell? ⟨gn + 1, 0, none⟩ = some (.int .i64 h.e2) := (mblk_cell HM14.out 0).trans rfl
        have z7 : w14.cell? ⟨gn + 1, 1, none⟩ = some (.int .i64 h.p2) := (mblk_cell HM14.out 1).trans rfl
        have z8 : w14.cell? ⟨gx, 0, none⟩ = some (.int .i64 h.e) := (mblk_cell HX14.out 0).trans rfl
        have z9 : w14.cell? ⟨gx, 1, none⟩ = some (.int .i64 h.p) := (mblk_cell HX14.out 1).trans rfl
        have z10 : w14.cell? ⟨gx + 1, 0, none⟩ = some (.int .i64 h.e2) := (mblk_cell HY14.out 0).trans rfl
        have z11 : w14.cell? ⟨gx + 1, 1, none⟩ = some (.int .i64 h.p2) := (mblk_cell HY14.out 1).trans rfl
        clear he
        refine start_ (n := 37) (S := fun w' => w'.cell? ⟨ga, 0, none⟩ = some (.slice P1 ln.length e1) ∧ w'.cell? ⟨ga, 1, none⟩ = some (.slice P2 ld.length e2) ∧ w'.cell? ⟨gh, 0, none⟩ = some (.slice T1 Q.1.length t1) ∧ w'.cell? ⟨gh, 1, none⟩ = some (.slice T2 Q.2.length t2) ∧ w'.cell? ⟨gn, 0, none⟩ = some (.int .i64 h.e) ∧ w'.cell? ⟨gn, 1, none⟩ = some (.int .i64 h.p) ∧ w'.cell? ⟨gn + 1, 0, none⟩ = some (.int .i64 h.e2) ∧ w'.cell? ⟨gn + 1, 1, none⟩ = some (.int .i64 h.p2) ∧ w'.cell? ⟨gx, 0, none⟩ = some (.int .i64 h.e) ∧ w'.cell? ⟨gx, 1, none⟩ = some (.int .i64 h.p) ∧ w'.cell? ⟨gx + 1, 0, none⟩ = some (.int .i64 h.e2) ∧ w'.cell? ⟨gx + 1, 1, none⟩ = some (.int .i64 h.p2)) (ds := []) #[false, false, false, false, false, false, false, false, false, false, false, false, false, false, false, false, false, false, false, false, false, false, false, false, false, false, false, false, false, false, false, false, false, false, false, false, false] (by kernel_rfl) rfl rfl ⟨z0, z1, z2, z3, z4, z5, z6, z7, z8, z9, z10, z11⟩ (fun hHeld => ?_)
        refine pure_ (i := 0) (N := some 97) (v := ?_) (a' := ?_) #[true, false, false, false, false, false, false, false, false, false, false, false, false, false, false, false, false, false, false, false, false, false, false, false, false, false, false, false, false, false, false, false, false, false, false, false, false] rfl rfl (by kernel_rfl) (fun _ _ _ h => h) (Or.inl ⟨by rfl, ?_⟩) ?_ ?_
        rotate_left
        · intro w'
          go_simp
          with_reducible rfl
        rotate_left
        · simp only [Act.put, List.setIfInBounds_toArray, List.set_cons_zero, List.set_cons_succ, i64_w, i32_w]
          rfl
        refine take_ (i := 2) (N := some 99) (v := ?_) (a' := ?_) #[true, false, true, false, false, false, false, false, false, false, false, false, false, false, false, false, false, false, false, false, false, false, false, false, false, false, false, false, false, false, false, false, false, false, false, false, false] rfl rfl (by kernel_rfl) (fun _ _ _ h => h) (Or.inl ⟨by rfl, ?_⟩) hHeld ?_ ?_
        rotate_left
        · rintro w' ⟨s0, s1, s2, s3, s4, s5, s6, s7, s8, s9, s10, s11⟩
          go_simp
          with_reducible rfl
        rotate_left
        · simp only [Act.put, List.setIfInBounds_toArray, List.set_cons_zero, List.set_cons_succ, i64_w, i32_w]
          rfl
        refine one_ (i := 1) (N := some 98) #[true, true, true, false, false, false, false, false, false, false, false, false, false, false, false, false, false, false, false, false, false, false, false, false, false, false, false, false, false, false, false, false, false, false, false, false, false] rfl rfl (by kernel_rfl) (by decide) (fun K hK => ?_)
        refine goes_ Try.func20 (by kernel_rfl) rfl #[.pointer (some ⟨g, 0, none⟩)] (by rfl) rfl rfl (by simp only [List.map_toArray, List.map_cons, List.map_nil]; rfl) ?_
        with_reducible refine (held_calls g b All (heldL l) l _ (HL14.out.below (below_drew (Below.refl _ _))) HSZ.out).mono ?_
        rintro e1_ w15 ⟨t, t', rfl, h15, hb⟩
        refine ⟨_, rfl, ?_⟩
        rw [← HQ.out] at h15
        obtain ⟨U1, u1, U2, u2, rfl, rfl⟩ := h15.shape
        have hb15 : Below w14.heap.size w14 w15 := below_step (below_drew (Below.refl _ _)) hb
        have HB15 := Aside0.mk hb15
        have HU15 := Aside0.mk h15
        clear h15 hb
        refine hK.out _ _ ⟨((mblk_cell ((hb15.block _ (mblk_lt HA14.out)).trans HA14.out) 0).trans rfl), ((mblk_cell ((hb15.block _ (mblk_lt HA14.out)).trans HA14.out) 1).trans rfl), ((mblk_cell ((hb15.block _ (mblk_lt HH14.out)).trans HH14.out) 0).trans rfl), ((mblk_cell ((hb15.block _ (mblk_lt HH14.out)).trans HH14.out) 1).trans rfl), ((mblk_cell ((hb15.block _ (mblk_lt HN14.out)).trans HN14.out) 0).trans rfl), ((mblk_cell ((hb15.block _ (mblk_lt HN14.out)).trans HN14.out) 1).trans rfl), ((mblk_cell ((hb15.block _ (mblk_lt HM14.out)).trans HM14.out) 0).trans rfl), ((mblk_cell ((hb15.block _ (mblk_lt HM14.out)).trans HM14.out) 1).trans rfl), ((mblk_cell ((hb15.block _ (mblk_lt HX14.out)).trans HX14.out) 0).trans rfl), ((mblk_cell ((hb15.block _ (mblk_lt HX14.out)).trans HX14.out) 1).trans rfl), ((mblk_cell ((hb15.block _ (mblk_lt HY14.out)).trans HY14.out) 0).trans rfl), ((mblk_cell ((hb15.block _ (mblk_lt HY14.out)).trans HY14.out) 1).trans rfl)⟩ (fun hHeld => ?_)
        clear hK K
        refine norm_ (a' := ?_) ?_ ?_
        rotate_left
        · show Act.put _ (some 98) _ = _
          simp only [Act.put, List.setIfInBounds_toArray, List.set_cons_zero, List.set_cons_succ, i64_w, i32_w]
          rfl
        refine one_ (i := 3) (N := some 100) #[true, true, true, true, false, false, false, false, false, false, false, false, false, false, false, false, false, false, false, false, false, false, false, false, false, false, false, false, false, false, false, false, false, false, false, false, false] rfl rfl (by kernel_rfl) (by decide) (fun K hK => ?_)
        refine goes_ Try.func19 (by kernel_rfl) rfl #[.agg #[.slice U1 Q.1.length u1, .slice U2 Q.2.length u2], .agg #[.slice P1 ln.length e1, .slice P2 ld.length e2]] (by rfl) rfl rfl (by simp only [List.map_toArray, List.map_cons, List.map_nil]; rfl) ?_
        with_reducible refine (rcmp_rv HU15.out (HR14.out.below HB15.out) HK1.out).mono ?_
        rintro e1_ w16 ⟨rfl, hb⟩
        refine ⟨_, rfl, ?_⟩
        have hb16 : Below w14.heap.size w14 w16 := below_step HB15.out hb
        have HB16 := Aside0.mk hb16
        clear hb
        refine hK.out _ _ ⟨((mblk_cell ((hb16.block _ (mblk_lt HA14.out)).trans HA14.out) 0).trans rfl), ((mblk_cell ((hb16.block _ (mblk_lt HA14.out)).trans HA14.out) 1).trans rfl), ((mblk_cell ((hb16.block _ (mblk_lt HH14.out)).trans HH14.out) 0).trans rfl), ((mblk_cell ((hb16.block _ (mblk_lt HH14.out)).trans HH14.out) 1).trans rfl), ((mblk_cell ((hb16.block _ (mblk_lt HN14.out)).trans HN14.out) 0).trans rfl), ((mblk_cell ((hb16.block _ (mblk_lt HN14.out)).trans HN14.out) 1).trans rfl), ((mblk_cell ((hb16.block _ (mblk_lt HM14.out)).trans HM14.out) 0).trans rfl), ((mblk_cell ((hb16.block _ (mblk_lt HM14.out)).trans HM14.out) 1).trans rfl), ((mblk_cell ((hb16.block _ (mblk_lt HX14.out)).trans HX14.out) 0).trans rfl), ((mblk_cell ((hb16.block _ (mblk_lt HX14.out)).trans HX14.out) 1).trans rfl), ((mblk_cell ((hb16.block _ (mblk_lt HY14.out)).trans HY14.out) 0).trans rfl), ((mblk_cell ((hb16.block _ (mblk_lt HY14.out)).trans HY14.out) 1).trans rfl)⟩ (fun hHeld => ?_)
        clear hK K
        refine norm_ (a' := ?_) ?_ ?_
        rotate_left
        · show Act.put _ (some 100) _ = _
          simp only [Act.put, List.setIfInBounds_toArray, List.set_cons_zero, List.set_cons_succ, i64_w, i32_w]
          rfl
        refine pure_ (i := 4) (N := some 101) (v := ?_) (a' := ?_) #[true, true, true, true, true, false, false, false, false, false, false, false, false, false, false, false, false, false, false, false, false, false, false, false, false, false, false, false, false, false, false, false, false, false, false, false, false] rfl rfl (by kernel_rfl) (fun _ _ _ h => h) (Or.inl ⟨by rfl, ?_⟩) ?_ ?_
        rotate_left
        · intro w'
          go_simp
          with_reducible rfl
        rotate_left
        · simp only [Act.put, List.setIfInBounds_toArray, List.set_cons_zero, List.set_cons_succ, i64_w, i32_w]
          rfl
        refine pure_ (i := 5) (N := some 102) (v := ?_) (a' := ?_) #[true, true, true, true, true, true, false, false, false, false, false, false, false, false, false, false, false, false, false, false, false, false, false, false, false, false, false, false, false, false, false, false, false, false, false, false, false] rfl rfl (by kernel_rfl) (fun _ _ _ h => h) (Or.inl ⟨by rfl, ?_⟩) ?_ ?_
        rotate_left
        · intro w'
          go_simp
          with_reducible rfl
        rotate_left
        · simp only [Act.put, List.setIfInBounds_toArray, List.set_cons_zero, List.set_cons_succ, i64_w, i32_w]
          rfl
        refine pure_ (i := 6) (N := some 103) (v := ?_) (a' := ?_) #[true, true, true, true, true, true, true, false, false, false, false, false, false, false, false, false, false, false, false, false, false, false, false, false, false, false, false, false, false, false, false, false, false, false, false, false, false] rfl rfl (by kernel_rfl) (fun _ _ _ h => h) (Or.inl ⟨by rfl, ?_⟩) ?_ ?_
        rotate_left
        · intro w'
          go_simp
          with_reducible rfl
        rotate_left
        · simp only [Act.put, List.setIfInBounds_toArray, List.set_cons_zero, List.set_cons_succ, i64_w, i32_w]
          rfl
        refine pure_ (i := 7) (N := some 104) (v := ?_) (a' := ?_) #[true, true, true, true, true, true, true, true, false, false, false, false, false, false, false, false, false, false, false, false, false, false, false, false, false, false, false, false, false, false, false, false, false, false, false, false, false] rfl rfl (by kernel_rfl) (fun _ _ _ h => h) (Or.inl ⟨by rfl, ?_⟩) ?_ ?_
        rotate_left
        · intro w'
          go_simp
          with_reducible rfl
        rotate_left
        · simp only [Act.put, List.setIfInBounds_toArray, List.set_cons_zero, List.set_cons_succ, i64_w, i32_w]
          rfl
        refine pure_ (i := 8) (N := some 105) (v := ?_) (a' := ?_) #[true, true, true, true, true, true, true, true, true, false, false, false, false, false, false, false, false, false, false, false, false, false, false, false, false, false, false, false, false, false, false, false, false, false, false, false, false] rfl rfl (by kernel_rfl) (fun _ _ _ h => h) (Or.inl ⟨by rfl, ?_⟩) ?_ ?_
        rotate_left
        · intro w'
          go_simp
          with_reducible rfl
        rotate_left
        · simp only [Act.put, List.setIfInBounds_toArray, List.set_cons_zero, List.set_cons_succ, i64_w, i32_w]
          rfl
        refine pure_ (i := 10) (N := some 107) (v := ?_) (a' := ?_) #[true, true, true, true, true, true, true, true, true, false, true, false, false, false, false, false, false, false, false, false, false, false, false, false, false, false, false, false, false, false, false, false, false, false, false, false, false] rfl rfl (by kernel_rfl) (fun _ _ _ h => h) (Or.inl ⟨by rfl, ?_⟩) ?_ ?_
        rotate_left
        · intro w'
          go_simp
          with_reducible rfl
        rotate_left
        · simp only [Act.put, List.setIfInBounds_toArray, List.set_cons_zero, List.set_cons_succ, i64_w, i32_w]
          rfl
        refine take_ (i := 9) (N := some 106) (v := ?_) (a' := ?_) #[true, true, true, true, true, true, true, true, true, true, true, false, false, false, false, false, false, false, false, false, false, false, false, false, false, false, false, false, false, false, false, false, false, false, false, false, false] rfl rfl (by kernel_rfl) (fun _ _ _ h => h) (Or.inl ⟨by rfl, ?_⟩) hHeld ?_ ?_
        rotate_left
        · rintro w' ⟨s0, s1, s2, s3, s4, s5, s6, s7, s8, s9, s10, s11⟩
          go_simp
          with_reducible rfl
        rotate_left
        · simp only [Act.put, List.setIfInBounds_toArray, List.set_cons_zero, List.set_cons_succ, i64_w, i32_w]
          rfl
        refine one_ (i := 11) (N := some 108) #[true, true, true, true, true, true, true, true, true, true, true, true, false, false, false, false, false, false, false, false, false, false, false, false, false, false, false, false, false, false, false, false, false, false, false, false, false] rfl rfl (by kernel_rfl) (by decide) (fun K hK => ?_)
        refine goes_ Try.func20 (by kernel_rfl) rfl #[.pointer (some ⟨g, 0, none⟩)] (by rfl) rfl rfl (by simp only [List.map_toArray, List.map_cons, List.map_nil]; rfl) ?_
        with_reducible refine (held_calls g b All (heldL l) l _ (HL14.out.below HB16.out) HSZ.out).mono ?_
        rintro e1_ w17 ⟨t, t', rfl, h17, hb⟩
        refine ⟨_, rfl, ?_⟩
        rw [← HQ.out] at h17
        obtain ⟨V1, v1, V2, v2, rfl, rfl⟩ := h17.shape
        have hb17 : Below w14.heap.size w14 w17 := below_step HB16.out hb
        have HB17 := Aside0.mk hb17
        have HV17 := Aside0.mk h17
        clear h17 hb
        refine hK.out _ _ ⟨((mblk_cell ((hb17.block _ (mblk_lt HA14.out)).trans HA14.out) 0).trans rfl), ((mblk_cell ((hb17.block _ (mblk_lt HA14.out)).trans HA14.out) 1).trans rfl), ((mblk_cell ((hb17.block _ (mblk_lt HH14.out)).trans HH14.out) 0).trans rfl), ((mblk_cell ((hb17.block _ (mblk_lt HH14.out)).trans HH14.out) 1).trans rfl), ((mblk_cell ((hb17.block _ (mblk_lt HN14.out)).trans HN14.out) 0).trans rfl), ((mblk_cell ((hb17.block _ (mblk_lt HN14.out)).trans HN14.out) 1).trans rfl), ((mblk_cell ((hb17.block _ (mblk_lt HM14.out)).trans HM14.out) 0).trans rfl), ((mblk_cell ((hb17.block _ (mblk_lt HM14.out)).trans HM14.out) 1).trans rfl), ((mblk_cell ((hb17.block _ (mblk_lt HX14.out)).trans HX14.out) 0).trans rfl), ((mblk_cell ((hb17.block _ (mblk_lt HX14.out)).trans HX14.out) 1).trans rfl), ((mblk_cell ((hb17.block _ (mblk_lt HY14.out)).trans HY14.out) 0).trans rfl), ((mblk_cell ((hb17.block _ (mblk_lt HY14.out)).trans HY14.out) 1).trans rfl)⟩ (fun hHeld => ?_)
        clear hK K
        refine norm_ (a' := ?_) ?_ ?_
        rotate_left
        · show Act.put _ (some 108) _ = _
          simp only [Act.put, List.setIfInBounds_toArray, List.set_cons_zero, List.set_cons_succ, i64_w, i32_w]
          rfl
        refine one_ (i := 12) (N := some 109) #[true, true, true, true, true, true, true, true, true, true, true, true, true, false, false, false, false, false, false, false, false, false, false, false, false, false, false, false, false, false, false, false, false, false, false, false, false] rfl rfl (by kernel_rfl) (by decide) (fun K hK => ?_)
        refine goes_ Try.func19 (by kernel_rfl) rfl #[.agg #[.slice T1 Q.1.length t1, .slice T2 Q.2.length t2], .agg #[.slice V1 Q.1.length v1, .slice V2 Q.2.length v2]] (by rfl) rfl rfl (by simp only [List.map_toArray, List.map_cons, List.map_nil]; rfl) ?_
        with_reducible refine (rcmp_rv (HT14.out.below HB17.out) HV17.out HK2.out).mono ?_
        rintro e1_ w18 ⟨rfl, hb⟩
        refine ⟨_, rfl, ?_⟩
        have hb18 : Below w14.heap.size w14 w18 := below_step HB17.out hb
        have HB18 := Aside0.mk hb18
        clear hb
        refine hK.out _ _ ⟨((mblk_cell ((hb18.block _ (mblk_lt HA14.out)).trans HA14.out) 0).trans rfl), ((mblk_cell ((hb18.block _ (mblk_lt HA14.out)).trans HA14.out) 1).trans rfl), ((mblk_cell ((hb18.block _ (mblk_lt HH14.out)).trans HH14.out) 0).trans rfl), ((mblk_cell ((hb18.block _ (mblk_lt HH14.out)).trans HH14.out) 1).trans rfl), ((mblk_cell ((hb18.block _ (mblk_lt HN14.out)).trans HN14.out) 0).trans rfl), ((mblk_cell ((hb18.block _ (mblk_lt HN14.out)).trans HN14.out) 1).trans rfl), ((mblk_cell ((hb18.block _ (mblk_lt HM14.out)).trans HM14.out) 0).trans rfl), ((mblk_cell ((hb18.block _ (mblk_lt HM14.out)).trans HM14.out) 1).trans rfl), ((mblk_cell ((hb18.block _ (mblk_lt HX14.out)).trans HX14.out) 0).trans rfl), ((mblk_cell ((hb18.block _ (mblk_lt HX14.out)).trans HX14.out) 1).trans rfl), ((mblk_cell ((hb18.block _ (mblk_lt HY14.out)).trans HY14.out) 0).trans rfl), ((mblk_cell ((hb18.block _ (mblk_lt HY14.out)).trans HY14.out) 1).trans rfl)⟩ (fun hHeld => ?_)
        clear hK K
        refine norm_ (a' := ?_) ?_ ?_
        rotate_left
        · show Act.put _ (some 109) _ = _
          simp only [Act.put, List.setIfInBounds_toArray, List.set_cons_zero, List.set_cons_succ, i64_w, i32_w]
          rfl
        refine pure_ (i := 13) (N := some 110) (v := ?_) (a' := ?_) #[true, true, true, true, true, true, true, true, true, true, true, true, true, true, false, false, false, false, false, false, false, false, false, false, false, false, false, false, false, false, false, false, false, false, false, false, false] rfl rfl (by kernel_rfl) (fun _ _ _ h => h) (Or.inl ⟨by rfl, ?_⟩) ?_ ?_
        rotate_left
        · intro w'
          go_simp
          with_reducible rfl
        rotate_left
        · simp only [Act.put, List.setIfInBounds_toArray, List.set_cons_zero, List.set_cons_succ, i64_w, i32_w]
          rfl
        refine pure_ (i := 14) (N := some 111) (v := ?_) (a' := ?_) #[true, true, true, true, true, true, true, true, true, true, true, true, true, true, true, false, false, false, false, false, false, false, false, false, false, false, false, false, false, false, false, false, false, false, false, false, false] rfl rfl (by kernel_rfl) (fun _ _ _ h => h) (Or.inl ⟨by rfl, ?_⟩) ?_ ?_
        rotate_left
        · intro w'
          go_simp
          with_reducible rfl
        rotate_left
        · simp only [Act.put, List.setIfInBounds_toArray, List.set_cons_zero, List.set_cons_succ, i64_w, i32_w]
          rfl
        refine take_ (i := 15) (N := some 112) (v := ?_) (a' := ?_) #[true, true, true, true, true, true, true, true, true, true, true, true, true, true, true, true, false, false, false, false, false, false, false, false, false, false, false, false, false, false, false, false, false, false, false, false, false] rfl rfl (by kernel_rfl) (fun _ _ _ h => h) (Or.inl ⟨by rfl, ?_⟩) hHeld ?_ ?_
        rotate_left
        · rintro w' ⟨s0, s1, s2, s3, s4, s5, s6, s7, s8, s9, s10, s11⟩
          go_simp
          with_reducible rfl
        rotate_left
        · simp only [Act.put, List.setIfInBounds_toArray, List.set_cons_zero, List.set_cons_succ, i64_w, i32_w]
          rfl
        refine take_ (i := 16) (N := some 113) (v := ?_) (a' := ?_) #[true, true, true, true, true, true, true, true, true, true, true, true, true, true, true, true, true, false, false, false, false, false, false, false, false, false, false, false, false, false, false, false, false, false, false, false, false] rfl rfl (by kernel_rfl) (fun _ _ _ h => h) (Or.inl ⟨by rfl, ?_⟩) hHeld ?_ ?_
        rotate_left
        · rintro w' ⟨s0, s1, s2, s3, s4, s5, s6, s7, s8, s9, s10, s11⟩
          go_simp
          with_reducible rfl
        rotate_left
        · simp only [Act.put, List.setIfInBounds_toArray, List.set_cons_zero, List.set_cons_succ, i64_w, i32_w]
          rfl
        refine pure_ (i := 17) (N := some 114) (v := ?_) (a' := ?_) #[true, true, true, true, true, true, true, true, true, true, true, true, true, true, true, true, true, true, false, false, false, false, false, false, false, false, false, false, false, false, false, false, false, false, false, false, false] rfl rfl (by kernel_rfl) (fun _ _ _ h => h) (Or.inl ⟨by rfl, ?_⟩) ?_ ?_
        rotate_left
        · intro w'
          go_simp
          with_reducible rfl
        rotate_left
        · simp only [Act.put, List.setIfInBounds_toArray, List.set_cons_zero, List.set_cons_succ, i64_w, i32_w]
          rfl
        refine pure_ (i := 18) (N := some 115) (v := ?_) (a' := ?_) #[true, true, true, true, true, true, true, true, true, true, true, true, true, true, true, true, true, true, true, false, false, false, false, false, false, false, false, false, false, false, false, false, false, false, false, false, false] rfl rfl (by kernel_rfl) (fun _ _ _ h => h) (Or.inl ⟨by rfl, ?_⟩) ?_ ?_
        rotate_left
        · intro w'
          go_simp
          with_reducible rfl
        rotate_left
        · simp only [Act.put, List.setIfInBounds_toArray, List.set_cons_zero, List.set_cons_succ, i64_w, i32_w]
          rfl
        refine pure_ (i := 19) (N := some 116) (v := ?_) (a' := ?_) #[true, true, true, true, true, true, true, true, true, true, true, true, true, true, true, true, true, true, true, true, false, false, false, false, false, false, false, false, false, false, false, false, false, false, false, false, false] rfl rfl (by kernel_rfl) (fun _ _ _ h => h) (Or.inl ⟨by rfl, ?_⟩) ?_ ?_
        rotate_left
        · intro w'
          go_simp
          with_reducible rfl
        rotate_left
        · simp only [Act.put, List.setIfInBounds_toArray, List.set_cons_zero, List.set_cons_succ, i64_w, i32_w]
          rfl
        refine take_ (i := 20) (N := some 117) (v := ?_) (a' := ?_) #[true, true, true, true, true, true, true, true, true, true, true, true, true, true, true, true, true, true, true, true, true, false, false, false, false, false, false, false, false, false, false, false, false, false, false, false, false] rfl rfl (by kernel_rfl) (fun _ _ _ h => h) (Or.inl ⟨by rfl, ?_⟩) hHeld ?_ ?_
        rotate_left
        · rintro w' ⟨s0, s1, s2, s3, s4, s5, s6, s7, s8, s9, s10, s11⟩
          go_simp
          with_reducible rfl
        rotate_left
        · simp only [Act.put, List.setIfInBounds_toArray, List.set_cons_zero, List.set_cons_succ, i64_w, i32_w]
          rfl
        refine take_ (i := 21) (N := some 118) (v := ?_) (a' := ?_) #[true, true, true, true, true, true, true, true, true, true, true, true, true, true, true, true, true, true, true, true, true, true, false, false, false, false, false, false, false, false, false, false, false, false, false, false, false] rfl rfl (by kernel_rfl) (fun _ _ _ h => h) (Or.inl ⟨by rfl, ?_⟩) hHeld ?_ ?_
        rotate_left
        · rintro w' ⟨s0, s1, s2, s3, s4, s5, s6, s7, s8, s9, s10, s11⟩
          go_simp
          with_reducible rfl
        rotate_left
        · simp only [Act.put, List.setIfInBounds_toArray, List.set_cons_zero, List.set_cons_succ, i64_w, i32_w]
          rfl
        refine pure_ (i := 22) (N := some 119) (v := ?_) (a' := ?_) #[true, true, true, true, true, true, true, true, true, true, true, true, true, true, true, true, true, true, true, true, true, true, true, false, false, false, false, false, false, false, false, false, false, false, false, false, false] rfl rfl (by kernel_rfl) (fun _ _ _ h => h) (Or.inl ⟨by rfl, ?_⟩) ?_ ?_
        rotate_left
        · intro w'
          go_simp
          with_reducible rfl
        rotate_left
        · simp only [Act.put, List.setIfInBounds_toArray, List.set_cons_zero, List.set_cons_succ, i64_w, i32_w]
          rfl
        refine pure_ (i := 23) (N := some 120) (v := ?_) (a' := ?_) #[true, true, true, true, true, true, true, true, true, true, true, true, true, true, true, true, true, true, true, true, true, true, true, true, false, false, false, false, false, false, false, false, false, false, false, false, false] rfl rfl (by kernel_rfl) (fun _ _ _ h => h) (Or.inl ⟨by rfl, ?_⟩) ?_ ?_
        rotate_left
        · intro w'
          go_simp
          with_reducible rfl
        rotate_left
        · simp only [Act.put, List.setIfInBounds_toArray, List.set_cons_zero, List.set_cons_succ, i64_w, i32_w]
          rfl
        refine pure_ (i := 24) (N := some 121) (v := ?_) (a' := ?_) #[true, true, true, true, true, true, true, true, true, true, true, true, true, true, true, true, true, true, true, true, true, true, true, true, true, false, false, false, false, false, false, false, false, false, false, false, false] rfl rfl (by kernel_rfl) (fun _ _ _ h => h) (Or.inl ⟨by rfl, ?_⟩) ?_ ?_
        rotate_left
        · intro w'
          go_simp
          with_reducible rfl
        rotate_left
        · simp only [Act.put, List.setIfInBounds_toArray, List.set_cons_zero, List.set_cons_succ, i64_w, i32_w]
          rfl
        refine pure_ (i := 25) (N := some 122) (v := ?_) (a' := ?_) #[true, true, true, true, true, true, true, true, true, true, true, true, true, true, true, true, true, true, true, true, true, true, true, true, true, true, false, false, false, false, false, false, false, false, false, false, false] rfl rfl (by kernel_rfl) (fun _ _ _ h => h) (Or.inl ⟨by rfl, ?_⟩) ?_ ?_
        rotate_left
        · intro w'
          go_simp
          with_reducible rfl
        rotate_left
        · simp only [Act.put, List.setIfInBounds_toArray, List.set_cons_zero, List.set_cons_succ, i64_w, i32_w]
          rfl
        refine pure_ (i := 26) (N := some 123) (v := ?_) (a' := ?_) #[true, true, true, true, true, true, true, true, true, true, true, true, true, true, true, true, true, true, true, true, true, true, true, true, true, true, true, false, false, false, false, false, false, false, false, false, false] rfl rfl (by kernel_rfl) (fun _ _ _ h => h) (Or.inl ⟨by rfl, ?_⟩) ?_ ?_
        rotate_left
        · intro w'
          go_simp
          with_reducible rfl
        rotate_left
        · simp only [Act.put, List.setIfInBounds_toArray, List.set_cons_zero, List.set_cons_succ, i64_w, i32_w]
          rfl
        refine pure_ (i := 27) (N := some 124) (v := ?_) (a' := ?_) #[true, true, true, true, true, true, true, true, true, true, true, true, true, true, true, true, true, true, true, true, true, true, true, true, true, true, true, true, false, false, false, false, false, false, false, false, false] rfl rfl (by kernel_rfl) (fun _ _ _ h => h) (Or.inl ⟨by rfl, ?_⟩) ?_ ?_
        rotate_left
        · intro w'
          go_simp
          with_reducible rfl
        rotate_left
        · simp only [Act.put, List.setIfInBounds_toArray, List.set_cons_zero, List.set_cons_succ, i64_w, i32_w]
          rfl
        refine pure_ (i := 28) (N := some 125) (v := ?_) (a' := ?_) #[true, true, true, true, true, true, true, true, true, true, true, true, true, true, true, true, true, true, true, true, true, true, true, true, true, true, true, true, true, false, false, false, false, false, false, false, false] rfl rfl (by kernel_rfl) (fun _ _ _ h => h) (Or.inl ⟨by rfl, ?_⟩) ?_ ?_
        rotate_left
        · intro w'
          go_simp
          with_reducible rfl
        rotate_left
        · simp only [Act.put, List.setIfInBounds_toArray, List.set_cons_zero, List.set_cons_succ, i64_w, i32_w]
          rfl
        refine pure_ (i := 29) (N := some 126) (v := ?_) (a' := ?_) #[true, true, true, true, true, true, true, true, true, true, true, true, true, true, true, true, true, true, true, true, true, true, true, true, true, true, true, true, true, true, false, false, false, false, false, false, false] rfl rfl (by kernel_rfl) (fun _ _ _ h => h) (Or.inl ⟨by rfl, ?_⟩) ?_ ?_
        rotate_left
        · intro w'
          go_simp
          with_reducible rfl
        rotate_left
        · simp only [Act.put, List.setIfInBounds_toArray, List.set_cons_zero, List.set_cons_succ, i64_w, i32_w]
          rfl
        refine pure_ (i := 30) (N := some 127) (v := ?_) (a' := ?_) #[true, true, true, true, true, true, true, true, true, true, true, true, true, true, true, true, true, true, true, true, true, true, true, true, true, true, true, true, true, true, true, false, false, false, false, false, false] rfl rfl (by kernel_rfl) (fun _ _ _ h => h) (Or.inl ⟨by rfl, ?_⟩) ?_ ?_
        rotate_left
        · intro w'
          go_simp
          with_reducible rfl
        rotate_left
        · simp only [Act.put, List.setIfInBounds_toArray, List.set_cons_zero, List.set_cons_succ, i64_w, i32_w]
          rfl
        refine pure_ (i := 31) (N := some 128) (v := ?_) (a' := ?_) #[true, true, true, true, true, true, true, true, true, true, true, true, true, true, true, true, true, true, true, true, true, true, true, true, true, true, true, true, true, true, true, true, false, false, false, false, false] rfl rfl (by kernel_rfl) (fun _ _ _ h => h) (Or.inl ⟨by rfl, ?_⟩) ?_ ?_
        rotate_left
        · intro w'
          go_simp
          with_reducible rfl
        rotate_left
        · simp only [Act.put, List.setIfInBounds_toArray, List.set_cons_zero, List.set_cons_succ, i64_w, i32_w]
          rfl
        refine one_ (i := 32) (N := some 129) #[true, true, true, true, true, true, true, true, true, true, true, true, true, true, true, true, true, true, true, true, true, true, true, true, true, true, true, true, true, true, true, true, true, false, false, false, false] rfl rfl (by kernel_rfl) (by decide) (fun K hK => ?_)
        refine goes_ Try.func21 (by kernel_rfl) rfl #[.pointer (some ⟨g, 0, none⟩)] (by rfl) rfl rfl (by simp only [List.map_toArray, List.map_cons, List.map_nil]; rfl) ?_
        with_reducible refine (len_calls g b All (heldL l) l _ (HL14.out.below HB18.out) (by have := HO12.out.len; omega)).mono ?_
        rintro e1_ w19 ⟨rfl, rfl⟩
        refine ⟨_, rfl, ?_⟩
        refine hK.out _ _ ⟨((mblk_cell ((HB18.out.block _ (mblk_lt HA14.out)).trans HA14.out) 0).trans rfl), ((mblk_cell ((HB18.out.block _ (mblk_lt HA14.out)).trans HA14.out) 1).trans rfl), ((mblk_cell ((HB18.out.block _ (mblk_lt HH14.out)).trans HH14.out) 0).trans rfl), ((mblk_cell ((HB18.out.block _ (mblk_lt HH14.out)).trans HH14.out) 1).trans rfl), ((mblk_cell ((HB18.out.block _ (mblk_lt HN14.out)).trans HN14.out) 0).trans rfl), ((mblk_cell ((HB18.out.block _ (mblk_lt HN14.out)).trans HN14.out) 1).trans rfl), ((mblk_cell ((HB18.out.block _ (mblk_lt HM14.out)).trans HM14.out) 0).trans rfl), ((mblk_cell ((HB18.out.block _ (mblk_lt HM14.out)).trans HM14.out) 1).trans rfl), ((mblk_cell ((HB18.out.block _ (mblk_lt HX14.out)).trans HX14.out) 0).trans rfl), ((mblk_cell ((HB18.out.block _ (mblk_lt HX14.out)).trans HX14.out) 1).trans rfl), ((mblk_cell ((HB18.out.block _ (mblk_lt HY14.out)).trans HY14.out) 0).trans rfl), ((mblk_cell ((HB18.out.block _ (mblk_lt HY14.out)).trans HY14.out) 1).trans rfl)⟩ (fun hHeld => ?_)
        clear hK K
        refine norm_ (a' := ?_) ?_ ?_
        rotate_left
        · show Act.put _ (some 129) _ = _
          simp only [Act.put, List.setIfInBounds_toArray, List.set_cons_zero, List.set_cons_succ, i64_w, i32_w]
          rfl
        refine pure_ (i := 33) (N := some 130) (v := ?_) (a' := ?_) #[true, true, true, true, true, true, true, true, true, true, true, true, true, true, true, true, true, true, true, true, true, true, true, true, true, true, true, true, true, true, true, true, true, true, false, false, false] rfl rfl (by kernel_rfl) (fun _ _ _ h => h) (Or.inl ⟨by rfl, ?_⟩) ?_ ?_
        rotate_left
        · intro w'
          go_simp
          with_reducible rfl
        rotate_left
        · simp only [Act.put, List.setIfInBounds_toArray, List.set_cons_zero, List.set_cons_succ, i64_w, i32_w]
          rfl
        refine pure_ (i := 34) (N := some 131) (v := ?_) (a' := ?_) #[true, true, true, true, true, true, true, true, true, true, true, true, true, true, true, true, true, true, true, true, true, true, true, true, true, true, true, true, true, true, true, true, true, true, true, false, false] rfl rfl (by kernel_rfl) (fun _ _ _ h => h) (Or.inl ⟨by rfl, ?_⟩) ?_ ?_
        rotate_left
        · intro w'
          go_simp
          with_reducible rfl
        rotate_left
        · simp only [Act.put, List.setIfInBounds_toArray, List.set_cons_zero, List.set_cons_succ, i64_w, i32_w]
          rfl
        refine pure_ (i := 35) (N := some 132) (v := ?_) (a' := ?_) #[true, true, true, true, true, true, true, true, true, true, true, true, true, true, true, true, true, true, true, true, true, true, true, true, true, true, true, true, true, true, true, true, true, true, true, true, false] rfl rfl (by kernel_rfl) (fun _ _ _ h => h) (Or.inl ⟨by rfl, ?_⟩) ?_ ?_
        rotate_left
        · intro w'
          go_simp
          with_reducible rfl
        rotate_left
        · simp only [Act.put, List.setIfInBounds_toArray, List.set_cons_zero, List.set_cons_succ, i64_w, i32_w]
          rfl
        refine pure_ (i := 36) (N := some 133) (v := ?_) (a' := ?_) #[true, true, true, true, true, true, true, true, true, true, true, true, true, true, true, true, true, true, true, true, true, true, true, true, true, true, true, true, true, true, true, true, true, true, true, true, true] rfl rfl (by kernel_rfl) (fun _ _ _ h => h) (Or.inl ⟨by rfl, ?_⟩) ?_ ?_
        rotate_left
        · intro w'
          go_simp
          with_reducible rfl
        rotate_left
        · simp only [Act.put, List.setIfInBounds_toArray, List.set_cons_zero, List.set_cons_succ, i64_w, i32_w]
          rfl
        refine done_ (by kernel_rfl) ?_
        go_wp2_with fail
        go_roundw
        case rel => exact ⟨i + 1, l, by simp, by omega, by omega, ⟨HL14.out.below HB18.out⟩, HO12, ⟨below_step HB14.out HB18.out⟩, ⟨(HB18.out.block _ (mblk_lt HA14.out)).trans HA14.out⟩, ⟨HR14.out.below HB18.out⟩⟩
        case measure => simp [intOf]; omega
end Go.Proofs.Ytfldklimlcnnnaa.PureHoldNever
