/- The words and walks that the law HoldPlays is proved by, part 7: each text in a section of its own. -/
import Derived.Test.YtfldklimlcnnnaaHP6
import Derived.Laws.IdiomStrings
import Derived.Deep.CutBlock
set_option linter.unusedVariables false
set_option linter.unusedSimpArgs false
section
namespace Go.Proofs.Ytfldklimlcnnnaa.PureHoldPlays
open Go.RowKit Go.Shelf Go.Proofs.Ytfldklimlcnnnaa.PHq Go.Proofs.YtfldklimlcnnnaaW.PrintWords Go.Proofs.YtfldklimlcnnnaaW.PrintLast Go.Proofs.YtfldklimlcnnnaaW.PrintMore Go.Proofs.Ytfldklimlcnnnaa.MWords
open Go.Proofs.Ytfldklimlcnnnaa.MNat Go.Proofs.Ytfldklimlcnnnaa.QNat Go.Proofs.Ytfldklimlcnnnaa.QText Go.Proofs.Ytfldklimlcnnnaa.QEv Go.Proofs.Ytfldklimlcnnnaa.QRatio Go.Proofs.Ytfldklimlcnnnaa.XRV Go.Proofs.Ytfldklimlcnnnaa.XHold Go.Proofs.Ytfldklimlcnnnaa.XWts Go.Proofs.Ytfldklimlcnnnaa.XLed Go.Proofs.Ytfldklimlcnnnaa.XPuts Go.Proofs.Ytfldklimlcnnnaa.XNew Go.Proofs.Ytfldklimlcnnnaa.XFits Go.Proofs.Ytfldklimlcnnnaa.XJoin Go.Proofs.Ytfldklimlcnnnaa.XMeth Go.Proofs.Ytfldklimlcnnnaa.XAsk Go.Proofs.Ytfldklimlcnnnaa.XEnd Go.Proofs.Ytfldklimlcnnnaa.XAwake Go.Proofs.Ytfldklimlcnnnaa.QHold Go.Proofs.Ytfldklimlcnnnaa.XLeft Go.Proofs.Ytfldklimlcnnnaa.QLeft Go.Proofs.Ytfldklimlcnnnaa.QRef12 Go.Proofs.Ytfldklimlcnnnaa.XRef12 Go.Proofs.Ytfldklimlcnnnaa.XOp Go.Proofs.Ytfldklimlcnnnaa.XRJoin Go.Proofs.Ytfldklimlcnnnaa.XRSet Go.Proofs.Ytfldklimlcnnnaa.XRAsk Go.Proofs.Ytfldklimlcnnnaa.XRSettle Go.Proofs.Ytfldklimlcnnnaa.XRFree Go.Proofs.Ytfldklimlcnnnaa.XRFits Go.Proofs.Ytfldklimlcnnnaa.XPlay
attribute [local go_sem ↓] Go.wp_at_zero Go.wp_at_succ
theorem left_add (a b : Rat) : a + (b - a) = b := by grind
theorem and_mask_nat (k : Nat) (hk : k ≤ 62) (x m : Int) (hm : m = 2 ^ k - 1) : ∃ n : Nat, Go.bits .and .i64 x m = (n : Int) ∧ (n : Int) ≤ m := by
 have e : Go.bits .and .i64 x m = x % 2 ^ k := QBits.and_mask k hk x m hm
 have h0 : (0 : Int) < 2 ^ k := Int.pow_pos (by omega)
 have b1 := Int.emod_nonneg x (show (2 : Int) ^ k ≠ 0 by omega)
 have b2 := Int.emod_lt_of_pos x h0
 obtain ⟨n, hn⟩ := Int.eq_ofNat_of_zero_le b1
 exact ⟨n, by rw [e, hn], by rw [hm]; omega⟩
set_option maxHeartbeats 4000000 in
set_option maxRecDepth 100000 in
theorem plays_calls (p q : Int) (A : Option Addr) (cp : Nat) (xs : List OpV) (w : World) (hC : Kd.C kOp w A xs.length xs) (hc : xs.length ≤ cp) (hx : xs.length ≤ 9223372036854775807) :
  Calls Try.prog 7 #[.agg #[.int .i64 p, .int .i64 q], .slice A xs.length cp] w fun e w' => e = .returned (.bool true) ∧ Below w.heap.size w w' := by
 have mixed : Try.prog.follows Departure.mixedOrders = true := by kernel_rfl
 have HC := Aside0.mk (And.intro hC (And.intro hc hx))
 obtain ⟨n, hn, n1⟩ := and_mask_nat 3 (by omega) p 7 rfl
 obtain ⟨d', hd, d1⟩ := and_mask_nat 2 (by omega) q 3 rfl
 obtain ⟨d, hdd⟩ : ∃ d : Nat, d = 1 + d' := ⟨_, rfl⟩
 have hd2 : wrap64 (1 + (d' : Int)) = (d : Int) := by rw [QBits.w64 (by omega) (by omega)]; omega
 have hn8 : n ≤ 7 := by omega
 have hd0 : 0 < d := by omega
 have hd4 : d ≤ 4 := by omega
 have un : IntKind.u64.wrap (n : Int) = (n : Int) := by rw [IntKind.wrap_u64]; omega
 have ud : IntKind.u64.wrap (d : Int) = (d : Int) := by rw [IntKind.wrap_u64]; omega
 clear hdd n1 d1 hC hc
 have HS := Aside0.mk (mkR_sz (n := n) (d := d) (by omega) (by omega) hd0)
 go_enter Try.func7, Try.ntmps7
 go_upto_region 1 with fail
 obtain ⟨w0, hw0⟩ : ∃ w0, w0 = w.alloc (.cells #[.int .i64 p, .int .i64 q] 39) := ⟨_, rfl⟩
 have hb0 : Below w.heap.size w w0 := by rw [hw0]; exact below_alloc (Below.refl _ _) _
 have HX0 := Aside0.mk (show MBlk w0 w.heap.size 39 #[.int .i64 p, .int .i64 q] by rw [hw0]; exact mblk_new _ _ _)
 rw [← hw0]
 have HB0 := Aside0.mk hb0
 clear hw0 hb0
 go_upto_region 2 with (go_at_call 15; refine (awake_calls _).mono ?_; rintro e w1 ⟨rfl, hb⟩; have HB1 := Aside0.mk (below_step HB0.out hb); have HX1 := Aside0.mk ((hb.block _ (mblk_lt HX0.out)).trans HX0.out); clear hb)
 have x0 : w1.cell? ⟨w.heap.size, 0, none⟩ = some (.int .i64 p) := (mblk_cell HX1.out 0).trans rfl
 have x1 : w1.cell? ⟨w.heap.size, 1, none⟩ = some (.int .i64 q) := (mblk_cell HX1.out 1).trans rfl
 go_upto_region 3 with (go_at_call 17; refine (one_rv n d (by omega) (by omega) _).mono ?_; rintro e w2 ⟨q1, q2, rfl, h1, hb⟩; obtain ⟨P1, e1, P2, e2, rfl, rfl⟩ := h1.shape; have HB2 := Aside0.mk (below_step HB1.out hb); have H2 := Aside0.mk h1; clear h1 hb)
 obtain ⟨ga, hga⟩ : ∃ ga, ga = w2.heap.size := ⟨_, rfl⟩
 obtain ⟨w3, hw3⟩ : ∃ w3, w3 = w2.alloc (.cells #[.slice P1 (limbs n).length e1, .slice P2 (limbs d).length e2] 28) := ⟨_, rfl⟩
 have hb3 : Below w2.heap.size w2 w3 := by rw [hw3]; exact below_alloc (Below.refl _ _) _
 have HB3 := Aside0.mk (below_step HB2.out hb3)
 have HA3 := Aside0.mk (show MBlk w3 ga 28 #[.slice P1 (limbs n).length e1, .slice P2 (limbs d).length e2] by rw [hw3, hga]; exact mblk_new _ _ _)
 have HR3 := Aside0.mk (H2.out.below hb3)
 rw [← hw3, ← hga]
 clear hw3 hga hb3 H2 HB2 HB1 HB0 HX0 HX1 x0 x1
 have z0 : w3.cell? ⟨ga, 0, none⟩ = some (.slice P1 (limbs n).length e1) := (mblk_cell HA3.out 0).trans rfl
 have z1 : w3.cell? ⟨ga, 1, none⟩ = some (.slice P2 (limbs d).length e2) := (mblk_cell HA3.out 1).trans rfl
 go_upto_region 6 with (go_at_call 16; refine (new_calls _ _ n d 2 w3 HR3.out (F_u64 (by omega)) (F_u64 (by omega)) (by omega) hd0).mono ?_; rintro e w4 ⟨g, b, rfl, hl, hb, hg1, hg2⟩; have HL4 := Aside0.mk (show Led w4 g b (mkRat (n : Int) d) (heldL []) [] from hl); have HB4 := Aside0.mk (below_step HB3.out hb); have HA4 := Aside0.mk ((hb.block _ (mblk_lt HA3.out)).trans HA3.out); have HR4 := Aside0.mk (HR3.out.below hb); have HG := Aside0.mk (And.intro (Nat.le_trans HB3.out.size hg1) (Nat.le_trans HB3.out.size hg2)); clear hl hb hg1 hg2)
 clear HB3 HA3 HR3 z0 z1
 obtain ⟨ln, hln⟩ : ∃ ln, ln = limbs n := ⟨_, rfl⟩
 obtain ⟨ld, hld⟩ : ∃ ld, ld = limbs d := ⟨_, rfl⟩
 rw [← hln, ← hld] at HA4 HR4 ⊢
 have HLL := Aside0.mk (And.intro hln hld)
 clear hln hld
 have z0 : w4.cell? ⟨ga, 0, none⟩ = some (.slice P1 ln.length e1) := (mblk_cell HA4.out 0).trans rfl
 have z1 : w4.cell? ⟨ga, 1, none⟩ = some (.slice P2 ld.length e2) := (mblk_cell HA4.out 1).trans rfl
 go_upto_block 0 with fail
 obtain ⟨gr, hgr⟩ : ∃ gr, gr = w4.heap.size := ⟨_, rfl⟩
 obtain ⟨w5, hw5⟩ : ∃ w5, w5 = w4.alloc (.cells #[.slice P1 ln.length e1, .slice P2 ld.length e2, .slice none 0 0] 57) := ⟨_, rfl⟩
 have hb5 : Below w4.heap.size w4 w5 := by rw [hw5]; exact below_alloc (Below.refl _ _) _
 have HGR := Aside0.mk (show w.heap.size ≤ gr by rw [hgr]; exact HB4.out.size)
 rw [← hw5, ← hgr]
 obtain ⟨xa, hxa⟩ : ∃ xa : Value, xa = .slice P1 ln.length e1 := ⟨_, rfl⟩
 obtain ⟨ya, hya⟩ : ∃ ya : Value, ya = .slice P2 ld.length e2 := ⟨_, rfl⟩
 have HXY := Aside0.mk (And.intro hxa hya)
 obtain ⟨All, hAll⟩ : ∃ All, All = mkRat (n : Int) d := ⟨_, rfl⟩
 rw [← hAll] at HL4 HS
 have H0 := Aside0.mk (show Ok All [] 0 from ⟨good_nil, by simp, by rw [hAll]; exact mk_nonneg _ _⟩)
 have HAL := Aside0.mk hAll
 clear hAll
 have HP5 := Aside0.mk (show Pl w w5 g b gr All xa ya ln ld ga [] [] from ⟨HL4.out.below hb5, ⟨⟨.slice none 0 0, by rw [hxa, hya, hw5, hgr]; exact mblk_new _ _ _, Kd.R_nil _ _ _ _ _⟩, ⟨⟨_, _, _, hxa⟩, _, _, _, hya⟩⟩, below_step HB4.out hb5, by rw [hxa, hya]; exact (hb5.block _ (mblk_lt HA4.out)).trans HA4.out, by rw [hxa, hya]; exact HR4.out.below hb5⟩)
 clear hw5 hb5 hgr z0 z1 HL4 HB4 HA4 HR4 hxa hya
 go_wp2_with fail
 go_loopw [9] (fun v9 wr => ∃ (i : Nat) (l : List (Int × Hd)), v9 = .int .i64 i ∧ i ≤ 50 ∧ i ≤ xs.length ∧ Aside0 (Pl w wr g b gr All xa ya ln ld ga l l) ∧ Aside0 (Ok All l i) ∧ Aside0 (SmallL l)) (fun v9 _ => 50 - (intOf v9).toNat)
 case atStart => exact ⟨0, [], rfl, by omega, by omega, HP5, H0, ⟨fun _ h => by cases h⟩⟩
 case round =>
  obtain ⟨i, l, rfl, hi, hix, HP, HO, HSM⟩ := hrel
  by_cases hlt : i < xs.length ∧ i < 50
  case neg =>
   by_cases h1 : i < xs.length
   ·have h2 : i = 50 := by omega
    subst h2
    have dd : decide (((50 : Nat) : Int) < (xs.length : Int)) = true := decide_eq_true (by omega)
    clear hlt
    go_wp2_with fail
    exact bodyPost_ret (results_tmp rfl _ _ _) rfl ⟨rfl, HP.out.bel⟩
   ·have h2 : i = xs.length := by omega
    subst h2
    clear hlt h1
    go_wp2_with fail
    exact bodyPost_ret (results_tmp rfl _ _ _) rfl ⟨rfl, HP.out.bel⟩
  obtain ⟨hlx, hl50⟩ := hlt
  have dd1 : decide ((i : Int) < (xs.length : Int)) = true := decide_eq_true (by omega)
  have dd2 : decide ((i : Int) < 50) = true := decide_eq_true (by omega)
  obtain ⟨ad, e, a0, a1, a2, a3, a4, a5⟩ := at_Op (Kd.C_below HC.out.1 HP.out.bel) i hlx
  subst e
  generalize xs.getD i opZ = o at a0 a1 a2 a3 a4 a5
  obtain ⟨o0, o1, ⟨o2, o3⟩, o4, o5⟩ := o
  simp only at a0 a1 a2 a3 a4 a5
  go_upto_region 11 with fail
  obtain ⟨go, hgo⟩ : ∃ go, go = wr.heap.size := ⟨_, rfl⟩
  obtain ⟨w6, hw6⟩ : ∃ w6, w6 = wr.alloc (.cells #[.int .i64 o0, .int .i64 o1, .int .i64 o2, .int .i64 o3, .int .i64 o4, .int .i64 o5] 48) := ⟨_, rfl⟩
  have hb6 : Below wr.heap.size wr w6 := by rw [hw6]; exact below_alloc (Below.refl _ _) _
  have HX6 := Aside0.mk (show MBlk w6 go 48 #[.int .i64 o0, .int .i64 o1, .int .i64 o2, .int .i64 o3, .int .i64 o4, .int .i64 o5] by rw [hw6, hgo]; exact mblk_new _ _ _)
  have HP6 := Aside0.mk (HP.out.below hb6)
  rw [← hw6, ← hgo]
  clear hw6 hgo hb6 HP a0 a1 a2 a3 a4 a5
  obtain ⟨z, hz, z15⟩ := and_mask_nat 4 (by omega) o1 15 rfl
  have HZ := Aside0.mk (wfI_of (x := (z : Int)) (by omega) (by omega))
  have oc1 : w6.cell? ⟨go, 1, none⟩ = some (.int .i64 o1) := (mblk_cell HX6.out 1).trans rfl
  go_upto_region 12 with fail
  clear oc1 hz z15
  have oc2 : w6.cell? ⟨go, 2, none⟩ = some (.int .i64 o2) := (mblk_cell HX6.out 2).trans rfl
  have oc3 : w6.cell? ⟨go, 3, none⟩ = some (.int .i64 o3) := (mblk_cell HX6.out 3).trans rfl
  obtain ⟨X, hX⟩ : ∃ X, X = madeW o2 o3 := ⟨_, rfl⟩
  have HX := Aside0.mk hX
  clear hX
  go_upto_region 13 with (go_at_call 29; refine (made_any o2 o3 _).mono ?_; rw [← HX.out]; rintro e w7 ⟨rfl, hb⟩; have HP7 := Aside0.mk (HP6.out.below hb); have HX7 := Aside0.mk ((hb.block _ (mblk_lt HX6.out)).trans HX6.out); clear hb)
  obtain ⟨gx, hgx⟩ : ∃ gx, gx = w7.heap.size := ⟨_, rfl⟩
  obtain ⟨w8, hw8⟩ : ∃ w8, w8 = w7.alloc (.cells #[.int .i64 X.f0, .int .i64 X.f1] 34) := ⟨_, rfl⟩
  have hb8 : Below w7.heap.size w7 w8 := by rw [hw8]; exact below_alloc (Below.refl _ _) _
  have HW8 := Aside0.mk (show MBlk w8 gx 34 #[.int .i64 X.f0, .int .i64 X.f1] by rw [hw8, hgx]; exact mblk_new _ _ _)
  have HX8 := Aside0.mk (show MBlk w8 go 48 #[.int .i64 o0, .int .i64 o1, .int .i64 o2, .int .i64 o3, .int .i64 o4, .int .i64 o5] from (hb8.block _ (mblk_lt HX7.out)).trans HX7.out)
  have HP8 := Aside0.mk (HP7.out.below hb8)
  rw [← hw8, ← hgx]
  clear hw8 hgx hb8 HP6 HX6 HP7 HX7 oc2 oc3 HX
  obtain ⟨kd, hkd, kd7⟩ := and_mask_nat 3 (by omega) o0 7 rfl
  have oc0 : w8.cell? ⟨go, 0, none⟩ = some (.int .i64 o0) := (mblk_cell HX8.out 0).trans rfl
  go_upto_block 2 with fail
  clear oc0 hkd
  have HNK := Aside0.mk (Led.nodk HP8.out.led)
  have hlen := HO.out.len
  have HN := Aside0.mk (show n < 18446744073709551616 ∧ d < 18446744073709551616 ∧ 0 < d from ⟨by omega, by omega, hd0⟩)
  go_cut [13] from 59 to 172 (fun v13 wc => ∃ (l2 : List (Int × Hd)), v13 = .bool true ∧ Aside0 (Pl w wc g b gr All xa ya ln ld ga l2 l2) ∧ Aside0 (Ok All l2 (i + 1)) ∧ Aside0 (SmallL l2))
  case first =>
   have x0 : w8.cell? ⟨gx, 0, none⟩ = some (.int .i64 X.f0) := (mblk_cell HW8.out 0).trans rfl
   have x1 : w8.cell? ⟨gx, 1, none⟩ = some (.int .i64 X.f1) := (mblk_cell HW8.out 1).trans rfl
   by_cases k3 : kd = 3
   ·subst k3
    as_aux_lemma =>
     go_upto_region 17 with fail
     obtain ⟨E, hE⟩ : ∃ E, E = askE All (heldL l) l (z : Int) X := ⟨_, rfl⟩
     have HE := Aside0.mk hE
     clear hE
     have HBE : (E == E) = true := beq_self_eq_true _
     go_region_held3 (fun w' => w'.cell? ⟨gx, 0, none⟩ = some (.int .i64 X.f0) ∧ w'.cell? ⟨gx, 1, none⟩ = some (.int .i64 X.f1))
      (first | (exact ⟨x0, x1⟩) | go_keep)
      (first
       | (go_at_call 28; refine (ask_calls g b All l (z : Int) X _ (HP8.out.below (below_drew (Below.refl _ _))).led HS.out HO.out.good (by have := HO.out.len; omega) HZ.out).mono ?_; rw [← HE.out]; rintro e w12 ⟨rfl, hl, hk⟩; have HP12 := Aside0.mk ((HP8.out.below (below_drew (Below.refl _ _))).kp hk hl HG.out.1 HG.out.2); have HW12 := Aside0.mk ((HP8.out.below (below_drew (Below.refl _ _))).blkp hk (((below_drew (Below.refl _ _)).block _ (mblk_lt HW8.out)).trans HW8.out) (by decide)); have x0 : w12.cell? ⟨gx, 0, none⟩ = some (.int .i64 X.f0) := (mblk_cell HW12.out 0).trans rfl; have x1 : w12.cell? ⟨gx, 1, none⟩ = some (.int .i64 X.f1) := (mblk_cell HW12.out 1).trans rfl; clear hl hk)
       | (go_at_call 31; refine (rask_calls gr w.heap.size xa ya l (z : Int) X n d w12 HP12.out.rl (show RV _ xa ya (limbs n) (limbs d) by rw [← HLL.out.1, ← HLL.out.2]; exact HP12.out.rv) HN.out.1 HN.out.2.1 HN.out.2.2 HO.out.good HSM.out (by have := HO.out.len; omega) (HP12.out.bel.size) HNK.out).mono ?_; rw [← HAL.out, ← HE.out]; rintro e w13 ⟨rfl, hr, hk⟩; have HP13 := Aside0.mk (HP12.out.kr hk hr HGR.out); have x0 : w13.cell? ⟨gx, 0, none⟩ = some (.int .i64 X.f0) := (mblk_cell (HP12.out.blkr hk HW12.out (by decide) (by decide)) 0).trans rfl; have x1 : w13.cell? ⟨gx, 1, none⟩ = some (.int .i64 X.f1) := (mblk_cell (HP12.out.blkr hk HW12.out (by decide) (by decide)) 1).trans rfl; clear hr hk))
     all_goals
      go_wp2_with fail
      go_meet
      case rel => exact ⟨_, by first | rfl | (simp; done), HP13, ⟨ok_ask HO.out (by omega) HNK.out _ _⟩, ⟨small_ask HSM.out⟩⟩
   have n3 : ((kd : Int) == 3) = false := beq_eq_false_iff_ne.2 (by omega)
   by_cases k4 : kd = 4
   ·subst k4
    as_aux_lemma =>
     obtain ⟨E, hE⟩ : ∃ E, E = settleE l (z : Int) := ⟨_, rfl⟩
     have HE := Aside0.mk hE
     clear hE
     have HBE : (E == E) = true := beq_self_eq_true _
     go_wp2_with (first
      | (go_at_call 30; refine (settle_calls g b All l (z : Int) _ HP8.out.led HO.out.good (by have := HO.out.len; omega) HZ.out).mono ?_; rw [← HE.out]; rintro e w12 ⟨rfl, hl, hk⟩; have HP12 := Aside0.mk (HP8.out.kp hk hl HG.out.1 HG.out.2); clear hl hk)
      | (go_at_call 32; refine (rsettle_calls gr w.heap.size xa ya l (z : Int) w12 HP12.out.rl (by have := HO.out.len; omega) HNK.out).mono ?_; rw [← HE.out]; rintro e w13 ⟨rfl, hr, hk⟩; have HP13 := Aside0.mk (HP12.out.kr hk hr HGR.out); clear hr hk))
     go_meet
     case rel => exact ⟨_, by first | rfl | (simp; done), HP13, ⟨ok_settle HO.out (by omega) HNK.out _⟩, ⟨small_settle HSM.out⟩⟩
   have n4 : ((kd : Int) == 4) = false := beq_eq_false_iff_ne.2 (by omega)
   by_cases k5 : kd = 5
   ·subst k5
    as_aux_lemma =>
     obtain ⟨E, hE⟩ : ∃ E, E = freeE l (z : Int) := ⟨_, rfl⟩
     have HE := Aside0.mk hE
     clear hE
     have HBE : (E == E) = true := beq_self_eq_true _
     go_wp2_with (first
      | (go_at_call 25; refine (free_calls g b All l (z : Int) _ HP8.out.led HO.out.good HZ.out).mono ?_; rw [← HE.out]; rintro e w12 ⟨rfl, hl, hk⟩; have HP12 := Aside0.mk (HP8.out.kp hk hl HG.out.1 HG.out.2); clear hl hk)
      | (go_at_call 33; refine (rfree_calls gr w.heap.size xa ya l (z : Int) w12 HP12.out.rl (by have := HO.out.len; omega) HNK.out (HP12.out.bel.size)).mono ?_; rw [← HE.out]; rintro e w13 ⟨rfl, hr, hk⟩; have HP13 := Aside0.mk (HP12.out.kr hk hr HGR.out); clear hr hk))
     go_meet
     case rel => exact ⟨_, by first | rfl | (simp; done), HP13, ⟨ok_free HO.out HNK.out _⟩, ⟨small_free HSM.out⟩⟩
   have n5 : ((kd : Int) == 5) = false := beq_eq_false_iff_ne.2 (by omega)
   by_cases k6 : kd = 6
   ·subst k6
    as_aux_lemma =>
     go_upto_region 23 with fail
     have x4 : w8.cell? ⟨go, 4, none⟩ = some (.int .i64 o4) := (mblk_cell HX8.out 4).trans rfl
     have x5 : w8.cell? ⟨go, 5, none⟩ = some (.int .i64 o5) := (mblk_cell HX8.out 5).trans rfl
     obtain ⟨I, hI⟩ : ∃ I, I = madeW o4 o5 := ⟨_, rfl⟩
     have HI := Aside0.mk hI
     have HI2 := Aside0.mk hI
     obtain ⟨B, hB⟩ : ∃ B, B = fitsW All (heldL l) X I := ⟨_, rfl⟩
     have HBF := Aside0.mk hB
     clear hI hB
     have HBE : (B == B) = true := beq_self_eq_true _
     go_region_held3 (fun w' => w'.cell? ⟨gx, 0, none⟩ = some (.int .i64 X.f0) ∧ w'.cell? ⟨gx, 1, none⟩ = some (.int .i64 X.f1) ∧ w'.cell? ⟨go, 4, none⟩ = some (.int .i64 o4) ∧ w'.cell? ⟨go, 5, none⟩ = some (.int .i64 o5))
      (first | (exact ⟨x0, x1, x4, x5⟩) | go_keep)
      (first
       | (go_at_call 29; refine (made_any o4 o5 _).mono ?_; rw [← HI.out]; rintro e w12 ⟨rfl, hb⟩; have hbb : Below w8.heap.size w8 w12 := below_step (below_drew (Below.refl _ _)) hb; have HB12 := Aside0.mk hbb; have x0 : w12.cell? ⟨gx, 0, none⟩ = some (.int .i64 X.f0) := (mblk_cell ((hbb.block _ (mblk_lt HW8.out)).trans HW8.out) 0).trans rfl; have x1 : w12.cell? ⟨gx, 1, none⟩ = some (.int .i64 X.f1) := (mblk_cell ((hbb.block _ (mblk_lt HW8.out)).trans HW8.out) 1).trans rfl; have x4 : w12.cell? ⟨go, 4, none⟩ = some (.int .i64 o4) := (mblk_cell ((hbb.block _ (mblk_lt HX8.out)).trans HX8.out) 4).trans rfl; have x5 : w12.cell? ⟨go, 5, none⟩ = some (.int .i64 o5) := (mblk_cell ((hbb.block _ (mblk_lt HX8.out)).trans HX8.out) 5).trans rfl; clear hb hbb HI)
       | (go_at_call 22; refine (Fits_calls g b All (heldL l) l X I _ (HP8.out.below HB12.out).led HS.out (sz_mono (held_sz HO.out.good) (by omega))).mono ?_; rw [← HBF.out]; rintro e w13 ⟨rfl, hb⟩; have hbb : Below w8.heap.size w8 w13 := below_step HB12.out hb; have HB13 := Aside0.mk hbb; have x0 : w13.cell? ⟨gx, 0, none⟩ = some (.int .i64 X.f0) := (mblk_cell ((hbb.block _ (mblk_lt HW8.out)).trans HW8.out) 0).trans rfl; have x1 : w13.cell? ⟨gx, 1, none⟩ = some (.int .i64 X.f1) := (mblk_cell ((hbb.block _ (mblk_lt HW8.out)).trans HW8.out) 1).trans rfl; have x4 : w13.cell? ⟨go, 4, none⟩ = some (.int .i64 o4) := (mblk_cell ((hbb.block _ (mblk_lt HX8.out)).trans HX8.out) 4).trans rfl; have x5 : w13.cell? ⟨go, 5, none⟩ = some (.int .i64 o5) := (mblk_cell ((hbb.block _ (mblk_lt HX8.out)).trans HX8.out) 5).trans rfl; clear hb hbb HB12)
       | (go_at_call 29; refine (made_any o4 o5 _).mono ?_; rw [← HI2.out]; rintro e w14 ⟨rfl, hb⟩; have hbb : Below w8.heap.size w8 w14 := below_step HB13.out hb; have HB14 := Aside0.mk hbb; have x0 : w14.cell? ⟨gx, 0, none⟩ = some (.int .i64 X.f0) := (mblk_cell ((hbb.block _ (mblk_lt HW8.out)).trans HW8.out) 0).trans rfl; have x1 : w14.cell? ⟨gx, 1, none⟩ = some (.int .i64 X.f1) := (mblk_cell ((hbb.block _ (mblk_lt HW8.out)).trans HW8.out) 1).trans rfl; have x4 : w14.cell? ⟨go, 4, none⟩ = some (.int .i64 o4) := (mblk_cell ((hbb.block _ (mblk_lt HX8.out)).trans HX8.out) 4).trans rfl; have x5 : w14.cell? ⟨go, 5, none⟩ = some (.int .i64 o5) := (mblk_cell ((hbb.block _ (mblk_lt HX8.out)).trans HX8.out) 5).trans rfl; clear hb hbb HB13 HI2)
       | (go_at_call 34; refine (rFits_calls gr w.heap.size xa ya l X I n d _ (HP8.out.below HB14.out).rl (show RV _ xa ya (limbs n) (limbs d) by rw [← HLL.out.1, ← HLL.out.2]; exact (HP8.out.below HB14.out).rv) HN.out.1 HN.out.2.1 HN.out.2.2 HO.out.good HSM.out).mono ?_; rw [← HAL.out, ← HBF.out]; rintro e w15 ⟨rfl, hb⟩; have hbb : Below w8.heap.size w8 w15 := below_step HB14.out hb; have HB15 := Aside0.mk hbb; have x0 : w15.cell? ⟨gx, 0, none⟩ = some (.int .i64 X.f0) := (mblk_cell ((hbb.block _ (mblk_lt HW8.out)).trans HW8.out) 0).trans rfl; have x1 : w15.cell? ⟨gx, 1, none⟩ = some (.int .i64 X.f1) := (mblk_cell ((hbb.block _ (mblk_lt HW8.out)).trans HW8.out) 1).trans rfl; have x4 : w15.cell? ⟨go, 4, none⟩ = some (.int .i64 o4) := (mblk_cell ((hbb.block _ (mblk_lt HX8.out)).trans HX8.out) 4).trans rfl; have x5 : w15.cell? ⟨go, 5, none⟩ = some (.int .i64 o5) := (mblk_cell ((hbb.block _ (mblk_lt HX8.out)).trans HX8.out) 5).trans rfl; clear hb hbb HB14))
     all_goals
      go_wp2_with fail
      go_meet
      case rel => exact ⟨l, by first | rfl | (simp; done), ⟨HP8.out.below HB15.out⟩, ⟨HO.out.mono (by omega)⟩, HSM⟩
   have n6 : ((kd : Int) == 6) = false := beq_eq_false_iff_ne.2 (by omega)
   by_cases k7 : kd = 7
   ·subst k7
    cases hg : getL l (z : Int) with
    | none =>
     as_aux_lemma =>
      have HHAS := Aside0.mk (show hasL l (z : Int) = false by rw [getL_has, hg]; rfl)
      have HAT := Aside0.mk (at_none (has_none HHAS.out))
      have HH := Aside0.mk (show (⟨0, 0, 0, 0, false⟩ : Hd) = (getL l (z : Int)).getD zeroH by rw [hg]; rfl)
      clear hg
      go_upto_region 26 with (go_at_call 27; refine (of_calls g b All (heldL l) l (z : Int) ⟨0, 0, 0, 0, false⟩ _ HP8.out.led HZ.out HH.out).mono ?_; rw [HHAS.out]; rintro e w12 ⟨rfl, hb⟩; have HB12 := Aside0.mk hb; clear hb)
      obtain ⟨gn, hgn⟩ : ∃ gn, gn = w12.heap.size := ⟨_, rfl⟩
      obtain ⟨w13, hw13⟩ : ∃ w13, w13 = (w12.alloc (.cells #[.int .i64 0, .int .i64 0] 34)).alloc (.cells #[.int .i64 0, .int .i64 0] 34) := ⟨_, rfl⟩
      have hb13 : Below w8.heap.size w8 w13 := by rw [hw13]; exact below_alloc (below_alloc HB12.out _) _
      have HN13 := Aside0.mk (show MBlk w13 gn 34 #[.int .i64 0, .int .i64 0] by rw [hw13, hgn]; exact mblk_alloc (mblk_new _ _ _) _)
      have HM13 := Aside0.mk (show MBlk w13 (gn + 1) 34 #[.int .i64 0, .int .i64 0] by rw [hw13, hgn, show w12.heap.size + 1 = (w12.alloc (.cells #[.int .i64 0, .int .i64 0] 34)).heap.size by simp]; exact mblk_new _ _ _)
      have HP13 := Aside0.mk (HP8.out.below hb13)
      rw [← hw13, ← hgn]
      clear hw13 hgn hb13 HB12 HP8 HW8 HX8 x0 x1
      go_upto_region 27 with (go_at_call 35; refine (at_calls gr w.heap.size xa ya l (z : Int) _ HP13.out.rl (by have := HO.out.len; omega)).mono ?_; rw [HAT.out]; rintro e w14 ⟨rfl, rfl⟩)
      go_upto_region 28 with fail
      obtain ⟨gz, hgz⟩ : ∃ gz, gz = w14.heap.size := ⟨_, rfl⟩
      obtain ⟨w15, hw15⟩ : ∃ w15, w15 = w14.alloc (.cells #[.int .i64 0, .int .i64 0] 34) := ⟨_, rfl⟩
      have hb15 : Below w14.heap.size w14 w15 := by rw [hw15]; exact below_alloc (Below.refl _ _) _
      have HN15 := Aside0.mk (show MBlk w15 gn 34 #[.int .i64 0, .int .i64 0] from (hb15.block _ (mblk_lt HN13.out)).trans HN13.out)
      have HM15 := Aside0.mk (show MBlk w15 (gn + 1) 34 #[.int .i64 0, .int .i64 0] from (hb15.block _ (mblk_lt HM13.out)).trans HM13.out)
      have HZ15 := Aside0.mk (show MBlk w15 gz 34 #[.int .i64 0, .int .i64 0] by rw [hw15, hgz]; exact mblk_new _ _ _)
      have HP15 := Aside0.mk (HP13.out.below hb15)
      rw [← hw15, ← hgz]
      clear hw15 hgz hb15 HP13 HN13 HM13
      have q0 : w15.cell? ⟨gn, 0, none⟩ = some (.int .i64 0) := (mblk_cell HN15.out 0).trans rfl
      have q1 : w15.cell? ⟨gn, 1, none⟩ = some (.int .i64 0) := (mblk_cell HN15.out 1).trans rfl
      have q2 : w15.cell? ⟨gn + 1, 0, none⟩ = some (.int .i64 0) := (mblk_cell HM15.out 0).trans rfl
      have q3 : w15.cell? ⟨gn + 1, 1, none⟩ = some (.int .i64 0) := (mblk_cell HM15.out 1).trans rfl
      have q4 : w15.cell? ⟨gz, 0, none⟩ = some (.int .i64 0) := (mblk_cell HZ15.out 0).trans rfl
      have q5 : w15.cell? ⟨gz, 1, none⟩ = some (.int .i64 0) := (mblk_cell HZ15.out 1).trans rfl
      refine start_ (n := 46) (S := fun w' => w'.cell? ⟨gn, 0, none⟩ = some (.int .i64 0) ∧ w'.cell? ⟨gn, 1, none⟩ = some (.int .i64 0) ∧ w'.cell? ⟨gn + 1, 0, none⟩ = some (.int .i64 0) ∧ w'.cell? ⟨gn + 1, 1, none⟩ = some (.int .i64 0) ∧ w'.cell? ⟨gz, 0, none⟩ = some (.int .i64 0) ∧ w'.cell? ⟨gz, 1, none⟩ = some (.int .i64 0)) (ds := []) #[false, false, false, false, false, false, false, false, false, false, false, false, false, false, false, false, false, false, false, false, false, false, false, false, false, false, false, false, false, false, false, false, false, false, false, false, false, false, false, false, false, false, false, false, false, false] (by kernel_rfl) rfl rfl ⟨q0, q1, q2, q3, q4, q5⟩ (fun hHeld => ?_)
      refine pure_ (i := 0) (N := some 128) (v := ?_) (a' := ?_) #[true, false, false, false, false, false, false, false, false, false, false, false, false, false, false, false, false, false, false, false, false, false, false, false, false, false, false, false, false, false, false, false, false, false, false, false, false, false, false, false, false, false, false, false, false, false] rfl rfl (by kernel_rfl) (fun _ _ _ h => h) (Or.inl ⟨by rfl, ?_⟩) ?_ ?_
      rotate_left
      ·intro w'
       go_simp
       with_reducible rfl
      rotate_left
      ·simp only [Act.put, List.setIfInBounds_toArray, List.set_cons_zero, List.set_cons_succ, i64_w, i32_w]
       rfl
      refine pure_ (i := 1) (N := some 129) (v := ?_) (a' := ?_) #[true, true, false, false, false, false, false, false, false, false, false, false, false, false, false, false, false, false, false, false, false, false, false, false, false, false, false, false, false, false, false, false, false, false, false, false, false, false, false, false, false, false, false, false, false, false] rfl rfl (by kernel_rfl) (fun _ _ _ h => h) (Or.inl ⟨by rfl, ?_⟩) ?_ ?_
      rotate_left
      ·intro w'
       go_simp
       with_reducible rfl
      rotate_left
      ·simp only [Act.put, List.setIfInBounds_toArray, List.set_cons_zero, List.set_cons_succ, i64_w, i32_w]
       rfl
      refine pure_ (i := 2) (N := some 130) (v := ?_) (a' := ?_) #[true, true, true, false, false, false, false, false, false, false, false, false, false, false, false, false, false, false, false, false, false, false, false, false, false, false, false, false, false, false, false, false, false, false, false, false, false, false, false, false, false, false, false, false, false, false] rfl rfl (by kernel_rfl) (fun _ _ _ h => h) (Or.inl ⟨by rfl, ?_⟩) ?_ ?_
      rotate_left
      ·intro w'
       go_simp
       with_reducible rfl
      rotate_left
      ·simp only [Act.put, List.setIfInBounds_toArray, List.set_cons_zero, List.set_cons_succ, i64_w, i32_w]
       rfl
      refine pure_ (i := 3) (N := some 131) (v := ?_) (a' := ?_) #[true, true, true, true, false, false, false, false, false, false, false, false, false, false, false, false, false, false, false, false, false, false, false, false, false, false, false, false, false, false, false, false, false, false, false, false, false, false, false, false, false, false, false, false, false, false] rfl rfl (by kernel_rfl) (fun _ _ _ h => h) (Or.inl ⟨by rfl, ?_⟩) ?_ ?_
      rotate_left
      ·intro w'
       go_simp
       with_reducible rfl
      rotate_left
      ·simp only [Act.put, List.setIfInBounds_toArray, List.set_cons_zero, List.set_cons_succ, i64_w, i32_w]
       rfl
      refine pure_ (i := 4) (N := some 132) (v := ?_) (a' := ?_) #[true, true, true, true, true, false, false, false, false, false, false, false, false, false, false, false, false, false, false, false, false, false, false, false, false, false, false, false, false, false, false, false, false, false, false, false, false, false, false, false, false, false, false, false, false, false] rfl rfl (by kernel_rfl) (fun _ _ _ h => h) (Or.inl ⟨by rfl, ?_⟩) ?_ ?_
      rotate_left
      ·intro w'
       go_simp
       with_reducible rfl
      rotate_left
      ·simp only [Act.put, List.setIfInBounds_toArray, List.set_cons_zero, List.set_cons_succ, i64_w, i32_w]
       rfl
      refine pure_ (i := 5) (N := some 133) (v := ?_) (a' := ?_) #[true, true, true, true, true, true, false, false, false, false, false, false, false, false, false, false, false, false, false, false, false, false, false, false, false, false, false, false, false, false, false, false, false, false, false, false, false, false, false, false, false, false, false, false, false, false] rfl rfl (by kernel_rfl) (fun _ _ _ h => h) (Or.inl ⟨by rfl, ?_⟩) ?_ ?_
      rotate_left
      ·intro w'
       go_simp
       with_reducible rfl
      rotate_left
      ·simp only [Act.put, List.setIfInBounds_toArray, List.set_cons_zero, List.set_cons_succ, i64_w, i32_w]
       rfl
      refine pure_ (i := 6) (N := some 134) (v := ?_) (a' := ?_) #[true, true, true, true, true, true, true, false, false, false, false, false, false, false, false, false, false, false, false, false, false, false, false, false, false, false, false, false, false, false, false, false, false, false, false, false, false, false, false, false, false, false, false, false, false, false] rfl rfl (by kernel_rfl) (fun _ _ _ h => h) (Or.inl ⟨by rfl, ?_⟩) ?_ ?_
      rotate_left
      ·intro w'
       go_simp
       with_reducible rfl
      rotate_left
      ·simp only [Act.put, List.setIfInBounds_toArray, List.set_cons_zero, List.set_cons_succ, i64_w, i32_w]
       rfl
      refine pure_ (i := 7) (N := some 135) (v := ?_) (a' := ?_) #[true, true, true, true, true, true, true, true, false, false, false, false, false, false, false, false, false, false, false, false, false, false, false, false, false, false, false, false, false, false, false, false, false, false, false, false, false, false, false, false, false, false, false, false, false, false] rfl rfl (by kernel_rfl) (fun _ _ _ h => h) (Or.inl ⟨by rfl, ?_⟩) ?_ ?_
      rotate_left
      ·intro w'
       go_simp
       with_reducible rfl
      rotate_left
      ·simp only [Act.put, List.setIfInBounds_toArray, List.set_cons_zero, List.set_cons_succ, i64_w, i32_w]
       rfl
      refine take_ (i := 8) (N := some 136) (v := ?_) (a' := ?_) #[true, true, true, true, true, true, true, true, true, false, false, false, false, false, false, false, false, false, false, false, false, false, false, false, false, false, false, false, false, false, false, false, false, false, false, false, false, false, false, false, false, false, false, false, false, false] rfl rfl (by kernel_rfl) (fun _ _ _ h => h) (Or.inl ⟨by rfl, ?_⟩) hHeld ?_ ?_
      rotate_left
      ·rintro w' ⟨s0, s1, s2, s3, s4, s5⟩
       go_simp
       with_reducible rfl
      rotate_left
      ·simp only [Act.put, List.setIfInBounds_toArray, List.set_cons_zero, List.set_cons_succ, i64_w, i32_w]
       rfl
      refine take_ (i := 9) (N := some 137) (v := ?_) (a' := ?_) #[true, true, true, true, true, true, true, true, true, true, false, false, false, false, false, false, false, false, false, false, false, false, false, false, false, false, false, false, false, false, false, false, false, false, false, false, false, false, false, false, false, false, false, false, false, false] rfl rfl (by kernel_rfl) (fun _ _ _ h => h) (Or.inl ⟨by rfl, ?_⟩) hHeld ?_ ?_
      rotate_left
      ·rintro w' ⟨s0, s1, s2, s3, s4, s5⟩
       go_simp
       with_reducible rfl
      rotate_left
      ·simp only [Act.put, List.setIfInBounds_toArray, List.set_cons_zero, List.set_cons_succ, i64_w, i32_w]
       rfl
      refine pure_ (i := 10) (N := some 138) (v := ?_) (a' := ?_) #[true, true, true, true, true, true, true, true, true, true, true, false, false, false, false, false, false, false, false, false, false, false, false, false, false, false, false, false, false, false, false, false, false, false, false, false, false, false, false, false, false, false, false, false, false, false] rfl rfl (by kernel_rfl) (fun _ _ _ h => h) (Or.inl ⟨by rfl, ?_⟩) ?_ ?_
      rotate_left
      ·intro w'
       go_simp
       with_reducible rfl
      rotate_left
      ·simp only [Act.put, List.setIfInBounds_toArray, List.set_cons_zero, List.set_cons_succ, i64_w, i32_w]
       rfl
      refine pure_ (i := 11) (N := some 139) (v := ?_) (a' := ?_) #[true, true, true, true, true, true, true, true, true, true, true, true, false, false, false, false, false, false, false, false, false, false, false, false, false, false, false, false, false, false, false, false, false, false, false, false, false, false, false, false, false, false, false, false, false, false] rfl rfl (by kernel_rfl) (fun _ _ _ h => h) (Or.inl ⟨by rfl, ?_⟩) ?_ ?_
      rotate_left
      ·intro w'
       go_simp
       with_reducible rfl
      rotate_left
      ·simp only [Act.put, List.setIfInBounds_toArray, List.set_cons_zero, List.set_cons_succ, i64_w, i32_w]
       rfl
      refine pure_ (i := 12) (N := some 140) (v := ?_) (a' := ?_) #[true, true, true, true, true, true, true, true, true, true, true, true, true, false, false, false, false, false, false, false, false, false, false, false, false, false, false, false, false, false, false, false, false, false, false, false, false, false, false, false, false, false, false, false, false, false] rfl rfl (by kernel_rfl) (fun _ _ _ h => h) (Or.inl ⟨by rfl, ?_⟩) ?_ ?_
      rotate_left
      ·intro w'
       go_simp
       with_reducible rfl
      rotate_left
      ·simp only [Act.put, List.setIfInBounds_toArray, List.set_cons_zero, List.set_cons_succ, i64_w, i32_w]
       rfl
      refine take_ (i := 13) (N := some 141) (v := ?_) (a' := ?_) #[true, true, true, true, true, true, true, true, true, true, true, true, true, true, false, false, false, false, false, false, false, false, false, false, false, false, false, false, false, false, false, false, false, false, false, false, false, false, false, false, false, false, false, false, false, false] rfl rfl (by kernel_rfl) (fun _ _ _ h => h) (Or.inl ⟨by rfl, ?_⟩) hHeld ?_ ?_
      rotate_left
      ·rintro w' ⟨s0, s1, s2, s3, s4, s5⟩
       go_simp
       with_reducible rfl
      rotate_left
      ·simp only [Act.put, List.setIfInBounds_toArray, List.set_cons_zero, List.set_cons_succ, i64_w, i32_w]
       rfl
      refine take_ (i := 14) (N := some 142) (v := ?_) (a' := ?_) #[true, true, true, true, true, true, true, true, true, true, true, true, true, true, true, false, false, false, false, false, false, false, false, false, false, false, false, false, false, false, false, false, false, false, false, false, false, false, false, false, false, false, false, false, false, false] rfl rfl (by kernel_rfl) (fun _ _ _ h => h) (Or.inl ⟨by rfl, ?_⟩) hHeld ?_ ?_
      rotate_left
      ·rintro w' ⟨s0, s1, s2, s3, s4, s5⟩
       go_simp
       with_reducible rfl
      rotate_left
      ·simp only [Act.put, List.setIfInBounds_toArray, List.set_cons_zero, List.set_cons_succ, i64_w, i32_w]
       rfl
      refine pure_ (i := 15) (N := some 143) (v := ?_) (a' := ?_) #[true, true, true, true, true, true, true, true, true, true, true, true, true, true, true, true, false, false, false, false, false, false, false, false, false, false, false, false, false, false, false, false, false, false, false, false, false, false, false, false, false, false, false, false, false, false] rfl rfl (by kernel_rfl) (fun _ _ _ h => h) (Or.inl ⟨by rfl, ?_⟩) ?_ ?_
      rotate_left
      ·intro w'
       go_simp
       with_reducible rfl
      rotate_left
      ·simp only [Act.put, List.setIfInBounds_toArray, List.set_cons_zero, List.set_cons_succ, i64_w, i32_w]
       rfl
      refine pure_ (i := 16) (N := some 144) (v := ?_) (a' := ?_) #[true, true, true, true, true, true, true, true, true, true, true, true, true, true, true, true, true, false, false, false, false, false, false, false, false, false, false, false, false, false, false, false, false, false, false, false, false, false, false, false, false, false, false, false, false, false] rfl rfl (by kernel_rfl) (fun _ _ _ h => h) (Or.inl ⟨by rfl, ?_⟩) ?_ ?_
      rotate_left
      ·intro w'
       go_simp
       with_reducible rfl
      rotate_left
      ·simp only [Act.put, List.setIfInBounds_toArray, List.set_cons_zero, List.set_cons_succ, i64_w, i32_w]
       rfl
      refine pure_ (i := 17) (N := some 145) (v := ?_) (a' := ?_) #[true, true, true, true, true, true, true, true, true, true, true, true, true, true, true, true, true, true, false, false, false, false, false, false, false, false, false, false, false, false, false, false, false, false, false, false, false, false, false, false, false, false, false, false, false, false] rfl rfl (by kernel_rfl) (fun _ _ _ h => h) (Or.inl ⟨by rfl, ?_⟩) ?_ ?_
      rotate_left
      ·intro w'
       go_simp
       with_reducible rfl
      rotate_left
      ·simp only [Act.put, List.setIfInBounds_toArray, List.set_cons_zero, List.set_cons_succ, i64_w, i32_w]
       rfl
      refine pure_ (i := 18) (N := some 146) (v := undef) (a' := ?_) #[true, true, true, true, true, true, true, true, true, true, true, true, true, true, true, true, true, true, true, false, false, false, false, false, false, false, false, false, false, false, false, false, false, false, false, false, false, false, false, false, false, false, false, false, false, false] rfl rfl (by kernel_rfl) (fun _ _ _ h => h) (Or.inr ⟨by rfl, rfl⟩) ?_ ?_
      rotate_left
      ·simp only [Act.put, List.setIfInBounds_toArray, List.set_cons_zero, List.set_cons_succ, i64_w, i32_w]
       rfl
      refine pure_ (i := 19) (N := some 147) (v := undef) (a' := ?_) #[true, true, true, true, true, true, true, true, true, true, true, true, true, true, true, true, true, true, true, true, false, false, false, false, false, false, false, false, false, false, false, false, false, false, false, false, false, false, false, false, false, false, false, false, false, false] rfl rfl (by kernel_rfl) (fun _ _ _ h => h) (Or.inr ⟨by rfl, rfl⟩) ?_ ?_
      rotate_left
      ·simp only [Act.put, List.setIfInBounds_toArray, List.set_cons_zero, List.set_cons_succ, i64_w, i32_w]
       rfl
      refine pure_ (i := 20) (N := some 148) (v := undef) (a' := ?_) #[true, true, true, true, true, true, true, true, true, true, true, true, true, true, true, true, true, true, true, true, true, false, false, false, false, false, false, false, false, false, false, false, false, false, false, false, false, false, false, false, false, false, false, false, false, false] rfl rfl (by kernel_rfl) (fun _ _ _ h => h) (Or.inr ⟨by rfl, rfl⟩) ?_ ?_
      rotate_left
      ·simp only [Act.put, List.setIfInBounds_toArray, List.set_cons_zero, List.set_cons_succ, i64_w, i32_w]
       rfl
      refine pure_ (i := 21) (N := some 149) (v := undef) (a' := ?_) #[true, true, true, true, true, true, true, true, true, true, true, true, true, true, true, true, true, true, true, true, true, true, false, false, false, false, false, false, false, false, false, false, false, false, false, false, false, false, false, false, false, false, false, false, false, false] rfl rfl (by kernel_rfl) (fun _ _ _ h => h) (Or.inr ⟨by rfl, rfl⟩) ?_ ?_
      rotate_left
      ·simp only [Act.put, List.setIfInBounds_toArray, List.set_cons_zero, List.set_cons_succ, i64_w, i32_w]
       rfl
      refine pure_ (i := 22) (N := some 150) (v := undef) (a' := ?_) #[true, true, true, true, true, true, true, true, true, true, true, true, true, true, true, true, true, true, true, true, true, true, true, false, false, false, false, false, false, false, false, false, false, false, false, false, false, false, false, false, false, false, false, false, false, false] rfl rfl (by kernel_rfl) (fun _ _ _ h => h) (Or.inr ⟨by rfl, rfl⟩) ?_ ?_
      rotate_left
      ·simp only [Act.put, List.setIfInBounds_toArray, List.set_cons_zero, List.set_cons_succ, i64_w, i32_w]
       rfl
      refine pure_ (i := 23) (N := some 151) (v := undef) (a' := ?_) #[true, true, true, true, true, true, true, true, true, true, true, true, true, true, true, true, true, true, true, true, true, true, true, true, false, false, false, false, false, false, false, false, false, false, false, false, false, false, false, false, false, false, false, false, false, false] rfl rfl (by kernel_rfl) (fun _ _ _ h => h) (Or.inr ⟨by rfl, rfl⟩) ?_ ?_
      rotate_left
      ·simp only [Act.put, List.setIfInBounds_toArray, List.set_cons_zero, List.set_cons_succ, i64_w, i32_w]
       rfl
      refine pure_ (i := 24) (N := some 152) (v := undef) (a' := ?_) #[true, true, true, true, true, true, true, true, true, true, true, true, true, true, true, true, true, true, true, true, true, true, true, true, true, false, false, false, false, false, false, false, false, false, false, false, false, false, false, false, false, false, false, false, false, false] rfl rfl (by kernel_rfl) (fun _ _ _ h => h) (Or.inr ⟨by rfl, rfl⟩) ?_ ?_
      rotate_left
      ·simp only [Act.put, List.setIfInBounds_toArray, List.set_cons_zero, List.set_cons_succ, i64_w, i32_w]
       rfl
      refine pure_ (i := 25) (N := some 153) (v := undef) (a' := ?_) #[true, true, true, true, true, true, true, true, true, true, true, true, true, true, true, true, true, true, true, true, true, true, true, true, true, true, false, false, false, false, false, false, false, false, false, false, false, false, false, false, false, false, false, false, false, false] rfl rfl (by kernel_rfl) (fun _ _ _ h => h) (Or.inr ⟨by rfl, rfl⟩) ?_ ?_
      rotate_left
      ·simp only [Act.put, List.setIfInBounds_toArray, List.set_cons_zero, List.set_cons_succ, i64_w, i32_w]
       rfl
      refine pure_ (i := 26) (N := some 154) (v := undef) (a' := ?_) #[true, true, true, true, true, true, true, true, true, true, true, true, true, true, true, true, true, true, true, true, true, true, true, true, true, true, true, false, false, false, false, false, false, false, false, false, false, false, false, false, false, false, false, false, false, false] rfl rfl (by kernel_rfl) (fun _ _ _ h => h) (Or.inr ⟨by rfl, rfl⟩) ?_ ?_
      rotate_left
      ·simp only [Act.put, List.setIfInBounds_toArray, List.set_cons_zero, List.set_cons_succ, i64_w, i32_w]
       rfl
      refine pure_ (i := 27) (N := some 155) (v := undef) (a' := ?_) #[true, true, true, true, true, true, true, true, true, true, true, true, true, true, true, true, true, true, true, true, true, true, true, true, true, true, true, true, false, false, false, false, false, false, false, false, false, false, false, false, false, false, false, false, false, false] rfl rfl (by kernel_rfl) (fun _ _ _ h => h) (Or.inr ⟨by rfl, rfl⟩) ?_ ?_
      rotate_left
      ·simp only [Act.put, List.setIfInBounds_toArray, List.set_cons_zero, List.set_cons_succ, i64_w, i32_w]
       rfl
      refine pure_ (i := 28) (N := some 156) (v := undef) (a' := ?_) #[true, true, true, true, true, true, true, true, true, true, true, true, true, true, true, true, true, true, true, true, true, true, true, true, true, true, true, true, true, false, false, false, false, false, false, false, false, false, false, false, false, false, false, false, false, false] rfl rfl (by kernel_rfl) (fun _ _ _ h => h) (Or.inr ⟨by rfl, rfl⟩) ?_ ?_
      rotate_left
      ·simp only [Act.put, List.setIfInBounds_toArray, List.set_cons_zero, List.set_cons_succ, i64_w, i32_w]
       rfl
      refine pure_ (i := 29) (N := some 157) (v := undef) (a' := ?_) #[true, true, true, true, true, true, true, true, true, true, true, true, true, true, true, true, true, true, true, true, true, true, true, true, true, true, true, true, true, true, false, false, false, false, false, false, false, false, false, false, false, false, false, false, false, false] rfl rfl (by kernel_rfl) (fun _ _ _ h => h) (Or.inr ⟨by rfl, rfl⟩) ?_ ?_
      rotate_left
      ·simp only [Act.put, List.setIfInBounds_toArray, List.set_cons_zero, List.set_cons_succ, i64_w, i32_w]
       rfl
      refine pure_ (i := 30) (N := some 158) (v := undef) (a' := ?_) #[true, true, true, true, true, true, true, true, true, true, true, true, true, true, true, true, true, true, true, true, true, true, true, true, true, true, true, true, true, true, true, false, false, false, false, false, false, false, false, false, false, false, false, false, false, false] rfl rfl (by kernel_rfl) (fun _ _ _ h => h) (Or.inr ⟨by rfl, rfl⟩) ?_ ?_
      rotate_left
      ·simp only [Act.put, List.setIfInBounds_toArray, List.set_cons_zero, List.set_cons_succ, i64_w, i32_w]
       rfl
      refine pure_ (i := 31) (N := some 159) (v := undef) (a' := ?_) #[true, true, true, true, true, true, true, true, true, true, true, true, true, true, true, true, true, true, true, true, true, true, true, true, true, true, true, true, true, true, true, true, false, false, false, false, false, false, false, false, false, false, false, false, false, false] rfl rfl (by kernel_rfl) (fun _ _ _ h => h) (Or.inr ⟨by rfl, rfl⟩) ?_ ?_
      rotate_left
      ·simp only [Act.put, List.setIfInBounds_toArray, List.set_cons_zero, List.set_cons_succ, i64_w, i32_w]
       rfl
      refine pure_ (i := 32) (N := some 160) (v := undef) (a' := ?_) #[true, true, true, true, true, true, true, true, true, true, true, true, true, true, true, true, true, true, true, true, true, true, true, true, true, true, true, true, true, true, true, true, true, false, false, false, false, false, false, false, false, false, false, false, false, false] rfl rfl (by kernel_rfl) (fun _ _ _ h => h) (Or.inr ⟨by rfl, rfl⟩) ?_ ?_
      rotate_left
      ·simp only [Act.put, List.setIfInBounds_toArray, List.set_cons_zero, List.set_cons_succ, i64_w, i32_w]
       rfl
      refine pure_ (i := 33) (N := some 161) (v := undef) (a' := ?_) #[true, true, true, true, true, true, true, true, true, true, true, true, true, true, true, true, true, true, true, true, true, true, true, true, true, true, true, true, true, true, true, true, true, true, false, false, false, false, false, false, false, false, false, false, false, false] rfl rfl (by kernel_rfl) (fun _ _ _ h => h) (Or.inr ⟨by rfl, rfl⟩) ?_ ?_
      rotate_left
      ·simp only [Act.put, List.setIfInBounds_toArray, List.set_cons_zero, List.set_cons_succ, i64_w, i32_w]
       rfl
      refine pure_ (i := 34) (N := some 162) (v := undef) (a' := ?_) #[true, true, true, true, true, true, true, true, true, true, true, true, true, true, true, true, true, true, true, true, true, true, true, true, true, true, true, true, true, true, true, true, true, true, true, false, false, false, false, false, false, false, false, false, false, false] rfl rfl (by kernel_rfl) (fun _ _ _ h => h) (Or.inr ⟨by rfl, rfl⟩) ?_ ?_
      rotate_left
      ·simp only [Act.put, List.setIfInBounds_toArray, List.set_cons_zero, List.set_cons_succ, i64_w, i32_w]
       rfl
      refine pure_ (i := 35) (N := some 163) (v := undef) (a' := ?_) #[true, true, true, true, true, true, true, true, true, true, true, true, true, true, true, true, true, true, true, true, true, true, true, true, true, true, true, true, true, true, true, true, true, true, true, true, false, false, false, false, false, false, false, false, false, false] rfl rfl (by kernel_rfl) (fun _ _ _ h => h) (Or.inr ⟨by rfl, rfl⟩) ?_ ?_
      rotate_left
      ·simp only [Act.put, List.setIfInBounds_toArray, List.set_cons_zero, List.set_cons_succ, i64_w, i32_w]
       rfl
      refine pure_ (i := 36) (N := some 164) (v := undef) (a' := ?_) #[true, true, true, true, true, true, true, true, true, true, true, true, true, true, true, true, true, true, true, true, true, true, true, true, true, true, true, true, true, true, true, true, true, true, true, true, true, false, false, false, false, false, false, false, false, false] rfl rfl (by kernel_rfl) (fun _ _ _ h => h) (Or.inr ⟨by rfl, rfl⟩) ?_ ?_
      rotate_left
      ·simp only [Act.put, List.setIfInBounds_toArray, List.set_cons_zero, List.set_cons_succ, i64_w, i32_w]
       rfl
      refine pure_ (i := 37) (N := some 165) (v := undef) (a' := ?_) #[true, true, true, true, true, true, true, true, true, true, true, true, true, true, true, true, true, true, true, true, true, true, true, true, true, true, true, true, true, true, true, true, true, true, true, true, true, true, false, false, false, false, false, false, false, false] rfl rfl (by kernel_rfl) (fun _ _ _ h => h) (Or.inr ⟨by rfl, rfl⟩) ?_ ?_
      rotate_left
      ·simp only [Act.put, List.setIfInBounds_toArray, List.set_cons_zero, List.set_cons_succ, i64_w, i32_w]
       rfl
      refine pure_ (i := 38) (N := some 166) (v := undef) (a' := ?_) #[true, true, true, true, true, true, true, true, true, true, true, true, true, true, true, true, true, true, true, true, true, true, true, true, true, true, true, true, true, true, true, true, true, true, true, true, true, true, true, false, false, false, false, false, false, false] rfl rfl (by kernel_rfl) (fun _ _ _ h => h) (Or.inr ⟨by rfl, rfl⟩) ?_ ?_
      rotate_left
      ·simp only [Act.put, List.setIfInBounds_toArray, List.set_cons_zero, List.set_cons_succ, i64_w, i32_w]
       rfl
      refine pure_ (i := 39) (N := some 167) (v := undef) (a' := ?_) #[true, true, true, true, true, true, true, true, true, true, true, true, true, true, true, true, true, true, true, true, true, true, true, true, true, true, true, true, true, true, true, true, true, true, true, true, true, true, true, true, false, false, false, false, false, false] rfl rfl (by kernel_rfl) (fun _ _ _ h => h) (Or.inr ⟨by rfl, rfl⟩) ?_ ?_
      rotate_left
      ·simp only [Act.put, List.setIfInBounds_toArray, List.set_cons_zero, List.set_cons_succ, i64_w, i32_w]
       rfl
      refine pure_ (i := 40) (N := some 168) (v := undef) (a' := ?_) #[true, true, true, true, true, true, true, true, true, true, true, true, true, true, true, true, true, true, true, true, true, true, true, true, true, true, true, true, true, true, true, true, true, true, true, true, true, true, true, true, true, false, false, false, false, false] rfl rfl (by kernel_rfl) (fun _ _ _ h => h) (Or.inr ⟨by rfl, rfl⟩) ?_ ?_
      rotate_left
      ·simp only [Act.put, List.setIfInBounds_toArray, List.set_cons_zero, List.set_cons_succ, i64_w, i32_w]
       rfl
      refine pure_ (i := 41) (N := some 169) (v := undef) (a' := ?_) #[true, true, true, true, true, true, true, true, true, true, true, true, true, true, true, true, true, true, true, true, true, true, true, true, true, true, true, true, true, true, true, true, true, true, true, true, true, true, true, true, true, true, false, false, false, false] rfl rfl (by kernel_rfl) (fun _ _ _ h => h) (Or.inr ⟨by rfl, rfl⟩) ?_ ?_
      rotate_left
      ·simp only [Act.put, List.setIfInBounds_toArray, List.set_cons_zero, List.set_cons_succ, i64_w, i32_w]
       rfl
      refine pure_ (i := 42) (N := some 170) (v := undef) (a' := ?_) #[true, true, true, true, true, true, true, true, true, true, true, true, true, true, true, true, true, true, true, true, true, true, true, true, true, true, true, true, true, true, true, true, true, true, true, true, true, true, true, true, true, true, true, false, false, false] rfl rfl (by kernel_rfl) (fun _ _ _ h => h) (Or.inr ⟨by rfl, rfl⟩) ?_ ?_
      rotate_left
      ·simp only [Act.put, List.setIfInBounds_toArray, List.set_cons_zero, List.set_cons_succ, i64_w, i32_w]
       rfl
      refine pure_ (i := 43) (N := some 171) (v := ?_) (a' := ?_) #[true, true, true, true, true, true, true, true, true, true, true, true, true, true, true, true, true, true, true, true, true, true, true, true, true, true, true, true, true, true, true, true, true, true, true, true, true, true, true, true, true, true, true, true, false, false] rfl rfl (by kernel_rfl) (fun _ _ _ h => h) (Or.inl ⟨by rfl, ?_⟩) ?_ ?_
      rotate_left
      ·intro w'
       go_simp
       with_reducible rfl
      rotate_left
      ·simp only [Act.put, List.setIfInBounds_toArray, List.set_cons_zero, List.set_cons_succ, i64_w, i32_w]
       rfl
      refine pure_ (i := 44) (N := some 172) (v := ?_) (a' := ?_) #[true, true, true, true, true, true, true, true, true, true, true, true, true, true, true, true, true, true, true, true, true, true, true, true, true, true, true, true, true, true, true, true, true, true, true, true, true, true, true, true, true, true, true, true, true, false] rfl rfl (by kernel_rfl) (fun _ _ _ h => h) (Or.inl ⟨by rfl, ?_⟩) ?_ ?_
      rotate_left
      ·intro w'
       go_simp
       with_reducible rfl
      rotate_left
      ·simp only [Act.put, List.setIfInBounds_toArray, List.set_cons_zero, List.set_cons_succ, i64_w, i32_w]
       rfl
      refine pure_ (i := 45) (N := some 13) (v := ?_) (a' := ?_) #[true, true, true, true, true, true, true, true, true, true, true, true, true, true, true, true, true, true, true, true, true, true, true, true, true, true, true, true, true, true, true, true, true, true, true, true, true, true, true, true, true, true, true, true, true, true] rfl rfl (by kernel_rfl) (fun _ _ _ h => h) (Or.inl ⟨by rfl, ?_⟩) ?_ ?_
      rotate_left
      ·intro w'
       go_simp
       with_reducible rfl
      rotate_left
      ·simp only [Act.put, List.setIfInBounds_toArray, List.set_cons_zero, List.set_cons_succ, i64_w, i32_w]
       rfl
      refine done_ (by kernel_rfl) ?_
      
      go_wp2_with fail
      go_meet
      case rel => exact ⟨l, by first | rfl | (simp; done), ⟨HP15.out.below (below_drew (Below.refl _ _))⟩, ⟨HO.out.mono (by omega)⟩, HSM⟩
    | some h =>
     as_aux_lemma =>
      have HHAS := Aside0.mk (show hasL l (z : Int) = true by rw [getL_has, hg]; rfl)
      obtain ⟨a, b', hL, ha, _, _⟩ := split_all HNK.out hg
      have HL := Aside0.mk hL
      have HAT := Aside0.mk (show atI l (z : Int) = (a.length : Int) by rw [hL]; exact at_some ha)
      have HH := Aside0.mk (show h = (getL l (z : Int)).getD zeroH by rw [hg]; rfl)
      have hal : a.length < l.length := by rw [hL]; simp
      clear hg hL ha
      go_upto_region 26 with (go_at_call 27; refine (of_calls g b All (heldL l) l (z : Int) h _ HP8.out.led HZ.out HH.out).mono ?_; rw [HHAS.out]; rintro e w12 ⟨rfl, hb⟩; have HB12 := Aside0.mk hb; clear hb)
      obtain ⟨gn, hgn⟩ : ∃ gn, gn = w12.heap.size := ⟨_, rfl⟩
      obtain ⟨w13, hw13⟩ : ∃ w13, w13 = (w12.alloc (.cells #[.int .i64 h.e, .int .i64 h.p] 34)).alloc (.cells #[.int .i64 h.e2, .int .i64 h.p2] 34) := ⟨_, rfl⟩
      have hb13 : Below w8.heap.size w8 w13 := by rw [hw13]; exact below_alloc (below_alloc HB12.out _) _
      have HN13 := Aside0.mk (show MBlk w13 gn 34 #[.int .i64 h.e, .int .i64 h.p] by rw [hw13, hgn]; exact mblk_alloc (mblk_new _ _ _) _)
      have HM13 := Aside0.mk (show MBlk w13 (gn + 1) 34 #[.int .i64 h.e2, .int .i64 h.p2] by rw [hw13, hgn, show w12.heap.size + 1 = (w12.alloc (.cells #[.int .i64 h.e, .int .i64 h.p] 34)).heap.size by simp]; exact mblk_new _ _ _)
      have HP13 := Aside0.mk (HP8.out.below hb13)
      rw [← hw13, ← hgn]
      clear hw13 hgn hb13 HB12 HP8 HW8 HX8 x0 x1
      go_upto_region 27 with (go_at_call 35; refine (at_calls gr w.heap.size xa ya l (z : Int) _ HP13.out.rl (by have := HO.out.len; omega)).mono ?_; rw [HAT.out]; rintro e w14 ⟨rfl, rfl⟩)
      go_upto_region 28 with fail
      obtain ⟨gz, hgz⟩ : ∃ gz, gz = w14.heap.size := ⟨_, rfl⟩
      obtain ⟨w15, hw15⟩ : ∃ w15, w15 = w14.alloc (.cells #[.int .i64 0, .int .i64 0] 34) := ⟨_, rfl⟩
      have hb15 : Below w14.heap.size w14 w15 := by rw [hw15]; exact below_alloc (Below.refl _ _) _
      have HN15 := Aside0.mk (show MBlk w15 gn 34 #[.int .i64 h.e, .int .i64 h.p] from (hb15.block _ (mblk_lt HN13.out)).trans HN13.out)
      have HM15 := Aside0.mk (show MBlk w15 (gn + 1) 34 #[.int .i64 h.e2, .int .i64 h.p2] from (hb15.block _ (mblk_lt HM13.out)).trans HM13.out)
      have HZ15 := Aside0.mk (show MBlk w15 gz 34 #[.int .i64 0, .int .i64 0] by rw [hw15, hgz]; exact mblk_new _ _ _)
      have HP15 := Aside0.mk (HP13.out.below hb15)
      rw [← hw15, ← hgz]
      clear hw15 hgz hb15 HP13 HN13 HM13
      have q0 : w15.cell? ⟨gn, 0, none⟩ = some (.int .i64 h.e) := (mblk_cell HN15.out 0).trans rfl
      have q1 : w15.cell? ⟨gn, 1, none⟩ = some (.int .i64 h.p) := (mblk_cell HN15.out 1).trans rfl
      have q2 : w15.cell? ⟨gn + 1, 0, none⟩ = some (.int .i64 h.e2) := (mblk_cell HM15.out 0).trans rfl
      have q3 : w15.cell? ⟨gn + 1, 1, none⟩ = some (.int .i64 h.p2) := (mblk_cell HM15.out 1).trans rfl
      have q4 : w15.cell? ⟨gz, 0, none⟩ = some (.int .i64 0) := (mblk_cell HZ15.out 0).trans rfl
      have q5 : w15.cell? ⟨gz, 1, none⟩ = some (.int .i64 0) := (mblk_cell HZ15.out 1).trans rfl
      clear q4 q5
      obtain ⟨v, hM, hR⟩ := HP15.out.rl.out
      rw [HL.out] at hR
      obtain ⟨g0, c0, rfl, _, _, _⟩ := Kd.R_form hR (by simp <;> omega)
      obtain ⟨hc, _, _⟩ := R_row hR
      rw [List.length_map, ← HL.out] at hM
      have q4 : w15.cell? ⟨gr, 2, none⟩ = some (.slice (some ⟨g0, 0, none⟩) l.length c0) := (mblk_cell hM 2).trans (by simp)
      have q5 : w15.cell? ⟨g0, a.length * 6 + 1, none⟩ = some (.int .i64 h.e) := hc 1 _ rfl
      have q6 : w15.cell? ⟨g0, a.length * 6 + 2, none⟩ = some (.int .i64 h.p) := hc 2 _ rfl
      have q7 : w15.cell? ⟨g0, a.length * 6 + 3, none⟩ = some (.int .i64 h.e2) := hc 3 _ rfl
      have q8 : w15.cell? ⟨g0, a.length * 6 + 4, none⟩ = some (.int .i64 h.p2) := hc 4 _ rfl
      have d1 : decide ((a.length : Int) < (l.length : Int)) = true := decide_eq_true (by omega)
      have d2 : decide (0 ≤ (a.length : Int)) = true := decide_eq_true (by omega)
      clear hM hR hc
      refine start_ (n := 46) (S := fun w' => w'.cell? ⟨gn, 0, none⟩ = some (.int .i64 h.e) ∧ w'.cell? ⟨gn, 1, none⟩ = some (.int .i64 h.p) ∧ w'.cell? ⟨gn + 1, 0, none⟩ = some (.int .i64 h.e2) ∧ w'.cell? ⟨gn + 1, 1, none⟩ = some (.int .i64 h.p2) ∧ w'.cell? ⟨gr, 2, none⟩ = some (.slice (some ⟨g0, 0, none⟩) l.length c0) ∧ w'.cell? ⟨g0, a.length * 6 + 1, none⟩ = some (.int .i64 h.e) ∧ w'.cell? ⟨g0, a.length * 6 + 2, none⟩ = some (.int .i64 h.p) ∧ w'.cell? ⟨g0, a.length * 6 + 3, none⟩ = some (.int .i64 h.e2) ∧ w'.cell? ⟨g0, a.length * 6 + 4, none⟩ = some (.int .i64 h.p2)) (ds := []) #[false, false, false, false, false, false, false, false, false, false, false, false, false, false, false, false, false, false, false, false, false, false, false, false, false, false, false, false, false, false, false, false, false, false, false, false, false, false, false, false, false, false, false, false, false, false] (by kernel_rfl) rfl rfl ⟨q0, q1, q2, q3, q4, q5, q6, q7, q8⟩ (fun hHeld => ?_)
      refine pure_ (i := 0) (N := some 128) (v := ?_) (a' := ?_) #[true, false, false, false, false, false, false, false, false, false, false, false, false, false, false, false, false, false, false, false, false, false, false, false, false, false, false, false, false, false, false, false, false, false, false, false, false, false, false, false, false, false, false, false, false, false] rfl rfl (by kernel_rfl) (fun _ _ _ h => h) (Or.inl ⟨by rfl, ?_⟩) ?_ ?_
      rotate_left
      ·intro w'
       go_simp
       with_reducible rfl
      rotate_left
      ·simp only [Act.put, List.setIfInBounds_toArray, List.set_cons_zero, List.set_cons_succ, i64_w, i32_w]
       rfl
      refine pure_ (i := 1) (N := some 129) (v := ?_) (a' := ?_) #[true, true, false, false, false, false, false, false, false, false, false, false, false, false, false, false, false, false, false, false, false, false, false, false, false, false, false, false, false, false, false, false, false, false, false, false, false, false, false, false, false, false, false, false, false, false] rfl rfl (by kernel_rfl) (fun _ _ _ h => h) (Or.inl ⟨by rfl, ?_⟩) ?_ ?_
      rotate_left
      ·intro w'
       go_simp
       with_reducible rfl
      rotate_left
      ·simp only [Act.put, List.setIfInBounds_toArray, List.set_cons_zero, List.set_cons_succ, i64_w, i32_w]
       rfl
      refine pure_ (i := 2) (N := some 130) (v := ?_) (a' := ?_) #[true, true, true, false, false, false, false, false, false, false, false, false, false, false, false, false, false, false, false, false, false, false, false, false, false, false, false, false, false, false, false, false, false, false, false, false, false, false, false, false, false, false, false, false, false, false] rfl rfl (by kernel_rfl) (fun _ _ _ h => h) (Or.inl ⟨by rfl, ?_⟩) ?_ ?_
      rotate_left
      ·intro w'
       go_simp
       with_reducible rfl
      rotate_left
      ·simp only [Act.put, List.setIfInBounds_toArray, List.set_cons_zero, List.set_cons_succ, i64_w, i32_w]
       rfl
      refine pure_ (i := 3) (N := some 131) (v := ?_) (a' := ?_) #[true, true, true, true, false, false, false, false, false, false, false, false, false, false, false, false, false, false, false, false, false, false, false, false, false, false, false, false, false, false, false, false, false, false, false, false, false, false, false, false, false, false, false, false, false, false] rfl rfl (by kernel_rfl) (fun _ _ _ h => h) (Or.inl ⟨by rfl, ?_⟩) ?_ ?_
      rotate_left
      ·intro w'
       go_simp
       with_reducible rfl
      rotate_left
      ·simp only [Act.put, List.setIfInBounds_toArray, List.set_cons_zero, List.set_cons_succ, i64_w, i32_w]
       rfl
      refine pure_ (i := 4) (N := some 132) (v := ?_) (a' := ?_) #[true, true, true, true, true, false, false, false, false, false, false, false, false, false, false, false, false, false, false, false, false, false, false, false, false, false, false, false, false, false, false, false, false, false, false, false, false, false, false, false, false, false, false, false, false, false] rfl rfl (by kernel_rfl) (fun _ _ _ h => h) (Or.inl ⟨by rfl, ?_⟩) ?_ ?_
      rotate_left
      ·intro w'
       go_simp
       with_reducible rfl
      rotate_left
      ·simp only [Act.put, List.setIfInBounds_toArray, List.set_cons_zero, List.set_cons_succ, i64_w, i32_w]
       rfl
      refine pure_ (i := 5) (N := some 133) (v := ?_) (a' := ?_) #[true, true, true, true, true, true, false, false, false, false, false, false, false, false, false, false, false, false, false, false, false, false, false, false, false, false, false, false, false, false, false, false, false, false, false, false, false, false, false, false, false, false, false, false, false, false] rfl rfl (by kernel_rfl) (fun _ _ _ h => h) (Or.inl ⟨by rfl, ?_⟩) ?_ ?_
      rotate_left
      ·intro w'
       go_simp
       with_reducible rfl
      rotate_left
      ·simp only [Act.put, List.setIfInBounds_toArray, List.set_cons_zero, List.set_cons_succ, i64_w, i32_w]
       rfl
      refine pure_ (i := 6) (N := some 134) (v := ?_) (a' := ?_) #[true, true, true, true, true, true, true, false, false, false, false, false, false, false, false, false, false, false, false, false, false, false, false, false, false, false, false, false, false, false, false, false, false, false, false, false, false, false, false, false, false, false, false, false, false, false] rfl rfl (by kernel_rfl) (fun _ _ _ h => h) (Or.inl ⟨by rfl, ?_⟩) ?_ ?_
      rotate_left
      ·intro w'
       go_simp
       with_reducible rfl
      rotate_left
      ·simp only [Act.put, List.setIfInBounds_toArray, List.set_cons_zero, List.set_cons_succ, i64_w, i32_w]
       rfl
      refine pure_ (i := 7) (N := some 135) (v := ?_) (a' := ?_) #[true, true, true, true, true, true, true, true, false, false, false, false, false, false, false, false, false, false, false, false, false, false, false, false, false, false, false, false, false, false, false, false, false, false, false, false, false, false, false, false, false, false, false, false, false, false] rfl rfl (by kernel_rfl) (fun _ _ _ h => h) (Or.inl ⟨by rfl, ?_⟩) ?_ ?_
      rotate_left
      ·intro w'
       go_simp
       with_reducible rfl
      rotate_left
      ·simp only [Act.put, List.setIfInBounds_toArray, List.set_cons_zero, List.set_cons_succ, i64_w, i32_w]
       rfl
      refine pure_ (i := 8) (N := some 136) (v := undef) (a' := ?_) #[true, true, true, true, true, true, true, true, true, false, false, false, false, false, false, false, false, false, false, false, false, false, false, false, false, false, false, false, false, false, false, false, false, false, false, false, false, false, false, false, false, false, false, false, false, false] rfl rfl (by kernel_rfl) (fun _ _ _ h => h) (Or.inr ⟨by rfl, rfl⟩) ?_ ?_
      rotate_left
      ·simp only [Act.put, List.setIfInBounds_toArray, List.set_cons_zero, List.set_cons_succ, i64_w, i32_w]
       rfl
      refine pure_ (i := 9) (N := some 137) (v := undef) (a' := ?_) #[true, true, true, true, true, true, true, true, true, true, false, false, false, false, false, false, false, false, false, false, false, false, false, false, false, false, false, false, false, false, false, false, false, false, false, false, false, false, false, false, false, false, false, false, false, false] rfl rfl (by kernel_rfl) (fun _ _ _ h => h) (Or.inr ⟨by rfl, rfl⟩) ?_ ?_
      rotate_left
      ·simp only [Act.put, List.setIfInBounds_toArray, List.set_cons_zero, List.set_cons_succ, i64_w, i32_w]
       rfl
      refine pure_ (i := 10) (N := some 138) (v := undef) (a' := ?_) #[true, true, true, true, true, true, true, true, true, true, true, false, false, false, false, false, false, false, false, false, false, false, false, false, false, false, false, false, false, false, false, false, false, false, false, false, false, false, false, false, false, false, false, false, false, false] rfl rfl (by kernel_rfl) (fun _ _ _ h => h) (Or.inr ⟨by rfl, rfl⟩) ?_ ?_
      rotate_left
      ·simp only [Act.put, List.setIfInBounds_toArray, List.set_cons_zero, List.set_cons_succ, i64_w, i32_w]
       rfl
      refine pure_ (i := 11) (N := some 139) (v := ?_) (a' := ?_) #[true, true, true, true, true, true, true, true, true, true, true, true, false, false, false, false, false, false, false, false, false, false, false, false, false, false, false, false, false, false, false, false, false, false, false, false, false, false, false, false, false, false, false, false, false, false] rfl rfl (by kernel_rfl) (fun _ _ _ h => h) (Or.inl ⟨by rfl, ?_⟩) ?_ ?_
      rotate_left
      ·intro w'
       go_simp
       with_reducible rfl
      rotate_left
      ·simp only [Act.put, List.setIfInBounds_toArray, List.set_cons_zero, List.set_cons_succ, i64_w, i32_w]
       rfl
      refine pure_ (i := 12) (N := some 140) (v := ?_) (a' := ?_) #[true, true, true, true, true, true, true, true, true, true, true, true, true, false, false, false, false, false, false, false, false, false, false, false, false, false, false, false, false, false, false, false, false, false, false, false, false, false, false, false, false, false, false, false, false, false] rfl rfl (by kernel_rfl) (fun _ _ _ h => h) (Or.inl ⟨by rfl, ?_⟩) ?_ ?_
      rotate_left
      ·intro w'
       go_simp
       with_reducible rfl
      rotate_left
      ·simp only [Act.put, List.setIfInBounds_toArray, List.set_cons_zero, List.set_cons_succ, i64_w, i32_w]
       rfl
      refine pure_ (i := 13) (N := some 141) (v := undef) (a' := ?_) #[true, true, true, true, true, true, true, true, true, true, true, true, true, true, false, false, false, false, false, false, false, false, false, false, false, false, false, false, false, false, false, false, false, false, false, false, false, false, false, false, false, false, false, false, false, false] rfl rfl (by kernel_rfl) (fun _ _ _ h => h) (Or.inr ⟨by rfl, rfl⟩) ?_ ?_
      rotate_left
      ·simp only [Act.put, List.setIfInBounds_toArray, List.set_cons_zero, List.set_cons_succ, i64_w, i32_w]
       rfl
      refine pure_ (i := 14) (N := some 142) (v := undef) (a' := ?_) #[true, true, true, true, true, true, true, true, true, true, true, true, true, true, true, false, false, false, false, false, false, false, false, false, false, false, false, false, false, false, false, false, false, false, false, false, false, false, false, false, false, false, false, false, false, false] rfl rfl (by kernel_rfl) (fun _ _ _ h => h) (Or.inr ⟨by rfl, rfl⟩) ?_ ?_
      rotate_left
      ·simp only [Act.put, List.setIfInBounds_toArray, List.set_cons_zero, List.set_cons_succ, i64_w, i32_w]
       rfl
      refine pure_ (i := 15) (N := some 143) (v := undef) (a' := ?_) #[true, true, true, true, true, true, true, true, true, true, true, true, true, true, true, true, false, false, false, false, false, false, false, false, false, false, false, false, false, false, false, false, false, false, false, false, false, false, false, false, false, false, false, false, false, false] rfl rfl (by kernel_rfl) (fun _ _ _ h => h) (Or.inr ⟨by rfl, rfl⟩) ?_ ?_
      rotate_left
      ·simp only [Act.put, List.setIfInBounds_toArray, List.set_cons_zero, List.set_cons_succ, i64_w, i32_w]
       rfl
      refine pure_ (i := 16) (N := some 144) (v := ?_) (a' := ?_) #[true, true, true, true, true, true, true, true, true, true, true, true, true, true, true, true, true, false, false, false, false, false, false, false, false, false, false, false, false, false, false, false, false, false, false, false, false, false, false, false, false, false, false, false, false, false] rfl rfl (by kernel_rfl) (fun _ _ _ h => h) (Or.inl ⟨by rfl, ?_⟩) ?_ ?_
      rotate_left
      ·intro w'
       go_simp
       with_reducible rfl
      rotate_left
      ·simp only [Act.put, List.setIfInBounds_toArray, List.set_cons_zero, List.set_cons_succ, i64_w, i32_w]
       rfl
      refine pure_ (i := 17) (N := some 145) (v := ?_) (a' := ?_) #[true, true, true, true, true, true, true, true, true, true, true, true, true, true, true, true, true, true, false, false, false, false, false, false, false, false, false, false, false, false, false, false, false, false, false, false, false, false, false, false, false, false, false, false, false, false] rfl rfl (by kernel_rfl) (fun _ _ _ h => h) (Or.inl ⟨by rfl, ?_⟩) ?_ ?_
      rotate_left
      ·intro w'
       go_simp
       with_reducible rfl
      rotate_left
      ·simp only [Act.put, List.setIfInBounds_toArray, List.set_cons_zero, List.set_cons_succ, i64_w, i32_w]
       rfl
      refine pure_ (i := 18) (N := some 146) (v := ?_) (a' := ?_) #[true, true, true, true, true, true, true, true, true, true, true, true, true, true, true, true, true, true, true, false, false, false, false, false, false, false, false, false, false, false, false, false, false, false, false, false, false, false, false, false, false, false, false, false, false, false] rfl rfl (by kernel_rfl) (fun _ _ _ h => h) (Or.inl ⟨by rfl, ?_⟩) ?_ ?_
      rotate_left
      ·intro w'
       go_simp
       with_reducible rfl
      rotate_left
      ·simp only [Act.put, List.setIfInBounds_toArray, List.set_cons_zero, List.set_cons_succ, i64_w, i32_w]
       rfl
      refine pure_ (i := 19) (N := some 147) (v := ?_) (a' := ?_) #[true, true, true, true, true, true, true, true, true, true, true, true, true, true, true, true, true, true, true, true, false, false, false, false, false, false, false, false, false, false, false, false, false, false, false, false, false, false, false, false, false, false, false, false, false, false] rfl rfl (by kernel_rfl) (fun _ _ _ h => h) (Or.inl ⟨by rfl, ?_⟩) ?_ ?_
      rotate_left
      ·intro w'
       go_simp
       with_reducible rfl
      rotate_left
      ·simp only [Act.put, List.setIfInBounds_toArray, List.set_cons_zero, List.set_cons_succ, i64_w, i32_w]
       rfl
      refine pure_ (i := 21) (N := some 149) (v := ?_) (a' := ?_) #[true, true, true, true, true, true, true, true, true, true, true, true, true, true, true, true, true, true, true, true, false, true, false, false, false, false, false, false, false, false, false, false, false, false, false, false, false, false, false, false, false, false, false, false, false, false] rfl rfl (by kernel_rfl) (fun _ _ _ h => h) (Or.inl ⟨by rfl, ?_⟩) ?_ ?_
      rotate_left
      ·intro w'
       go_simp
       with_reducible rfl
      rotate_left
      ·simp only [Act.put, List.setIfInBounds_toArray, List.set_cons_zero, List.set_cons_succ, i64_w, i32_w]
       rfl
      refine pure_ (i := 22) (N := some 150) (v := ?_) (a' := ?_) #[true, true, true, true, true, true, true, true, true, true, true, true, true, true, true, true, true, true, true, true, false, true, true, false, false, false, false, false, false, false, false, false, false, false, false, false, false, false, false, false, false, false, false, false, false, false] rfl rfl (by kernel_rfl) (fun _ _ _ h => h) (Or.inl ⟨by rfl, ?_⟩) ?_ ?_
      rotate_left
      ·intro w'
       go_simp
       with_reducible rfl
      rotate_left
      ·simp only [Act.put, List.setIfInBounds_toArray, List.set_cons_zero, List.set_cons_succ, i64_w, i32_w]
       rfl
      refine pure_ (i := 23) (N := some 151) (v := ?_) (a' := ?_) #[true, true, true, true, true, true, true, true, true, true, true, true, true, true, true, true, true, true, true, true, false, true, true, true, false, false, false, false, false, false, false, false, false, false, false, false, false, false, false, false, false, false, false, false, false, false] rfl rfl (by kernel_rfl) (fun _ _ _ h => h) (Or.inl ⟨by rfl, ?_⟩) ?_ ?_
      rotate_left
      ·intro w'
       go_simp
       with_reducible rfl
      rotate_left
      ·simp only [Act.put, List.setIfInBounds_toArray, List.set_cons_zero, List.set_cons_succ, i64_w, i32_w]
       rfl
      refine pure_ (i := 25) (N := some 153) (v := ?_) (a' := ?_) #[true, true, true, true, true, true, true, true, true, true, true, true, true, true, true, true, true, true, true, true, false, true, true, true, false, true, false, false, false, false, false, false, false, false, false, false, false, false, false, false, false, false, false, false, false, false] rfl rfl (by kernel_rfl) (fun _ _ _ h => h) (Or.inl ⟨by rfl, ?_⟩) ?_ ?_
      rotate_left
      ·intro w'
       go_simp
       with_reducible rfl
      rotate_left
      ·simp only [Act.put, List.setIfInBounds_toArray, List.set_cons_zero, List.set_cons_succ, i64_w, i32_w]
       rfl
      refine take_ (i := 20) (N := some 148) (v := ?_) (a' := ?_) #[true, true, true, true, true, true, true, true, true, true, true, true, true, true, true, true, true, true, true, true, true, true, true, true, false, true, false, false, false, false, false, false, false, false, false, false, false, false, false, false, false, false, false, false, false, false] rfl rfl (by kernel_rfl) (fun _ _ _ h => h) (Or.inl ⟨by rfl, ?_⟩) hHeld ?_ ?_
      rotate_left
      ·rintro w' ⟨s0, s1, s2, s3, s4, s5, s6, s7, s8⟩
       go_simp
       with_reducible rfl
      rotate_left
      ·simp only [Act.put, List.setIfInBounds_toArray, List.set_cons_zero, List.set_cons_succ, i64_w, i32_w]
       rfl
      refine take_ (i := 24) (N := some 152) (v := ?_) (a' := ?_) #[true, true, true, true, true, true, true, true, true, true, true, true, true, true, true, true, true, true, true, true, true, true, true, true, true, true, false, false, false, false, false, false, false, false, false, false, false, false, false, false, false, false, false, false, false, false] rfl rfl (by kernel_rfl) (fun _ _ _ h => h) (Or.inl ⟨by rfl, ?_⟩) hHeld ?_ ?_
      rotate_left
      ·rintro w' ⟨s0, s1, s2, s3, s4, s5, s6, s7, s8⟩
       go_simp
       with_reducible rfl
      rotate_left
      ·simp only [Act.put, List.setIfInBounds_toArray, List.set_cons_zero, List.set_cons_succ, i64_w, i32_w]
       rfl
      refine pure_ (i := 26) (N := some 154) (v := ?_) (a' := ?_) #[true, true, true, true, true, true, true, true, true, true, true, true, true, true, true, true, true, true, true, true, true, true, true, true, true, true, true, false, false, false, false, false, false, false, false, false, false, false, false, false, false, false, false, false, false, false] rfl rfl (by kernel_rfl) (fun _ _ _ h => h) (Or.inl ⟨by rfl, ?_⟩) ?_ ?_
      rotate_left
      ·intro w'
       go_simp
       with_reducible rfl
      rotate_left
      ·simp only [Act.put, List.setIfInBounds_toArray, List.set_cons_zero, List.set_cons_succ, i64_w, i32_w]
       rfl
      refine pure_ (i := 27) (N := some 155) (v := ?_) (a' := ?_) #[true, true, true, true, true, true, true, true, true, true, true, true, true, true, true, true, true, true, true, true, true, true, true, true, true, true, true, true, false, false, false, false, false, false, false, false, false, false, false, false, false, false, false, false, false, false] rfl rfl (by kernel_rfl) (fun _ _ _ h => h) (Or.inl ⟨by rfl, ?_⟩) ?_ ?_
      rotate_left
      ·intro w'
       go_simp
       with_reducible rfl
      rotate_left
      ·simp only [Act.put, List.setIfInBounds_toArray, List.set_cons_zero, List.set_cons_succ, i64_w, i32_w]
       rfl
      refine take_ (i := 28) (N := some 156) (v := ?_) (a' := ?_) #[true, true, true, true, true, true, true, true, true, true, true, true, true, true, true, true, true, true, true, true, true, true, true, true, true, true, true, true, true, false, false, false, false, false, false, false, false, false, false, false, false, false, false, false, false, false] rfl rfl (by kernel_rfl) (fun _ _ _ h => h) (Or.inl ⟨by rfl, ?_⟩) hHeld ?_ ?_
      rotate_left
      ·rintro w' ⟨s0, s1, s2, s3, s4, s5, s6, s7, s8⟩
       go_simp
       with_reducible rfl
      rotate_left
      ·simp only [Act.put, List.setIfInBounds_toArray, List.set_cons_zero, List.set_cons_succ, i64_w, i32_w]
       rfl
      refine pure_ (i := 29) (N := some 157) (v := ?_) (a' := ?_) #[true, true, true, true, true, true, true, true, true, true, true, true, true, true, true, true, true, true, true, true, true, true, true, true, true, true, true, true, true, true, false, false, false, false, false, false, false, false, false, false, false, false, false, false, false, false] rfl rfl (by kernel_rfl) (fun _ _ _ h => h) (Or.inl ⟨by rfl, ?_⟩) ?_ ?_
      rotate_left
      ·intro w'
       go_simp
       with_reducible rfl
      rotate_left
      ·simp only [Act.put, List.setIfInBounds_toArray, List.set_cons_zero, List.set_cons_succ, i64_w, i32_w]
       rfl
      refine pure_ (i := 30) (N := some 158) (v := ?_) (a' := ?_) #[true, true, true, true, true, true, true, true, true, true, true, true, true, true, true, true, true, true, true, true, true, true, true, true, true, true, true, true, true, true, true, false, false, false, false, false, false, false, false, false, false, false, false, false, false, false] rfl rfl (by kernel_rfl) (fun _ _ _ h => h) (Or.inl ⟨by rfl, ?_⟩) ?_ ?_
      rotate_left
      ·intro w'
       go_simp
       with_reducible rfl
      rotate_left
      ·simp only [Act.put, List.setIfInBounds_toArray, List.set_cons_zero, List.set_cons_succ, i64_w, i32_w]
       rfl
      refine pure_ (i := 31) (N := some 159) (v := ?_) (a' := ?_) #[true, true, true, true, true, true, true, true, true, true, true, true, true, true, true, true, true, true, true, true, true, true, true, true, true, true, true, true, true, true, true, true, false, false, false, false, false, false, false, false, false, false, false, false, false, false] rfl rfl (by kernel_rfl) (fun _ _ _ h => h) (Or.inl ⟨by rfl, ?_⟩) ?_ ?_
      rotate_left
      ·intro w'
       go_simp
       with_reducible rfl
      rotate_left
      ·simp only [Act.put, List.setIfInBounds_toArray, List.set_cons_zero, List.set_cons_succ, i64_w, i32_w]
       rfl
      refine pure_ (i := 33) (N := some 161) (v := ?_) (a' := ?_) #[true, true, true, true, true, true, true, true, true, true, true, true, true, true, true, true, true, true, true, true, true, true, true, true, true, true, true, true, true, true, true, true, false, true, false, false, false, false, false, false, false, false, false, false, false, false] rfl rfl (by kernel_rfl) (fun _ _ _ h => h) (Or.inl ⟨by rfl, ?_⟩) ?_ ?_
      rotate_left
      ·intro w'
       go_simp
       with_reducible rfl
      rotate_left
      ·simp only [Act.put, List.setIfInBounds_toArray, List.set_cons_zero, List.set_cons_succ, i64_w, i32_w]
       rfl
      refine pure_ (i := 34) (N := some 162) (v := ?_) (a' := ?_) #[true, true, true, true, true, true, true, true, true, true, true, true, true, true, true, true, true, true, true, true, true, true, true, true, true, true, true, true, true, true, true, true, false, true, true, false, false, false, false, false, false, false, false, false, false, false] rfl rfl (by kernel_rfl) (fun _ _ _ h => h) (Or.inl ⟨by rfl, ?_⟩) ?_ ?_
      rotate_left
      ·intro w'
       go_simp
       with_reducible rfl
      rotate_left
      ·simp only [Act.put, List.setIfInBounds_toArray, List.set_cons_zero, List.set_cons_succ, i64_w, i32_w]
       rfl
      refine pure_ (i := 35) (N := some 163) (v := ?_) (a' := ?_) #[true, true, true, true, true, true, true, true, true, true, true, true, true, true, true, true, true, true, true, true, true, true, true, true, true, true, true, true, true, true, true, true, false, true, true, true, false, false, false, false, false, false, false, false, false, false] rfl rfl (by kernel_rfl) (fun _ _ _ h => h) (Or.inl ⟨by rfl, ?_⟩) ?_ ?_
      rotate_left
      ·intro w'
       go_simp
       with_reducible rfl
      rotate_left
      ·simp only [Act.put, List.setIfInBounds_toArray, List.set_cons_zero, List.set_cons_succ, i64_w, i32_w]
       rfl
      refine pure_ (i := 37) (N := some 165) (v := ?_) (a' := ?_) #[true, true, true, true, true, true, true, true, true, true, true, true, true, true, true, true, true, true, true, true, true, true, true, true, true, true, true, true, true, true, true, true, false, true, true, true, false, true, false, false, false, false, false, false, false, false] rfl rfl (by kernel_rfl) (fun _ _ _ h => h) (Or.inl ⟨by rfl, ?_⟩) ?_ ?_
      rotate_left
      ·intro w'
       go_simp
       with_reducible rfl
      rotate_left
      ·simp only [Act.put, List.setIfInBounds_toArray, List.set_cons_zero, List.set_cons_succ, i64_w, i32_w]
       rfl
      refine take_ (i := 32) (N := some 160) (v := ?_) (a' := ?_) #[true, true, true, true, true, true, true, true, true, true, true, true, true, true, true, true, true, true, true, true, true, true, true, true, true, true, true, true, true, true, true, true, true, true, true, true, false, true, false, false, false, false, false, false, false, false] rfl rfl (by kernel_rfl) (fun _ _ _ h => h) (Or.inl ⟨by rfl, ?_⟩) hHeld ?_ ?_
      rotate_left
      ·rintro w' ⟨s0, s1, s2, s3, s4, s5, s6, s7, s8⟩
       go_simp
       with_reducible rfl
      rotate_left
      ·simp only [Act.put, List.setIfInBounds_toArray, List.set_cons_zero, List.set_cons_succ, i64_w, i32_w]
       rfl
      refine take_ (i := 36) (N := some 164) (v := ?_) (a' := ?_) #[true, true, true, true, true, true, true, true, true, true, true, true, true, true, true, true, true, true, true, true, true, true, true, true, true, true, true, true, true, true, true, true, true, true, true, true, true, true, false, false, false, false, false, false, false, false] rfl rfl (by kernel_rfl) (fun _ _ _ h => h) (Or.inl ⟨by rfl, ?_⟩) hHeld ?_ ?_
      rotate_left
      ·rintro w' ⟨s0, s1, s2, s3, s4, s5, s6, s7, s8⟩
       go_simp
       with_reducible rfl
      rotate_left
      ·simp only [Act.put, List.setIfInBounds_toArray, List.set_cons_zero, List.set_cons_succ, i64_w, i32_w]
       rfl
      refine pure_ (i := 38) (N := some 166) (v := ?_) (a' := ?_) #[true, true, true, true, true, true, true, true, true, true, true, true, true, true, true, true, true, true, true, true, true, true, true, true, true, true, true, true, true, true, true, true, true, true, true, true, true, true, true, false, false, false, false, false, false, false] rfl rfl (by kernel_rfl) (fun _ _ _ h => h) (Or.inl ⟨by rfl, ?_⟩) ?_ ?_
      rotate_left
      ·intro w'
       go_simp
       with_reducible rfl
      rotate_left
      ·simp only [Act.put, List.setIfInBounds_toArray, List.set_cons_zero, List.set_cons_succ, i64_w, i32_w]
       rfl
      refine pure_ (i := 39) (N := some 167) (v := ?_) (a' := ?_) #[true, true, true, true, true, true, true, true, true, true, true, true, true, true, true, true, true, true, true, true, true, true, true, true, true, true, true, true, true, true, true, true, true, true, true, true, true, true, true, true, false, false, false, false, false, false] rfl rfl (by kernel_rfl) (fun _ _ _ h => h) (Or.inl ⟨by rfl, ?_⟩) ?_ ?_
      rotate_left
      ·intro w'
       go_simp
       with_reducible rfl
      rotate_left
      ·simp only [Act.put, List.setIfInBounds_toArray, List.set_cons_zero, List.set_cons_succ, i64_w, i32_w]
       rfl
      refine take_ (i := 40) (N := some 168) (v := ?_) (a' := ?_) #[true, true, true, true, true, true, true, true, true, true, true, true, true, true, true, true, true, true, true, true, true, true, true, true, true, true, true, true, true, true, true, true, true, true, true, true, true, true, true, true, true, false, false, false, false, false] rfl rfl (by kernel_rfl) (fun _ _ _ h => h) (Or.inl ⟨by rfl, ?_⟩) hHeld ?_ ?_
      rotate_left
      ·rintro w' ⟨s0, s1, s2, s3, s4, s5, s6, s7, s8⟩
       go_simp
       with_reducible rfl
      rotate_left
      ·simp only [Act.put, List.setIfInBounds_toArray, List.set_cons_zero, List.set_cons_succ, i64_w, i32_w]
       rfl
      refine pure_ (i := 41) (N := some 169) (v := ?_) (a' := ?_) #[true, true, true, true, true, true, true, true, true, true, true, true, true, true, true, true, true, true, true, true, true, true, true, true, true, true, true, true, true, true, true, true, true, true, true, true, true, true, true, true, true, true, false, false, false, false] rfl rfl (by kernel_rfl) (fun _ _ _ h => h) (Or.inl ⟨by rfl, ?_⟩) ?_ ?_
      rotate_left
      ·intro w'
       go_simp
       with_reducible rfl
      rotate_left
      ·simp only [Act.put, List.setIfInBounds_toArray, List.set_cons_zero, List.set_cons_succ, i64_w, i32_w]
       rfl
      refine pure_ (i := 42) (N := some 170) (v := ?_) (a' := ?_) #[true, true, true, true, true, true, true, true, true, true, true, true, true, true, true, true, true, true, true, true, true, true, true, true, true, true, true, true, true, true, true, true, true, true, true, true, true, true, true, true, true, true, true, false, false, false] rfl rfl (by kernel_rfl) (fun _ _ _ h => h) (Or.inl ⟨by rfl, ?_⟩) ?_ ?_
      rotate_left
      ·intro w'
       go_simp
       with_reducible rfl
      rotate_left
      ·simp only [Act.put, List.setIfInBounds_toArray, List.set_cons_zero, List.set_cons_succ, i64_w, i32_w]
       rfl
      refine pure_ (i := 43) (N := some 171) (v := ?_) (a' := ?_) #[true, true, true, true, true, true, true, true, true, true, true, true, true, true, true, true, true, true, true, true, true, true, true, true, true, true, true, true, true, true, true, true, true, true, true, true, true, true, true, true, true, true, true, true, false, false] rfl rfl (by kernel_rfl) (fun _ _ _ h => h) (Or.inl ⟨by rfl, ?_⟩) ?_ ?_
      rotate_left
      ·intro w'
       go_simp
       with_reducible rfl
      rotate_left
      ·simp only [Act.put, List.setIfInBounds_toArray, List.set_cons_zero, List.set_cons_succ, i64_w, i32_w]
       rfl
      refine pure_ (i := 44) (N := some 172) (v := ?_) (a' := ?_) #[true, true, true, true, true, true, true, true, true, true, true, true, true, true, true, true, true, true, true, true, true, true, true, true, true, true, true, true, true, true, true, true, true, true, true, true, true, true, true, true, true, true, true, true, true, false] rfl rfl (by kernel_rfl) (fun _ _ _ h => h) (Or.inl ⟨by rfl, ?_⟩) ?_ ?_
      rotate_left
      ·intro w'
       go_simp
       with_reducible rfl
      rotate_left
      ·simp only [Act.put, List.setIfInBounds_toArray, List.set_cons_zero, List.set_cons_succ, i64_w, i32_w]
       rfl
      refine pure_ (i := 45) (N := some 13) (v := ?_) (a' := ?_) #[true, true, true, true, true, true, true, true, true, true, true, true, true, true, true, true, true, true, true, true, true, true, true, true, true, true, true, true, true, true, true, true, true, true, true, true, true, true, true, true, true, true, true, true, true, true] rfl rfl (by kernel_rfl) (fun _ _ _ h => h) (Or.inl ⟨by rfl, ?_⟩) ?_ ?_
      rotate_left
      ·intro w'
       go_simp
       with_reducible rfl
      rotate_left
      ·simp only [Act.put, List.setIfInBounds_toArray, List.set_cons_zero, List.set_cons_succ, i64_w, i32_w]
       rfl
      refine done_ (by kernel_rfl) ?_
      
      go_wp2_with fail
      go_meet
      case rel => exact ⟨l, by first | rfl | (simp; done), ⟨HP15.out.below (below_drew (Below.refl _ _))⟩, ⟨HO.out.mono (by omega)⟩, HSM⟩
   have n7 : ((kd : Int) == 7) = false := beq_eq_false_iff_ne.2 (by omega)
   as_aux_lemma =>
    go_upto_region 15 with fail
    obtain ⟨E, hE⟩ : ∃ E, E = joinE All (heldL l) l (z : Int) X := ⟨_, rfl⟩
    have HE := Aside0.mk hE
    clear hE
    have HBE : (E == E) = true := beq_self_eq_true _
    go_region_held3 (fun w' => w'.cell? ⟨gx, 0, none⟩ = some (.int .i64 X.f0) ∧ w'.cell? ⟨gx, 1, none⟩ = some (.int .i64 X.f1))
     (first | (exact ⟨x0, x1⟩) | go_keep)
     (first
      | (go_at_call 18; refine (join_calls g b All l (z : Int) X _ (HP8.out.below (below_drew (Below.refl _ _))).led HS.out HO.out.good (by have := HO.out.len; omega) HZ.out).mono ?_; rw [← HE.out]; rintro e w12 ⟨rfl, hl, hk⟩; have HP12 := Aside0.mk ((HP8.out.below (below_drew (Below.refl _ _))).kp hk hl HG.out.1 HG.out.2); have HW12 := Aside0.mk ((HP8.out.below (below_drew (Below.refl _ _))).blkp hk (((below_drew (Below.refl _ _)).block _ (mblk_lt HW8.out)).trans HW8.out) (by decide)); have x0 : w12.cell? ⟨gx, 0, none⟩ = some (.int .i64 X.f0) := (mblk_cell HW12.out 0).trans rfl; have x1 : w12.cell? ⟨gx, 1, none⟩ = some (.int .i64 X.f1) := (mblk_cell HW12.out 1).trans rfl; clear hl hk)
      | (go_at_call 36; refine (rjoin_calls gr w.heap.size xa ya l (z : Int) X n d w12 HP12.out.rl (show RV _ xa ya (limbs n) (limbs d) by rw [← HLL.out.1, ← HLL.out.2]; exact HP12.out.rv) HN.out.1 HN.out.2.1 HN.out.2.2 HO.out.good HSM.out (by have := HO.out.len; omega) (HP12.out.bel.size)).mono ?_; rw [← HAL.out, ← HE.out]; rintro e w13 ⟨rfl, hr, hk⟩; have HP13 := Aside0.mk (HP12.out.kr hk hr HGR.out); have x0 : w13.cell? ⟨gx, 0, none⟩ = some (.int .i64 X.f0) := (mblk_cell (HP12.out.blkr hk HW12.out (by decide) (by decide)) 0).trans rfl; have x1 : w13.cell? ⟨gx, 1, none⟩ = some (.int .i64 X.f1) := (mblk_cell (HP12.out.blkr hk HW12.out (by decide) (by decide)) 1).trans rfl; clear hr hk))
    all_goals
     go_wp2_with fail
     go_meet
     case rel => exact ⟨_, by first | rfl | (simp; done), HP13, ⟨ok_join HO.out (by omega) _ _⟩, ⟨small_join HSM.out⟩⟩
  case rest =>
   as_aux_lemma =>
    obtain ⟨l2, rfl, HP9, HO9, HS9⟩ := hcut
    clear HP8 HW8 HX8 HNK hlen HO HSM
    obtain ⟨N, E, ⟨kN, nN⟩, kC, nC⟩ := held_cmp HO9.out.good (by have := HO9.out.len; omega)
    have HZ9 := Aside0.mk (show Sz (1 + 2 * l2.length + 1) (All - heldL l2) by rw [HAL.out]; exact left_sz (held_szN HO9.out.good) hd0 (by omega) (by omega) (by rw [← HAL.out]; exact HO9.out.le))
    obtain ⟨⟨kp, hkp⟩, kq, hkq⟩ := plus_cmp (held_szN HO9.out.good) HZ9.out (by have := HO9.out.len; omega) n d HN.out.1 HN.out.2.1 HN.out.2.2
    rw [show heldL l2 + (All - heldL l2) = mkRat (n : Int) d from (left_add _ _).trans HAL.out, cmpR_self] at hkq
    generalize (heldL l2).num.natAbs * (All - heldL l2).den + (All - heldL l2).num.natAbs * (heldL l2).den = pn at hkp hkq
    generalize (heldL l2).den * (All - heldL l2).den = pd at hkp hkq
    obtain ⟨Q, hQ⟩ : ∃ Q : List Int × List Int, Q = L (heldL l2) := ⟨_, rfl⟩
    obtain ⟨lN, hlN⟩ : ∃ lN, lN = limbs N := ⟨_, rfl⟩
    obtain ⟨lE, hlE⟩ : ∃ lE, lE = limbs E := ⟨_, rfl⟩
    have HQ := Aside0.mk hQ
    have HLNE := Aside0.mk (And.intro hlN hlE)
    have NN := Aside0.mk nN
    rw [← hQ, ← hlN, ← hlE] at nC
    rw [← hQ] at hkp
    rw [← HLL.out.1, ← HLL.out.2] at hkq
    have NC := Aside0.mk nC
    have NP := Aside0.mk hkp
    have NQ := Aside0.mk hkq
    clear nN nC hkp hkq hQ hlN hlE
    go_upto_region 30 with (first
     | (go_at_call 20; refine (held_calls g b All (heldL l2) l2 _ HP9.out.led (sz_mono (held_sz HO9.out.good) (by omega))).mono ?_; rw [← HQ.out]; rintro e w20 ⟨u, u', rfl, h, hb⟩; obtain ⟨T1, t1, T2, t2, rfl, rfl⟩ := h.shape; have HB20 := Aside0.mk hb; have HT20 := Aside0.mk h; clear h hb)
     | (go_at_call 37; refine (rheld_calls gr w.heap.size xa ya l2 N E kN _ (HP9.out.below HB20.out).rl HO9.out.good.len HO9.out.good.ok HS9.out NN.out).mono ?_; rw [← HLNE.out.1, ← HLNE.out.2]; rintro e w21 ⟨u, u', rfl, h, hb⟩; obtain ⟨U1, u1, U2, u2, rfl, rfl⟩ := h.shape; have HB21 := Aside0.mk (below_step HB20.out hb); have HT21 := Aside0.mk (HT20.out.below hb); have HU21 := Aside0.mk h; clear h hb HB20 HT20)
     | (go_at_call 19; refine (rcmp_rv HT21.out HU21.out NC.out).mono ?_; rintro e w22 ⟨rfl, hb⟩; have HP22 := Aside0.mk (HP9.out.below (below_step HB21.out hb)); clear hb HB21 HT21 HU21))
    clear HP9
    have HXA := Aside0.mk (And.intro HXY.out.1 HXY.out.2)
    obtain ⟨rfl, rfl⟩ := HXA.out
    clear HXY HXA
    have z0 : w22.cell? ⟨ga, 0, none⟩ = some (.slice P1 ln.length e1) := (mblk_cell HP22.out.a 0).trans rfl
    have z1 : w22.cell? ⟨ga, 1, none⟩ = some (.slice P2 ld.length e2) := (mblk_cell HP22.out.a 1).trans rfl
    go_cut [20] (fun v20 wc2 => v20 = .bool true ∧ Aside0 (Pl w wc2 g b gr All (.slice P1 ln.length e1) (.slice P2 ld.length e2) ln ld ga l2 l2))
    case first =>
     go_region_held3 (fun w' => w'.cell? ⟨ga, 0, none⟩ = some (.slice P1 ln.length e1) ∧ w'.cell? ⟨ga, 1, none⟩ = some (.slice P2 ld.length e2))
      (first | (exact ⟨z0, z1⟩) | go_keep)
      (first
       | (go_at_call 20; refine (held_calls g b All (heldL l2) l2 _ (HP22.out.below (below_drew (Below.refl _ _))).led (sz_mono (held_sz HO9.out.good) (by omega))).mono ?_; rw [← HQ.out]; rintro e w23 ⟨u, u', rfl, h, hb⟩; obtain ⟨R1, r1, R2, r2, rfl, rfl⟩ := h.shape; have hbb : Below w22.heap.size w22 w23 := below_step (below_drew (Below.refl _ _)) hb; have HB23 := Aside0.mk hbb; have HR23 := Aside0.mk h; have z0 : w23.cell? ⟨ga, 0, none⟩ = some (.slice P1 ln.length e1) := (mblk_cell (HP22.out.below hbb).a 0).trans rfl; have z1 : w23.cell? ⟨ga, 1, none⟩ = some (.slice P2 ld.length e2) := (mblk_cell (HP22.out.below hbb).a 1).trans rfl; clear h hb hbb)
       | (go_at_call 24; refine (left_calls g b All (heldL l2) l2 _ (HP22.out.below HB23.out).led HS.out (sz_mono (held_sz HO9.out.good) (by omega)) HO9.out.le).mono ?_; rintro e w24 ⟨u, u', rfl, h, hb⟩; obtain ⟨V1, v1, V2, v2, rfl, rfl⟩ := h.shape; have hbb : Below w22.heap.size w22 w24 := below_step HB23.out hb; have HB24 := Aside0.mk hbb; have HR24 := Aside0.mk (HR23.out.below hb); have HV24 := Aside0.mk h; have z0 : w24.cell? ⟨ga, 0, none⟩ = some (.slice P1 ln.length e1) := (mblk_cell (HP22.out.below hbb).a 0).trans rfl; have z1 : w24.cell? ⟨ga, 1, none⟩ = some (.slice P2 ld.length e2) := (mblk_cell (HP22.out.below hbb).a 1).trans rfl; clear h hb hbb HB23 HR23)
       | (go_at_call 26; refine (XRFits.plus_rv HR24.out HV24.out NP.out).mono ?_; rintro e w25 ⟨u, u', rfl, h, hb⟩; obtain ⟨Y1, y1, Y2, y2, rfl, rfl⟩ := h.shape; have hbb : Below w22.heap.size w22 w25 := below_step HB24.out hb; have HB25 := Aside0.mk hbb; have HY25 := Aside0.mk h; have z0 : w25.cell? ⟨ga, 0, none⟩ = some (.slice P1 ln.length e1) := (mblk_cell (HP22.out.below hbb).a 0).trans rfl; have z1 : w25.cell? ⟨ga, 1, none⟩ = some (.slice P2 ld.length e2) := (mblk_cell (HP22.out.below hbb).a 1).trans rfl; clear h hb hbb HB24 HR24 HV24)
       | (go_at_call 19; refine (rcmp_rv HY25.out (HP22.out.below HB25.out).rv NQ.out).mono ?_; rintro e w26 ⟨rfl, hb⟩; have hbb : Below w22.heap.size w22 w26 := below_step HB25.out hb; have HB26 := Aside0.mk hbb; have z0 : w26.cell? ⟨ga, 0, none⟩ = some (.slice P1 ln.length e1) := (mblk_cell (HP22.out.below hbb).a 0).trans rfl; have z1 : w26.cell? ⟨ga, 1, none⟩ = some (.slice P2 ld.length e2) := (mblk_cell (HP22.out.below hbb).a 1).trans rfl; clear hb hbb HB25 HY25))
     all_goals
      go_wp2_with fail
      go_meet
      case rel => exact ⟨by first | rfl | (simp; done), ⟨HP22.out.below HB26.out⟩⟩
    case rest =>
     obtain ⟨rfl, HP27⟩ := hcut
     clear HP22 z0 z1
     obtain ⟨v, hM, hR⟩ := HP27.out.rl.out
     obtain ⟨A0, c0, rfl⟩ := Kd.R_slice hR
     rw [List.length_map] at hM
     have z2 : wc.cell? ⟨gr, 2, none⟩ = some (.slice A0 l2.length c0) := (mblk_cell hM 2).trans rfl
     have HM27 := Aside0.mk hM
     have dl : ((l2.length : Int) == (l2.length : Int)) = true := beq_self_eq_true _
     clear hM hR
     go_upto_region 31 with fail
     refine start_ (n := 20) (S := fun w' => w'.cell? ⟨gr, 2, none⟩ = some (.slice A0 l2.length c0)) (ds := []) #[false, false, false, false, false, false, false, false, false, false, false, false, false, false, false, false, false, false, false, false] (by kernel_rfl) rfl rfl (z2) (fun hHeld => ?_)
     refine pure_ (i := 0) (N := some 187) (v := ?_) (a' := ?_) #[true, false, false, false, false, false, false, false, false, false, false, false, false, false, false, false, false, false, false, false] rfl rfl (by kernel_rfl) (fun _ _ _ h => h) (Or.inl ⟨by rfl, ?_⟩) ?_ ?_
     rotate_left
     ·intro w'
      go_simp
      with_reducible rfl
     rotate_left
     ·simp only [Act.put, List.setIfInBounds_toArray, List.set_cons_zero, List.set_cons_succ, i64_w, i32_w]
      rfl
     refine pure_ (i := 1) (N := some 188) (v := ?_) (a' := ?_) #[true, true, false, false, false, false, false, false, false, false, false, false, false, false, false, false, false, false, false, false] rfl rfl (by kernel_rfl) (fun _ _ _ h => h) (Or.inl ⟨by rfl, ?_⟩) ?_ ?_
     rotate_left
     ·intro w'
      go_simp
      with_reducible rfl
     rotate_left
     ·simp only [Act.put, List.setIfInBounds_toArray, List.set_cons_zero, List.set_cons_succ, i64_w, i32_w]
      rfl
     refine pure_ (i := 2) (N := some 189) (v := ?_) (a' := ?_) #[true, true, true, false, false, false, false, false, false, false, false, false, false, false, false, false, false, false, false, false] rfl rfl (by kernel_rfl) (fun _ _ _ h => h) (Or.inl ⟨by rfl, ?_⟩) ?_ ?_
     rotate_left
     ·intro w'
      go_simp
      with_reducible rfl
     rotate_left
     ·simp only [Act.put, List.setIfInBounds_toArray, List.set_cons_zero, List.set_cons_succ, i64_w, i32_w]
      rfl
     refine pure_ (i := 3) (N := some 190) (v := ?_) (a' := ?_) #[true, true, true, true, false, false, false, false, false, false, false, false, false, false, false, false, false, false, false, false] rfl rfl (by kernel_rfl) (fun _ _ _ h => h) (Or.inl ⟨by rfl, ?_⟩) ?_ ?_
     rotate_left
     ·intro w'
      go_simp
      with_reducible rfl
     rotate_left
     ·simp only [Act.put, List.setIfInBounds_toArray, List.set_cons_zero, List.set_cons_succ, i64_w, i32_w]
      rfl
     refine pure_ (i := 4) (N := some 191) (v := ?_) (a' := ?_) #[true, true, true, true, true, false, false, false, false, false, false, false, false, false, false, false, false, false, false, false] rfl rfl (by kernel_rfl) (fun _ _ _ h => h) (Or.inl ⟨by rfl, ?_⟩) ?_ ?_
     rotate_left
     ·intro w'
      go_simp
      with_reducible rfl
     rotate_left
     ·simp only [Act.put, List.setIfInBounds_toArray, List.set_cons_zero, List.set_cons_succ, i64_w, i32_w]
      rfl
     refine pure_ (i := 5) (N := some 192) (v := ?_) (a' := ?_) #[true, true, true, true, true, true, false, false, false, false, false, false, false, false, false, false, false, false, false, false] rfl rfl (by kernel_rfl) (fun _ _ _ h => h) (Or.inl ⟨by rfl, ?_⟩) ?_ ?_
     rotate_left
     ·intro w'
      go_simp
      with_reducible rfl
     rotate_left
     ·simp only [Act.put, List.setIfInBounds_toArray, List.set_cons_zero, List.set_cons_succ, i64_w, i32_w]
      rfl
     refine pure_ (i := 6) (N := some 193) (v := ?_) (a' := ?_) #[true, true, true, true, true, true, true, false, false, false, false, false, false, false, false, false, false, false, false, false] rfl rfl (by kernel_rfl) (fun _ _ _ h => h) (Or.inl ⟨by rfl, ?_⟩) ?_ ?_
     rotate_left
     ·intro w'
      go_simp
      with_reducible rfl
     rotate_left
     ·simp only [Act.put, List.setIfInBounds_toArray, List.set_cons_zero, List.set_cons_succ, i64_w, i32_w]
      rfl
     refine pure_ (i := 7) (N := some 194) (v := ?_) (a' := ?_) #[true, true, true, true, true, true, true, true, false, false, false, false, false, false, false, false, false, false, false, false] rfl rfl (by kernel_rfl) (fun _ _ _ h => h) (Or.inl ⟨by rfl, ?_⟩) ?_ ?_
     rotate_left
     ·intro w'
      go_simp
      with_reducible rfl
     rotate_left
     ·simp only [Act.put, List.setIfInBounds_toArray, List.set_cons_zero, List.set_cons_succ, i64_w, i32_w]
      rfl
     refine pure_ (i := 8) (N := some 195) (v := ?_) (a' := ?_) #[true, true, true, true, true, true, true, true, true, false, false, false, false, false, false, false, false, false, false, false] rfl rfl (by kernel_rfl) (fun _ _ _ h => h) (Or.inl ⟨by rfl, ?_⟩) ?_ ?_
     rotate_left
     ·intro w'
      go_simp
      with_reducible rfl
     rotate_left
     ·simp only [Act.put, List.setIfInBounds_toArray, List.set_cons_zero, List.set_cons_succ, i64_w, i32_w]
      rfl
     refine pure_ (i := 9) (N := some 196) (v := ?_) (a' := ?_) #[true, true, true, true, true, true, true, true, true, true, false, false, false, false, false, false, false, false, false, false] rfl rfl (by kernel_rfl) (fun _ _ _ h => h) (Or.inl ⟨by rfl, ?_⟩) ?_ ?_
     rotate_left
     ·intro w'
      go_simp
      with_reducible rfl
     rotate_left
     ·simp only [Act.put, List.setIfInBounds_toArray, List.set_cons_zero, List.set_cons_succ, i64_w, i32_w]
      rfl
     refine pure_ (i := 10) (N := some 197) (v := ?_) (a' := ?_) #[true, true, true, true, true, true, true, true, true, true, true, false, false, false, false, false, false, false, false, false] rfl rfl (by kernel_rfl) (fun _ _ _ h => h) (Or.inl ⟨by rfl, ?_⟩) ?_ ?_
     rotate_left
     ·intro w'
      go_simp
      with_reducible rfl
     rotate_left
     ·simp only [Act.put, List.setIfInBounds_toArray, List.set_cons_zero, List.set_cons_succ, i64_w, i32_w]
      rfl
     refine pure_ (i := 11) (N := some 198) (v := ?_) (a' := ?_) #[true, true, true, true, true, true, true, true, true, true, true, true, false, false, false, false, false, false, false, false] rfl rfl (by kernel_rfl) (fun _ _ _ h => h) (Or.inl ⟨by rfl, ?_⟩) ?_ ?_
     rotate_left
     ·intro w'
      go_simp
      with_reducible rfl
     rotate_left
     ·simp only [Act.put, List.setIfInBounds_toArray, List.set_cons_zero, List.set_cons_succ, i64_w, i32_w]
      rfl
     refine pure_ (i := 13) (N := some 200) (v := ?_) (a' := ?_) #[true, true, true, true, true, true, true, true, true, true, true, true, false, true, false, false, false, false, false, false] rfl rfl (by kernel_rfl) (fun _ _ _ h => h) (Or.inl ⟨by rfl, ?_⟩) ?_ ?_
     rotate_left
     ·intro w'
      go_simp
      with_reducible rfl
     rotate_left
     ·simp only [Act.put, List.setIfInBounds_toArray, List.set_cons_zero, List.set_cons_succ, i64_w, i32_w]
      rfl
     refine pure_ (i := 14) (N := some 201) (v := ?_) (a' := ?_) #[true, true, true, true, true, true, true, true, true, true, true, true, false, true, true, false, false, false, false, false] rfl rfl (by kernel_rfl) (fun _ _ _ h => h) (Or.inl ⟨by rfl, ?_⟩) ?_ ?_
     rotate_left
     ·intro w'
      go_simp
      with_reducible rfl
     rotate_left
     ·simp only [Act.put, List.setIfInBounds_toArray, List.set_cons_zero, List.set_cons_succ, i64_w, i32_w]
      rfl
     refine pure_ (i := 15) (N := some 202) (v := ?_) (a' := ?_) #[true, true, true, true, true, true, true, true, true, true, true, true, false, true, true, true, false, false, false, false] rfl rfl (by kernel_rfl) (fun _ _ _ h => h) (Or.inl ⟨by rfl, ?_⟩) ?_ ?_
     rotate_left
     ·intro w'
      go_simp
      with_reducible rfl
     rotate_left
     ·simp only [Act.put, List.setIfInBounds_toArray, List.set_cons_zero, List.set_cons_succ, i64_w, i32_w]
      rfl
     refine take_ (i := 16) (N := some 203) (v := ?_) (a' := ?_) #[true, true, true, true, true, true, true, true, true, true, true, true, false, true, true, true, true, false, false, false] rfl rfl (by kernel_rfl) (fun _ _ _ h => h) (Or.inl ⟨by rfl, ?_⟩) hHeld ?_ ?_
     rotate_left
     ·intro w' s0
      go_simp
      with_reducible rfl
     rotate_left
     ·simp only [Act.put, List.setIfInBounds_toArray, List.set_cons_zero, List.set_cons_succ, i64_w, i32_w]
      rfl
     refine pure_ (i := 17) (N := some 204) (v := ?_) (a' := ?_) #[true, true, true, true, true, true, true, true, true, true, true, true, false, true, true, true, true, true, false, false] rfl rfl (by kernel_rfl) (fun _ _ _ h => h) (Or.inl ⟨by rfl, ?_⟩) ?_ ?_
     rotate_left
     ·intro w'
      go_simp
      with_reducible rfl
     rotate_left
     ·simp only [Act.put, List.setIfInBounds_toArray, List.set_cons_zero, List.set_cons_succ, i64_w, i32_w]
      rfl
     refine one_ (i := 12) (N := some 199) #[true, true, true, true, true, true, true, true, true, true, true, true, true, true, true, true, true, true, false, false] rfl rfl (by kernel_rfl) (by decide) (fun K hK => ?_)
     refine goes_ Try.func21 (by kernel_rfl) rfl #[.pointer (some ⟨g, 0, none⟩)] (by rfl) rfl rfl (by simp only [List.map_toArray, List.map_cons, List.map_nil]; rfl) ?_
     with_reducible refine (len_calls g b All (heldL l2) l2 _ (HP27.out.below (below_drew (Below.refl _ _))).led (by have := HO9.out.len; omega)).mono ?_
     rintro e1_ w28 ⟨rfl, rfl⟩
     refine ⟨_, rfl, ?_⟩
     refine hK.out _ _ (z2) (fun hHeld => ?_)
     clear hK K
     refine norm_ (a' := ?_) ?_ ?_
     rotate_left
     ·show Act.put _ (some 199) _ = _
      simp only [Act.put, List.setIfInBounds_toArray, List.set_cons_zero, List.set_cons_succ, i64_w, i32_w]
      rfl
     refine pure_ (i := 18) (N := some 205) (v := ?_) (a' := ?_) #[true, true, true, true, true, true, true, true, true, true, true, true, true, true, true, true, true, true, true, false] rfl rfl (by kernel_rfl) (fun _ _ _ h => h) (Or.inl ⟨by rfl, ?_⟩) ?_ ?_
     rotate_left
     ·intro w'
      go_simp
      with_reducible rfl
     rotate_left
     ·simp only [Act.put, List.setIfInBounds_toArray, List.set_cons_zero, List.set_cons_succ, i64_w, i32_w]
      rfl
     refine pure_ (i := 19) (N := some 206) (v := ?_) (a' := ?_) #[true, true, true, true, true, true, true, true, true, true, true, true, true, true, true, true, true, true, true, true] rfl rfl (by kernel_rfl) (fun _ _ _ h => h) (Or.inl ⟨by rfl, ?_⟩) ?_ ?_
     rotate_left
     ·intro w'
      go_simp
      with_reducible rfl
     rotate_left
     ·simp only [Act.put, List.setIfInBounds_toArray, List.set_cons_zero, List.set_cons_succ, i64_w, i32_w]
      rfl
     refine done_ (by kernel_rfl) ?_
     go_wp2_with fail
     go_roundw
     case rel => exact ⟨i + 1, l2, by simp, by omega, by omega, ⟨HP27.out.below (below_drew (Below.refl _ _))⟩, HO9, HS9⟩
     case measure => simp [intOf]; omega
end Go.Proofs.Ytfldklimlcnnnaa.PureHoldPlays
end
