/- HoldLeft: what is held and what is left are all; who frees what it holds leaves all as it was. The walk of the law. -/
import Derived.Test.YtfldklimlcnnnaaQLeft
import Derived.Laws.IdiomStrings
import Derived.Deep.DrawnRows
import Derived.Deep.DeepCutAuto
import Derived.Deep.RegionHeld3
import Derived.Deep.CutBlock
import Derived.Test.YtfldklimlcnnnaaPHqx37
namespace Go.Proofs.Ytfldklimlcnnnaa.PureHoldLeft
open Go.RowKit Go.Shelf Go.Proofs.Ytfldklimlcnnnaa.PHq Go.Proofs.YtfldklimlcnnnaaW.PrintWords Go.Proofs.YtfldklimlcnnnaaW.PrintLast Go.Proofs.YtfldklimlcnnnaaW.PrintMore Go.Proofs.Ytfldklimlcnnnaa.MWords
open Go.Proofs.Ytfldklimlcnnnaa.MNat Go.Proofs.Ytfldklimlcnnnaa.QNat Go.Proofs.Ytfldklimlcnnnaa.QText Go.Proofs.Ytfldklimlcnnnaa.QEv Go.Proofs.Ytfldklimlcnnnaa.QRatio Go.Proofs.Ytfldklimlcnnnaa.XRV Go.Proofs.Ytfldklimlcnnnaa.XHold Go.Proofs.Ytfldklimlcnnnaa.XWts Go.Proofs.Ytfldklimlcnnnaa.XLed Go.Proofs.Ytfldklimlcnnnaa.XPuts Go.Proofs.Ytfldklimlcnnnaa.XNew Go.Proofs.Ytfldklimlcnnnaa.XFits Go.Proofs.Ytfldklimlcnnnaa.XJoin Go.Proofs.Ytfldklimlcnnnaa.XMeth Go.Proofs.Ytfldklimlcnnnaa.XAsk Go.Proofs.Ytfldklimlcnnnaa.XEnd Go.Proofs.Ytfldklimlcnnnaa.XAwake Go.Proofs.Ytfldklimlcnnnaa.QHold Go.Proofs.Ytfldklimlcnnnaa.XOp Go.Proofs.Ytfldklimlcnnnaa.XLeft Go.Proofs.Ytfldklimlcnnnaa.QLeft
set_option linter.unusedVariables false
set_option linter.unusedSimpArgs false
attribute [local go_sem ↓] Go.wp_at_zero Go.wp_at_succ
-- regattaref03_Of.calls regattaref03_Plus.calls regattaref03_Cmp.f

theorem plus_rv {k : Nat} {W : World} {x y u v : Value} {a b c d r1 r2 : List Int} (h : RV W x y a b) (g : RV W u v c d) (hf : regattaref03_Plus.f k a b c d = some (r1, r2)) :
    Calls Try.prog 26 #[.agg #[x, y], .agg #[u, v]] W fun e w' => ∃ p q : Value, e = .returned (.agg #[p, q]) ∧ RV w' p q r1 r2 ∧ Below W.heap.size W w' := by
  obtain ⟨⟨A1, c1, rfl, p1, q1⟩, A2, c2, rfl, p2, q2⟩ := h
  obtain ⟨⟨A3, c3, rfl, p3, q3⟩, A4, c4, rfl, p4, q4⟩ := g
  exact (regattaref03_Plus.calls k A1 c1 a A2 c2 b A3 c3 c A4 c4 d r1 r2 W q1 p1 q2 p2 q3 p3 q4 p4 hf).mono fun e w' ⟨p, q, he, h1, h2, hb⟩ => ⟨p, q, he, RV.ofR h1 h2, hb⟩
theorem r3of_rv (x : S34) (hx : okW x) (W : World) :
    Calls Try.prog 23 #[.agg #[.int .i64 x.f0, .int .i64 x.f1]] W fun e w' => ∃ p q : Value, e = .returned (.agg #[p, q]) ∧ RV w' p q (limbs x.f0.toNat) (limbs x.f1.toNat) ∧ Below W.heap.size W w' := by
  obtain ⟨k, hk⟩ := (r3of_t x hx).get
  exact (regattaref03_Of.calls k x.f0 x.f1 _ _ W hk).mono fun e w' ⟨p, q, he, h1, h2, hb⟩ => ⟨p, q, he, RV.ofR h1 h2, hb⟩
theorem and_mask_nat (k : Nat) (hk : k ≤ 62) (x m : Int) (hm : m = 2 ^ k - 1) : ∃ n : Nat, Go.bits .and .i64 x m = (n : Int) ∧ (n : Int) ≤ m := by
  have e : Go.bits .and .i64 x m = x % 2 ^ k := QBits.and_mask k hk x m hm
  have h0 : (0 : Int) < 2 ^ k := Int.pow_pos (by omega)
  have b1 := Int.emod_nonneg x (show (2 : Int) ^ k ≠ 0 by omega)
  have b2 := Int.emod_lt_of_pos x h0
  obtain ⟨n, hn⟩ := Int.eq_ofNat_of_zero_le b1
  exact ⟨n, by rw [e, hn], by rw [hm]; omega⟩
/-- A period by a number: 1 to 16. -/
theorem per_any (q : Int) : ∃ p : Nat, wrap64 (1 + Go.bits .and .i64 q 15) = (p : Int) ∧ 1 ≤ p ∧ p ≤ 16 := by
  obtain ⟨n, hn, h1⟩ := and_mask_nat 4 (by omega) q 15 rfl
  exact ⟨1 + n, by rw [hn, QBits.w64 (by omega) (by omega)]; omega, by omega, by omega⟩
/-- What stands behind i rounds. -/
structure Rnd (all : Rat) (l : List (Int × Hd)) (i : Nat) : Prop where
  ok : Ok all l i
  ids : ∀ y ∈ l, y.1 < (i : Int)
theorem Rnd.next {all : Rat} {l : List (Int × Hd)} {i : Nat} (h : Rnd all l i) (hi : i < 8) (x : S34) : Rnd all (joinL all (heldL l) l i x) (i + 1) := by
  refine ⟨ok_join h.ok (by omega) _ _, fun y hy => ?_⟩
  unfold joinL at hy
  by_cases he : joinE all (heldL l) l i x = 0
  · rw [if_pos he] at hy
    rcases set_mem hy with rfl | ⟨hm, _⟩
    · show (i : Int) < _
      omega
    · have := h.ids y hm
      omega
  · rw [if_neg he] at hy
    have := h.ids y hy
    omega
theorem Rnd.no {all : Rat} {l : List (Int × Hd)} {i : Nat} (h : Rnd all l i) (hi : i ≤ 8) : hasL l 99 = false := by
  unfold hasL
  rw [List.any_eq_false]
  intro y hy
  have := h.ids y hy
  simp
  omega
set_option maxHeartbeats 4000000 in
set_option maxRecDepth 100000 in
theorem left_law (m : Int) (A : Option Addr) (cp : Nat) (xs : List (Int × Int)) (p q : Int) (w : World) (hC : Kd.C kP2 w A xs.length xs) (hc : xs.length ≤ cp) (hx : xs.length ≤ 9223372036854775807) :
    Calls Try.prog 4 #[.int .i64 m, .slice A xs.length cp, .agg #[.int .i64 p, .int .i64 q]] w fun e w' => e = .returned (.bool true) ∧ Below w.heap.size w w' := by
  have mixed : Try.prog.follows Departure.mixedOrders = true := by kernel_rfl
  have HC := Aside0.mk (And.intro hC (And.intro hc hx))
  obtain ⟨c, hcr, c0, c1⟩ := one_any m 4 (by omega) (by omega)
  have HR := Aside0.mk (And.intro hcr (And.intro c0 c1))
  have c2 : c ≤ 4 := by omega
  clear hC hc hcr c1
  have uc : IntKind.u64.wrap (c : Int) = (c : Int) := by rw [IntKind.wrap_u64]; omega
  have HS := Aside0.mk (mkR_sz (n := c) (d := 1) (by omega) (by omega) (by omega))
  go_enter Try.func4, Try.ntmps4
  go_upto_region 1 with fail
  obtain ⟨w0, hw0⟩ : ∃ w0, w0 = w.alloc (.cells #[.int .i64 p, .int .i64 q] 39) := ⟨_, rfl⟩
  have hb0 : Below w.heap.size w w0 := by rw [hw0]; exact below_alloc (Below.refl _ _) _
  have HX0 := Aside0.mk (show MBlk w0 w.heap.size 39 #[.int .i64 p, .int .i64 q] by rw [hw0]; exact mblk_new _ _ _)
  rw [← hw0]
  have HB0 := Aside0.mk hb0
  clear hw0 hb0
  go_upto_region 2 with (go_at_call 15; refine (awake_calls _).mono ?_; rintro e w1 ⟨rfl, hb⟩; have HB1 := Aside0.mk (below_step HB0.out hb); have HX1 := Aside0.mk ((hb.block _ (mblk_lt HX0.out)).trans HX0.out); clear hb)
  go_upto_region 3 with fail
  rw [HR.out.1]
  go_upto_region 4 with (first
    | (go_at_call 17; refine (one_rv c 1 (by omega) (by omega) _).mono ?_; rintro e w2 ⟨q, q', rfl, h1, hb⟩; obtain ⟨P1, e1, P2, e2, rfl, rfl⟩ := h1.shape; have HB2 := Aside0.mk (below_step HB1.out hb); have HX2 := Aside0.mk ((hb.block _ (mblk_lt HX1.out)).trans HX1.out); have H2 := Aside0.mk h1; clear h1 hb)
    | (go_at_call 16; refine (new_calls _ _ c 1 2 w2 H2.out (F_u64 (by omega)) (F_u64 (by omega)) (by omega) (by omega)).mono ?_; rintro e w3 ⟨g, b, rfl, hl, hb, hg1, hg2⟩; have HL3 := Aside0.mk (show Led w3 g b (mkRat (c : Int) 1) (heldL []) [] from hl); have HB3 := Aside0.mk (below_step HB2.out hb); have HX3 := Aside0.mk ((hb.block _ (mblk_lt HX2.out)).trans HX2.out); have HG := Aside0.mk (And.intro (Nat.le_trans HB2.out.size hg1) (Nat.le_trans HB2.out.size hg2)); clear hl hb hg1 hg2))
  clear HB0 HB1 HB2 H2 HX0 HX1 HX2
  obtain ⟨All, hAll⟩ : ∃ All, All = mkRat (c : Int) 1 := ⟨_, rfl⟩
  rw [← hAll] at HL3 HS
  have H0 := Aside0.mk (show Rnd All [] 0 from ⟨⟨good_nil, by simp, by rw [hAll]; exact mk_nonneg _ _⟩, by simp⟩)
  have HAL := Aside0.mk hAll
  clear hAll
  go_upto_block 0 with fail
  go_cut [10] (fun _ wc => ∃ l, Aside0 (Led wc g b All (heldL l) l) ∧ Aside0 (Ok All l 8) ∧ Aside0 (hasL l 99 = false) ∧ Aside0 (Below w.heap.size w wc) ∧ Aside0 (MBlk wc w.heap.size 39 #[.int .i64 p, .int .i64 q]))
  case first =>
    go_wp2_with fail
    go_loopw [10, 11] (fun v10 _ wr => ∃ (i : Nat) (l : List (Int × Hd)), v10 = .int .i64 i ∧ i ≤ 8 ∧ i ≤ xs.length ∧ Aside0 (Led wr g b All (heldL l) l) ∧ Aside0 (Rnd All l i) ∧ Aside0 (Below w.heap.size w wr) ∧ Aside0 (MBlk wr w.heap.size 39 #[.int .i64 p, .int .i64 q])) (fun v10 _ _ => 8 - (intOf v10).toNat)
    case atStart => exact ⟨0, [], rfl, by omega, by omega, HL3, H0, HB3, HX3⟩
    case round =>
      obtain ⟨i, l, rfl, hi, hix, HL, HJ, HB, HX⟩ := hrel
      by_cases hlt : i < xs.length ∧ i < 8
      case neg =>
        by_cases h1 : i < xs.length
        · have h2 : i = 8 := by omega
          subst h2
          have dd : decide (((8 : Nat) : Int) < (xs.length : Int)) = true := decide_eq_true (by omega)
          clear hlt
          go_wp2_with fail
          go_meet
          case rel => exact ⟨l, HL, ⟨HJ.out.ok⟩, ⟨HJ.out.no (by omega)⟩, HB, HX⟩
        · have h2 : i = xs.length := by omega
          subst h2
          clear hlt h1
          go_wp2_with fail
          go_meet
          case rel => exact ⟨l, HL, ⟨HJ.out.ok.mono (by omega)⟩, ⟨HJ.out.no (by omega)⟩, HB, HX⟩
      obtain ⟨hlx, hl8⟩ := hlt
      have d1 : decide ((i : Int) < (xs.length : Int)) = true := decide_eq_true (by omega)
      have d2 : decide ((i : Int) < 8) = true := decide_eq_true (by omega)
      obtain ⟨ad, e, a0, a1⟩ := at_P2 (Kd.C_below HC.out.1 HB.out) i hlx
      subst e
      generalize xs.getD i (0, 0) = o at a0 a1
      obtain ⟨o0, o1⟩ := o
      simp only at a0 a1
      obtain ⟨per, hper, per0, per1⟩ := per_any o1
      obtain ⟨e, he, e0, e1⟩ := one_any o0 per (by omega) (by omega)
      have HP := Aside0.mk hper
      have HE := Aside0.mk he
      have HW := Aside0.mk (wfI_of (x := (i : Int)) (by omega) (by omega))
      have np : ((per : Int) == 0) = false := beq_eq_false_iff_ne.2 (by omega)
      have np' : ¬ ((per : Int) = 0) := by omega
      clear hper he
      go_upto_region 10 with fail
      rw [HP.out]
      go_wp2_with (go_at_call 18; rw [HE.out]; refine (join_calls g b All l i ⟨(e : Int), (per : Int)⟩ _ HL.out HS.out HJ.out.ok.good (by have := HJ.out.ok.len; omega) HW.out).mono ?_; rintro e5 w5 ⟨rfl, hl, hk⟩; have HL5 := Aside0.mk hl; have HB5 := Aside0.mk (Kp.below HB.out HG.out.1 HG.out.2 hk); have HX5 := Aside0.mk (Led.keep HL.out hk HX.out (by decide)); clear hl hk)
      go_roundw
      case rel => exact ⟨i + 1, _, by simp, by omega, by omega, HL5, ⟨HJ.out.next hl8 _⟩, HB5, HX5⟩
      case measure => simp [intOf]; omega
  case rest =>
    obtain ⟨l, HL, HO, HN, HB, HX⟩ := hcut
    clear HL3 H0 HB3 HX3 HC hx
    obtain ⟨Q, hQ⟩ : ∃ Q : List Int × List Int, Q = L (heldL l) := ⟨_, rfl⟩
    have HQ := Aside0.mk hQ
    clear hQ
    have hlen := HO.out.len
    go_upto_region 11 with fail
    go_upto_region 12 with (go_at_call 20; refine (held_calls g b All (heldL l) l _ HL.out (sz_mono (held_sz HO.out.good) (by omega))).mono ?_; rintro e w6 ⟨t, t', rfl, h6, hb⟩; rw [← HQ.out] at h6; obtain ⟨T1, t1, T2, t2, rfl, rfl⟩ := h6.shape; have HL6 := Aside0.mk (HL.out.below hb); have HB6 := Aside0.mk (below_step HB.out hb); have HX6 := Aside0.mk ((hb.block _ (mblk_lt HX.out)).trans HX.out); have HT6 := Aside0.mk h6; clear h6 hb)
    obtain ⟨gh, hgh⟩ : ∃ gh, gh = w6.heap.size := ⟨_, rfl⟩
    obtain ⟨w7, hw7⟩ : ∃ w7, w7 = w6.alloc (.cells #[.slice T1 Q.1.length t1, .slice T2 Q.2.length t2] 28) := ⟨_, rfl⟩
    have hb7 : Below w6.heap.size w6 w7 := by rw [hw7]; exact below_alloc (Below.refl _ _) _
    have HH7 := Aside0.mk (show MBlk w7 gh 28 #[.slice T1 Q.1.length t1, .slice T2 Q.2.length t2] by rw [hw7, hgh]; exact mblk_new _ _ _)
    have HL7 := Aside0.mk (HL6.out.below hb7)
    have HB7 := Aside0.mk (below_step HB6.out hb7)
    have HX7 := Aside0.mk (show MBlk w7 w.heap.size 39 _ from (hb7.block _ (mblk_lt HX6.out)).trans HX6.out)
    have HT7 := Aside0.mk (HT6.out.below hb7)
    rw [← hw7, ← hgh]
    clear hw7 hgh hb7 HL HB HX HL6 HB6 HX6 HT6
    go_upto_region 13 with (go_at_call 21; refine (len_calls g b All (heldL l) l _ HL7.out (by have := HO.out.len; omega)).mono ?_; rintro e w8 ⟨rfl, rfl⟩)
    obtain ⟨per, hper, per0, per1⟩ := per_any q
    obtain ⟨e, he, e0, e1⟩ := one_any p per (by omega) (by omega)
    have HP := Aside0.mk hper
    have HE := Aside0.mk he
    have np : ((per : Int) == 0) = false := beq_eq_false_iff_ne.2 (by omega)
    have np' : ¬ ((per : Int) = 0) := by omega
    clear hper he
    have x0 : w8.cell? ⟨w.heap.size, 0, none⟩ = some (.int .i64 p) := (mblk_cell HX7.out 0).trans rfl
    have x1 : w8.cell? ⟨w.heap.size, 1, none⟩ = some (.int .i64 q) := (mblk_cell HX7.out 1).trans rfl
    go_upto_region 14 with fail
    rw [HP.out]
    go_upto_region 15 with fail
    rw [HE.out]
    clear x0 x1 HP HE np np'
    have HM := Aside0.mk (mayP (e := e) (p := per) e0 (by omega) (by omega))
    obtain ⟨X, hX⟩ : ∃ X : S34, X = ⟨(e : Int), (per : Int)⟩ := ⟨_, rfl⟩
    have fX0 : (e : Int) = X.f0 := by rw [hX]
    have fX1 : (per : Int) = X.f1 := by rw [hX]
    rw [← hX] at HM
    obtain ⟨gy, hgy⟩ : ∃ gy, gy = w8.heap.size := ⟨_, rfl⟩
    obtain ⟨w9, hw9⟩ : ∃ w9, w9 = w8.alloc (.cells #[.int .i64 X.f0, .int .i64 X.f1] 34) := ⟨_, rfl⟩
    have hb9 : Below w8.heap.size w8 w9 := by rw [hw9]; exact below_alloc (Below.refl _ _) _
    have HY9 := Aside0.mk (show MBlk w9 gy 34 #[.int .i64 X.f0, .int .i64 X.f1] by rw [hw9, hgy]; exact mblk_new _ _ _)
    have HL9 := Aside0.mk (HL7.out.below hb9)
    have HB9 := Aside0.mk (below_step HB7.out hb9)
    have HH9 := Aside0.mk (show MBlk w9 gh 28 #[.slice T1 Q.1.length t1, .slice T2 Q.2.length t2] from (hb9.block _ (mblk_lt HH7.out)).trans HH7.out)
    have HT9 := Aside0.mk (HT7.out.below hb9)
    rw [fX0, fX1, ← hw9, ← hgy]
    clear hw9 hgy hb9 HL7 HB7 HX7 HH7 HT7 hX fX0 fX1 e0 e1 per0 per1
    obtain ⟨Bf, hBf⟩ : ∃ Bf, Bf = fitsW All (heldL l) X ⟨0, 0⟩ := ⟨_, rfl⟩
    obtain ⟨C, hC⟩ : ∃ C, C = cmpR (wt X) (All - heldL l) := ⟨_, rfl⟩
    have hCB : decide (C ≤ 0) = Bf := by rw [hC, hBf]; exact room_fits (held_nonneg l) HM.out
    have HZ := Aside0.mk (show Sz (1 + 2 * l.length + 1) (All - heldL l) by rw [HAL.out]; exact left_sz (held_szN HO.out.good) (by omega) (by omega) (by omega) (by rw [← HAL.out]; exact HO.out.le))
    obtain ⟨kc, hkc⟩ := of_cmp (may_ok HM.out) HZ.out (by omega)
    rw [← hC] at hkc
    have HKC := Aside0.mk hkc
    obtain ⟨E, hE⟩ : ∃ E, E = joinE All (heldL l) l 99 X := ⟨_, rfl⟩
    have HE := Aside0.mk hE
    have HEB := Aside0.mk (show E = if Bf = false then 18 else 0 by
      rw [hE, hBf]
      unfold joinE
      rw [if_neg (by rw [HM.out]; decide), if_neg (by rw [HN.out]; decide)])
    have HBF := Aside0.mk hBf
    clear hE hBf hC hkc
    have y0 : w9.cell? ⟨gy, 0, none⟩ = some (.int .i64 X.f0) := (mblk_cell HY9.out 0).trans rfl
    have y1 : w9.cell? ⟨gy, 1, none⟩ = some (.int .i64 X.f1) := (mblk_cell HY9.out 1).trans rfl
    go_upto_region 16 with (go_at_call 22; refine (Fits_calls g b All (heldL l) l X ⟨0, 0⟩ _ HL9.out HS.out (sz_mono (held_sz HO.out.good) (by omega))).mono ?_; rw [← HBF.out]; rintro e w10 ⟨rfl, hb⟩; have HL10 := Aside0.mk (HL9.out.below hb); have HB10 := Aside0.mk (below_step HB9.out hb); have HH10 := Aside0.mk ((hb.block _ (mblk_lt HH9.out)).trans HH9.out); have HT10 := Aside0.mk (HT9.out.below hb); have HY10 := Aside0.mk ((hb.block _ (mblk_lt HY9.out)).trans HY9.out); clear hb)
    clear y0 y1 HL9 HB9 HH9 HT9 HY9
    have y0 : w10.cell? ⟨gy, 0, none⟩ = some (.int .i64 X.f0) := (mblk_cell HY10.out 0).trans rfl
    have y1 : w10.cell? ⟨gy, 1, none⟩ = some (.int .i64 X.f1) := (mblk_cell HY10.out 1).trans rfl
    go_upto_region 17 with (first
      | (go_at_call 23; refine (r3of_rv X (may_ok HM.out) _).mono ?_; rintro e w11 ⟨u, u', rfl, h11, hb⟩; obtain ⟨U1, u1, U2, u2, rfl, rfl⟩ := h11.shape; have HB11 := Aside0.mk hb; have HU11 := Aside0.mk h11; clear h11 hb)
      | (go_at_call 24; refine (left_calls g b All (heldL l) l _ (HL10.out.below HB11.out) HS.out (sz_mono (held_sz HO.out.good) (by omega)) HO.out.le).mono ?_; rintro e w12 ⟨v, v', rfl, h12, hb⟩; obtain ⟨V1, v1, V2, v2, rfl, rfl⟩ := h12.shape; have HB12 := Aside0.mk (below_step HB11.out hb); have HU12 := Aside0.mk (HU11.out.below hb); have HV12 := Aside0.mk h12; clear h12 hb HB11 HU11)
      | (go_at_call 19; refine (rcmp_rv HU12.out HV12.out HKC.out).mono ?_; rintro e w13 ⟨rfl, hb⟩; have HB13 := Aside0.mk (below_step HB12.out hb); clear hb HU12 HV12 HB12))
    have HL13 := Aside0.mk (HL10.out.below HB13.out)
    have HH13 := Aside0.mk ((HB13.out.block _ (mblk_lt HH10.out)).trans HH10.out)
    have HT13 := Aside0.mk (HT10.out.below HB13.out)
    have HY13 := Aside0.mk ((HB13.out.block _ (mblk_lt HY10.out)).trans HY10.out)
    have HC13 := Aside0.mk (below_step HB10.out HB13.out)
    clear y0 y1 HL10 HB10 HH10 HT10 HY10 HB13 HKC
    have y0 : w13.cell? ⟨gy, 0, none⟩ = some (.int .i64 X.f0) := (mblk_cell HY13.out 0).trans rfl
    have y1 : w13.cell? ⟨gy, 1, none⟩ = some (.int .i64 X.f1) := (mblk_cell HY13.out 1).trans rfl
    go_upto_region 18 with (go_at_call 18; refine (join_calls g b All l 99 X _ HL13.out HS.out HO.out.good (by have := HO.out.len; omega) (wfI_of (by omega) (by omega))).mono ?_; rw [← HE.out]; rintro e w14 ⟨rfl, hl, hk⟩; have HL14 := Aside0.mk hl; have HB14 := Aside0.mk (Kp.below HC13.out HG.out.1 HG.out.2 hk); have HT14 := Aside0.mk (RV.kp HT13.out HL13.out hk); have HH14 := Aside0.mk (Led.keep HL13.out hk HH13.out (by decide)); clear hl hk)
    clear y0 y1 HL13 HC13 HH13 HT13 HY13
    have HGG := Aside0.mk (show Bf = true → GoodL (setL l 99 ⟨X.f0, X.f1, 0, 0, false⟩) from fun _ => set_good HO.out.good (by have := HO.out.len; omega) ⟨may_ok HM.out, fun k => by cases k⟩)
    obtain ⟨ks, hks⟩ := cmp_same HO.out.good (by have := HO.out.len; omega)
    rw [← HQ.out] at hks
    obtain ⟨⟨kp, hkp⟩, kq, hkq⟩ := plus_cmp (held_szN HO.out.good) HZ.out (by omega) c 1 (by omega) (by omega) (by omega)
    rw [show heldL l + (All - heldL l) = mkRat (c : Int) 1 by rw [← HAL.out]; generalize heldL l = z; generalize All = y; grind, cmpR_self] at hkq
    rw [← HQ.out] at hkp
    generalize (heldL l).num.natAbs * (All - heldL l).den + (All - heldL l).num.natAbs * (heldL l).den = pn at hkp hkq
    generalize (heldL l).den * (All - heldL l).den = pd at hkp hkq
    have HKS := Aside0.mk hks
    have HKP := Aside0.mk (And.intro hkp hkq)
    clear hks hkp hkq
    have HLN := Aside0.mk hlen
    clear hlen
    have dl : ((l.length : Int) == (l.length : Int)) = true := beq_self_eq_true _
    cases Bf with
    | false =>
      have hE18 : E = 18 := HEB.out
      have HLL := Aside0.mk (show joinL All (heldL l) l 99 X = l from joinL_same (by rw [← HE.out, hE18]; decide))
      rw [HLL.out] at HL14
      subst hE18
      go_upto_region 22 with fail
      have HZB := Aside0.mk HB14.out
      have HZL := Aside0.mk HL14.out
      have HZT := Aside0.mk HT14.out
      have HZH := Aside0.mk HH14.out
      clear HB14 HL14 HT14 HH14 HLL
      have HM1 := Aside0.mk HZL.out
      have z0 : w14.cell? ⟨gh, 0, none⟩ = some (.slice T1 Q.1.length t1) := (mblk_cell HZH.out 0).trans rfl
      have z1 : w14.cell? ⟨gh, 1, none⟩ = some (.slice T2 Q.2.length t2) := (mblk_cell HZH.out 1).trans rfl
      go_region_held3 (fun w' => w'.cell? ⟨gh, 0, none⟩ = some (.slice T1 Q.1.length t1) ∧ w'.cell? ⟨gh, 1, none⟩ = some (.slice T2 Q.2.length t2))
        (first | (exact ⟨z0, z1⟩) | go_keep)
        (first
          | (go_at_call 20; refine (held_calls g b All (heldL l) l _ (HM1.out.below (below_drew (Below.refl _ _))) (sz_mono (held_sz HO.out.good) (by omega))).mono ?_; rintro e w20 ⟨t, t', rfl, h, hb⟩; rw [← HQ.out] at h; obtain ⟨R1, r1, R2, r2, rfl, rfl⟩ := h.shape; have hbb : Below w14.heap.size w14 w20 := below_step (below_drew (Below.refl _ _)) hb; have HB20 := Aside0.mk hbb; have HR20 := Aside0.mk h; have z0 : w20.cell? ⟨gh, 0, none⟩ = some (.slice T1 Q.1.length t1) := (mblk_cell ((hbb.block _ (mblk_lt HZH.out)).trans HZH.out) 0).trans rfl; have z1 : w20.cell? ⟨gh, 1, none⟩ = some (.slice T2 Q.2.length t2) := (mblk_cell ((hbb.block _ (mblk_lt HZH.out)).trans HZH.out) 1).trans rfl; clear h hb hbb HM1)
          | (go_at_call 19; refine (rcmp_rv (HZT.out.below HB20.out) HR20.out HKS.out).mono ?_; rintro e w21 ⟨rfl, hb⟩; have hbb : Below w14.heap.size w14 w21 := below_step HB20.out hb; have HB21 := Aside0.mk hbb; have z0 : w21.cell? ⟨gh, 0, none⟩ = some (.slice T1 Q.1.length t1) := (mblk_cell ((hbb.block _ (mblk_lt HZH.out)).trans HZH.out) 0).trans rfl; have z1 : w21.cell? ⟨gh, 1, none⟩ = some (.slice T2 Q.2.length t2) := (mblk_cell ((hbb.block _ (mblk_lt HZH.out)).trans HZH.out) 1).trans rfl; clear hb hbb HR20 HB20 HZT HKS)
          | (go_at_call 21; refine (len_calls g b All (heldL l) l _ (HZL.out.below HB21.out) (by have := HLN.out; omega)).mono ?_; rintro e w22 ⟨rfl, rfl⟩; have HM4 := Aside0.mk (HZL.out.below HB21.out))
          | (go_at_call 20; refine (held_calls g b All (heldL l) l _ HM4.out (sz_mono (held_sz HO.out.good) (by omega))).mono ?_; rintro e w23 ⟨t, t', rfl, h, hb⟩; rw [← HQ.out] at h; obtain ⟨R3, r3, R4, r4, rfl, rfl⟩ := h.shape; have hbb : Below w14.heap.size w14 w23 := below_step HB21.out hb; have HB23 := Aside0.mk hbb; have HR23 := Aside0.mk h; have z0 : w23.cell? ⟨gh, 0, none⟩ = some (.slice T1 Q.1.length t1) := (mblk_cell ((hbb.block _ (mblk_lt HZH.out)).trans HZH.out) 0).trans rfl; have z1 : w23.cell? ⟨gh, 1, none⟩ = some (.slice T2 Q.2.length t2) := (mblk_cell ((hbb.block _ (mblk_lt HZH.out)).trans HZH.out) 1).trans rfl; clear h hb hbb HM4 HB21)
          | (go_at_call 24; refine (left_calls g b All (heldL l) l _ (HZL.out.below HB23.out) HS.out (sz_mono (held_sz HO.out.good) (by omega)) HO.out.le).mono ?_; rintro e w24 ⟨t, t', rfl, h, hb⟩; obtain ⟨R5, r5, R6, r6, rfl, rfl⟩ := h.shape; have hbb : Below w14.heap.size w14 w24 := below_step HB23.out hb; have HB24 := Aside0.mk hbb; have HR24 := Aside0.mk (HR23.out.below hb); have HS24 := Aside0.mk h; have z0 : w24.cell? ⟨gh, 0, none⟩ = some (.slice T1 Q.1.length t1) := (mblk_cell ((hbb.block _ (mblk_lt HZH.out)).trans HZH.out) 0).trans rfl; have z1 : w24.cell? ⟨gh, 1, none⟩ = some (.slice T2 Q.2.length t2) := (mblk_cell ((hbb.block _ (mblk_lt HZH.out)).trans HZH.out) 1).trans rfl; clear h hb hbb HR23 HB23)
          | (go_at_call 26; refine (plus_rv HR24.out HS24.out HKP.out.1).mono ?_; rintro e w25 ⟨t, t', rfl, h, hb⟩; obtain ⟨R7, r7, R8, r8, rfl, rfl⟩ := h.shape; have hbb : Below w14.heap.size w14 w25 := below_step HB24.out hb; have HB25 := Aside0.mk hbb; have HR25 := Aside0.mk h; have z0 : w25.cell? ⟨gh, 0, none⟩ = some (.slice T1 Q.1.length t1) := (mblk_cell ((hbb.block _ (mblk_lt HZH.out)).trans HZH.out) 0).trans rfl; have z1 : w25.cell? ⟨gh, 1, none⟩ = some (.slice T2 Q.2.length t2) := (mblk_cell ((hbb.block _ (mblk_lt HZH.out)).trans HZH.out) 1).trans rfl; clear h hb hbb HR24 HS24 HB24)
          | (go_at_call 17; refine (one_rv c 1 (by omega) (by omega) _).mono ?_; rintro e w26 ⟨t, t', rfl, h, hb⟩; obtain ⟨S1, s1, S2, s2, rfl, rfl⟩ := h.shape; have hbb : Below w14.heap.size w14 w26 := below_step HB25.out hb; have HB26 := Aside0.mk hbb; have HR26 := Aside0.mk (HR25.out.below hb); have HS26 := Aside0.mk h; have z0 : w26.cell? ⟨gh, 0, none⟩ = some (.slice T1 Q.1.length t1) := (mblk_cell ((hbb.block _ (mblk_lt HZH.out)).trans HZH.out) 0).trans rfl; have z1 : w26.cell? ⟨gh, 1, none⟩ = some (.slice T2 Q.2.length t2) := (mblk_cell ((hbb.block _ (mblk_lt HZH.out)).trans HZH.out) 1).trans rfl; clear h hb hbb HR25 HB25)
          | (go_at_call 19; refine (rcmp_rv HR26.out HS26.out HKP.out.2).mono ?_; rintro e w27 ⟨rfl, hb⟩; have hbb : Below w14.heap.size w14 w27 := below_step HB26.out hb; have HB27 := Aside0.mk hbb; have z0 : w27.cell? ⟨gh, 0, none⟩ = some (.slice T1 Q.1.length t1) := (mblk_cell ((hbb.block _ (mblk_lt HZH.out)).trans HZH.out) 0).trans rfl; have z1 : w27.cell? ⟨gh, 1, none⟩ = some (.slice T2 Q.2.length t2) := (mblk_cell ((hbb.block _ (mblk_lt HZH.out)).trans HZH.out) 1).trans rfl; clear hb hbb HR26 HS26 HB26))
      all_goals
        go_wp2_with fail
        exact bodyPost_ret (results_tmp rfl _ _ _) rfl ⟨rfl, below_step HZB.out HB27.out⟩
    | true =>
      have hE0 : E = 0 := HEB.out
      have HLL := Aside0.mk (show joinL All (heldL l) l 99 X = setL l 99 ⟨X.f0, X.f1, 0, 0, false⟩ by unfold joinL; rw [← HE.out, hE0, if_pos rfl])
      rw [HLL.out] at HL14
      subst hE0
      have HFS := Aside0.mk (free_set l 99 ⟨X.f0, X.f1, 0, 0, false⟩ HN.out)
      go_upto_region 22 with (go_at_call 25; refine (free_calls g b All _ 99 _ HL14.out (HGG.out rfl) (wfI_of (by omega) (by omega))).mono ?_; rw [HFS.out.1, HFS.out.2]; rintro e w15 ⟨rfl, hl, hk⟩; have HL15 := Aside0.mk hl; have HB15 := Aside0.mk (Kp.below HB14.out HG.out.1 HG.out.2 hk); have HT15 := Aside0.mk (RV.kp HT14.out HL14.out hk); have HH15 := Aside0.mk (Led.keep HL14.out hk HH14.out (by decide)); clear hl hk)
      have HZB := Aside0.mk HB15.out
      have HZL := Aside0.mk HL15.out
      have HZT := Aside0.mk HT15.out
      have HZH := Aside0.mk HH15.out
      clear HB15 HL15 HT15 HH15 HB14 HL14 HT14 HH14 HLL HFS
      have HM1 := Aside0.mk HZL.out
      have z0 : w15.cell? ⟨gh, 0, none⟩ = some (.slice T1 Q.1.length t1) := (mblk_cell HZH.out 0).trans rfl
      have z1 : w15.cell? ⟨gh, 1, none⟩ = some (.slice T2 Q.2.length t2) := (mblk_cell HZH.out 1).trans rfl
      go_region_held3 (fun w' => w'.cell? ⟨gh, 0, none⟩ = some (.slice T1 Q.1.length t1) ∧ w'.cell? ⟨gh, 1, none⟩ = some (.slice T2 Q.2.length t2))
        (first | (exact ⟨z0, z1⟩) | go_keep)
        (first
          | (go_at_call 20; refine (held_calls g b All (heldL l) l _ (HM1.out.below (below_drew (Below.refl _ _))) (sz_mono (held_sz HO.out.good) (by omega))).mono ?_; rintro e w20 ⟨t, t', rfl, h, hb⟩; rw [← HQ.out] at h; obtain ⟨R1, r1, R2, r2, rfl, rfl⟩ := h.shape; have hbb : Below w15.heap.size w15 w20 := below_step (below_drew (Below.refl _ _)) hb; have HB20 := Aside0.mk hbb; have HR20 := Aside0.mk h; have z0 : w20.cell? ⟨gh, 0, none⟩ = some (.slice T1 Q.1.length t1) := (mblk_cell ((hbb.block _ (mblk_lt HZH.out)).trans HZH.out) 0).trans rfl; have z1 : w20.cell? ⟨gh, 1, none⟩ = some (.slice T2 Q.2.length t2) := (mblk_cell ((hbb.block _ (mblk_lt HZH.out)).trans HZH.out) 1).trans rfl; clear h hb hbb HM1)
          | (go_at_call 19; refine (rcmp_rv (HZT.out.below HB20.out) HR20.out HKS.out).mono ?_; rintro e w21 ⟨rfl, hb⟩; have hbb : Below w15.heap.size w15 w21 := below_step HB20.out hb; have HB21 := Aside0.mk hbb; have z0 : w21.cell? ⟨gh, 0, none⟩ = some (.slice T1 Q.1.length t1) := (mblk_cell ((hbb.block _ (mblk_lt HZH.out)).trans HZH.out) 0).trans rfl; have z1 : w21.cell? ⟨gh, 1, none⟩ = some (.slice T2 Q.2.length t2) := (mblk_cell ((hbb.block _ (mblk_lt HZH.out)).trans HZH.out) 1).trans rfl; clear hb hbb HR20 HB20 HZT HKS)
          | (go_at_call 21; refine (len_calls g b All (heldL l) l _ (HZL.out.below HB21.out) (by have := HLN.out; omega)).mono ?_; rintro e w22 ⟨rfl, rfl⟩; have HM4 := Aside0.mk (HZL.out.below HB21.out))
          | (go_at_call 20; refine (held_calls g b All (heldL l) l _ HM4.out (sz_mono (held_sz HO.out.good) (by omega))).mono ?_; rintro e w23 ⟨t, t', rfl, h, hb⟩; rw [← HQ.out] at h; obtain ⟨R3, r3, R4, r4, rfl, rfl⟩ := h.shape; have hbb : Below w15.heap.size w15 w23 := below_step HB21.out hb; have HB23 := Aside0.mk hbb; have HR23 := Aside0.mk h; have z0 : w23.cell? ⟨gh, 0, none⟩ = some (.slice T1 Q.1.length t1) := (mblk_cell ((hbb.block _ (mblk_lt HZH.out)).trans HZH.out) 0).trans rfl; have z1 : w23.cell? ⟨gh, 1, none⟩ = some (.slice T2 Q.2.length t2) := (mblk_cell ((hbb.block _ (mblk_lt HZH.out)).trans HZH.out) 1).trans rfl; clear h hb hbb HM4 HB21)
          | (go_at_call 24; refine (left_calls g b All (heldL l) l _ (HZL.out.below HB23.out) HS.out (sz_mono (held_sz HO.out.good) (by omega)) HO.out.le).mono ?_; rintro e w24 ⟨t, t', rfl, h, hb⟩; obtain ⟨R5, r5, R6, r6, rfl, rfl⟩ := h.shape; have hbb : Below w15.heap.size w15 w24 := below_step HB23.out hb; have HB24 := Aside0.mk hbb; have HR24 := Aside0.mk (HR23.out.below hb); have HS24 := Aside0.mk h; have z0 : w24.cell? ⟨gh, 0, none⟩ = some (.slice T1 Q.1.length t1) := (mblk_cell ((hbb.block _ (mblk_lt HZH.out)).trans HZH.out) 0).trans rfl; have z1 : w24.cell? ⟨gh, 1, none⟩ = some (.slice T2 Q.2.length t2) := (mblk_cell ((hbb.block _ (mblk_lt HZH.out)).trans HZH.out) 1).trans rfl; clear h hb hbb HR23 HB23)
          | (go_at_call 26; refine (plus_rv HR24.out HS24.out HKP.out.1).mono ?_; rintro e w25 ⟨t, t', rfl, h, hb⟩; obtain ⟨R7, r7, R8, r8, rfl, rfl⟩ := h.shape; have hbb : Below w15.heap.size w15 w25 := below_step HB24.out hb; have HB25 := Aside0.mk hbb; have HR25 := Aside0.mk h; have z0 : w25.cell? ⟨gh, 0, none⟩ = some (.slice T1 Q.1.length t1) := (mblk_cell ((hbb.block _ (mblk_lt HZH.out)).trans HZH.out) 0).trans rfl; have z1 : w25.cell? ⟨gh, 1, none⟩ = some (.slice T2 Q.2.length t2) := (mblk_cell ((hbb.block _ (mblk_lt HZH.out)).trans HZH.out) 1).trans rfl; clear h hb hbb HR24 HS24 HB24)
          | (go_at_call 17; refine (one_rv c 1 (by omega) (by omega) _).mono ?_; rintro e w26 ⟨t, t', rfl, h, hb⟩; obtain ⟨S1, s1, S2, s2, rfl, rfl⟩ := h.shape; have hbb : Below w15.heap.size w15 w26 := below_step HB25.out hb; have HB26 := Aside0.mk hbb; have HR26 := Aside0.mk (HR25.out.below hb); have HS26 := Aside0.mk h; have z0 : w26.cell? ⟨gh, 0, none⟩ = some (.slice T1 Q.1.length t1) := (mblk_cell ((hbb.block _ (mblk_lt HZH.out)).trans HZH.out) 0).trans rfl; have z1 : w26.cell? ⟨gh, 1, none⟩ = some (.slice T2 Q.2.length t2) := (mblk_cell ((hbb.block _ (mblk_lt HZH.out)).trans HZH.out) 1).trans rfl; clear h hb hbb HR25 HB25)
          | (go_at_call 19; refine (rcmp_rv HR26.out HS26.out HKP.out.2).mono ?_; rintro e w27 ⟨rfl, hb⟩; have hbb : Below w15.heap.size w15 w27 := below_step HB26.out hb; have HB27 := Aside0.mk hbb; have z0 : w27.cell? ⟨gh, 0, none⟩ = some (.slice T1 Q.1.length t1) := (mblk_cell ((hbb.block _ (mblk_lt HZH.out)).trans HZH.out) 0).trans rfl; have z1 : w27.cell? ⟨gh, 1, none⟩ = some (.slice T2 Q.2.length t2) := (mblk_cell ((hbb.block _ (mblk_lt HZH.out)).trans HZH.out) 1).trans rfl; clear hb hbb HR26 HS26 HB26))
      all_goals
        go_wp2_with fail
        exact bodyPost_ret (results_tmp rfl _ _ _) rfl ⟨rfl, below_step HZB.out HB27.out⟩
end Go.Proofs.Ytfldklimlcnnnaa.PureHoldLeft
