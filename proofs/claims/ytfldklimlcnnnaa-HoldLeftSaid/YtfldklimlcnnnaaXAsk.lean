/- The walk of hold's Ask. -/
import Derived.Test.YtfldklimlcnnnaaXMeth
import Derived.Test.YtfldklimlcnnnaaPHqx6
import Derived.Test.YtfldklimlcnnnaaPHqx14
import Derived.Test.YtfldklimlcnnnaaPHqx19
namespace Go.Proofs.Ytfldklimlcnnnaa.XAsk
open Go.RowKit Go.Shelf Go.Proofs.Ytfldklimlcnnnaa.PHq Go.Proofs.YtfldklimlcnnnaaW.PrintWords Go.Proofs.YtfldklimlcnnnaaW.PrintLast Go.Proofs.YtfldklimlcnnnaaW.PrintMore Go.Proofs.Ytfldklimlcnnnaa.MWords
open Go.Proofs.Ytfldklimlcnnnaa.MNat Go.Proofs.Ytfldklimlcnnnaa.QNat Go.Proofs.Ytfldklimlcnnnaa.QText Go.Proofs.Ytfldklimlcnnnaa.QEv Go.Proofs.Ytfldklimlcnnnaa.QRatio Go.Proofs.Ytfldklimlcnnnaa.XRV Go.Proofs.Ytfldklimlcnnnaa.XHold Go.Proofs.Ytfldklimlcnnnaa.XWts Go.Proofs.Ytfldklimlcnnnaa.XLed Go.Proofs.Ytfldklimlcnnnaa.XPuts Go.Proofs.Ytfldklimlcnnnaa.XFits Go.Proofs.Ytfldklimlcnnnaa.XJoin Go.Proofs.Ytfldklimlcnnnaa.XMeth
set_option linter.unusedVariables false
set_option linter.unusedSimpArgs false
-- window_Check.calls hold_holder_holds.calls

/-- The holder h, that asks for x. -/
def asks (h : Hd) (x : S34) : Hd := ⟨h.e, h.p, x.f0, x.f1, true⟩
def askE (all q : Rat) (l : List (Int × Hd)) (z : Int) (x : S34) : Int :=
  if mayW x = false then 1 else match getL l z with
    | none => 12
    | some h => if h.a = true then 13 else if fitsQ all q (wt (hv (asks h x))) (wt (wN h)) = false then 18 else 0
def askL (all q : Rat) (l : List (Int × Hd)) (z : Int) (x : S34) : List (Int × Hd) := if askE all q l z x = 0 then setL l z (asks ((getL l z).getD zeroH) x) else l
set_option maxRecDepth 100000 in
set_option maxHeartbeats 4000000 in
theorem ask_calls (g b : Nat) (all : Rat) (l : List (Int × Hd)) (z : Int) (x : S34) (w : World) (hL : Led w g b all (heldL l) l) (ha : Sz 3000 all) (hG : GoodL l) (hl : l.length < 500) (hz : wfI z) :
    Calls Try.prog 28 #[.pointer (some ⟨g, 0, none⟩), .int .i64 z, .agg #[.int .i64 x.f0, .int .i64 x.f1]] w fun e w' => e = .returned (.int .i64 (askE all (heldL l) l z x)) ∧ Led w' g b all (heldL (askL all (heldL l) l z x)) (askL all (heldL l) l z x) ∧ Kp g b w w' := by
  have mixed : Try.prog.follows Departure.mixedOrders = true := by kernel_rfl
  obtain ⟨W0, hW0⟩ : ∃ W0, W0 = w.alloc (.cells #[.int .i64 x.f0, .int .i64 x.f1] 34) := ⟨_, rfl⟩
  have hb0 : Below w.heap.size w W0 := by rw [hW0]; exact below_alloc (Below.refl _ _) _
  have HX0 := Aside0.mk (show MBlk W0 w.heap.size 34 #[.int .i64 x.f0, .int .i64 x.f1] by rw [hW0]; exact mblk_new _ _ _)
  have HB0 := Aside0.mk hb0
  have HL0 := Aside0.mk (hL.below hb0)
  have HA := Aside0.mk (And.intro ha (And.intro hG (And.intro hl hz)))
  have HC := Aside0.mk (wcheck_f x)
  clear hL hb0 ha hG hl hz
  go_enter Try.func28, Try.ntmps28
  go_upto_region 1 with fail
  rw [← hW0]
  clear hW0
  have x0 : W0.cell? ⟨w.heap.size, 0, none⟩ = some (.int .i64 x.f0) := (mblk_cell HX0.out 0).trans rfl
  have x1 : W0.cell? ⟨w.heap.size, 1, none⟩ = some (.int .i64 x.f1) := (mblk_cell HX0.out 1).trans rfl
  by_cases hm : mayW x = true
  case neg =>
    have hm' : mayW x = false := by simpa using hm
    have HE := Aside0.mk (show askE all (heldL l) l z x = 1 by unfold askE; rw [if_pos hm'])
    clear hm
    go_wp2_with (go_at_call 66; refine (window_Check.calls x.f0 x.f1 _ _ HC.out).mono ?_; rw [hm']; rintro e w3 ⟨rfl, hb⟩; have HB3 := Aside0.mk hb; clear hb)
    refine bodyPost_ret (results_tmp rfl _ _ _) rfl ⟨by rw [HE.out]; rfl, ?_, (Kp.of HB0.out).trans (Kp.of HB3.out)⟩
    unfold askL
    rw [HE.out, if_neg (by decide)]
    exact HL0.out.below HB3.out
  have HM := Aside0.mk hm
  go_upto_region 3 with (go_at_call 66; refine (window_Check.calls x.f0 x.f1 _ _ HC.out).mono ?_; rw [hm]; rintro e w1 ⟨rfl, hb⟩; have HB1 := Aside0.mk (below_step HB0.out hb); have HX1 := Aside0.mk ((hb.block _ (mblk_lt HX0.out)).trans HX0.out); have HL1 := Aside0.mk (HL0.out.below hb); clear hb)
  clear x0 x1 HX0 HL0 HB0 hm
  obtain ⟨h, hh⟩ : ∃ h, h = (getL l z).getD zeroH := ⟨_, rfl⟩
  have hrun := map_get HL1.out.map HA.out.2.2.2
  rw [← hh] at hrun
  simp only [hdV] at hrun
  have HH := Aside0.mk hh
  obtain ⟨_, _, _, _, hM, _⟩ := HL1.out.cells
  have k1 : w1.cell? ⟨g, 2, none⟩ = some (.map (some b)) := (mblk_cell hM 2).trans rfl
  clear hM hh
  obtain ⟨w2, hw2⟩ : ∃ w2, w2 = w1.alloc (.cells #[.int .i64 h.e, .int .i64 h.p, .int .i64 h.e2, .int .i64 h.p2, .bool h.a] 102) := ⟨_, rfl⟩
  have hb2 : Below w1.heap.size w1 w2 := by rw [hw2]; exact below_alloc (Below.refl _ _) _
  have HX2 := Aside0.mk ((hb2.block _ (mblk_lt HX1.out)).trans HX1.out)
  have HL2 := Aside0.mk (HL1.out.below hb2)
  have HB2 := Aside0.mk (below_step HB1.out hb2)
  have HH2 := Aside0.mk (show MBlk w2 w1.heap.size 102 #[.int .i64 h.e, .int .i64 h.p, .int .i64 h.e2, .int .i64 h.p2, .bool h.a] by rw [hw2]; exact mblk_new _ _ _)
  have HW2 := Aside0.mk hw2
  clear hw2 hb2
  go_upto_region 4 with fail
  rw [← HW2.out]
  clear HW2 hrun k1 HX1 HL1 HB1
  have hLE : ∀ v, askE all (heldL l) l z x = v → v ≠ 0 → askL all (heldL l) l z x = l := fun v e hne => by unfold askL; rw [e, if_neg hne]
  have HLE := Aside0.mk hLE
  clear hLE
  cases hgt : getL l z with
  | none =>
    have hno := getL_none hgt
    have HE := Aside0.mk (show askE all (heldL l) l z x = 12 by unfold askE; rw [if_neg (by simp [HM.out]), hgt])
    rw [hno]
    clear hno hgt
    go_wp2_with fail
    refine bodyPost_ret (results_tmp rfl _ _ _) rfl ⟨by rw [HE.out]; rfl, ?_, Kp.of HB2.out⟩
    rw [HLE.out 12 HE.out (by decide)]
    exact HL2.out
  | some h' =>
    obtain rfl : h = h' := by have := HH.out; rw [hgt] at this; exact this
    have hyes : hasL l z = true := by rw [getL_has, hgt]; rfl
    rw [hyes]
    have HGT := Aside0.mk hgt
    have HOK := Aside0.mk (HA.out.2.1.ok _ (getL_mem hgt))
    clear hyes hgt
    have y0 : w2.cell? ⟨w1.heap.size, 0, none⟩ = some (.int .i64 h.e) := (mblk_cell HH2.out 0).trans rfl
    have y1 : w2.cell? ⟨w1.heap.size, 1, none⟩ = some (.int .i64 h.p) := (mblk_cell HH2.out 1).trans rfl
    have y4 : w2.cell? ⟨w1.heap.size, 4, none⟩ = some (.bool h.a) := (mblk_cell HH2.out 4).trans rfl
    have x0 : w2.cell? ⟨w.heap.size, 0, none⟩ = some (.int .i64 x.f0) := (mblk_cell HX2.out 0).trans rfl
    have x1 : w2.cell? ⟨w.heap.size, 1, none⟩ = some (.int .i64 x.f1) := (mblk_cell HX2.out 1).trans rfl
    by_cases ha : h.a = true
    · have HE := Aside0.mk (show askE all (heldL l) l z x = 13 by unfold askE; rw [if_neg (by simp [HM.out]), HGT.out]; exact if_pos ha)
      rw [ha] at y4
      go_wp2_with fail
      refine bodyPost_ret (results_tmp rfl _ _ _) rfl ⟨by rw [HE.out]; rfl, ?_, Kp.of HB2.out⟩
      rw [HLE.out 13 HE.out (by decide)]
      exact HL2.out
    have ha' : h.a = false := by simpa using ha
    have HNA := Aside0.mk ha'
    rw [ha'] at y4
    clear ha ha'
    obtain ⟨w3, hw3⟩ : ∃ w3, w3 = w2.alloc (.cells #[.int .i64 h.e, .int .i64 h.p, .int .i64 x.f0, .int .i64 x.f1, .bool true] 102) := ⟨_, rfl⟩
    have hb3 : Below w2.heap.size w2 w3 := by rw [hw3]; exact below_alloc (Below.refl _ _) _
    have HL3 := Aside0.mk (HL2.out.below hb3)
    have HB3 := Aside0.mk (below_step HB2.out hb3)
    have HH3 := Aside0.mk ((hb3.block _ (mblk_lt HH2.out)).trans HH2.out)
    have HA3 := Aside0.mk (show MBlk w3 w2.heap.size 102 #[.int .i64 h.e, .int .i64 h.p, .int .i64 x.f0, .int .i64 x.f1, .bool true] by rw [hw3]; exact mblk_new _ _ _)
    have HW3 := Aside0.mk hw3
    clear hw3 hb3
    go_upto_region 9 with fail
    rw [← HW3.out]
    clear HW3 x0 x1 y0 y1 y4 HX2 HL2 HB2 HH2
    have hoka : okH (asks h x) := ⟨HOK.out.1, fun _ => may_ok HM.out⟩
    obtain ⟨fv, hfv⟩ := (hv_t (asks h x) hoka).get
    obtain ⟨V, hV⟩ : ∃ V, V = hv (asks h x) := ⟨_, rfl⟩
    have hokV : okW V := by rw [hV]; exact hv_ok hoka
    rw [← hV] at hfv
    have HFV := Aside0.mk (show hold_holder_holds.f fv h.e h.p x.f0 x.f1 true = some (V.f0, V.f1) from hfv)
    have HVV := Aside0.mk (And.intro hV hokV)
    obtain ⟨B, hB⟩ : ∃ B, B = fitsQ all (heldL l) (mkRat (V.f0.toNat : Int) V.f1.toNat) (mkRat ((wN h).f0.toNat : Int) (wN h).f1.toNat) := ⟨_, rfl⟩
    have HBQ := Aside0.mk hB
    have HOV := Aside0.mk (of_w V hokV)
    have HON := Aside0.mk (show ratio_Of.f h.e h.p = some (limbs (wN h).f0.toNat, limbs (wN h).f1.toNat) from of_w (wN h) HOK.out.1)
    obtain ⟨a1, e1⟩ : ∃ a1, a1 = limbs V.f0.toNat := ⟨_, rfl⟩
    obtain ⟨a2, e2⟩ : ∃ a2, a2 = limbs V.f1.toNat := ⟨_, rfl⟩
    obtain ⟨a3, e3⟩ : ∃ a3, a3 = limbs (wN h).f0.toNat := ⟨_, rfl⟩
    obtain ⟨a4, e4⟩ : ∃ a4, a4 = limbs (wN h).f1.toNat := ⟨_, rfl⟩
    rw [← e1, ← e2] at HOV
    rw [← e3, ← e4] at HON
    have HEQ := Aside0.mk (And.intro e1 (And.intro e2 (And.intro e3 e4)))
    clear hoka hfv hV hokV hB e1 e2 e3 e4
    go_cut [44] from 36 to 44 (fun v44 wc => v44 = .bool (!B) ∧ Aside0 (Below w.heap.size w wc) ∧ Aside0 (Led wc g b all (heldL l) l) ∧ Aside0 (MBlk wc w2.heap.size 102 #[.int .i64 h.e, .int .i64 h.p, .int .i64 x.f0, .int .i64 x.f1, .bool true]))
    case first =>
      have z0 : w3.cell? ⟨w2.heap.size, 0, none⟩ = some (.int .i64 h.e) := (mblk_cell HA3.out 0).trans rfl
      have z1 : w3.cell? ⟨w2.heap.size, 1, none⟩ = some (.int .i64 h.p) := (mblk_cell HA3.out 1).trans rfl
      have z2 : w3.cell? ⟨w2.heap.size, 2, none⟩ = some (.int .i64 x.f0) := (mblk_cell HA3.out 2).trans rfl
      have z3 : w3.cell? ⟨w2.heap.size, 3, none⟩ = some (.int .i64 x.f1) := (mblk_cell HA3.out 3).trans rfl
      have z4 : w3.cell? ⟨w2.heap.size, 4, none⟩ = some (.bool true) := (mblk_cell HA3.out 4).trans rfl
      have y0 : w3.cell? ⟨w1.heap.size, 0, none⟩ = some (.int .i64 h.e) := (mblk_cell HH3.out 0).trans rfl
      have y1 : w3.cell? ⟨w1.heap.size, 1, none⟩ = some (.int .i64 h.p) := (mblk_cell HH3.out 1).trans rfl
      go_region_law
        (first
          | (go_simp; go_at_call 76
             refine (hold_holder_holds.calls fv h.e h.p x.f0 x.f1 true _ _ _ HFV.out).mono ?_
             rintro e w4 ⟨rfl, hb⟩
             have hb4 : Below w3.heap.size w3 w4 := below_step (below_drew (Below.refl _ _)) hb
             have HB4 := Aside0.mk hb4
             have y0 : w4.cell? ⟨w1.heap.size, 0, none⟩ = some (.int .i64 h.e) := (mblk_cell ((hb4.block _ (mblk_lt HH3.out)).trans HH3.out) 0).trans rfl
             have y1 : w4.cell? ⟨w1.heap.size, 1, none⟩ = some (.int .i64 h.p) := (mblk_cell ((hb4.block _ (mblk_lt HH3.out)).trans HH3.out) 1).trans rfl
             clear hb hb4)
          | (go_simp; go_at_call 71
             refine (of_rv HOV.out).mono ?_
             rintro e w5 ⟨p1, p2, rfl, hp, hb⟩
             obtain ⟨S1, c1, S2, c2, rfl, rfl⟩ := hp.shape
             have hb5 : Below w3.heap.size w3 w5 := below_step HB4.out hb
             have HB5 := Aside0.mk hb5
             have HP5 := Aside0.mk hp
             have y0 : w5.cell? ⟨w1.heap.size, 0, none⟩ = some (.int .i64 h.e) := (mblk_cell ((hb5.block _ (mblk_lt HH3.out)).trans HH3.out) 0).trans rfl
             have y1 : w5.cell? ⟨w1.heap.size, 1, none⟩ = some (.int .i64 h.p) := (mblk_cell ((hb5.block _ (mblk_lt HH3.out)).trans HH3.out) 1).trans rfl
             clear hp hb hb5 HOV)
          | (go_simp; go_at_call 71
             refine (of_rv HON.out).mono ?_
             rintro e w6 ⟨q1, q2, rfl, hq, hb⟩
             obtain ⟨T1, d1, T2, d2, rfl, rfl⟩ := hq.shape
             have HB6 := Aside0.mk (below_step HB5.out hb)
             have HP6 := Aside0.mk (HP5.out.below hb)
             have HQ6 := Aside0.mk hq
             clear hq hb HON)
          | (go_simp; go_at_call 72
             refine (fitsW_calls g b all (heldL l) l (.slice S1 a1.length c1) (.slice S2 a2.length c2) (.slice T1 a3.length d1) (.slice T2 a4.length d2) V.f0.toNat V.f1.toNat (wN h).f0.toNat (wN h).f1.toNat w6 (HL3.out.below HB6.out) HA.out.1 (sz_mono (held_sz HA.out.2.1) (by omega)) (okW_F HVV.out.2).1 (okW_F HVV.out.2).2 (okW_pos HVV.out.2) (okW_F HOK.out.1).1 (okW_F HOK.out.1).2 (okW_pos HOK.out.1) (by rw [← HEQ.out.1, ← HEQ.out.2.1]; exact HP6.out) (by rw [← HEQ.out.2.2.1, ← HEQ.out.2.2.2]; exact HQ6.out)).mono ?_
             rintro e w7 ⟨he, hb⟩
             rw [← HBQ.out] at he
             subst he
             have HB7 := Aside0.mk (below_step HB6.out hb)
             clear hb))
      all_goals
        go_wp2_with fail
        go_meet
        case rel => exact ⟨rfl, ⟨below_step HB3.out HB7.out⟩, ⟨HL3.out.below HB7.out⟩, ⟨(HB7.out.block _ (mblk_lt HA3.out)).trans HA3.out⟩⟩
    case rest =>
      obtain ⟨rfl, HB8, HL8, HA8⟩ := hcut
      have z0 : wc.cell? ⟨w2.heap.size, 0, none⟩ = some (.int .i64 h.e) := (mblk_cell HA8.out 0).trans rfl
      have z1 : wc.cell? ⟨w2.heap.size, 1, none⟩ = some (.int .i64 h.p) := (mblk_cell HA8.out 1).trans rfl
      have z2 : wc.cell? ⟨w2.heap.size, 2, none⟩ = some (.int .i64 x.f0) := (mblk_cell HA8.out 2).trans rfl
      have z3 : wc.cell? ⟨w2.heap.size, 3, none⟩ = some (.int .i64 x.f1) := (mblk_cell HA8.out 3).trans rfl
      have z4 : wc.cell? ⟨w2.heap.size, 4, none⟩ = some (.bool true) := (mblk_cell HA8.out 4).trans rfl
      have HEE := Aside0.mk (show askE all (heldL l) l z x = if B = false then 18 else 0 by
        unfold askE
        rw [if_neg (by simp [HM.out]), HGT.out, HBQ.out, HVV.out.1]
        exact if_neg (by simp [HNA.out]))
      cases hBB : B with
      | false =>
        have HE := Aside0.mk (show askE all (heldL l) l z x = 18 by rw [HEE.out, if_pos hBB])
        clear hBB
        go_wp2_with fail
        refine bodyPost_ret (results_tmp rfl _ _ _) rfl ⟨by rw [HE.out]; rfl, ?_, Kp.of HB8.out⟩
        rw [HLE.out 18 HE.out (by decide)]
        exact HL8.out
      | true =>
        have HE := Aside0.mk (show askE all (heldL l) l z x = 0 by rw [HEE.out, if_neg (by simp [hBB])])
        have HGS := Aside0.mk (set_good (z := z) (h := asks h x) HA.out.2.1 HA.out.2.2.1 ⟨HOK.out.1, fun _ => may_ok HM.out⟩)
        clear hBB
        go_wp2_with (go_at_call 67; refine (puts_calls g b all (heldL l) l z (asks h x) _ HL8.out HA.out.2.2.2 (by have := HA.out.2.2.1; omega) HGS.out).mono ?_; rintro e w9 ⟨⟨v9, rfl⟩, hl9, hk9⟩; have HL9 := Aside0.mk hl9; have HK9 := Aside0.mk ((Kp.of HB8.out).trans hk9); clear hl9 hk9)
        refine bodyPost_ret (results_tmp rfl _ _ _) rfl ⟨by rw [HE.out]; rfl, ?_, HK9.out⟩
        unfold askL
        rw [HE.out, if_pos rfl, HGT.out]
        exact HL9.out
end Go.Proofs.Ytfldklimlcnnnaa.XAsk
