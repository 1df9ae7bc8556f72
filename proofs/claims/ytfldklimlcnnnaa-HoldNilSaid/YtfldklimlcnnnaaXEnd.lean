/- The walks of hold's Settle and Free. -/
import Derived.Test.YtfldklimlcnnnaaXAsk

namespace Go.Proofs.Ytfldklimlcnnnaa.XEnd
open Go.RowKit Go.Shelf Go.Proofs.Ytfldklimlcnnnaa.PHq Go.Proofs.YtfldklimlcnnnaaW.PrintWords Go.Proofs.YtfldklimlcnnnaaW.PrintLast Go.Proofs.YtfldklimlcnnnaaW.PrintMore Go.Proofs.Ytfldklimlcnnnaa.MWords
open Go.Proofs.Ytfldklimlcnnnaa.MNat Go.Proofs.Ytfldklimlcnnnaa.QNat Go.Proofs.Ytfldklimlcnnnaa.QText Go.Proofs.Ytfldklimlcnnnaa.QEv Go.Proofs.Ytfldklimlcnnnaa.QRatio Go.Proofs.Ytfldklimlcnnnaa.XRV Go.Proofs.Ytfldklimlcnnnaa.XHold Go.Proofs.Ytfldklimlcnnnaa.XWts Go.Proofs.Ytfldklimlcnnnaa.XLed Go.Proofs.Ytfldklimlcnnnaa.XPuts Go.Proofs.Ytfldklimlcnnnaa.XFits Go.Proofs.Ytfldklimlcnnnaa.XJoin Go.Proofs.Ytfldklimlcnnnaa.XMeth Go.Proofs.Ytfldklimlcnnnaa.XAsk
set_option linter.unusedVariables false
set_option linter.unusedSimpArgs false

def settled (h : Hd) : Hd := ⟨h.e2, h.p2, 0, 0, false⟩
def settleE (l : List (Int × Hd)) (z : Int) : Int :=
  match getL l z with
  | none => 12
  | some h => if h.a = true then 0 else 13
def settleL (l : List (Int × Hd)) (z : Int) : List (Int × Hd) := if settleE l z = 0 then setL l z (settled ((getL l z).getD zeroH)) else l
set_option maxRecDepth 100000 in
set_option maxHeartbeats 4000000 in
theorem settle_calls (g b : Nat) (all : Rat) (l : List (Int × Hd)) (z : Int) (w : World) (hL : Led w g b all (heldL l) l) (hG : GoodL l) (hl : l.length < 500) (hz : wfI z) :
    Calls Try.prog 30 #[.pointer (some ⟨g, 0, none⟩), .int .i64 z] w fun e w' => e = .returned (.int .i64 (settleE l z)) ∧ Led w' g b all (heldL (settleL l z)) (settleL l z) ∧ Kp g b w w' := by
  have HL1 := Aside0.mk hL
  have HA := Aside0.mk (And.intro hG (And.intro hl hz))
  obtain ⟨h, hh⟩ : ∃ h, h = (getL l z).getD zeroH := ⟨_, rfl⟩
  have hrun := map_get hL.map hz
  rw [← hh] at hrun
  simp only [hdV] at hrun
  have HH := Aside0.mk hh
  obtain ⟨_, _, _, _, hM, _⟩ := hL.cells
  have k1 : w.cell? ⟨g, 2, none⟩ = some (.map (some b)) := (mblk_cell hM 2).trans rfl
  clear hM hh
  obtain ⟨w2, hw2⟩ : ∃ w2, w2 = w.alloc (.cells #[.int .i64 h.e, .int .i64 h.p, .int .i64 h.e2, .int .i64 h.p2, .bool h.a] 102) := ⟨_, rfl⟩
  have hb2 : Below w.heap.size w w2 := by rw [hw2]; exact below_alloc (Below.refl _ _) _
  have HL2 := Aside0.mk (hL.below hb2)
  have HB2 := Aside0.mk hb2
  have HH2 := Aside0.mk (show MBlk w2 w.heap.size 102 #[.int .i64 h.e, .int .i64 h.p, .int .i64 h.e2, .int .i64 h.p2, .bool h.a] by rw [hw2]; exact mblk_new _ _ _)
  have HW2 := Aside0.mk hw2
  clear hL hG hl hz hw2 hb2
  go_enter Try.func30, Try.ntmps30
  go_upto_region 4 with fail
  rw [← HW2.out]
  clear HW2 hrun k1 HL1
  have HLE := Aside0.mk (show ∀ v, settleE l z = v → v ≠ 0 → settleL l z = l from fun v e hne => by unfold settleL; rw [e, if_neg hne])
  cases hgt : getL l z with
  | none =>
    have hno := getL_none hgt
    have HE := Aside0.mk (show settleE l z = 12 by unfold settleE; rw [hgt])
    rw [hno]
    clear hno hgt
    go_wp2_with fail
    refine bodyPost_ret (results_tmp rfl _ _ _) rfl ⟨by rw [HE.out]; rfl, ?_, Kp.of HB2.out⟩
    rw [HLE.out 12 HE.out (by decide)]
    exact HL2.out
  | some h' =>
    obtain rfl : h = h' := by have := HH.out; rw [hgt] at this; exact this
    have hyes : hasL l z = true := by rw [getL_has, hgt]; rfl
    rw [hyes]
    have HGT := Aside0.mk hgt
    have HOK := Aside0.mk (HA.out.1.ok _ (getL_mem hgt))
    clear hyes hgt
    have y2 : w2.cell? ⟨w.heap.size, 2, none⟩ = some (.int .i64 h.e2) := (mblk_cell HH2.out 2).trans rfl
    have y3 : w2.cell? ⟨w.heap.size, 3, none⟩ = some (.int .i64 h.p2) := (mblk_cell HH2.out 3).trans rfl
    have y4 : w2.cell? ⟨w.heap.size, 4, none⟩ = some (.bool h.a) := (mblk_cell HH2.out 4).trans rfl
    by_cases ha : h.a = true
    case neg =>
      have ha' : h.a = false := by simpa using ha
      have HE := Aside0.mk (show settleE l z = 13 by unfold settleE; rw [HGT.out]; exact if_neg ha)
      rw [ha'] at y4
      clear ha ha'
      go_wp2_with fail
      refine bodyPost_ret (results_tmp rfl _ _ _) rfl ⟨by rw [HE.out]; rfl, ?_, Kp.of HB2.out⟩
      rw [HLE.out 13 HE.out (by decide)]
      exact HL2.out
    have HE := Aside0.mk (show settleE l z = 0 by unfold settleE; rw [HGT.out]; exact if_pos ha)
    have HGS := Aside0.mk (set_good (z := z) (h := settled h) HA.out.1 HA.out.2.1 ⟨HOK.out.2 ha, fun h => by cases h⟩)
    rw [ha] at y4
    clear ha
    go_wp2_with (go_at_call 67; refine (puts_calls g b all (heldL l) l z (settled h) _ HL2.out HA.out.2.2 (by have := HA.out.2.1; omega) HGS.out).mono ?_; rintro e w9 ⟨⟨v9, rfl⟩, hl9, hk9⟩; have HL9 := Aside0.mk hl9; have HK9 := Aside0.mk ((Kp.of HB2.out).trans hk9); clear hl9 hk9)
    refine bodyPost_ret (results_tmp rfl _ _ _) rfl ⟨by rw [HE.out]; rfl, ?_, HK9.out⟩
    unfold settleL
    rw [HE.out, if_pos rfl, HGT.out]
    exact HL9.out
theorem map_del {W : World} {b : Nat} {l : List (Int × Hd)} (h : MapIs W b l) {x : Int} (hx : wfI x) :
    ∃ w', (Builtin.delete_ #[94, 3] 0 #[.map (some b), .int .i64 x]).run Try.prog W = .ok (.tuple #[]) w' ∧ MapIs w' b (delL l x) ∧ W.mapTurned w' b := by
  obtain ⟨D, hD, hV⟩ := h
  obtain ⟨w', hrun, h1, h2⟩ := hD.drop keyed Try.underlying94 (key_of hx) 0
  have hv := hV.del (hD.tidy keyed) x
  have h3 := own_size h1
  rw [hv.size] at h3
  exact ⟨w', hrun, ⟨_, h3, hv⟩, h2⟩
def freeE (l : List (Int × Hd)) (z : Int) : Int := if hasL l z = true then 0 else 12
def freeL (l : List (Int × Hd)) (z : Int) : List (Int × Hd) := if hasL l z = true then delL l z else l
theorem del_good {l : List (Int × Hd)} {z : Int} (hG : GoodL l) : GoodL (delL l z) :=
  ⟨Nat.le_trans (List.length_filter_le _ _) hG.len, fun y hy => hG.ok y (List.mem_filter.1 hy).1⟩
set_option maxRecDepth 100000 in
set_option maxHeartbeats 4000000 in
theorem free_calls (g b : Nat) (all : Rat) (l : List (Int × Hd)) (z : Int) (w : World) (hL : Led w g b all (heldL l) l) (hG : GoodL l) (hz : wfI z) :
    Calls Try.prog 25 #[.pointer (some ⟨g, 0, none⟩), .int .i64 z] w fun e w' => e = .returned (.int .i64 (freeE l z)) ∧ Led w' g b all (heldL (freeL l z)) (freeL l z) ∧ Kp g b w w' := by
  have HL0 := Aside0.mk hL
  have HA := Aside0.mk (And.intro hG hz)
  obtain ⟨h, hh⟩ : ∃ h, h = (getL l z).getD zeroH := ⟨_, rfl⟩
  have HH := Aside0.mk hh
  clear hL hG hz hh
  go_enter Try.func25, Try.ntmps25
  go_upto_region 2 with (go_at_call 27; refine (of_calls g b all (heldL l) l z h _ HL0.out HA.out.2 HH.out).mono ?_; rintro e w1 ⟨rfl, hb⟩; have HB1 := Aside0.mk hb; clear hb)
  obtain ⟨w2, hw2⟩ : ∃ w2, w2 = (w1.alloc (.cells #[.int .i64 h.e, .int .i64 h.p] 34)).alloc (.cells #[.int .i64 h.e2, .int .i64 h.p2] 34) := ⟨_, rfl⟩
  have hb2 : Below w.heap.size w w2 := by rw [hw2]; exact below_alloc (below_alloc HB1.out _) _
  have HL2 := Aside0.mk (HL0.out.below hb2)
  have HB2 := Aside0.mk hb2
  rw [← hw2]
  clear hw2 hb2 HB1 HL0 HH
  by_cases hs : hasL l z = true
  case neg =>
    have hs' : hasL l z = false := by simpa using hs
    have HE := Aside0.mk (show freeE l z = 12 ∧ freeL l z = l by unfold freeE freeL; exact ⟨if_neg hs, if_neg hs⟩)
    rw [hs']
    clear hs hs'
    go_wp2_with fail
    refine bodyPost_ret (results_tmp rfl _ _ _) rfl ⟨by rw [HE.out.1]; rfl, ?_, Kp.of HB2.out⟩
    rw [HE.out.2]
    exact HL2.out
  have HE := Aside0.mk (show freeE l z = 0 ∧ freeL l z = delL l z by unfold freeE freeL; exact ⟨if_pos hs, if_pos hs⟩)
  rw [hs]
  clear hs
  obtain ⟨_, _, _, _, hM, _⟩ := HL2.out.cells
  have k1 : w2.cell? ⟨g, 2, none⟩ = some (.map (some b)) := (mblk_cell hM 2).trans rfl
  obtain ⟨w3, hrun, hm3, ht3⟩ := map_del HL2.out.map HA.out.2
  have HL3 := Aside0.mk (led_turn HL2.out hm3 ht3)
  have HK3 := Aside0.mk ((Kp.of HB2.out).trans (kp_turn (g := g) ht3))
  have HGD := Aside0.mk (del_good (z := z) HA.out.1)
  clear hM hm3 ht3
  go_upto_region 7 with fail
  go_wp2_with (go_at_call 74; refine (counts_calls g b all (heldL l) _ _ HL3.out HGD.out).mono ?_; rintro e w9 ⟨⟨v9, rfl⟩, hl9, hk9⟩; have HL9 := Aside0.mk hl9; have HK9 := Aside0.mk (HK3.out.trans hk9); clear hl9 hk9)
  refine bodyPost_ret (results_tmp rfl _ _ _) rfl ⟨by rw [HE.out.1]; rfl, ?_, HK9.out⟩
  rw [HE.out.2]
  exact HL9.out
end Go.Proofs.Ytfldklimlcnnnaa.XEnd
