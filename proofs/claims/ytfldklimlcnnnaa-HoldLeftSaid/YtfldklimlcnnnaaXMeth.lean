/- The walks of hold's Join and Ask. -/
import Derived.Test.YtfldklimlcnnnaaXJoin
import Derived.Test.YtfldklimlcnnnaaPHqx6
namespace Go.Proofs.Ytfldklimlcnnnaa.XMeth
open Go.RowKit Go.Shelf Go.Proofs.Ytfldklimlcnnnaa.PHq Go.Proofs.YtfldklimlcnnnaaW.PrintWords Go.Proofs.YtfldklimlcnnnaaW.PrintLast Go.Proofs.YtfldklimlcnnnaaW.PrintMore Go.Proofs.Ytfldklimlcnnnaa.MWords
open Go.Proofs.Ytfldklimlcnnnaa.MNat Go.Proofs.Ytfldklimlcnnnaa.QNat Go.Proofs.Ytfldklimlcnnnaa.QText Go.Proofs.Ytfldklimlcnnnaa.QEv Go.Proofs.Ytfldklimlcnnnaa.QRatio Go.Proofs.Ytfldklimlcnnnaa.XRV Go.Proofs.Ytfldklimlcnnnaa.XHold Go.Proofs.Ytfldklimlcnnnaa.XWts Go.Proofs.Ytfldklimlcnnnaa.XLed Go.Proofs.Ytfldklimlcnnnaa.XPuts Go.Proofs.Ytfldklimlcnnnaa.XFits Go.Proofs.Ytfldklimlcnnnaa.XJoin
set_option linter.unusedVariables false
set_option linter.unusedSimpArgs false
-- window_Check.calls

/-- What Join tells. -/
def joinE (all q : Rat) (l : List (Int × Hd)) (z : Int) (x : S34) : Int :=
  if mayW x = false then 1 else if hasL l z = true then 14 else if fitsW all q x ⟨0, 0⟩ = false then 18 else 0
def joinL (all q : Rat) (l : List (Int × Hd)) (z : Int) (x : S34) : List (Int × Hd) := if joinE all q l z x = 0 then setL l z ⟨x.f0, x.f1, 0, 0, false⟩ else l
theorem set_good {l : List (Int × Hd)} {z : Int} {h : Hd} (hG : GoodL l) (hl : l.length < 500) (hh : okH h) : GoodL (setL l z h) := by
  refine ⟨?_, fun y hy => ?_⟩
  · rw [set_len]
    split <;> omega
  · rcases set_mem hy with rfl | ⟨hm, _⟩
    · exact hh
    · exact hG.ok y hm
theorem held_sz {l : List (Int × Hd)} (hG : GoodL l) : Sz 1001 (heldL l) := by
  have h := (sum_t (l.map fun z => hv z.2) (by rw [List.length_map]; have := hG.len; omega) (fun z hz => by
    obtain ⟨y, hy, rfl⟩ := List.mem_map.1 hz
    exact hv_ok (hG.ok y hy))).2
  exact sz_mono h (by rw [List.length_map]; have := hG.len; omega)
set_option maxRecDepth 100000 in
set_option maxHeartbeats 4000000 in
theorem join_calls (g b : Nat) (all : Rat) (l : List (Int × Hd)) (z : Int) (x : S34) (w : World) (hL : Led w g b all (heldL l) l) (ha : Sz 3000 all) (hG : GoodL l) (hl : l.length < 500) (hz : wfI z) :
    Calls Try.prog 18 #[.pointer (some ⟨g, 0, none⟩), .int .i64 z, .agg #[.int .i64 x.f0, .int .i64 x.f1]] w fun e w' => e = .returned (.int .i64 (joinE all (heldL l) l z x)) ∧ Led w' g b all (heldL (joinL all (heldL l) l z x)) (joinL all (heldL l) l z x) ∧ Kp g b w w' := by
  obtain ⟨W0, hW0⟩ : ∃ W0, W0 = w.alloc (.cells #[.int .i64 x.f0, .int .i64 x.f1] 34) := ⟨_, rfl⟩
  have hb0 : Below w.heap.size w W0 := by rw [hW0]; exact below_alloc (Below.refl _ _) _
  have HX0 := Aside0.mk (show MBlk W0 w.heap.size 34 #[.int .i64 x.f0, .int .i64 x.f1] by rw [hW0]; exact mblk_new _ _ _)
  have HB0 := Aside0.mk hb0
  have HL0 := Aside0.mk (hL.below hb0)
  have HA := Aside0.mk (And.intro ha (And.intro hG (And.intro hl hz)))
  have HC := Aside0.mk (wcheck_f x)
  obtain ⟨h, hh⟩ : ∃ h, h = (getL l z).getD zeroH := ⟨_, rfl⟩
  have HH := Aside0.mk hh
  clear hL hb0 ha hG hl hz hh
  go_enter Try.func18, Try.ntmps18
  go_upto_region 1 with fail
  rw [← hW0]
  clear hW0
  go_upto_region 2 with (go_at_call 27; refine (of_calls g b all (heldL l) l z h _ HL0.out HA.out.2.2.2 HH.out).mono ?_; rintro e w1 ⟨rfl, hb⟩; have HB1 := Aside0.mk hb; clear hb)
  obtain ⟨w2, hw2⟩ : ∃ w2, w2 = (w1.alloc (.cells #[.int .i64 h.e, .int .i64 h.p] 34)).alloc (.cells #[.int .i64 h.e2, .int .i64 h.p2] 34) := ⟨_, rfl⟩
  have hb2 : Below W0.heap.size W0 w2 := by rw [hw2]; exact below_alloc (below_alloc HB1.out _) _
  have HX2 := Aside0.mk ((hb2.block _ (mblk_lt HX0.out)).trans HX0.out)
  have HL2 := Aside0.mk (HL0.out.below hb2)
  have HB2 := Aside0.mk (below_step HB0.out hb2)
  rw [← hw2]
  clear hw2 hb2 HB1 HX0 HL0 HB0 HH
  have x0 : w2.cell? ⟨w.heap.size, 0, none⟩ = some (.int .i64 x.f0) := (mblk_cell HX2.out 0).trans rfl
  have x1 : w2.cell? ⟨w.heap.size, 1, none⟩ = some (.int .i64 x.f1) := (mblk_cell HX2.out 1).trans rfl
  by_cases hm : mayW x = true
  case neg =>
    have hm' : mayW x = false := by simpa using hm
    have HE := Aside0.mk (show joinE all (heldL l) l z x = 1 by unfold joinE; rw [if_pos hm'])
    clear hm
    go_wp2_with (go_at_call 66; refine (window_Check.calls x.f0 x.f1 _ _ HC.out).mono ?_; rw [hm']; rintro e w3 ⟨rfl, hb⟩; have HB3 := Aside0.mk hb; clear hb)
    refine bodyPost_ret (results_tmp rfl _ _ _) rfl ⟨by rw [HE.out]; rfl, ?_, (Kp.of HB2.out).trans (Kp.of HB3.out)⟩
    unfold joinL
    rw [HE.out, if_neg (by decide)]
    exact HL2.out.below HB3.out
  have HM := Aside0.mk hm
  by_cases hh : hasL l z = true
  · have HE := Aside0.mk (show joinE all (heldL l) l z x = 14 by unfold joinE; rw [if_neg (by simp [HM.out]), if_pos hh])
    go_wp2_with (go_at_call 66; refine (window_Check.calls x.f0 x.f1 _ _ HC.out).mono ?_; rw [hm]; rintro e w3 ⟨rfl, hb⟩; have HB3 := Aside0.mk hb; clear hb)
    refine bodyPost_ret (results_tmp rfl _ _ _) rfl ⟨by rw [HE.out]; rfl, ?_, (Kp.of HB2.out).trans (Kp.of HB3.out)⟩
    unfold joinL
    rw [HE.out, if_neg (by decide)]
    exact HL2.out.below HB3.out
  have hh' : hasL l z = false := by simpa using hh
  have HH := Aside0.mk hh'
  clear hh
  go_upto_if 27 with (first
    | (go_at_call 66; refine (window_Check.calls x.f0 x.f1 _ _ HC.out).mono ?_; rw [hm]; rintro e w3 ⟨rfl, hb⟩; have HB3 := Aside0.mk (below_step HB2.out hb); have HX3 := Aside0.mk ((hb.block _ (mblk_lt HX2.out)).trans HX2.out); have HL3 := Aside0.mk (HL2.out.below hb); have x0 : w3.cell? ⟨w.heap.size, 0, none⟩ = some (.int .i64 x.f0) := (mblk_cell HX3.out 0).trans rfl; have x1 : w3.cell? ⟨w.heap.size, 1, none⟩ = some (.int .i64 x.f1) := (mblk_cell HX3.out 1).trans rfl; clear hb HC)
    | (go_at_call 22; refine (Fits_calls g b all (heldL l) l x ⟨0, 0⟩ _ HL3.out HA.out.1 (sz_mono (held_sz HA.out.2.1) (by omega))).mono ?_; rintro e w4 ⟨rfl, hb⟩; have HB4 := Aside0.mk (below_step HB3.out hb); have HX4 := Aside0.mk ((hb.block _ (mblk_lt HX3.out)).trans HX3.out); have HL4 := Aside0.mk (HL3.out.below hb); clear hb))
  clear HL2 HX2 HB2 HL3 HX3 HB3 x0 x1
  have x0 : w4.cell? ⟨w.heap.size, 0, none⟩ = some (.int .i64 x.f0) := (mblk_cell HX4.out 0).trans rfl
  have x1 : w4.cell? ⟨w.heap.size, 1, none⟩ = some (.int .i64 x.f1) := (mblk_cell HX4.out 1).trans rfl
  by_cases hf : fitsW all (heldL l) x ⟨0, 0⟩ = true
  case neg =>
    have hf' : fitsW all (heldL l) x ⟨0, 0⟩ = false := by simpa using hf
    have HE := Aside0.mk (show joinE all (heldL l) l z x = 18 by unfold joinE; rw [if_neg (by simp [HM.out]), if_neg (by simp [HH.out]), if_pos hf'])
    rw [hf']
    clear hf hf' hm hh'
    go_wp2_with fail
    refine bodyPost_ret (results_tmp rfl _ _ _) rfl ⟨by rw [HE.out]; rfl, ?_, Kp.of HB4.out⟩
    unfold joinL
    rw [HE.out, if_neg (by decide)]
    exact HL4.out
  have HE := Aside0.mk (show joinE all (heldL l) l z x = 0 by unfold joinE; rw [if_neg (by simp [HM.out]), if_neg (by simp [HH.out]), if_neg (by simp [hf])])
  have HGS := Aside0.mk (set_good (z := z) (h := ⟨x.f0, x.f1, 0, 0, false⟩) HA.out.2.1 HA.out.2.2.1 ⟨may_ok HM.out, fun h => by cases h⟩)
  rw [hf]
  clear hf hm hh'
  go_wp2_with (go_at_call 67; refine (puts_calls g b all (heldL l) l z ⟨x.f0, x.f1, 0, 0, false⟩ _ HL4.out HA.out.2.2.2 (by have := HA.out.2.2.1; omega) HGS.out).mono ?_; rintro e w5 ⟨⟨v5, rfl⟩, hl5, hk5⟩; have HL5 := Aside0.mk hl5; have HK5 := Aside0.mk ((Kp.of HB4.out).trans hk5); clear hl5 hk5)
  refine bodyPost_ret (results_tmp rfl _ _ _) rfl ⟨by rw [HE.out]; rfl, ?_, HK5.out⟩
  unfold joinL
  rw [HE.out, if_pos rfl]
  exact HL5.out
end Go.Proofs.Ytfldklimlcnnnaa.XMeth
