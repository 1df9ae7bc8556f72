/- The methods of no ledger; New of whatever limbs. -/
import Derived.Test.YtfldklimlcnnnaaXLeft
import Derived.Test.YtfldklimlcnnnaaPHqx2
import Derived.Test.YtfldklimlcnnnaaPHqx7
import Derived.Test.YtfldklimlcnnnaaPHqx14
import Derived.Test.YtfldklimlcnnnaaPHqx48
import Derived.Test.YtfldklimlcnnnaaPHqx49
namespace Go.Proofs.Ytfldklimlcnnnaa.XNil
open Go.RowKit Go.Shelf Go.Proofs.Ytfldklimlcnnnaa.PHq Go.Proofs.YtfldklimlcnnnaaW.PrintWords Go.Proofs.YtfldklimlcnnnaaW.PrintLast Go.Proofs.YtfldklimlcnnnaaW.PrintMore Go.Proofs.Ytfldklimlcnnnaa.MWords
open Go.Proofs.Ytfldklimlcnnnaa.MNat Go.Proofs.Ytfldklimlcnnnaa.QNat Go.Proofs.Ytfldklimlcnnnaa.QText Go.Proofs.Ytfldklimlcnnnaa.QEv Go.Proofs.Ytfldklimlcnnnaa.QRatio Go.Proofs.Ytfldklimlcnnnaa.XRV Go.Proofs.Ytfldklimlcnnnaa.XHold Go.Proofs.Ytfldklimlcnnnaa.XWts Go.Proofs.Ytfldklimlcnnnaa.XLed Go.Proofs.Ytfldklimlcnnnaa.XPuts Go.Proofs.Ytfldklimlcnnnaa.XNew Go.Proofs.Ytfldklimlcnnnaa.XFits Go.Proofs.Ytfldklimlcnnnaa.XJoin Go.Proofs.Ytfldklimlcnnnaa.XMeth Go.Proofs.Ytfldklimlcnnnaa.XAsk Go.Proofs.Ytfldklimlcnnnaa.XEnd Go.Proofs.Ytfldklimlcnnnaa.XAwake Go.Proofs.Ytfldklimlcnnnaa.QHold Go.Proofs.Ytfldklimlcnnnaa.XLeft
set_option linter.unusedVariables false
set_option linter.unusedSimpArgs false
-- ratio_Check.calls nat_Check.f regattaref02_Check.f regattaref03_Check.f

def lastOk (l : List Int) : Bool := if (l.length : Int) = 0 then true else rd l (l.length - 1 : Int) != 0
theorem ncheck_n (l : List Int) (h : l.length ≤ 1000) : nat_Check.f l = some (lastOk l) := by
  unfold nat_Check.f lastOk
  by_cases h0 : (l.length : Int) = 0
  · rw [if_pos h0, if_pos h0]
  · rw [if_neg h0, if_neg h0, w64 (by omega) (by omega), if_pos (by omega), if_pos (by omega)]
theorem rcheck_n (l : List Int) (h : l.length ≤ 1000) : regattaref02_Check.f l = some (lastOk l) := by
  unfold regattaref02_Check.f lastOk
  by_cases h0 : (l.length : Int) = 0
  · rw [if_pos h0, if_pos h0]
  · rw [if_neg h0, if_neg h0, w64 (by omega) (by omega), if_pos (by omega), if_pos (by omega)]
theorem checks_eq (a b : List Int) (ha : a.length ≤ 1000) (hb : b.length ≤ 1000) : ∃ r, ratio_Check.f a b = some r ∧ regattaref03_Check.f a b = some r ∧ (r = true → lastOk a = true ∧ lastOk b = true ∧ 0 < b.length) := by
  unfold ratio_Check.f regattaref03_Check.f
  rw [ncheck_n a ha, ncheck_n b hb, rcheck_n a ha, rcheck_n b hb]
  cases lastOk a <;> cases lastOk b <;> refine ⟨_, rfl, rfl, fun h => ?_⟩ <;> simp at h ⊢
  first | exact h | exact List.length_pos_iff.2 h
theorem last_isN {l : List Int} (hl : l.length ≤ 1000) (hi : Lim l) (h : lastOk l = true) : isN l := by
  refine isN_of hi ?_ (by omega)
  unfold lastOk at h
  by_cases h0 : (l.length : Int) = 0
  · exact .inl (List.length_eq_zero_iff.1 (by omega))
  · rw [if_neg h0] at h
    refine .inr ⟨l.dropLast, l.getLast (fun e => h0 (by rw [e]; rfl)), (List.dropLast_concat_getLast _).symm, fun e => ?_⟩
    have e2 : rd l (l.length - 1 : Int) = l.getLast (fun e => h0 (by rw [e]; rfl)) := by
      unfold rd
      rw [List.getLast_eq_getElem, show ((l.length : Int) - 1).toNat = l.length - 1 by omega]
      simp [List.getD, show l.length - 1 < l.length by omega]
    rw [e2, e] at h
    simp at h
section
set_option maxRecDepth 100000
set_option maxHeartbeats 4000000
theorem len_nil (w : World) : Calls Try.prog 21 #[.pointer none] w fun e w' => e = .returned (.int .i64 0) ∧ w' = w := by
  go_enter Try.func21, Try.ntmps21
  go_wp2_with fail
  exact bodyPost_ret (results_tmp rfl _ _ _) rfl ⟨rfl, rfl⟩
theorem of_nil (z : Int) (w : World) : Calls Try.prog 27 #[.pointer none, .int .i64 z] w fun e w' => e = .returned (.tuple #[.agg #[.int .i64 0, .int .i64 0], .agg #[.int .i64 0, .int .i64 0], .bool false]) ∧ Below w.heap.size w w' := by
  obtain ⟨W0, hW0⟩ : ∃ W0, W0 = (w.alloc (.cells #[.int .i64 0, .int .i64 0] 34)).alloc (.cells #[.int .i64 0, .int .i64 0] 34) := ⟨_, rfl⟩
  have ha : (w.alloc (.cells #[.int .i64 0, .int .i64 0] 34)).heap.size = w.heap.size + 1 := by simp
  have hb0 : Below w.heap.size w W0 := by rw [hW0]; exact below_alloc (below_alloc (Below.refl _ _) _) _
  have HM0 := Aside0.mk (show MBlk W0 w.heap.size 34 #[.int .i64 0, .int .i64 0] by rw [hW0]; exact mblk_alloc (mblk_new _ _ _) _)
  have HM1 := Aside0.mk (show MBlk W0 (w.heap.size + 1) 34 #[.int .i64 0, .int .i64 0] by rw [hW0, ← ha]; exact mblk_new _ _ _)
  have HB0 := Aside0.mk hb0
  have HW0 := Aside0.mk hW0
  clear hW0 ha hb0
  go_enter Try.func27, Try.ntmps27
  go_upto_region 1 with fail
  rw [← HW0.out]
  clear HW0
  have y0 : W0.cell? ⟨w.heap.size, 0, none⟩ = some (.int .i64 0) := (mblk_cell HM0.out 0).trans rfl
  have y1 : W0.cell? ⟨w.heap.size, 1, none⟩ = some (.int .i64 0) := (mblk_cell HM0.out 1).trans rfl
  have y2 : W0.cell? ⟨w.heap.size + 1, 0, none⟩ = some (.int .i64 0) := (mblk_cell HM1.out 0).trans rfl
  have y3 : W0.cell? ⟨w.heap.size + 1, 1, none⟩ = some (.int .i64 0) := (mblk_cell HM1.out 1).trans rfl
  have f0 : W0.frozen? ⟨w.heap.size, 0, none⟩ = false := mblk_frozen HM0.out 0
  have f1 : W0.frozen? ⟨w.heap.size, 1, none⟩ = false := mblk_frozen HM0.out 1
  have f2 : W0.frozen? ⟨w.heap.size + 1, 0, none⟩ = false := mblk_frozen HM1.out 0
  have f3 : W0.frozen? ⟨w.heap.size + 1, 1, none⟩ = false := mblk_frozen HM1.out 1
  go_wp2_with fail
  obtain ⟨Wf, hWf⟩ : ∃ Wf, Wf = (((W0.setCell ⟨w.heap.size, 0, none⟩ (.int .i64 0)).setCell ⟨w.heap.size, 1, none⟩ (.int .i64 0)).setCell ⟨w.heap.size + 1, 0, none⟩ (.int .i64 0)).setCell ⟨w.heap.size + 1, 1, none⟩ (.int .i64 0) := ⟨_, rfl⟩
  have hA : MBlk Wf w.heap.size 34 #[.int .i64 0, .int .i64 0] := by
    rw [hWf]
    exact mblk_far (mblk_far (mblk_set (mblk_set HM0.out 0 _) 1 _) (p := ⟨w.heap.size + 1, 0, none⟩) (by simp) _) (p := ⟨w.heap.size + 1, 1, none⟩) (by simp) _
  have hB : MBlk Wf (w.heap.size + 1) 34 #[.int .i64 0, .int .i64 0] := by
    rw [hWf]
    exact mblk_set (mblk_set (mblk_far (mblk_far HM1.out (p := ⟨w.heap.size, 0, none⟩) (by simp) _) (p := ⟨w.heap.size, 1, none⟩) (by simp) _) 0 _) 1 _
  have hbf : Below w.heap.size w Wf := by
    rw [hWf]
    exact (((HB0.out.setCell (p := ⟨w.heap.size, 0, none⟩) (Nat.le_refl _) _).setCell (p := ⟨w.heap.size, 1, none⟩) (Nat.le_refl _) _).setCell (p := ⟨w.heap.size + 1, 0, none⟩) (by simp) _).setCell (p := ⟨w.heap.size + 1, 1, none⟩) (by simp) _
  rw [← hWf]
  clear hWf y0 y1 y2 y3 f0 f1 f2 f3
  have e0 : Wf.cell? ⟨w.heap.size, 0, none⟩ = some (.int .i64 0) := (mblk_cell hA 0).trans rfl
  have e1 : Wf.cell? ⟨w.heap.size, 1, none⟩ = some (.int .i64 0) := (mblk_cell hA 1).trans rfl
  have e2 : Wf.cell? ⟨w.heap.size + 1, 0, none⟩ = some (.int .i64 0) := (mblk_cell hB 0).trans rfl
  have e3 : Wf.cell? ⟨w.heap.size + 1, 1, none⟩ = some (.int .i64 0) := (mblk_cell hB 1).trans rfl
  refine bodyPost_ret (v := .tuple #[.agg #[.int .i64 0, .int .i64 0], .agg #[.int .i64 0, .int .i64 0], .bool false]) (by simp [results, Try.results27, go_sem, e0, e1, e2, e3]) rfl ⟨rfl, hbf⟩
theorem held_nil (w : World) : Calls Try.prog 20 #[.pointer none] w fun e w' => ∃ p p' : Value, e = .returned (.agg #[p, p']) ∧ RV w' p p' (limbs 0) (limbs 1) ∧ Below w.heap.size w w' := by
  obtain ⟨W0, hW0⟩ : ∃ W0, W0 = w.alloc (.cells #[.slice none 0 0, .slice none 0 0] 28) := ⟨_, rfl⟩
  have hb0 : Below w.heap.size w W0 := by rw [hW0]; exact below_alloc (Below.refl _ _) _
  have HB0 := Aside0.mk hb0
  have HR0 := Aside0.mk (show MBlk W0 w.heap.size 28 #[.slice none 0 0, .slice none 0 0] by rw [hW0]; exact mblk_new _ _ _)
  have HW := Aside0.mk (show ratio_Whole.f 0 = some (limbs 0, limbs 1) from whole_n 0 (by omega))
  have HW0 := Aside0.mk hW0
  clear hW0 hb0
  go_enter Try.func20, Try.ntmps20
  go_upto_region 1 with fail
  rw [← HW0.out]
  clear HW0
  go_wp2_with fail
  refine (whole_rv HW.out).mono ?_
  rintro e w2 ⟨p, p', rfl, hp, hb⟩
  obtain ⟨T1, t1, T2, t2, rfl, rfl⟩ := hp.shape
  have hb2 : Below w.heap.size w w2 := below_step HB0.out hb
  have hR2 : MBlk w2 w.heap.size 28 #[.slice none 0 0, .slice none 0 0] := (hb.block _ (mblk_lt HR0.out)).trans HR0.out
  obtain ⟨u0, hu0⟩ : ∃ u0, u0 = limbs 0 := ⟨_, rfl⟩
  obtain ⟨u1, hu1⟩ : ∃ u1, u1 = limbs 1 := ⟨_, rfl⟩
  rw [← hu0, ← hu1] at hp ⊢
  have HU := Aside0.mk (And.intro hu0 hu1)
  clear hu0 hu1
  obtain ⟨w5, hw5⟩ : ∃ w5, w5 = (w2.setCell ⟨w.heap.size, 0, none⟩ (.slice T1 u0.length t1)).setCell ⟨w.heap.size, 1, none⟩ (.slice T2 u1.length t2) := ⟨_, rfl⟩
  have hQ : MBlk w5 w.heap.size 28 #[.slice T1 u0.length t1, .slice T2 u1.length t2] ∧ RV w5 (.slice T1 u0.length t1) (.slice T2 u1.length t2) u0 u1 ∧ Below w.heap.size w w5 := by
    have hn := noLimb_box hR2
    have hs : ∀ k, k ≠ w.heap.size → w5.heap[k]? = w2.heap[k]? := fun k hk => by rw [hw5]; exact (Below.heap_setCell _ ⟨w.heap.size, 1, none⟩ _ k hk).trans (Below.heap_setCell _ ⟨w.heap.size, 0, none⟩ _ k hk)
    refine ⟨by rw [hw5]; exact mblk_set (mblk_set hR2 0 _) 1 _, hp.near (fun k _ h => hs k (fun e => h (by rw [e]; exact hn))), ?_⟩
    rw [hw5]
    exact (hb2.setCell (p := ⟨w.heap.size, 0, none⟩) (Nat.le_refl _) _).setCell (p := ⟨w.heap.size, 1, none⟩) (Nat.le_refl _) _
  have HQ5 := Aside0.mk hQ
  have HW5 := Aside0.mk hw5
  have z0 : w2.cell? ⟨w.heap.size, 0, none⟩ = some (.slice none 0 0) := (mblk_cell hR2 0).trans rfl
  have z1 : w2.cell? ⟨w.heap.size, 1, none⟩ = some (.slice none 0 0) := (mblk_cell hR2 1).trans rfl
  have f0 : w2.frozen? ⟨w.heap.size, 0, none⟩ = false := mblk_frozen hR2 0
  have f1 : w2.frozen? ⟨w.heap.size, 1, none⟩ = false := mblk_frozen hR2 1
  clear hw5 hQ hp hb hb2 hR2 HR0 HB0 HW
  go_wp2_with fail
  rw [← HW5.out]
  clear HW5 z0 z1 f0 f1
  have e0 : w5.cell? ⟨w.heap.size, 0, none⟩ = some (.slice T1 u0.length t1) := (mblk_cell HQ5.out.1 0).trans rfl
  have e1 : w5.cell? ⟨w.heap.size, 1, none⟩ = some (.slice T2 u1.length t2) := (mblk_cell HQ5.out.1 1).trans rfl
  exact bodyPost_ret (v := .agg #[.slice T1 u0.length t1, .slice T2 u1.length t2]) (by simp [results, Try.results20, go_sem, e0, e1]) rfl ⟨_, _, rfl, by rw [← HU.out.1, ← HU.out.2]; exact HQ5.out.2.1, HQ5.out.2.2⟩
theorem left_nil (w : World) : Calls Try.prog 24 #[.pointer none] w fun e w' => ∃ p p' : Value, e = .returned (.agg #[p, p']) ∧ RV w' p p' (limbs 0) (limbs 1) ∧ Below w.heap.size w w' := by
  obtain ⟨W0, hW0⟩ : ∃ W0, W0 = w.alloc (.cells #[.slice none 0 0, .slice none 0 0] 28) := ⟨_, rfl⟩
  have hb0 : Below w.heap.size w W0 := by rw [hW0]; exact below_alloc (Below.refl _ _) _
  have HB0 := Aside0.mk hb0
  have HR0 := Aside0.mk (show MBlk W0 w.heap.size 28 #[.slice none 0 0, .slice none 0 0] by rw [hW0]; exact mblk_new _ _ _)
  have HW := Aside0.mk (show ratio_Whole.f 0 = some (limbs 0, limbs 1) from whole_n 0 (by omega))
  have HW0 := Aside0.mk hW0
  clear hW0 hb0
  go_enter Try.func24, Try.ntmps24
  go_upto_region 1 with fail
  rw [← HW0.out]
  clear HW0
  go_wp2_with fail
  refine (whole_rv HW.out).mono ?_
  rintro e w2 ⟨p, p', rfl, hp, hb⟩
  obtain ⟨T1, t1, T2, t2, rfl, rfl⟩ := hp.shape
  have hb2 : Below w.heap.size w w2 := below_step HB0.out hb
  have hR2 : MBlk w2 w.heap.size 28 #[.slice none 0 0, .slice none 0 0] := (hb.block _ (mblk_lt HR0.out)).trans HR0.out
  obtain ⟨u0, hu0⟩ : ∃ u0, u0 = limbs 0 := ⟨_, rfl⟩
  obtain ⟨u1, hu1⟩ : ∃ u1, u1 = limbs 1 := ⟨_, rfl⟩
  rw [← hu0, ← hu1] at hp ⊢
  have HU := Aside0.mk (And.intro hu0 hu1)
  clear hu0 hu1
  obtain ⟨w5, hw5⟩ : ∃ w5, w5 = (w2.setCell ⟨w.heap.size, 0, none⟩ (.slice T1 u0.length t1)).setCell ⟨w.heap.size, 1, none⟩ (.slice T2 u1.length t2) := ⟨_, rfl⟩
  have hQ : MBlk w5 w.heap.size 28 #[.slice T1 u0.length t1, .slice T2 u1.length t2] ∧ RV w5 (.slice T1 u0.length t1) (.slice T2 u1.length t2) u0 u1 ∧ Below w.heap.size w w5 := by
    have hn := noLimb_box hR2
    have hs : ∀ k, k ≠ w.heap.size → w5.heap[k]? = w2.heap[k]? := fun k hk => by rw [hw5]; exact (Below.heap_setCell _ ⟨w.heap.size, 1, none⟩ _ k hk).trans (Below.heap_setCell _ ⟨w.heap.size, 0, none⟩ _ k hk)
    refine ⟨by rw [hw5]; exact mblk_set (mblk_set hR2 0 _) 1 _, hp.near (fun k _ h => hs k (fun e => h (by rw [e]; exact hn))), ?_⟩
    rw [hw5]
    exact (hb2.setCell (p := ⟨w.heap.size, 0, none⟩) (Nat.le_refl _) _).setCell (p := ⟨w.heap.size, 1, none⟩) (Nat.le_refl _) _
  have HQ5 := Aside0.mk hQ
  have HW5 := Aside0.mk hw5
  have z0 : w2.cell? ⟨w.heap.size, 0, none⟩ = some (.slice none 0 0) := (mblk_cell hR2 0).trans rfl
  have z1 : w2.cell? ⟨w.heap.size, 1, none⟩ = some (.slice none 0 0) := (mblk_cell hR2 1).trans rfl
  have f0 : w2.frozen? ⟨w.heap.size, 0, none⟩ = false := mblk_frozen hR2 0
  have f1 : w2.frozen? ⟨w.heap.size, 1, none⟩ = false := mblk_frozen hR2 1
  clear hw5 hQ hp hb hb2 hR2 HR0 HB0 HW
  go_wp2_with fail
  rw [← HW5.out]
  clear HW5 z0 z1 f0 f1
  have e0 : w5.cell? ⟨w.heap.size, 0, none⟩ = some (.slice T1 u0.length t1) := (mblk_cell HQ5.out.1 0).trans rfl
  have e1 : w5.cell? ⟨w.heap.size, 1, none⟩ = some (.slice T2 u1.length t2) := (mblk_cell HQ5.out.1 1).trans rfl
  exact bodyPost_ret (v := .agg #[.slice T1 u0.length t1, .slice T2 u1.length t2]) (by simp [results, Try.results24, go_sem, e0, e1]) rfl ⟨_, _, rfl, by rw [← HU.out.1, ← HU.out.2]; exact HQ5.out.2.1, HQ5.out.2.2⟩
theorem join_nil (z : Int) (x : S34) (w : World) : Calls Try.prog 18 #[.pointer none, .int .i64 z, .agg #[.int .i64 x.f0, .int .i64 x.f1]] w fun e w' => e = .returned (.int .i64 1) ∧ Below w.heap.size w w' := by
  go_enter Try.func18, Try.ntmps18
  go_wp2_with (go_at_call 27; refine (of_nil z _).mono ?_; rintro e w1 ⟨rfl, hb⟩; have HB1 := Aside0.mk hb; clear hb)
  exact bodyPost_ret (results_tmp rfl _ _ _) rfl ⟨rfl, by first | exact below_alloc (below_alloc HB1.out _) _ | exact below_alloc (below_alloc (below_step (below_alloc (Below.refl _ _) _) HB1.out) _) _⟩
theorem ask_nil (z : Int) (x : S34) (w : World) : Calls Try.prog 28 #[.pointer none, .int .i64 z, .agg #[.int .i64 x.f0, .int .i64 x.f1]] w fun e w' => e = .returned (.int .i64 1) ∧ Below w.heap.size w w' := by
  go_enter Try.func28, Try.ntmps28
  go_wp2_with fail
  exact bodyPost_ret (results_tmp rfl _ _ _) rfl ⟨rfl, by first | exact Below.refl _ _ | exact below_alloc (Below.refl _ _) _ | exact below_alloc (below_alloc (Below.refl _ _) _) _⟩
theorem settle_nil (z : Int) (w : World) : Calls Try.prog 30 #[.pointer none, .int .i64 z] w fun e w' => e = .returned (.int .i64 1) ∧ Below w.heap.size w w' := by
  go_enter Try.func30, Try.ntmps30
  go_wp2_with fail
  exact bodyPost_ret (results_tmp rfl _ _ _) rfl ⟨rfl, by first | exact Below.refl _ _ | exact below_alloc (Below.refl _ _) _ | exact below_alloc (below_alloc (Below.refl _ _) _) _⟩
theorem free_nil (z : Int) (w : World) : Calls Try.prog 25 #[.pointer none, .int .i64 z] w fun e w' => e = .returned (.int .i64 1) ∧ Below w.heap.size w w' := by
  go_enter Try.func25, Try.ntmps25
  go_wp2_with (go_at_call 27; refine (of_nil z _).mono ?_; rintro e w1 ⟨rfl, hb⟩; have HB1 := Aside0.mk hb; clear hb)
  exact bodyPost_ret (results_tmp rfl _ _ _) rfl ⟨rfl, by first | exact below_alloc (below_alloc HB1.out _) _ | exact below_alloc (below_alloc (below_step (below_alloc (Below.refl _ _) _) HB1.out) _) _⟩
theorem fits_nil (x y : S34) (w : World) : Calls Try.prog 22 #[.pointer none, .agg #[.int .i64 x.f0, .int .i64 x.f1], .agg #[.int .i64 y.f0, .int .i64 y.f1]] w fun e w' => e = .returned (.bool false) ∧ Below w.heap.size w w' := by
  go_enter Try.func22, Try.ntmps22
  go_wp2_with fail
  exact bodyPost_ret (results_tmp rfl _ _ _) rfl ⟨rfl, by first | exact Below.refl _ _ | exact below_alloc (Below.refl _ _) _ | exact below_alloc (below_alloc (Below.refl _ _) _) _⟩
theorem new_bad (x y : Value) (a b : List Int) (w : World) (hv : RV w x y a b) (hc : ratio_Check.f a b = some false) :
    Calls Try.prog 16 #[.agg #[x, y]] w fun e w' => e = .returned (.pointer none) ∧ Below w.heap.size w w' := by
  have HV := Aside0.mk (hv.below (below_alloc (Below.refl w.heap.size w) (.cells #[x, y] 28)))
  obtain ⟨A1, c1, A2, c2, rfl, rfl⟩ := hv.shape
  have HB0 := Aside0.mk (below_alloc (Below.refl w.heap.size w) (.cells #[.slice A1 a.length c1, .slice A2 b.length c2] 28))
  have HM0 := Aside0.mk (mblk_new w 28 #[.slice A1 a.length c1, .slice A2 b.length c2])
  have HC := Aside0.mk hc
  clear hv hc
  go_enter Try.func16, Try.ntmps16
  go_upto_region 1 with fail
  obtain ⟨W0, hW0⟩ : ∃ W0, W0 = w.alloc (.cells #[.slice A1 a.length c1, .slice A2 b.length c2] 28) := ⟨_, rfl⟩
  rw [← hW0] at HV HB0 HM0 ⊢
  clear hW0
  have k0 : W0.cell? ⟨w.heap.size, 0, none⟩ = some (.slice A1 a.length c1) := (mblk_cell HM0.out 0).trans rfl
  have k1 : W0.cell? ⟨w.heap.size, 1, none⟩ = some (.slice A2 b.length c2) := (mblk_cell HM0.out 1).trans rfl
  go_wp2_with (go_at_call 62; refine (check_rv HV.out HC.out).mono ?_; rintro e w1 ⟨rfl, hb⟩; have HB1 := Aside0.mk (below_step HB0.out hb); clear hb)
  exact bodyPost_ret (results_tmp rfl _ _ _) rfl ⟨rfl, HB1.out⟩
end
end Go.Proofs.Ytfldklimlcnnnaa.XNil
