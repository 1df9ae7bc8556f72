/- The walks of hold's puts, Of, Len. -/
import Derived.Test.YtfldklimlcnnnaaXLed

namespace Go.Proofs.Ytfldklimlcnnnaa.XPuts
open Go.RowKit Go.Shelf Go.Proofs.Ytfldklimlcnnnaa.PHq Go.Proofs.YtfldklimlcnnnaaW.PrintWords Go.Proofs.YtfldklimlcnnnaaW.PrintLast Go.Proofs.YtfldklimlcnnnaaW.PrintMore Go.Proofs.Ytfldklimlcnnnaa.MWords
open Go.Proofs.Ytfldklimlcnnnaa.MNat Go.Proofs.Ytfldklimlcnnnaa.QNat Go.Proofs.Ytfldklimlcnnnaa.QText Go.Proofs.Ytfldklimlcnnnaa.QEv Go.Proofs.Ytfldklimlcnnnaa.QRatio Go.Proofs.Ytfldklimlcnnnaa.XRV Go.Proofs.Ytfldklimlcnnnaa.XHold Go.Proofs.Ytfldklimlcnnnaa.XWts Go.Proofs.Ytfldklimlcnnnaa.XLed
set_option linter.unusedVariables false
set_option linter.unusedSimpArgs false

theorem map_put {W : World} {b : Nat} {l : List (Int × Hd)} (h : MapIs W b l) (hl : l.length ≤ 1000000) {x : Int} (hx : wfI x) (k : Hd) :
    ∃ w', (Instr.mapUpdate 94 (.map (some b)) (.int .i64 x) (hdV k)).run Try.prog W = .ok () w' ∧ MapIs w' b (setL l x k) ∧ W.mapTurned w' b := by
  obtain ⟨D, hD, hV⟩ := h
  obtain ⟨w', hrun, h1, h2⟩ := hD.store keyed Try.underlying94 (by unfold maxLen; omega) (key_of hx) (hdR_mk k)
  have hv := hV.put (hD.tidy keyed) hx k
  have h3 := own_size h1
  rw [hv.size] at h3
  exact ⟨w', hrun, ⟨_, h3, hv⟩, h2⟩
theorem led_turn {W W' : World} {g b : Nat} {all q : Rat} {l l' : List (Int × Hd)} (h : Led W g b all q l) (hm : MapIs W' b l') (ht : W.mapTurned W' b) : Led W' g b all q l' := by
  obtain ⟨x, y, u, v, h1, h2, h3⟩ := h.cells
  obtain ⟨es, c, h4⟩ := h.map.obj
  have hs : ∀ k, k < W.heap.size → k ≠ b → W'.heap[k]? = W.heap[k]? := fun k hk hne => ht.grown.block k hk (fun e => hne (by injection e))
  have hk : ∀ k, k < W.heap.size → ¬ NoLimb W k → W'.heap[k]? = W.heap[k]? := fun k hlt hn => hs k hlt (fun e => hn (by rw [e]; exact noLimb_map h4))
  exact ⟨⟨x, y, u, v, (hs g (mblk_lt h1) h.ne).trans h1, h2.near hk, h3.near hk⟩, hm⟩
theorem kp_turn {W W' : World} {g b : Nat} (ht : W.mapTurned W' b) : Kp g b W W' := ⟨ht.grown.os, ht.grown.tape, ht.grown.output, ht.grown.size, fun k hk _ h2 => ht.grown.block k hk (fun e => h2 (by injection e))⟩
set_option maxRecDepth 100000 in
set_option maxHeartbeats 4000000 in
theorem puts_calls (g b : Nat) (all q : Rat) (l : List (Int × Hd)) (z : Int) (h : Hd) (w : World) (hL : Led w g b all q l) (hx : wfI z) (hl : l.length ≤ 1000000) (hG : GoodL (setL l z h)) :
    Calls Try.prog 67 #[.pointer (some ⟨g, 0, none⟩), .int .i64 z, hdV h] w fun e w' => (∃ v, e = .returned v) ∧ Led w' g b all (heldL (setL l z h)) (setL l z h) ∧ Kp g b w w' := by
  obtain ⟨W0, hW0⟩ : ∃ W0, W0 = w.alloc (.cells #[.int .i64 h.e, .int .i64 h.p, .int .i64 h.e2, .int .i64 h.p2, .bool h.a] 102) := ⟨_, rfl⟩
  have hb0 : Below w.heap.size w W0 := by rw [hW0]; exact below_alloc (Below.refl _ _) _
  have hM0 : MBlk W0 w.heap.size 102 #[.int .i64 h.e, .int .i64 h.p, .int .i64 h.e2, .int .i64 h.p2, .bool h.a] := by rw [hW0]; exact mblk_new _ _ _
  have HL0 := Aside0.mk ((hL.below hb0).below (below_drew (Below.refl W0.heap.size W0)))
  have HB0 := Aside0.mk hb0
  have HG := Aside0.mk hG
  obtain ⟨x, y, u, v, hM, _⟩ := HL0.out.cells
  have k1 : W0.cell? ⟨g, 2, none⟩ = some (.map (some b)) := (mblk_cell (show MBlk W0 g 97 _ from hM) 2).trans rfl
  have x0 : W0.cell? ⟨w.heap.size, 0, none⟩ = some (.int .i64 h.e) := (mblk_cell hM0 0).trans rfl
  have x1 : W0.cell? ⟨w.heap.size, 1, none⟩ = some (.int .i64 h.p) := (mblk_cell hM0 1).trans rfl
  have x2 : W0.cell? ⟨w.heap.size, 2, none⟩ = some (.int .i64 h.e2) := (mblk_cell hM0 2).trans rfl
  have x3 : W0.cell? ⟨w.heap.size, 3, none⟩ = some (.int .i64 h.p2) := (mblk_cell hM0 3).trans rfl
  have x4 : W0.cell? ⟨w.heap.size, 4, none⟩ = some (.bool h.a) := (mblk_cell hM0 4).trans rfl
  obtain ⟨w2, hrun, hm2, ht2⟩ := map_put HL0.out.map hl hx h
  have HM2 := Aside0.mk (And.intro hm2 ht2)
  simp only [hdV] at hrun ⊢
  clear hL hb0 hG hM0 hm2 ht2 hM
  go_enter Try.func67, Try.ntmps67
  go_upto_region 1 with fail
  rw [← hW0]
  clear hW0
  go_region
  have HL2 := Aside0.mk (led_turn HL0.out HM2.out.1 HM2.out.2)
  have HK2 := Aside0.mk (((Kp.of HB0.out).trans (Kp.of (below_drew (Below.refl W0.heap.size W0)))).trans (kp_turn (g := g) HM2.out.2))
  clear hrun HL0 HB0 HM2 k1 x0 x1 x2 x3 x4
  go_wp2_with fail
  refine (counts_calls g b all q _ _ HL2.out HG.out).mono ?_
  rintro e w3 ⟨⟨v, rfl⟩, hL3, hK3⟩
  have HL3 := Aside0.mk (And.intro hL3 (HK2.out.trans hK3))
  clear hL3 hK3
  go_wp2_with fail
  go_end0
  exact ⟨⟨_, rfl⟩, HL3.out⟩
theorem map_get {W : World} {b : Nat} {l : List (Int × Hd)} (h : MapIs W b l) {z : Int} (hz : wfI z) :
    (Instr.lookup 94 (.map (some b)) (.int .i64 z) true).run Try.prog W = .ok (.tuple #[hdV ((getL l z).getD zeroH), .bool (hasL l z)]) W := by
  obtain ⟨D, hD, hV⟩ := h
  obtain ⟨v, ps, hrun, hv⟩ := hD.look_ok keyed Try.underlying94 (zeroE W) (hdR_mk zeroH) (key_of hz)
  rw [hV.get z] at hv
  obtain ⟨c, rfl, hc⟩ := hdR_inv hv
  rw [hdD_inj (congrArg Prod.fst hc)]
  rw [hrun, show Maps.has D (.int .i64 z) = hasL l z from hV.has z]
set_option maxRecDepth 100000 in
set_option maxHeartbeats 4000000 in
theorem of_calls (g b : Nat) (all q : Rat) (l : List (Int × Hd)) (z : Int) (h : Hd) (w : World) (hL : Led w g b all q l) (hx : wfI z) (hh : h = (getL l z).getD zeroH) :
    Calls Try.prog 27 #[.pointer (some ⟨g, 0, none⟩), .int .i64 z] w fun e w' => e = .returned (.tuple #[.agg #[.int .i64 h.e, .int .i64 h.p], .agg #[.int .i64 h.e2, .int .i64 h.p2], .bool (hasL l z)]) ∧ Below w.heap.size w w' := by
  obtain ⟨W0, hW0⟩ : ∃ W0, W0 = (w.alloc (.cells #[.int .i64 0, .int .i64 0] 34)).alloc (.cells #[.int .i64 0, .int .i64 0] 34) := ⟨_, rfl⟩
  have ha : (w.alloc (.cells #[.int .i64 0, .int .i64 0] 34)).heap.size = w.heap.size + 1 := by simp
  have hb0 : Below w.heap.size w W0 := by rw [hW0]; exact below_alloc (below_alloc (Below.refl _ _) _) _
  have hM0 : MBlk W0 w.heap.size 34 #[.int .i64 0, .int .i64 0] := by rw [hW0]; exact mblk_alloc (mblk_new _ _ _) _
  have hM1 : MBlk W0 (w.heap.size + 1) 34 #[.int .i64 0, .int .i64 0] := by rw [hW0, ← ha]; exact mblk_new _ _ _
  have HB0 := Aside0.mk hb0
  have HL0 := hL.below hb0
  obtain ⟨x, y, u, v, hM, _⟩ := HL0.cells
  have k1 : W0.cell? ⟨g, 2, none⟩ = some (.map (some b)) := (mblk_cell hM 2).trans rfl
  have hrun := map_get HL0.map hx
  rw [← hh] at hrun
  simp only [hdV] at hrun
  have HS0 := Aside0.mk (show W0.heap.size = w.heap.size + 2 by rw [hW0]; simp)
  obtain ⟨W1, hW1⟩ : ∃ W1, W1 = W0.alloc (.cells #[.int .i64 h.e, .int .i64 h.p, .int .i64 h.e2, .int .i64 h.p2, .bool h.a] 102) := ⟨_, rfl⟩
  have HM0 := Aside0.mk (show MBlk W1 w.heap.size 34 #[.int .i64 0, .int .i64 0] by rw [hW1]; exact mblk_alloc hM0 _)
  have HM1 := Aside0.mk (show MBlk W1 (w.heap.size + 1) 34 #[.int .i64 0, .int .i64 0] by rw [hW1]; exact mblk_alloc hM1 _)
  have HM2 := Aside0.mk (show MBlk W1 (w.heap.size + 2) 102 #[.int .i64 h.e, .int .i64 h.p, .int .i64 h.e2, .int .i64 h.p2, .bool h.a] by rw [hW1, ← HS0.out]; exact mblk_new _ _ _)
  have HB1 := Aside0.mk (show Below w.heap.size w W1 by rw [hW1]; exact below_alloc hb0 _)
  have HW1 := Aside0.mk hW1
  clear hL hb0 hM0 hM1 HL0 hM ha hW1 hh
  go_enter Try.func27, Try.ntmps27
  go_upto_region 3 with fail
  rw [← hW0]
  clear hW0
  go_upto_region 4 with fail
  rw [← HW1.out, HS0.out]
  clear HW1 HS0 k1 hrun HB0
  have y0 : W1.cell? ⟨w.heap.size, 0, none⟩ = some (.int .i64 0) := (mblk_cell HM0.out 0).trans rfl
  have y1 : W1.cell? ⟨w.heap.size, 1, none⟩ = some (.int .i64 0) := (mblk_cell HM0.out 1).trans rfl
  have y2 : W1.cell? ⟨w.heap.size + 1, 0, none⟩ = some (.int .i64 0) := (mblk_cell HM1.out 0).trans rfl
  have y3 : W1.cell? ⟨w.heap.size + 1, 1, none⟩ = some (.int .i64 0) := (mblk_cell HM1.out 1).trans rfl
  have f0 : W1.frozen? ⟨w.heap.size, 0, none⟩ = false := mblk_frozen HM0.out 0
  have f1 : W1.frozen? ⟨w.heap.size, 1, none⟩ = false := mblk_frozen HM0.out 1
  have f2 : W1.frozen? ⟨w.heap.size + 1, 0, none⟩ = false := mblk_frozen HM1.out 0
  have f3 : W1.frozen? ⟨w.heap.size + 1, 1, none⟩ = false := mblk_frozen HM1.out 1
  have x0 : W1.cell? ⟨w.heap.size + 2, 0, none⟩ = some (.int .i64 h.e) := (mblk_cell HM2.out 0).trans rfl
  have x1 : W1.cell? ⟨w.heap.size + 2, 1, none⟩ = some (.int .i64 h.p) := (mblk_cell HM2.out 1).trans rfl
  have x2 : W1.cell? ⟨w.heap.size + 2, 2, none⟩ = some (.int .i64 h.e2) := (mblk_cell HM2.out 2).trans rfl
  have x3 : W1.cell? ⟨w.heap.size + 2, 3, none⟩ = some (.int .i64 h.p2) := (mblk_cell HM2.out 3).trans rfl
  go_region
  go_wp2_with fail
  obtain ⟨Wf, hWf⟩ : ∃ Wf, Wf = (((W1.setCell ⟨w.heap.size, 0, none⟩ (.int .i64 h.e)).setCell ⟨w.heap.size, 1, none⟩ (.int .i64 h.p)).setCell ⟨w.heap.size + 1, 0, none⟩ (.int .i64 h.e2)).setCell ⟨w.heap.size + 1, 1, none⟩ (.int .i64 h.p2) := ⟨_, rfl⟩
  have hA : MBlk Wf w.heap.size 34 #[.int .i64 h.e, .int .i64 h.p] := by
    rw [hWf]
    exact mblk_far (mblk_far (mblk_set (mblk_set HM0.out 0 _) 1 _) (p := ⟨w.heap.size + 1, 0, none⟩) (by simp) _) (p := ⟨w.heap.size + 1, 1, none⟩) (by simp) _
  have hB : MBlk Wf (w.heap.size + 1) 34 #[.int .i64 h.e2, .int .i64 h.p2] := by
    rw [hWf]
    exact mblk_set (mblk_set (mblk_far (mblk_far HM1.out (p := ⟨w.heap.size, 0, none⟩) (by simp) _) (p := ⟨w.heap.size, 1, none⟩) (by simp) _) 0 _) 1 _
  have hbf : Below w.heap.size w Wf := by
    rw [hWf]
    exact (((HB1.out.setCell (p := ⟨w.heap.size, 0, none⟩) (Nat.le_refl _) _).setCell (p := ⟨w.heap.size, 1, none⟩) (Nat.le_refl _) _).setCell (p := ⟨w.heap.size + 1, 0, none⟩) (by simp) _).setCell (p := ⟨w.heap.size + 1, 1, none⟩) (by simp) _
  rw [← hWf]
  clear hWf y0 y1 y2 y3 f0 f1 f2 f3 x0 x1 x2 x3
  have e0 : Wf.drew.cell? ⟨w.heap.size, 0, none⟩ = some (.int .i64 h.e) := (mblk_cell hA 0).trans rfl
  have e1 : Wf.drew.cell? ⟨w.heap.size, 1, none⟩ = some (.int .i64 h.p) := (mblk_cell hA 1).trans rfl
  have e2 : Wf.drew.cell? ⟨w.heap.size + 1, 0, none⟩ = some (.int .i64 h.e2) := (mblk_cell hB 0).trans rfl
  have e3 : Wf.drew.cell? ⟨w.heap.size + 1, 1, none⟩ = some (.int .i64 h.p2) := (mblk_cell hB 1).trans rfl
  refine bodyPost_ret (v := .tuple #[.agg #[.int .i64 h.e, .int .i64 h.p], .agg #[.int .i64 h.e2, .int .i64 h.p2], .bool (hasL l z)]) (by simp [results, Try.results27, go_sem, e0, e1, e2, e3]) rfl ⟨rfl, below_drew hbf⟩
/-- How many holders there are. -/
theorem len_calls (g b : Nat) (all q : Rat) (l : List (Int × Hd)) (w : World) (hL : Led w g b all q l) (hl : l.length ≤ 1000000) :
    Calls Try.prog 21 #[.pointer (some ⟨g, 0, none⟩)] w fun e w' => e = .returned (.int .i64 (l.length : Int)) ∧ w' = w := by
  obtain ⟨x, y, u, v, hM, _⟩ := hL.cells
  have k1 : w.cell? ⟨g, 2, none⟩ = some (.map (some b)) := (mblk_cell hM 2).trans rfl
  obtain ⟨D, hD, hV⟩ := hL.map
  have hlen := fun ty => hD.len Try.underlying94 ty
  rw [hV.size] at hlen
  clear hL hM hV hD
  go_enter Try.func21, Try.ntmps21
  go_wp2_with fail
  exact bodyPost_ret (results_tmp rfl _ _ _) rfl ⟨rfl, rfl⟩
end Go.Proofs.Ytfldklimlcnnnaa.XPuts
