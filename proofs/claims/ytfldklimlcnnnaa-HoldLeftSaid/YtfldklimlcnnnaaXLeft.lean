/- The walk of hold's Left; the methods of no ledger. -/
import Derived.Test.YtfldklimlcnnnaaXOp
import Derived.Deep.DeepCutAuto

namespace Go.Proofs.Ytfldklimlcnnnaa.XLeft
open Go.RowKit Go.Shelf Go.Proofs.Ytfldklimlcnnnaa.PHq Go.Proofs.YtfldklimlcnnnaaW.PrintWords Go.Proofs.YtfldklimlcnnnaaW.PrintLast Go.Proofs.YtfldklimlcnnnaaW.PrintMore Go.Proofs.Ytfldklimlcnnnaa.MWords
open Go.Proofs.Ytfldklimlcnnnaa.MNat Go.Proofs.Ytfldklimlcnnnaa.QNat Go.Proofs.Ytfldklimlcnnnaa.QText Go.Proofs.Ytfldklimlcnnnaa.QEv Go.Proofs.Ytfldklimlcnnnaa.QRatio Go.Proofs.Ytfldklimlcnnnaa.XRV Go.Proofs.Ytfldklimlcnnnaa.XHold Go.Proofs.Ytfldklimlcnnnaa.XWts Go.Proofs.Ytfldklimlcnnnaa.XLed Go.Proofs.Ytfldklimlcnnnaa.XPuts Go.Proofs.Ytfldklimlcnnnaa.XNew Go.Proofs.Ytfldklimlcnnnaa.XFits Go.Proofs.Ytfldklimlcnnnaa.XJoin Go.Proofs.Ytfldklimlcnnnaa.XMeth Go.Proofs.Ytfldklimlcnnnaa.XAsk Go.Proofs.Ytfldklimlcnnnaa.XEnd Go.Proofs.Ytfldklimlcnnnaa.XAwake Go.Proofs.Ytfldklimlcnnnaa.QHold
set_option linter.unusedVariables false
set_option linter.unusedSimpArgs false

theorem noLimb_box {X : World} {g7 : Nat} {o1 o2 : Option Addr} {n1 n2 m1 m2 : Nat} {t : TypeId} (hG : MBlk X g7 t #[.slice o1 n1 m1, .slice o2 n2 m2]) : NoLimb X g7 := by
  intro p hp n hc
  unfold World.cell? at hc
  rw [hp, show X.heap[g7]? = _ from hG] at hc
  simp only at hc
  split at hc
  · cases hc
  · match ho : p.off, hc with
    | 0, hc => simp at hc
    | 1, hc => simp at hc
    | k + 2, hc => simp at hc
/-- Behind the store of a ratio into a box of one's own: another box, a ratio. -/
theorem box_put2 {X w : World} {g7 g2 : Nat} {p p' : Value} {r1 r2 : List Int} {cs : Array Value} {t : TypeId} {o1 o2 : Option Addr} {n1 n2 m1 m2 : Nat} (hG : MBlk X g7 28 #[.slice o1 n1 m1, .slice o2 n2 m2]) (hV : RV X p p' r1 r2) (hB : Below w.heap.size w X) (hg : w.heap.size ≤ g7) (hM : MBlk X g2 t cs) (hne : g2 ≠ g7) :
    MBlk ((X.setCell ⟨g7, 0, none⟩ p).setCell ⟨g7, 1, none⟩ p') g7 28 #[p, p'] ∧ RV ((X.setCell ⟨g7, 0, none⟩ p).setCell ⟨g7, 1, none⟩ p') p p' r1 r2 ∧ Below w.heap.size w ((X.setCell ⟨g7, 0, none⟩ p).setCell ⟨g7, 1, none⟩ p') ∧ MBlk ((X.setCell ⟨g7, 0, none⟩ p).setCell ⟨g7, 1, none⟩ p') g2 t cs := by
  have hn := noLimb_box hG
  have hs : ∀ k, k ≠ g7 → ((X.setCell ⟨g7, 0, none⟩ p).setCell ⟨g7, 1, none⟩ p').heap[k]? = X.heap[k]? := fun k hk => (Below.heap_setCell _ ⟨g7, 1, none⟩ _ k hk).trans (Below.heap_setCell _ ⟨g7, 0, none⟩ _ k hk)
  have hk : ∀ k, k < X.heap.size → ¬ NoLimb X k → ((X.setCell ⟨g7, 0, none⟩ p).setCell ⟨g7, 1, none⟩ p').heap[k]? = X.heap[k]? := fun k _ h => hs k (fun e => h (by rw [e]; exact hn))
  exact ⟨mblk_set (mblk_set hG 0 _) 1 _, hV.near hk, (hB.setCell (p := ⟨g7, 0, none⟩) hg _).setCell (p := ⟨g7, 1, none⟩) hg _, (hs g2 hne).trans hM⟩
set_option maxRecDepth 100000 in
set_option maxHeartbeats 4000000 in
theorem left_calls (g b : Nat) (all q : Rat) (l : List (Int × Hd)) (w : World) (hL : Led w g b all q l) (ha : Sz 3000 all) (hq : Sz 3000 q) (hle : q ≤ all) :
    Calls Try.prog 24 #[.pointer (some ⟨g, 0, none⟩)] w fun e w' => ∃ p p' : Value, e = .returned (.agg #[p, p']) ∧ RV w' p p' (L (all - q)).1 (L (all - q)).2 ∧ Below w.heap.size w w' := by
  have mixed : Try.prog.follows Departure.mixedOrders = true := by kernel_rfl
  obtain ⟨f, hf⟩ := (subL 3000 3000 all q ha hq (by omega)).get
  rw [if_neg (Rat.not_lt.2 hle)] at hf
  generalize (L (all - q)).1 = r1 at *
  generalize (L (all - q)).2 = r2 at *
  obtain ⟨x, y, u, v, hM, hXY, hUV⟩ := hL.cells
  generalize L all = la at *
  generalize L q = lq at *
  have HF := Aside0.mk hf
  obtain ⟨X1, a1, X2, a2, rfl, rfl⟩ := hXY.shape
  obtain ⟨U1, b1, U2, b2, rfl, rfl⟩ := hUV.shape
  obtain ⟨W0, hW0⟩ : ∃ W0, W0 = w.alloc (.cells #[.slice none 0 0, .slice none 0 0] 28) := ⟨_, rfl⟩
  have hb0 : Below w.heap.size w W0 := by rw [hW0]; exact below_alloc (Below.refl _ _) _
  have HB0 := Aside0.mk hb0
  have HZ0 := Aside0.mk (show W0.heap.size = w.heap.size + 1 by rw [hW0]; simp)
  have HR0 := Aside0.mk (show MBlk W0 w.heap.size 28 #[.slice none 0 0, .slice none 0 0] by rw [hW0]; exact mblk_new _ _ _)
  have HM0 := Aside0.mk (show MBlk W0 g 97 _ from (hb0.block _ (mblk_lt hM)).trans hM)
  have VX := Aside0.mk (hXY.below hb0)
  have VU := Aside0.mk (hUV.below hb0)
  clear hL hf hb0 hM hXY hUV ha hq hle
  go_enter Try.func24, Try.ntmps24
  go_upto_region 3 with fail
  rw [← hW0]
  clear hW0
  go_cut [3] from 3 to 19 (fun v3 wc => ∃ (g3 : Nat) (p p' : Value), v3 = .pointer (some ⟨g3, 0, none⟩) ∧ Aside0 (MBlk wc g3 28 #[p, p']) ∧ Aside0 (RV wc p p' r1 r2) ∧ Aside0 (Below w.heap.size w wc) ∧ Aside0 (MBlk wc w.heap.size 28 #[.slice none 0 0, .slice none 0 0]))
  case first =>
    have k0 : W0.cell? ⟨g, 0, none⟩ = some (.slice X1 la.1.length a1) := (mblk_cell HM0.out 0).trans rfl
    have k1 : W0.cell? ⟨g, 1, none⟩ = some (.slice X2 la.2.length a2) := (mblk_cell HM0.out 1).trans rfl
    have k3 : W0.cell? ⟨g, 3, none⟩ = some (.slice U1 lq.1.length b1) := (mblk_cell HM0.out 3).trans rfl
    have k4 : W0.cell? ⟨g, 4, none⟩ = some (.slice U2 lq.2.length b2) := (mblk_cell HM0.out 4).trans rfl
    have lg : g < W0.heap.size := mblk_lt HM0.out
    go_region_law
      (first
        | (go_simp; go_at_call 73
           refine (sub_rv (VX.out.below (by first | exact below_drew (Below.refl _ _) | exact below_alloc (below_drew (Below.refl _ _)) _)) (VU.out.below (by first | exact below_drew (Below.refl _ _) | exact below_alloc (below_drew (Below.refl _ _)) _)) HF.out).mono ?_
           rintro e w2 ⟨t1, t2, rfl, h2, hb⟩
           have hb2 : Below W0.heap.size W0 w2 := by first | exact below_step (below_drew (Below.refl _ _)) hb | exact below_step (below_alloc (below_drew (Below.refl _ _)) _) hb
           obtain ⟨T1, e3, T2, e4, rfl, rfl⟩ := h2.shape
           have HB2 := Aside0.mk hb2
           have HT2 := Aside0.mk h2
           try have HGB := Aside0.mk (show MBlk w2 W0.heap.size 28 #[.slice none 0 0, .slice none 0 0] from (hb.block _ (mblk_lt (mblk_new W0.drew 28 #[.slice none 0 0, .slice none 0 0]))).trans (mblk_new W0.drew 28 #[.slice none 0 0, .slice none 0 0]))
           try have z0 := (mblk_cell HGB.out 0).trans rfl
           try have z1 := (mblk_cell HGB.out 1).trans rfl
           try have rf0 := mblk_frozen HGB.out 0
           try have rf1 := mblk_frozen HGB.out 1
           clear h2 hb hb2))
    all_goals
      have HBX := Aside0.mk (below_step HB0.out HB2.out)
      have HRX := Aside0.mk ((HB2.out.block _ (mblk_lt HR0.out)).trans HR0.out)
      go_wp2_with fail
      go_meet
      case rel =>
        first
          | (obtain ⟨q1, q2, q3, q4⟩ := box_put2 HGB.out HT2.out HBX.out (by have := HZ0.out; omega) HRX.out (by have := HZ0.out; omega)
             exact ⟨_, _, _, rfl, ⟨q1⟩, ⟨q2⟩, ⟨q3⟩, ⟨q4⟩⟩)
          | exact ⟨w2.heap.size, _, _, rfl, ⟨mblk_new w2 28 #[.slice T1 r1.length e3, .slice T2 r2.length e4]⟩, ⟨HT2.out.below (below_alloc (Below.refl _ _) _)⟩, ⟨below_alloc HBX.out _⟩, ⟨mblk_alloc HRX.out _⟩⟩
  case rest =>
    obtain ⟨g3, p, p', rfl, HG3, HV3, HB3, HR3⟩ := hcut
    clear HB0 HR0 HM0 VX VU HF
    obtain ⟨T1, e3, T2, e4, rfl, rfl⟩ := HV3.out.shape
    have t0 : wc.cell? ⟨g3, 0, none⟩ = some (.slice T1 r1.length e3) := (mblk_cell HG3.out 0).trans rfl
    have t1 : wc.cell? ⟨g3, 1, none⟩ = some (.slice T2 r2.length e4) := (mblk_cell HG3.out 1).trans rfl
    have z0 : wc.cell? ⟨w.heap.size, 0, none⟩ = some (.slice none 0 0) := (mblk_cell HR3.out 0).trans rfl
    have z1 : wc.cell? ⟨w.heap.size, 1, none⟩ = some (.slice none 0 0) := (mblk_cell HR3.out 1).trans rfl
    have f0 : wc.frozen? ⟨w.heap.size, 0, none⟩ = false := mblk_frozen HR3.out 0
    have f1 : wc.frozen? ⟨w.heap.size, 1, none⟩ = false := mblk_frozen HR3.out 1
    obtain ⟨w5, hw5⟩ : ∃ w5, w5 = (wc.setCell ⟨w.heap.size, 0, none⟩ (.slice T1 r1.length e3)).setCell ⟨w.heap.size, 1, none⟩ (.slice T2 r2.length e4) := ⟨_, rfl⟩
    have HQ : MBlk w5 w.heap.size 28 #[.slice T1 r1.length e3, .slice T2 r2.length e4] ∧ RV w5 (.slice T1 r1.length e3) (.slice T2 r2.length e4) r1 r2 ∧ Below w.heap.size w w5 := by
      have hn := noLimb_box HR3.out
      have hs : ∀ k, k ≠ w.heap.size → w5.heap[k]? = wc.heap[k]? := fun k hk => by rw [hw5]; exact (Below.heap_setCell _ ⟨w.heap.size, 1, none⟩ _ k hk).trans (Below.heap_setCell _ ⟨w.heap.size, 0, none⟩ _ k hk)
      refine ⟨by rw [hw5]; exact mblk_set (mblk_set HR3.out 0 _) 1 _, HV3.out.near (fun k _ h => hs k (fun e => h (by rw [e]; exact hn))), ?_⟩
      rw [hw5]
      exact (HB3.out.setCell (p := ⟨w.heap.size, 0, none⟩) (Nat.le_refl _) _).setCell (p := ⟨w.heap.size, 1, none⟩) (Nat.le_refl _) _
    have HQ5 := Aside0.mk HQ
    have HW5 := Aside0.mk hw5
    clear hw5 HQ
    go_wp2_with fail
    rw [← HW5.out]
    clear HW5 t0 t1 z0 z1 f0 f1
    have e0 : w5.cell? ⟨w.heap.size, 0, none⟩ = some (.slice T1 r1.length e3) := (mblk_cell HQ5.out.1 0).trans rfl
    have e1 : w5.cell? ⟨w.heap.size, 1, none⟩ = some (.slice T2 r2.length e4) := (mblk_cell HQ5.out.1 1).trans rfl
    exact bodyPost_ret (v := .agg #[.slice T1 r1.length e3, .slice T2 r2.length e4]) (by simp [results, Try.results24, go_sem, e0, e1]) rfl ⟨_, _, rfl, HQ5.out.2.1, HQ5.out.2.2⟩
end Go.Proofs.Ytfldklimlcnnnaa.XLeft
