/- The walks of slices.Clone (of limbs), hold's Held and New. -/
import Derived.Test.YtfldklimlcnnnaaXPuts
import Derived.Deep.RegionHeld3
import Derived.Deep.RegionLaw

namespace Go.Proofs.Ytfldklimlcnnnaa.XNew
open Go.RowKit Go.Shelf Go.Proofs.Ytfldklimlcnnnaa.PHq Go.Proofs.YtfldklimlcnnnaaW.PrintWords Go.Proofs.YtfldklimlcnnnaaW.PrintLast Go.Proofs.YtfldklimlcnnnaaW.PrintMore Go.Proofs.Ytfldklimlcnnnaa.MWords
open Go.Proofs.Ytfldklimlcnnnaa.MNat Go.Proofs.Ytfldklimlcnnnaa.QNat Go.Proofs.Ytfldklimlcnnnaa.QText Go.Proofs.Ytfldklimlcnnnaa.QEv Go.Proofs.Ytfldklimlcnnnaa.QRatio Go.Proofs.Ytfldklimlcnnnaa.XRV Go.Proofs.Ytfldklimlcnnnaa.XHold Go.Proofs.Ytfldklimlcnnnaa.XWts Go.Proofs.Ytfldklimlcnnnaa.XLed Go.Proofs.Ytfldklimlcnnnaa.XPuts
set_option linter.unusedVariables false
set_option linter.unusedSimpArgs false
-- info89

theorem nil_ne (ad : Addr) (n c : Nat) (w : World) : (binOp BinOp.eql 26 (.slice (some ad) n c) (.slice none 0 0)).run Try.prog w = .ok (.bool false) w := by
  kernel_rfl
theorem nil_eq (n c : Nat) (w : World) : (binOp BinOp.eql 26 (.slice none n c) (.slice none 0 0)).run Try.prog w = .ok (.bool true) w := by
  kernel_rfl
set_option maxRecDepth 100000 in
set_option maxHeartbeats 4000000 in
theorem clone_calls (A : Option Addr) (c : Nat) (xs : List Int) (w : World) (hC : Kd.C (Kd.int .u32) w A xs.length xs) (hc : xs.length ≤ c) (hl : xs.length ≤ 1000000) :
    Calls Try.prog 70 #[.slice A xs.length c] w fun e w' => ∃ A' c', e = .returned (.slice A' xs.length c') ∧ (xs.length ≤ c' ∧ Kd.C (Kd.int .u32) w' A' xs.length xs) ∧ Below w.heap.size w w' := by
  have HC := Aside0.mk hC
  have HL := Aside0.mk hl
  clear hC
  go_enter Try.func70, Try.ntmps70
  cases A with
  | none =>
    have h0 : xs = [] := by
      cases xs with
      | nil => rfl
      | cons x xs => obtain ⟨ad, h, _⟩ := HC.out.2.2 (by simp); cases h
    subst h0
    have q0 := nil_eq 0 c
    go_wp2_with fail
    exact bodyPost_ret (results_tmp rfl _ _ _) rfl ⟨none, 0, rfl, ⟨Nat.le_refl _, Kd.C_nil _ _⟩, Below.refl _ _⟩
  | some ad =>
    have q0 := nil_ne ad xs.length c
    go_wp2_with (first
      | ((with_reducible refine gate_dst (N := 5) rfl ?_); refine Kd.R_lit (Kd.int .u32) (w0 := w) w.heap.size 89 rfl (N := 5) rfl (xs := ([] : List Int)) (inner := []) (ok := fun _ => True) (okp := fun _ => True) (by first | (go_simp; done) | (go_simp; rfl)) (Reps.none _ _) (fun _ hk => hk) trivial (Below.refl _ _) (Nat.le_refl _) (by simp) ?_; intro v1 w1 hR1 hb1 _ _; have HR1 := Aside0.mk hR1; have HB1 := Aside0.mk hb1; have HS1 := Aside0.mk hb1.size; clear hR1 hb1)
      | ((with_reducible refine gate_builtin (b := .append) (xs := #[.tmp 5, .tmp 6]) rfl ?_); at_builtin; refine Kd.R_append_rows (Kd.int .u32) (w0 := w) w.heap.size rfl (.tmp 5) (.tmp 6) 26 89 (.int .u32 0) 4 rfl Try.underlying26 info89 rfl (by decide) (by omega) v1 [] xs (some ad) xs.length c (fun _ => True) (fun _ => False) rfl rfl HR1.out (Kd.C_below HC.out HB1.out) (fun _ _ h => h) (fun _ hk => hk.elim) (fun _ _ => trivial) HB1.out HS1.out (by have := HL.out; simp; omega) ?_; intro v2 w2 hR2 hb2 _ _; have HR2 := Aside0.mk hR2; have HB2 := Aside0.mk hb2; clear hR2 hb2))
    obtain ⟨A2, c2, rfl⟩ := Kd.R_slice HR2.out
    refine bodyPost_ret (results_tmp rfl _ _ _) rfl ⟨A2, c2, rfl, (Kd.R_reads' HR2.out).2, HB2.out⟩
theorem rv_keep {W W' : World} {p : Nat} {x y : Value} {a b : List Int} (h : RV W x y a b) (hb : Below W.heap.size W W') : RV W' x y a b := h.below hb
set_option maxRecDepth 100000 in
set_option maxHeartbeats 4000000 in
theorem held_calls (g b : Nat) (all q : Rat) (l : List (Int × Hd)) (w : World) (hL : Led w g b all q l) (hs : Sz 100000 q) :
    Calls Try.prog 20 #[.pointer (some ⟨g, 0, none⟩)] w fun e w' => ∃ p p' : Value, e = .returned (.agg #[p, p']) ∧ RV w' p p' (L q).1 (L q).2 ∧ Below w.heap.size w w' := by
  have mixed : Try.prog.follows Departure.mixedOrders = true := by kernel_rfl
  obtain ⟨x, y, u, v, hM, _, hUV⟩ := hL.cells
  obtain ⟨⟨Au, cu, rfl, hu1, hu2⟩, Av, cv, rfl, hv1, hv2⟩ := hUV
  obtain ⟨W0, hW0⟩ : ∃ W0, W0 = w.alloc (.cells #[.slice none 0 0, .slice none 0 0] 28) := ⟨_, rfl⟩
  have hb0 : Below w.heap.size w W0 := by rw [hW0]; exact below_alloc (Below.refl _ _) _
  have HB0 := Aside0.mk hb0
  have HR0 := Aside0.mk (show MBlk W0 w.heap.size 28 #[.slice none 0 0, .slice none 0 0] by rw [hW0]; exact mblk_new _ _ _)
  have HM0 := Aside0.mk ((hb0.block _ (mblk_lt hM)).trans hM)
  have HU := Aside0.mk (And.intro hu1 hu2)
  have HV := Aside0.mk (And.intro hv1 hv2)
  have HSZ := Aside0.mk (show (L q).1.length ≤ 1000000 ∧ (L q).2.length ≤ 1000000 from And.intro (hs.2.1.isN (by omega)).2 (hs.2.2.isN (by omega)).2)
  generalize (L q).1 = ua at *
  generalize (L q).2 = va at *
  clear hL hb0 hM hu1 hu2 hv1 hv2
  go_enter Try.func20, Try.ntmps20
  go_upto_region 3 with fail
  rw [← hW0]
  clear hW0
  have k3 : W0.cell? ⟨g, 3, none⟩ = some (.slice Au ua.length cu) := (mblk_cell HM0.out 3).trans rfl
  have k4 : W0.cell? ⟨g, 4, none⟩ = some (.slice Av va.length cv) := (mblk_cell HM0.out 4).trans rfl
  go_region_law
    (first
      | (go_simp; go_at_call 70
         refine (clone_calls Au cu ua _ (Kd.C_below HU.out.2 (below_drew HB0.out)) HU.out.1 HSZ.out.1).mono ?_
         rintro e w1 ⟨A1, c1, rfl, h1, hb⟩
         have HB1 := Aside0.mk (below_step (below_drew HB0.out) hb)
         have HM1 := Aside0.mk ((hb.block _ (mblk_lt HM0.out)).trans HM0.out)
         have HR1 := Aside0.mk ((hb.block _ (mblk_lt HR0.out)).trans HR0.out)
         have H1 := Aside0.mk h1
         have k4 : w1.cell? ⟨g, 4, none⟩ = some (.slice Av va.length cv) := (mblk_cell HM1.out 4).trans rfl
         clear h1 hb)
      | (go_simp; go_at_call 70
         refine (clone_calls Av cv va _ (Kd.C_below HV.out.2 HB1.out) HV.out.1 HSZ.out.2).mono ?_
         rintro e w2 ⟨A2, c2, rfl, h2, hb⟩
         have HB2 := Aside0.mk (below_step HB1.out hb)
         have HR2 := Aside0.mk ((hb.block _ (mblk_lt HR1.out)).trans HR1.out)
         have H2 := Aside0.mk h2
         have H3 := Aside0.mk (Kd.C_below H1.out.2 hb)
         have r0 : w2.cell? ⟨w.heap.size, 0, none⟩ = some (.slice none 0 0) := (mblk_cell HR2.out 0).trans rfl
         have r1 : w2.cell? ⟨w.heap.size, 1, none⟩ = some (.slice none 0 0) := (mblk_cell HR2.out 1).trans rfl
         have f0 : w2.frozen? ⟨w.heap.size, 0, none⟩ = false := mblk_frozen HR2.out 0
         have f1 : w2.frozen? ⟨w.heap.size, 1, none⟩ = false := mblk_frozen HR2.out 1
         clear h2 hb))
  all_goals
    have HF := Aside0.mk (show MBlk ((w2.setCell ⟨w.heap.size, 0, none⟩ (.slice A1 ua.length c1)).setCell ⟨w.heap.size, 1, none⟩ (.slice A2 va.length c2)) w.heap.size 28 #[.slice A1 ua.length c1, .slice A2 va.length c2] from mblk_set (mblk_set HR2.out 0 _) 1 _)
    have HBF := Aside0.mk (show Below w.heap.size w ((w2.setCell ⟨w.heap.size, 0, none⟩ (.slice A1 ua.length c1)).setCell ⟨w.heap.size, 1, none⟩ (.slice A2 va.length c2)) from (HB2.out.setCell (p := ⟨w.heap.size, 0, none⟩) (Nat.le_refl _) _).setCell (p := ⟨w.heap.size, 1, none⟩) (Nat.le_refl _) _)
    have HRV := Aside0.mk (show RV ((w2.setCell ⟨w.heap.size, 0, none⟩ (.slice A1 ua.length c1)).setCell ⟨w.heap.size, 1, none⟩ (.slice A2 va.length c2)) (.slice A1 ua.length c1) (.slice A2 va.length c2) ua va from
      RV.near ⟨⟨A1, c1, rfl, H1.out.1, H3.out⟩, A2, c2, rfl, H2.out.1, H2.out.2⟩ (fun k hk hn => by
        have hne : k ≠ w.heap.size := fun e => hn (by
          intro p hp n hc
          rw [e] at hp
          unfold World.cell? at hc
          rw [hp, show w2.heap[w.heap.size]? = _ from HR2.out] at hc
          simp only at hc
          split at hc
          · cases hc
          · match ho : p.off, hc with
            | 0, hc => simp at hc
            | 1, hc => simp at hc
            | k + 2, hc => simp at hc)
        exact (Below.heap_setCell _ ⟨w.heap.size, 1, none⟩ _ k hne).trans (Below.heap_setCell _ ⟨w.heap.size, 0, none⟩ _ k hne)))
    clear r0 r1 f0 f1 k4
    go_wp2_with fail
    have e0 := (mblk_cell HF.out 0).trans rfl
    have e1 := (mblk_cell HF.out 1).trans rfl
    exact bodyPost_ret (v := .agg #[.slice A1 ua.length c1, .slice A2 va.length c2]) (by simp [results, Try.results20, go_sem, e0, e1]) rfl ⟨_, _, rfl, HRV.out, HBF.out⟩
end Go.Proofs.Ytfldklimlcnnnaa.XNew
