/- The walks of hold's New, fits, Fits. -/
import Derived.Test.YtfldklimlcnnnaaXPuts
import Derived.Deep.RegionHeld3
import Derived.Deep.RegionLaw
import Derived.Test.YtfldklimlcnnnaaPHqx2
import Derived.Test.YtfldklimlcnnnaaPHqx6
import Derived.Test.YtfldklimlcnnnaaPHqx8
import Derived.Test.YtfldklimlcnnnaaPHqx14
namespace Go.Proofs.Ytfldklimlcnnnaa.XFits
open Go.RowKit Go.Shelf Go.Proofs.Ytfldklimlcnnnaa.PHq Go.Proofs.YtfldklimlcnnnaaW.PrintWords Go.Proofs.YtfldklimlcnnnaaW.PrintLast Go.Proofs.YtfldklimlcnnnaaW.PrintMore Go.Proofs.Ytfldklimlcnnnaa.MWords
open Go.Proofs.Ytfldklimlcnnnaa.MNat Go.Proofs.Ytfldklimlcnnnaa.QNat Go.Proofs.Ytfldklimlcnnnaa.QText Go.Proofs.Ytfldklimlcnnnaa.QEv Go.Proofs.Ytfldklimlcnnnaa.QRatio Go.Proofs.Ytfldklimlcnnnaa.XRV Go.Proofs.Ytfldklimlcnnnaa.XHold Go.Proofs.Ytfldklimlcnnnaa.XWts Go.Proofs.Ytfldklimlcnnnaa.XLed Go.Proofs.Ytfldklimlcnnnaa.XPuts
set_option linter.unusedVariables false
set_option linter.unusedSimpArgs false
-- window_Check.calls ratio_Check.calls

theorem sz_sub (i : Nat) (p q : Rat) (hp : Sz i p) (hq : Sz i q) (h : q ≤ p) : Sz (i + i) (p - q) := by
  have e1 := self_mk p hp.1
  have e2 := self_mk q hq.1
  have hd1 := Rat.den_pos p
  have hd2 := Rat.den_pos q
  have hc : q.num.natAbs * p.den ≤ p.num.natAbs * q.den := by
    rcases Nat.lt_or_ge (p.num.natAbs * q.den) (q.num.natAbs * p.den) with h1 | h1
    · exact absurd ((lt_cross p q hp.1 hq.1).2 h1) (fun h2 => (Rat.lt_iff_le_and_not_ge.1 h2).2 h)
    · exact h1
  have h2 := mk_sub p.num.natAbs p.den q.num.natAbs q.den hd1 hd2 hc
  rw [e1, e2] at h2
  rw [h2]
  exact mk_sz (i + i) _ _ ((hp.2.1.mul hq.2.2).le (by omega)) (hp.2.2.mul hq.2.2) (Nat.mul_pos hd1 hd2)
theorem sz_mono {i j : Nat} {p : Rat} (h : Sz i p) (hij : i ≤ j) : Sz j p := ⟨h.1, h.2.1.mono hij, h.2.2.mono hij⟩
theorem heldL_nil : heldL [] = 0 := rfl
set_option maxRecDepth 100000 in
set_option maxHeartbeats 4000000 in
theorem new_calls (x y : Value) (n d j : Nat) (w : World) (hv : RV w x y (limbs n) (limbs d)) (hn : F j n) (hd : F j d) (hj : j + 2 ≤ 100000) (h0 : 0 < d) :
    Calls Try.prog 16 #[.agg #[x, y]] w fun e w' => ∃ g b, e = .returned (.pointer (some ⟨g, 0, none⟩)) ∧ Led w' g b (mkRat (n : Int) d) 0 [] ∧ Below w.heap.size w w' ∧ w.heap.size ≤ g ∧ w.heap.size ≤ b := by
  have HV := Aside0.mk (hv.below (below_alloc (Below.refl w.heap.size w) (.cells #[x, y] 28)))
  obtain ⟨A1, c1, A2, c2, rfl, rfl⟩ := hv.shape
  have HB0 := Aside0.mk (below_alloc (Below.refl w.heap.size w) (.cells #[.slice A1 (limbs n).length c1, .slice A2 (limbs d).length c2] 28))
  have HM0 := Aside0.mk (mblk_new w 28 #[.slice A1 (limbs n).length c1, .slice A2 (limbs d).length c2])
  have HC := Aside0.mk (check_n j n d hn hd (by omega) h0)
  obtain ⟨f, hf⟩ := (least_t j n d hn hd (by omega) h0).get
  have HL := Aside0.mk hf
  have HW := Aside0.mk (show ratio_Whole.f 0 = some (L ((0 : Nat) : Rat)) from whole_n 0 (by omega))
  have hmm := @run_makeMap Try.prog
  clear hv hf hn hd
  go_enter Try.func16, Try.ntmps16
  go_upto_region 1 with fail
  obtain ⟨W0, hW0⟩ : ∃ W0, W0 = w.alloc (.cells #[.slice A1 (limbs n).length c1, .slice A2 (limbs d).length c2] 28) := ⟨_, rfl⟩
  rw [← hW0] at HV HB0 HM0 ⊢
  clear hW0
  generalize limbs n = un at *
  generalize limbs d = ud at *
  have k0 : W0.cell? ⟨w.heap.size, 0, none⟩ = some (.slice A1 un.length c1) := (mblk_cell HM0.out 0).trans rfl
  have k1 : W0.cell? ⟨w.heap.size, 1, none⟩ = some (.slice A2 ud.length c2) := (mblk_cell HM0.out 1).trans rfl
  go_wp2_with fail
  refine (check_rv HV.out HC.out).mono ?_
  rintro e w1 ⟨rfl, hb⟩
  have HB1 := Aside0.mk (below_step HB0.out hb)
  have HV1 := Aside0.mk (HV.out.below hb)
  have HM1 := Aside0.mk ((hb.block _ (mblk_lt HM0.out)).trans HM0.out)
  clear hb HB0 HV HM0 k0 k1
  have k0 : w1.cell? ⟨w.heap.size, 0, none⟩ = some (.slice A1 un.length c1) := (mblk_cell HM1.out 0).trans rfl
  have k1 : w1.cell? ⟨w.heap.size, 1, none⟩ = some (.slice A2 ud.length c2) := (mblk_cell HM1.out 1).trans rfl
  go_wp2_with fail
  refine (least_rv HV1.out HL.out).mono ?_
  rintro e w2 ⟨p, p', rfl, hp, hb⟩
  obtain ⟨B1, d1, B2, d2, rfl, rfl⟩ := hp.shape
  have HB2 := Aside0.mk (below_step HB1.out hb)
  have HP := Aside0.mk hp
  clear hb hp k0 k1 HM1 HV1 HB1
  go_wp2_with fail
  obtain ⟨b, hbb⟩ : ∃ b, b = w2.heap.size := ⟨_, rfl⟩
  have hm2 : MapIs (w2.alloc (.map #[] 0)) b [] := ⟨_, by rw [hbb]; exact World.ownsMap_made _ _ _ _, View.nil⟩
  have ha2 : Below w2.heap.size w2 (w2.alloc (.map #[] 0)) := below_alloc (Below.refl _ _) _
  rw [← hbb]
  refine (whole_rv HW.out).mono ?_
  rintro e w3 ⟨r, r', rfl, hr, hb⟩
  obtain ⟨C1, e1, C2, e2, rfl, rfl⟩ := hr.shape
  have hb3 : Below w2.heap.size w2 w3 := below_step ha2 hb
  have HB3 := Aside0.mk (below_step HB2.out hb3)
  have HM3 := Aside0.mk (hm2.kept (hb.block b hm2.lt))
  have HP3 := Aside0.mk (HP.out.below hb3)
  have HR3 := Aside0.mk hr
  have HBB := Aside0.mk (show w.heap.size ≤ b by rw [hbb]; exact HB2.out.size)
  clear hb hr hb3 ha2 hm2 hbb hmm
  go_wp2_with fail
  have hb4 := below_alloc (Below.refl w3.heap.size w3) (.cells #[.slice B1 (L (mkRat (n : Int) d)).1.length d1, .slice B2 (L (mkRat (n : Int) d)).2.length d2, .map (some b), .slice C1 (L ((0 : Nat) : Rat)).1.length e1, .slice C2 (L ((0 : Nat) : Rat)).2.length e2] 97)
  exact bodyPost_ret (results_tmp rfl _ _ _) rfl ⟨w3.heap.size, b, rfl, ⟨⟨_, _, _, _, mblk_new _ _ _, HP3.out.below hb4, HR3.out.below hb4⟩, HM3.out.kept (hb4.block b HM3.out.lt)⟩, below_step HB3.out hb4, HB3.out.size, HBB.out⟩
/-- Behind the store of a ratio into a box of one's own. -/
theorem box_done {X w : World} {g7 g : Nat} {p p' x y : Value} {r1 r2 xa ya : List Int} {cs : Array Value} (hG : MBlk X g7 28 #[.slice none 0 0, .slice none 0 0]) (hV : RV X p p' r1 r2) (hB : Below w.heap.size w X) (hg : w.heap.size ≤ g7) (hM : MBlk X g 97 cs) (hA : RV X x y xa ya) :
    MBlk ((X.setCell ⟨g7, 0, none⟩ p).setCell ⟨g7, 1, none⟩ p') g7 28 #[p, p'] ∧ RV ((X.setCell ⟨g7, 0, none⟩ p).setCell ⟨g7, 1, none⟩ p') p p' r1 r2 ∧ Below w.heap.size w ((X.setCell ⟨g7, 0, none⟩ p).setCell ⟨g7, 1, none⟩ p') ∧ MBlk ((X.setCell ⟨g7, 0, none⟩ p).setCell ⟨g7, 1, none⟩ p') g 97 cs ∧ RV ((X.setCell ⟨g7, 0, none⟩ p).setCell ⟨g7, 1, none⟩ p') x y xa ya := by
  have hn : NoLimb X g7 := by
    intro p hp n hc
    unfold World.cell? at hc
    rw [hp, show X.heap[g7]? = _ from hG] at hc
    simp only at hc
    split at hc
    · cases hc
    · match ho : p.off, hc with
      | 0, hc => simp at hc
      | 1, hc => simp at hc
      | k + 2, hc => simp at hc
  have hs : ∀ k, k ≠ g7 → ((X.setCell ⟨g7, 0, none⟩ p).setCell ⟨g7, 1, none⟩ p').heap[k]? = X.heap[k]? := fun k hk => (Below.heap_setCell _ ⟨g7, 1, none⟩ _ k hk).trans (Below.heap_setCell _ ⟨g7, 0, none⟩ _ k hk)
  have hk : ∀ k, k < X.heap.size → ¬ NoLimb X k → ((X.setCell ⟨g7, 0, none⟩ p).setCell ⟨g7, 1, none⟩ p').heap[k]? = X.heap[k]? := fun k _ h => hs k (fun e => h (by rw [e]; exact hn))
  exact ⟨mblk_set (mblk_set hG 0 _) 1 _, hV.near hk, (hB.setCell (p := ⟨g7, 0, none⟩) hg _).setCell (p := ⟨g7, 1, none⟩) hg _, (hs g (mblk_ne hM hG (by decide))).trans hM, hA.near hk⟩
/-- Does so much more, and so much less, not go above all? -/
def fitsQ (all q more less : Rat) : Bool := decide (less ≤ q + more) && decide (q + more - less ≤ all)
set_option maxRecDepth 100000 in
set_option maxHeartbeats 4000000 in
theorem fits_calls (g b : Nat) (all q more less : Rat) (l : List (Int × Hd)) (x y u v : Value) (lm ll : List Int × List Int) (f1 f2 : Nat) (w : World) (hL : Led w g b all q l) (ha : Sz 3000 all) (hsz : Sz 6001 (q + more)) (hs : Sz 3000 less) (hx : RV w x y lm.1 lm.2) (hu : RV w u v ll.1 ll.2)
    (hf1 : ratio_Add.f f1 (L q).1 (L q).2 lm.1 lm.2 = some ((L (q + more)).1, (L (q + more)).2)) (hf2 : ratio_Sub.f f2 (L (q + more)).1 (L (q + more)).2 ll.1 ll.2 = some (if q + more < less then ([], [], 16) else ((L (q + more - less)).1, (L (q + more - less)).2, 0))) :
    Calls Try.prog 72 #[.pointer (some ⟨g, 0, none⟩), .agg #[x, y], .agg #[u, v]] w fun e w' => e = .returned (.bool (fitsQ all q more less)) ∧ Below w.heap.size w w' := by
  have mixed : Try.prog.follows Departure.mixedOrders = true := by kernel_rfl
  obtain ⟨X1, a1, X2, a2, rfl, rfl⟩ := hx.shape
  obtain ⟨U1, b1, U2, b2, rfl, rfl⟩ := hu.shape
  obtain ⟨p1, p2, q1, q2, hM, hP, hQ⟩ := hL.cells
  obtain ⟨P1, c1, P2, c2, rfl, rfl⟩ := hP.shape
  obtain ⟨Q1, d1, Q2, d2, rfl, rfl⟩ := hQ.shape
  obtain ⟨W0, hW0⟩ : ∃ W0, W0 = (w.alloc (.cells #[.slice X1 lm.1.length a1, .slice X2 lm.2.length a2] 28)).alloc (.cells #[.slice U1 ll.1.length b1, .slice U2 ll.2.length b2] 28) := ⟨_, rfl⟩
  have hz : (w.alloc (.cells #[.slice X1 lm.1.length a1, .slice X2 lm.2.length a2] 28)).heap.size = w.heap.size + 1 := by simp
  have hb0 : Below w.heap.size w W0 := by rw [hW0]; exact below_alloc (below_alloc (Below.refl _ _) _) _
  have HB0 := Aside0.mk hb0
  have HX0 := Aside0.mk (show MBlk W0 w.heap.size 28 #[.slice X1 lm.1.length a1, .slice X2 lm.2.length a2] by rw [hW0]; exact mblk_alloc (mblk_new _ _ _) _)
  have HU0 := Aside0.mk (show MBlk W0 (w.heap.size + 1) 28 #[.slice U1 ll.1.length b1, .slice U2 ll.2.length b2] by rw [hW0, ← hz]; exact mblk_new _ _ _)
  have HM0 := Aside0.mk (show MBlk W0 g 97 _ from (hb0.block _ (mblk_lt hM)).trans hM)
  have VX := Aside0.mk (hx.below hb0)
  have VU := Aside0.mk (hu.below hb0)
  have VP := Aside0.mk (hP.below hb0)
  have VQ := Aside0.mk (hQ.below hb0)
  have HF1 := Aside0.mk hf1
  have HF2 := Aside0.mk hf2
  have HSZ := Aside0.mk (And.intro ha (And.intro hsz hs))
  clear hx hu hL hM hP hQ hb0 hz hsz hf1 hf2 ha hs
  go_enter Try.func72, Try.ntmps72
  go_upto_region 1 with fail
  rw [← hW0]
  clear hW0
  obtain ⟨r1, r2, r3, hr⟩ : ∃ r1 r2 r3, (if q + more < less then (([] : List Int), ([] : List Int), (16 : Int)) else ((L (q + more - less)).1, (L (q + more - less)).2, 0)) = (r1, r2, r3) := ⟨_, _, _, rfl⟩
  have HR := Aside0.mk hr
  rw [hr] at HF2
  clear hr
  generalize L q = lq at *
  generalize L (q + more) = ls at *
  go_cut [7, 8] from 7 to 19 (fun v7 v8 wc => ∃ (g7 : Nat) (p p' : Value), v7 = .pointer (some ⟨g7, 0, none⟩) ∧ v8 = .int .i64 r3 ∧ Aside0 (MBlk wc g7 28 #[p, p']) ∧ Aside0 (RV wc p p' r1 r2) ∧ Aside0 (Below w.heap.size w wc) ∧ Aside0 (MBlk wc g 97 #[.slice P1 (L all).1.length c1, .slice P2 (L all).2.length c2, .map (some b), .slice Q1 lq.1.length d1, .slice Q2 lq.2.length d2]) ∧ Aside0 (RV wc (.slice P1 (L all).1.length c1) (.slice P2 (L all).2.length c2) (L all).1 (L all).2))
  case first =>
    have k3 : W0.cell? ⟨g, 3, none⟩ = some (.slice Q1 lq.1.length d1) := (mblk_cell HM0.out 3).trans rfl
    have k4 : W0.cell? ⟨g, 4, none⟩ = some (.slice Q2 lq.2.length d2) := (mblk_cell HM0.out 4).trans rfl
    have x0 : W0.cell? ⟨w.heap.size, 0, none⟩ = some (.slice X1 lm.1.length a1) := (mblk_cell HX0.out 0).trans rfl
    have x1 : W0.cell? ⟨w.heap.size, 1, none⟩ = some (.slice X2 lm.2.length a2) := (mblk_cell HX0.out 1).trans rfl
    have u0 : W0.cell? ⟨w.heap.size + 1, 0, none⟩ = some (.slice U1 ll.1.length b1) := (mblk_cell HU0.out 0).trans rfl
    have u1 : W0.cell? ⟨w.heap.size + 1, 1, none⟩ = some (.slice U2 ll.2.length b2) := (mblk_cell HU0.out 1).trans rfl
    have l0 : w.heap.size + 1 < W0.heap.size := mblk_lt HU0.out
    have l1 : w.heap.size < W0.heap.size := mblk_lt HX0.out
    have lg : g < W0.heap.size := mblk_lt HM0.out
    go_region_law
      (first
        | (go_simp; go_at_call 105
           refine (add_rv (VQ.out.below (by first | exact below_drew (Below.refl _ _) | exact below_alloc (below_drew (Below.refl _ _)) _)) (VX.out.below (by first | exact below_drew (Below.refl _ _) | exact below_alloc (below_drew (Below.refl _ _)) _)) HF1.out).mono ?_
           rintro e w1 ⟨s1, s2, rfl, h1, hb⟩
           have hb1 : Below W0.heap.size W0 w1 := by first | exact below_step (below_drew (Below.refl _ _)) hb | exact below_step (below_alloc (below_drew (Below.refl _ _)) _) hb
           obtain ⟨S1, e1, S2, e2, rfl, rfl⟩ := h1.shape
           have HB1 := Aside0.mk hb1
           have HS1 := Aside0.mk h1
           have u0 : w1.cell? ⟨w.heap.size + 1, 0, none⟩ = some (.slice U1 ll.1.length b1) := (mblk_cell ((hb1.block _ (mblk_lt HU0.out)).trans HU0.out) 0).trans rfl
           have u1 : w1.cell? ⟨w.heap.size + 1, 1, none⟩ = some (.slice U2 ll.2.length b2) := (mblk_cell ((hb1.block _ (mblk_lt HU0.out)).trans HU0.out) 1).trans rfl
           have l2 : w.heap.size + 1 < w1.heap.size := Nat.lt_of_lt_of_le l0 hb1.size
           try have HGA := Aside0.mk (show MBlk w1 W0.heap.size 28 #[.slice none 0 0, .slice none 0 0] from (hb.block _ (mblk_lt (mblk_new W0.drew 28 #[.slice none 0 0, .slice none 0 0]))).trans (mblk_new W0.drew 28 #[.slice none 0 0, .slice none 0 0]))
           clear h1 hb hb1)
        | (go_simp; go_at_call 73
           refine (sub_rv (HS1.out.below (by first | exact Below.refl _ _ | exact below_alloc (Below.refl _ _) _)) ((VU.out.below HB1.out).below (by first | exact Below.refl _ _ | exact below_alloc (Below.refl _ _) _)) HF2.out).mono ?_
           rintro e w2 ⟨t1, t2, rfl, h2, hb⟩
           have hb2 : Below W0.heap.size W0 w2 := by first | exact below_step HB1.out hb | exact below_step (below_alloc HB1.out _) hb
           obtain ⟨T1, e3, T2, e4, rfl, rfl⟩ := h2.shape
           have HB2 := Aside0.mk hb2
           have HT2 := Aside0.mk h2
           try have HGB := Aside0.mk (show MBlk w2 w1.heap.size 28 #[.slice none 0 0, .slice none 0 0] from (hb.block _ (mblk_lt (mblk_new w1 28 #[.slice none 0 0, .slice none 0 0]))).trans (mblk_new w1 28 #[.slice none 0 0, .slice none 0 0]))
           try have HGB := Aside0.mk (show MBlk w2 W0.heap.size 28 #[.slice none 0 0, .slice none 0 0] from (hb.block _ (mblk_lt HGA.out)).trans HGA.out)
           try have z0 := (mblk_cell HGB.out 0).trans rfl
           try have z1 := (mblk_cell HGB.out 1).trans rfl
           try have rf0 := mblk_frozen HGB.out 0
           try have rf1 := mblk_frozen HGB.out 1
           clear h2 hb hb2))
    all_goals
      have HBX := Aside0.mk (below_step HB0.out HB2.out)
      have HMX := Aside0.mk ((HB2.out.block _ (mblk_lt HM0.out)).trans HM0.out)
      have HPX := Aside0.mk (VP.out.below HB2.out)
      have HL0 := Aside0.mk l0
      have HL2 := Aside0.mk (Nat.le_trans l0 HB1.out.size)
      go_wp2_with fail
      go_meet
      case rel =>
        first
          | (obtain ⟨q1, q2, q3, q4, q5⟩ := box_done HGB.out HT2.out HBX.out (by have := HL0.out; have := HL2.out; omega) HMX.out HPX.out
             exact ⟨_, _, _, rfl, rfl, ⟨q1⟩, ⟨q2⟩, ⟨q3⟩, ⟨q4⟩, ⟨q5⟩⟩)
          | exact ⟨w2.heap.size, _, _, rfl, rfl, ⟨mblk_new w2 28 #[.slice T1 r1.length e3, .slice T2 r2.length e4]⟩, ⟨HT2.out.below (below_alloc (Below.refl _ _) _)⟩, ⟨below_alloc HBX.out _⟩, ⟨mblk_alloc HMX.out _⟩, ⟨HPX.out.below (below_alloc (Below.refl _ _) _)⟩⟩
  case rest =>
    obtain ⟨g7, p, p', rfl, rfl, HG7, HV7, HB7, HM7, HA7⟩ := hcut
    clear HB0 HX0 HU0 HM0 VX VU VP VQ HF1 HF2
    obtain ⟨T1, e3, T2, e4, rfl, rfl⟩ := HV7.out.shape
    have t0 : wc.cell? ⟨g7, 0, none⟩ = some (.slice T1 r1.length e3) := (mblk_cell HG7.out 0).trans rfl
    have t1 : wc.cell? ⟨g7, 1, none⟩ = some (.slice T2 r2.length e4) := (mblk_cell HG7.out 1).trans rfl
    have p0 : wc.cell? ⟨g, 0, none⟩ = some (.slice P1 (L all).1.length c1) := (mblk_cell HM7.out 0).trans rfl
    have p1 : wc.cell? ⟨g, 1, none⟩ = some (.slice P2 (L all).2.length c2) := (mblk_cell HM7.out 1).trans rfl
    by_cases hlt : q + more < less
    · have hR := HR.out
      rw [if_pos hlt] at hR
      obtain ⟨rfl, hR2⟩ := Prod.mk.inj hR
      obtain ⟨rfl, rfl⟩ := Prod.mk.inj hR2
      have HX := Aside0.mk (show fitsQ all q more less = false by
        unfold fitsQ
        rw [decide_eq_false (fun h => (Rat.lt_iff_le_and_not_ge.1 hlt).2 h)]
        rfl)
      clear hR hR2 HR hlt
      go_wp2_with fail
      go_region
      go_wp2_with fail
      exact bodyPost_ret (results_tmp rfl _ _ _) rfl ⟨by rw [HX.out]; rfl, below_drew HB7.out⟩
    · have hR := HR.out
      rw [if_neg hlt] at hR
      obtain ⟨e1', hR2⟩ := Prod.mk.inj hR
      obtain ⟨e2', rfl⟩ := Prod.mk.inj hR2
      obtain ⟨f3, hf3⟩ := (cmpL 12002 3000 (q + more - less) all (sz_sub 6001 _ _ HSZ.out.2.1 (sz_mono HSZ.out.2.2 (by omega)) (Rat.not_lt.1 hlt)) HSZ.out.1 (by omega)).get
      rw [e1', e2'] at hf3
      have HF3 := Aside0.mk hf3
      have HX := Aside0.mk (show fitsQ all q more less = decide (cmpR (q + more - less) all ≤ 0) by
        unfold fitsQ
        rw [decide_eq_true (Rat.not_lt.1 hlt), Bool.true_and]
        congr 1
        unfold cmpR
        by_cases h1 : q + more - less < all
        · rw [if_pos h1]
          simp [(Rat.lt_iff_le_and_not_ge.1 h1).1]
        · rw [if_neg h1]
          by_cases h2 : q + more - less = all
          · rw [if_pos h2, h2]
            simp [Rat.le_refl]
          · rw [if_neg h2]
            have : ¬ q + more - less ≤ all := fun h => h1 (Rat.lt_of_le_of_ne h h2)
            simp [this])
      generalize cmpR (q + more - less) all = cc at *
      clear hR hR2 HR hlt e1' e2' hf3
      generalize L all = la at *
      go_wp2_with fail
      go_region_law
        (first
          | (go_simp; go_at_call 106
             refine (cmp_rv (HV7.out.below (below_drew (Below.refl _ _))) (HA7.out.below (below_drew (Below.refl _ _))) HF3.out).mono ?_
             rintro e w5 ⟨rfl, hb⟩
             have HB8 := Aside0.mk (below_step (below_drew HB7.out) hb)
             clear hb))
      all_goals
        go_wp2_with fail
        exact bodyPost_ret (results_tmp rfl _ _ _) rfl ⟨by rw [HX.out]; rfl, HB8.out⟩
end Go.Proofs.Ytfldklimlcnnnaa.XFits
