/- The words and walks that the law HoldPlays is proved by, part 6: each text in a section of its own. -/
import Derived.Test.YtfldklimlcnnnaaHP5
import Derived.Deep.RegionHeld3
import Derived.Deep.RegionLaw
import Derived.Deep.DeepCutAuto
import Derived.Deep.DrawnRows
set_option linter.unusedVariables false
set_option linter.unusedSimpArgs false
section
namespace Go.Proofs.Ytfldklimlcnnnaa.XJoin
open Go.RowKit Go.Shelf Go.Proofs.Ytfldklimlcnnnaa.PHq Go.Proofs.YtfldklimlcnnnaaW.PrintWords Go.Proofs.YtfldklimlcnnnaaW.PrintLast Go.Proofs.YtfldklimlcnnnaaW.PrintMore Go.Proofs.Ytfldklimlcnnnaa.MWords
open Go.Proofs.Ytfldklimlcnnnaa.MNat Go.Proofs.Ytfldklimlcnnnaa.QNat Go.Proofs.Ytfldklimlcnnnaa.QText Go.Proofs.Ytfldklimlcnnnaa.QEv Go.Proofs.Ytfldklimlcnnnaa.QRatio Go.Proofs.Ytfldklimlcnnnaa.XRV Go.Proofs.Ytfldklimlcnnnaa.XHold Go.Proofs.Ytfldklimlcnnnaa.XWts Go.Proofs.Ytfldklimlcnnnaa.XLed Go.Proofs.Ytfldklimlcnnnaa.XPuts Go.Proofs.Ytfldklimlcnnnaa.XFits
def mayW (x : S34) : Bool := decide (1 ≤ x.f0) && decide (x.f0 ≤ x.f1) && decide (x.f1 ≤ 1048576)
theorem wcheck_f (x : S34) : window_Check.f x.f0 x.f1 = some (mayW x) := by
 unfold window_Check.f mayW
 by_cases h1 : 1 ≤ x.f0
 ·rw [if_pos h1, decide_eq_true h1]
  by_cases h2 : x.f0 ≤ x.f1
  ·rw [if_pos h2, decide_eq_true h2]; rfl
  ·rw [if_neg h2, decide_eq_false h2]; rfl
 ·rw [if_neg h1, decide_eq_false h1]; rfl
theorem may_ok {x : S34} (h : mayW x = true) : okW x := by
 unfold mayW at h
 simp only [Bool.and_eq_true, decide_eq_true_eq] at h
 unfold okW
 omega
def fitsW (all q : Rat) (x i : S34) : Bool := mayW x && fitsQ all q (wt x) (if mayW i = true then wt i else 0)
theorem box_put {X w : World} {g7 g b k0 : Nat} {all q : Rat} {l : List (Int × Hd)} {p p' : Value} {r1 r2 : List Int} {cs : Array Value} {o1 o2 : Option Addr} {n1 n2 m1 m2 : Nat} (hG : MBlk X g7 28 #[.slice o1 n1 m1, .slice o2 n2 m2]) (hV : RV X p p' r1 r2) (hB : Below w.heap.size w X) (hg : w.heap.size ≤ g7) (hL : Led X g b all q l) (hM : MBlk X k0 34 cs) :
  MBlk ((X.setCell ⟨g7, 0, none⟩ p).setCell ⟨g7, 1, none⟩ p') g7 28 #[p, p'] ∧ RV ((X.setCell ⟨g7, 0, none⟩ p).setCell ⟨g7, 1, none⟩ p') p p' r1 r2 ∧ Below w.heap.size w ((X.setCell ⟨g7, 0, none⟩ p).setCell ⟨g7, 1, none⟩ p') ∧ MBlk ((X.setCell ⟨g7, 0, none⟩ p).setCell ⟨g7, 1, none⟩ p') k0 34 cs ∧ Led ((X.setCell ⟨g7, 0, none⟩ p).setCell ⟨g7, 1, none⟩ p') g b all q l := by
 have hn : NoLimb X g7 := by
  intro p hp n hc
  unfold World.cell? at hc
  rw [hp, show X.heap[g7]? = _ from hG] at hc
  simp only at hc
  split at hc
  ·cases hc
  ·match ho : p.off, hc with
   | 0, hc => simp at hc
   | 1, hc => simp at hc
   | k + 2, hc => simp at hc
 have hs : ∀ k, k ≠ g7 → ((X.setCell ⟨g7, 0, none⟩ p).setCell ⟨g7, 1, none⟩ p').heap[k]? = X.heap[k]? := fun k hk => (Below.heap_setCell _ ⟨g7, 1, none⟩ _ k hk).trans (Below.heap_setCell _ ⟨g7, 0, none⟩ _ k hk)
 have hk : ∀ k, k < X.heap.size → ¬ NoLimb X k → ((X.setCell ⟨g7, 0, none⟩ p).setCell ⟨g7, 1, none⟩ p').heap[k]? = X.heap[k]? := fun k _ h => hs k (fun e => h (by rw [e]; exact hn))
 obtain ⟨_, _, _, _, h1, _⟩ := hL.cells
 obtain ⟨es, c, h4⟩ := hL.map.obj
 exact ⟨mblk_set (mblk_set hG 0 _) 1 _, hV.near hk, (hB.setCell (p := ⟨g7, 0, none⟩) hg _).setCell (p := ⟨g7, 1, none⟩) hg _, (hs k0 (mblk_ne hM hG (by decide))).trans hM, hL.near (hs g (mblk_ne h1 hG (by decide))) (hs b (fun e => by rw [e, show X.heap[g7]? = _ from hG] at h4; cases h4)) hk⟩
set_option maxRecDepth 100000 in
set_option maxHeartbeats 4000000 in

theorem fitsW_calls (g b : Nat) (all q : Rat) (l : List (Int × Hd)) (x y u v : Value) (m1 m2 s1 s2 : Nat) (w : World) (hL : Led w g b all q l) (ha : Sz 3000 all) (hq : Sz 2999 q) (h1 : F 1 m1) (h2 : F 1 m2) (h20 : 0 < m2) (h3 : F 1 s1) (h4 : F 1 s2) (h40 : 0 < s2)
  (hx : RV w x y (limbs m1) (limbs m2)) (hu : RV w u v (limbs s1) (limbs s2)) :
  Calls Try.prog 72 #[.pointer (some ⟨g, 0, none⟩), .agg #[x, y], .agg #[u, v]] w fun e w' => e = .returned (.bool (fitsQ all q (mkRat (m1 : Int) m2) (mkRat (s1 : Int) s2))) ∧ Below w.heap.size w w' := by
 have a1 := radd_t 2999 1 q.num.natAbs q.den m1 m2 hq.2.1 hq.2.2 h1 h2 (by omega) (Rat.den_pos q) h20
 rw [self_mk q hq.1] at a1
 have z1 := sz_add 2999 1 q.num.natAbs q.den m1 m2 hq.2.1 hq.2.2 h1 h2 (Rat.den_pos q) h20
 rw [self_mk q hq.1] at z1
 have a2 := rsub_t 3001 1 (q + mkRat (m1 : Int) m2).num.natAbs (q + mkRat (m1 : Int) m2).den s1 s2 z1.2.1 z1.2.2 h3 h4 (by omega) (Rat.den_pos _) h40
 rw [self_mk _ z1.1] at a2
 obtain ⟨f1, hf1⟩ := a1.get
 obtain ⟨f2, hf2⟩ := a2.get
 exact fits_calls g b all q (mkRat (m1 : Int) m2) (mkRat (s1 : Int) s2) l x y u v (limbs m1, limbs m2) (limbs s1, limbs s2) f1 f2 w hL ha (sz_mono z1 (by omega)) (sz_mono (mk_sz 1 _ _ h3 h4 h40) (by omega)) hx hu hf1 hf2
set_option maxRecDepth 100000 in
set_option maxHeartbeats 4000000 in
theorem Fits_calls (g b : Nat) (all q : Rat) (l : List (Int × Hd)) (x i : S34) (w : World) (hL : Led w g b all q l) (ha : Sz 3000 all) (hq : Sz 2999 q) :
    Calls Try.prog 22 #[.pointer (some ⟨g, 0, none⟩), .agg #[.int .i64 x.f0, .int .i64 x.f1], .agg #[.int .i64 i.f0, .int .i64 i.f1]] w fun e w' => e = .returned (.bool (fitsW all q x i)) ∧ Below w.heap.size w w' := by
  have mixed : Try.prog.follows Departure.mixedOrders = true := by kernel_rfl
  obtain ⟨W0, hW0⟩ : ∃ W0, W0 = (w.alloc (.cells #[.int .i64 x.f0, .int .i64 x.f1] 34)).alloc (.cells #[.int .i64 i.f0, .int .i64 i.f1] 34) := ⟨_, rfl⟩
  have hz : (w.alloc (.cells #[.int .i64 x.f0, .int .i64 x.f1] 34)).heap.size = w.heap.size + 1 := by simp
  have hb0 : Below w.heap.size w W0 := by rw [hW0]; exact below_alloc (below_alloc (Below.refl _ _) _) _
  have HX0 := Aside0.mk (show MBlk W0 w.heap.size 34 #[.int .i64 x.f0, .int .i64 x.f1] by rw [hW0]; exact mblk_alloc (mblk_new _ _ _) _)
  have HI0 := Aside0.mk (show MBlk W0 (w.heap.size + 1) 34 #[.int .i64 i.f0, .int .i64 i.f1] by rw [hW0, ← hz]; exact mblk_new _ _ _)
  have HB0 := Aside0.mk hb0
  have HL := Aside0.mk (hL.below hb0)
  have HA := Aside0.mk (And.intro ha hq)
  have HC1 := Aside0.mk (wcheck_f x)
  have HC2 := Aside0.mk (wcheck_f i)
  clear hL hz hb0 ha hq
  go_enter Try.func22, Try.ntmps22
  go_upto_region 1 with fail
  rw [← hW0]
  clear hW0
  have x0 : W0.cell? ⟨w.heap.size, 0, none⟩ = some (.int .i64 x.f0) := (mblk_cell HX0.out 0).trans rfl
  have x1 : W0.cell? ⟨w.heap.size, 1, none⟩ = some (.int .i64 x.f1) := (mblk_cell HX0.out 1).trans rfl
  by_cases hmx : mayW x = true
  case neg =>
    have HX := Aside0.mk (show fitsW all q x i = false by unfold fitsW; rw [show mayW x = false by simpa using hmx]; rfl)
    have hmx' : mayW x = false := by simpa using hmx
    go_wp2_with (go_at_call 66; refine (window_Check.calls x.f0 x.f1 _ _ HC1.out).mono ?_; rw [hmx']; rintro e w1 ⟨rfl, hb⟩; have HB1 := Aside0.mk (below_step HB0.out hb); clear hb)
    exact bodyPost_ret (results_tmp rfl _ _ _) rfl ⟨by rw [HX.out]; rfl, HB1.out⟩
  have HMX := Aside0.mk hmx
  go_upto_region 3 with (go_at_call 66; refine (window_Check.calls x.f0 x.f1 _ _ HC1.out).mono ?_; rw [hmx]; rintro e w1 ⟨rfl, hb⟩; have HB1 := Aside0.mk (below_step HB0.out hb); have HX1 := Aside0.mk ((hb.block _ (mblk_lt HX0.out)).trans HX0.out); have HI1 := Aside0.mk ((hb.block _ (mblk_lt HI0.out)).trans HI0.out); have HL1 := Aside0.mk (HL.out.below hb); clear hb)
  clear x0 x1 HX0 HI0 HL HB0 HC1 hmx
  have HW := Aside0.mk (show ratio_Whole.f 0 = some (limbs 0, limbs 1) from whole_n 0 (by omega))
  have hlt1 : w.heap.size + 1 < w1.heap.size := mblk_lt HI1.out
  have i0 : w1.cell? ⟨w.heap.size + 1, 0, none⟩ = some (.int .i64 i.f0) := (mblk_cell HI1.out 0).trans rfl
  have i1 : w1.cell? ⟨w.heap.size + 1, 1, none⟩ = some (.int .i64 i.f1) := (mblk_cell HI1.out 1).trans rfl
  go_upto_region 4 with (go_at_call 64; refine (whole_rv HW.out).mono ?_; rintro e w2 ⟨r1, r2, rfl, hr, hb⟩; obtain ⟨R1, c1, R2, c2, rfl, rfl⟩ := hr.shape; have HR2 := Aside0.mk hr; have HB2 := Aside0.mk hb; clear hr hb)
  obtain ⟨g7, hg7⟩ : ∃ g7, g7 = w2.heap.size := ⟨_, rfl⟩
  obtain ⟨w3, hw3⟩ : ∃ w3, w3 = w2.alloc (.cells #[.slice R1 (limbs 0).length c1, .slice R2 (limbs 1).length c2] 28) := ⟨_, rfl⟩
  have hb3 : Below w1.heap.size w1 w3 := by rw [hw3]; exact below_alloc HB2.out _
  have HG3 := Aside0.mk (show MBlk w3 g7 28 #[.slice R1 (limbs 0).length c1, .slice R2 (limbs 1).length c2] by rw [hw3, hg7]; exact mblk_new _ _ _)
  have HR3 := Aside0.mk (show RV w3 (.slice R1 (limbs 0).length c1) (.slice R2 (limbs 1).length c2) (limbs 0) (limbs 1) by rw [hw3]; exact HR2.out.below (below_alloc (Below.refl _ _) _))
  have HB3 := Aside0.mk (below_step HB1.out hb3)
  have HX3 := Aside0.mk ((hb3.block _ (mblk_lt HX1.out)).trans HX1.out)
  have HI3 := Aside0.mk ((hb3.block _ (mblk_lt HI1.out)).trans HI1.out)
  have HL3 := Aside0.mk (HL1.out.below hb3)
  have HGE := Aside0.mk (show w.heap.size ≤ g7 by rw [hg7]; exact Nat.le_trans HB1.out.size HB2.out.size)
  rw [← hw3, ← hg7]
  clear hw3 hg7 HR2 HB2 HB1 HX1 HI1 HL1 i0 i1 hlt1 hb3 HW
  have i0 : w3.cell? ⟨w.heap.size + 1, 0, none⟩ = some (.int .i64 i.f0) := (mblk_cell HI3.out 0).trans rfl
  have i1 : w3.cell? ⟨w.heap.size + 1, 1, none⟩ = some (.int .i64 i.f1) := (mblk_cell HI3.out 1).trans rfl
  obtain ⟨l0, hl0⟩ : ∃ l0, l0 = limbs 0 := ⟨_, rfl⟩
  obtain ⟨l1, hl1⟩ : ∃ l1, l1 = limbs 1 := ⟨_, rfl⟩
  rw [← hl0, ← hl1] at HG3 HR3 ⊢
  have HLL := Aside0.mk (And.intro hl0 hl1)
  clear hl0 hl1
  go_upto_if 17 with (go_at_call 66; refine (window_Check.calls i.f0 i.f1 _ _ HC2.out).mono ?_; rintro e w4 ⟨rfl, hb⟩; have HB4 := Aside0.mk (below_step HB3.out hb); have HX4 := Aside0.mk ((hb.block _ (mblk_lt HX3.out)).trans HX3.out); have HI4 := Aside0.mk ((hb.block _ (mblk_lt HI3.out)).trans HI3.out); have HL4 := Aside0.mk (HL3.out.below hb); have HG4 := Aside0.mk ((hb.block _ (mblk_lt HG3.out)).trans HG3.out); have HR4 := Aside0.mk (HR3.out.below hb); clear hb)
  have HOX := Aside0.mk (of_w x (may_ok HMX.out))
  go_cut [7] (fun v7 wc => ∃ (u v : Value) (s1 s2 : Nat), v7 = .pointer (some ⟨g7, 0, none⟩) ∧ Aside0 (MBlk wc g7 28 #[u, v]) ∧ Aside0 (RV wc u v (limbs s1) (limbs s2)) ∧ Aside0 (F 1 s1 ∧ F 1 s2 ∧ 0 < s2 ∧ mkRat (s1 : Int) s2 = if mayW i = true then wt i else 0) ∧ Aside0 (Below w.heap.size w wc) ∧ Aside0 (MBlk wc w.heap.size 34 #[.int .i64 x.f0, .int .i64 x.f1]) ∧ Aside0 (Led wc g b all q l))
  case first =>
    by_cases hmi : mayW i = true
    · have hoi := may_ok hmi
      have HOI := Aside0.mk (of_w i hoi)
      have HFI := Aside0.mk (show F 1 i.f0.toNat ∧ F 1 i.f1.toNat ∧ 0 < i.f1.toNat ∧ mkRat (i.f0.toNat : Int) i.f1.toNat = if mayW i = true then wt i else 0 from ⟨(okW_F hoi).1, (okW_F hoi).2, okW_pos hoi, by rw [if_pos hmi]; rfl⟩)
      have j0 : w4.cell? ⟨w.heap.size + 1, 0, none⟩ = some (.int .i64 i.f0) := (mblk_cell HI4.out 0).trans rfl
      have j1 : w4.cell? ⟨w.heap.size + 1, 1, none⟩ = some (.int .i64 i.f1) := (mblk_cell HI4.out 1).trans rfl
      clear hoi i0 i1
      rw [hmi]
      go_wp2_with fail
      refine (of_rv HOI.out).mono ?_
      rintro e w5 ⟨p, p', rfl, hp, hb⟩
      obtain ⟨S1, e1, S2, e2, rfl, rfl⟩ := hp.shape
      have HG5 := Aside0.mk ((hb.block _ (mblk_lt HG4.out)).trans HG4.out)
      have HP5 := Aside0.mk hp
      have HB5 := Aside0.mk (below_step HB4.out hb)
      have HX5 := Aside0.mk ((hb.block _ (mblk_lt HX4.out)).trans HX4.out)
      have HL5 := Aside0.mk (HL4.out.below hb)
      have g0 : w5.cell? ⟨g7, 0, none⟩ = some (.slice R1 l0.length c1) := (mblk_cell HG5.out 0).trans rfl
      have g1 : w5.cell? ⟨g7, 1, none⟩ = some (.slice R2 l1.length c2) := (mblk_cell HG5.out 1).trans rfl
      have h0 : w5.frozen? ⟨g7, 0, none⟩ = false := mblk_frozen HG5.out 0
      have h1 : w5.frozen? ⟨g7, 1, none⟩ = false := mblk_frozen HG5.out 1
      clear hp hb j0 j1
      generalize hl2 : limbs i.f0.toNat = l2 at *
      generalize hl3 : limbs i.f1.toNat = l3 at *
      have HL2 := Aside0.mk hl2
      have HL3' := Aside0.mk hl3
      clear hl2 hl3
      go_wp2_with fail
      go_meet
      case rel =>
        obtain ⟨q1, q2, q3, q4, q5⟩ := box_put HG5.out HP5.out HB5.out HGE.out HL5.out HX5.out
        exact ⟨_, _, i.f0.toNat, i.f1.toNat, rfl, ⟨q1⟩, ⟨by rw [HL2.out, HL3'.out]; exact q2⟩, HFI, ⟨q3⟩, ⟨q4⟩, ⟨q5⟩⟩
    · have hmi' : mayW i = false := by simpa using hmi
      clear i0 i1
      rw [hmi']
      go_wp2_with fail
      go_meet
      case rel => exact ⟨_, _, 0, 1, rfl, HG4, ⟨by rw [← HLL.out.1, ← HLL.out.2]; exact HR4.out⟩, ⟨⟨F.one (by omega), F.one (by omega), by omega, by rw [if_neg hmi]; rfl⟩⟩, HB4, HX4, HL4⟩
  case rest =>
    obtain ⟨u, v, s1, s2, rfl, HG7, HV7, HF7, HB7, HX7, HL7⟩ := hcut
    clear HB3 HX3 HI3 HL3 HG3 HR3 i0 i1 HC2
    obtain ⟨B, hBq⟩ : ∃ B, B = fitsQ all q (mkRat (x.f0.toNat : Int) x.f1.toNat) (mkRat (s1 : Int) s2) := ⟨_, rfl⟩
    have HBQ := Aside0.mk hBq
    clear hBq
    have HX := Aside0.mk (show fitsW all q x i = B by
      rw [HBQ.out]
      unfold fitsW
      rw [HMX.out, Bool.true_and, HF7.out.2.2.2]
      rfl)
    have HOK := Aside0.mk (may_ok HMX.out)
    obtain ⟨U1, d1, U2, d2, rfl, rfl⟩ := HV7.out.shape
    obtain ⟨ls1, h1⟩ : ∃ ls1, ls1 = limbs s1 := ⟨_, rfl⟩
    obtain ⟨ls2, h2⟩ : ∃ ls2, ls2 = limbs s2 := ⟨_, rfl⟩
    obtain ⟨lx1, h3⟩ : ∃ lx1, lx1 = limbs x.f0.toNat := ⟨_, rfl⟩
    obtain ⟨lx2, h4⟩ : ∃ lx2, lx2 = limbs x.f1.toNat := ⟨_, rfl⟩
    rw [← h1, ← h2] at HG7 HV7
    rw [← h3, ← h4] at HOX
    have HEQ := Aside0.mk (And.intro h1 (And.intro h2 (And.intro h3 h4)))
    clear h1 h2 h3 h4
    have x0 : wc.cell? ⟨w.heap.size, 0, none⟩ = some (.int .i64 x.f0) := (mblk_cell HX7.out 0).trans rfl
    have x1 : wc.cell? ⟨w.heap.size, 1, none⟩ = some (.int .i64 x.f1) := (mblk_cell HX7.out 1).trans rfl
    have g0 : wc.cell? ⟨g7, 0, none⟩ = some (.slice U1 ls1.length d1) := (mblk_cell HG7.out 0).trans rfl
    have g1 : wc.cell? ⟨g7, 1, none⟩ = some (.slice U2 ls2.length d2) := (mblk_cell HG7.out 1).trans rfl
    go_wp2_with fail
    go_region_law
      (first
        | (go_simp; go_at_call 71
           refine (of_rv HOX.out).mono ?_
           rintro e w5 ⟨p, p', rfl, hp, hb⟩
           obtain ⟨S1, e1, S2, e2, rfl, rfl⟩ := hp.shape
           have hb5 : Below wc.heap.size wc w5 := below_step (below_drew (Below.refl _ _)) hb
           have HP5 := Aside0.mk hp
           have HB5 := Aside0.mk hb5
           have g0 : w5.cell? ⟨g7, 0, none⟩ = some (.slice U1 ls1.length d1) := (mblk_cell ((hb5.block _ (mblk_lt HG7.out)).trans HG7.out) 0).trans rfl
           have g1 : w5.cell? ⟨g7, 1, none⟩ = some (.slice U2 ls2.length d2) := (mblk_cell ((hb5.block _ (mblk_lt HG7.out)).trans HG7.out) 1).trans rfl
           clear hp hb hb5)
        | (go_simp; go_at_call 72
           refine (fitsW_calls g b all q l (.slice S1 lx1.length e1) (.slice S2 lx2.length e2) (.slice U1 ls1.length d1) (.slice U2 ls2.length d2) x.f0.toNat x.f1.toNat s1 s2 w5 (HL7.out.below HB5.out) HA.out.1 HA.out.2 (okW_F HOK.out).1 (okW_F HOK.out).2 (okW_pos HOK.out) HF7.out.1 HF7.out.2.1 HF7.out.2.2.1 (by rw [← HEQ.out.2.2.1, ← HEQ.out.2.2.2]; exact HP5.out) (by rw [← HEQ.out.1, ← HEQ.out.2.1]; exact HV7.out.below HB5.out)).mono ?_
           rintro e w6 ⟨he, hb⟩
           rw [← HBQ.out] at he
           subst he
           have HB6 := Aside0.mk (below_step (below_step HB7.out HB5.out) hb)
           clear hb))
    all_goals
      go_wp2_with fail
      exact bodyPost_ret (results_tmp rfl _ _ _) rfl ⟨by rw [HX.out]; rfl, HB6.out⟩
end Go.Proofs.Ytfldklimlcnnnaa.XJoin
end

section
namespace Go.Proofs.Ytfldklimlcnnnaa.XMeth
open Go.RowKit Go.Shelf Go.Proofs.Ytfldklimlcnnnaa.PHq Go.Proofs.YtfldklimlcnnnaaW.PrintWords Go.Proofs.YtfldklimlcnnnaaW.PrintLast Go.Proofs.YtfldklimlcnnnaaW.PrintMore Go.Proofs.Ytfldklimlcnnnaa.MWords
open Go.Proofs.Ytfldklimlcnnnaa.MNat Go.Proofs.Ytfldklimlcnnnaa.QNat Go.Proofs.Ytfldklimlcnnnaa.QText Go.Proofs.Ytfldklimlcnnnaa.QEv Go.Proofs.Ytfldklimlcnnnaa.QRatio Go.Proofs.Ytfldklimlcnnnaa.XRV Go.Proofs.Ytfldklimlcnnnaa.XHold Go.Proofs.Ytfldklimlcnnnaa.XWts Go.Proofs.Ytfldklimlcnnnaa.XLed Go.Proofs.Ytfldklimlcnnnaa.XPuts Go.Proofs.Ytfldklimlcnnnaa.XFits Go.Proofs.Ytfldklimlcnnnaa.XJoin
def joinE (all q : Rat) (l : List (Int × Hd)) (z : Int) (x : S34) : Int :=
 if mayW x = false then 1 else if hasL l z = true then 14 else if fitsW all q x ⟨0, 0⟩ = false then 18 else 0
def joinL (all q : Rat) (l : List (Int × Hd)) (z : Int) (x : S34) : List (Int × Hd) := if joinE all q l z x = 0 then setL l z ⟨x.f0, x.f1, 0, 0, false⟩ else l
theorem set_good {l : List (Int × Hd)} {z : Int} {h : Hd} (hG : GoodL l) (hl : l.length < 500) (hh : okH h) : GoodL (setL l z h) := by
 refine ⟨?_, fun y hy => ?_⟩
 ·rw [set_len]
  split <;> omega
 ·rcases set_mem hy with rfl | ⟨hm, _⟩
  ·exact hh
  ·exact hG.ok y hm
theorem held_sz {l : List (Int × Hd)} (hG : GoodL l) : Sz 1001 (heldL l) := by
 have h := (sum_t (l.map fun z => hv z.2) (by rw [List.length_map]; have := hG.len; omega) (fun z hz => by
  obtain ⟨y, hy, rfl⟩ := List.mem_map.1 hz
  exact hv_ok (hG.ok y hy))).2
 exact sz_mono h (by rw [List.length_map]; have := hG.len; omega)
set_option maxRecDepth 100000 in
set_option maxHeartbeats 4000000 in
theorem join_calls (g b : Nat) (all : Rat) (l : List (Int × Hd)) (z : Int) (x : S34) (w : World) (hL : Led w g b all (heldL l) l) (ha : Sz 3000 all) (hG : GoodL l) (hl : l.length < 500) (hz : wfI z) :
  Calls Try.prog 18 #[.pointer (some ⟨g, 0, none⟩), .int .i64 z, .agg #[.int .i64 x.f0, .int .i64 x.f1]] w fun e w' => e = .returned (.int .i64 (joinE all (heldL l) l z x)) ∧ Led w' g b all (heldL (joinL all (heldL l) l z x)) (joinL all (heldL l) l z x) ∧ Kp g b w w' := by
 obtain ⟨W0, hW0⟩ : ∃ W0, W0 = w.alloc (.cells #[.int .i64 x.f0, .int .i64 x.f1] 34) := ⟨_, rfl⟩
 have hb0 : Below w.heap.size w W0 := by rw [hW0]; exact below_alloc (Below.refl _ _) _
 have HX0 := Aside0.mk (show MBlk W0 w.heap.size 34 #[.int .i64 x.f0, .int .i64 x.f1] by rw [hW0]; exact mblk_new _ _ _)
 have HB0 := Aside0.mk hb0
 have HL0 := Aside0.mk (hL.below hb0)
 have HA := Aside0.mk (And.intro ha (And.intro hG (And.intro hl hz)))
 have HC := Aside0.mk (wcheck_f x)
 obtain ⟨h, hh⟩ : ∃ h, h = (getL l z).getD zeroH := ⟨_, rfl⟩
 have HH := Aside0.mk hh
 clear hL hb0 ha hG hl hz hh
 go_enter Try.func18, Try.ntmps18
 go_upto_region 1 with fail
 rw [← hW0]
 clear hW0
 go_upto_region 2 with (go_at_call 27; refine (of_calls g b all (heldL l) l z h _ HL0.out HA.out.2.2.2 HH.out).mono ?_; rintro e w1 ⟨rfl, hb⟩; have HB1 := Aside0.mk hb; clear hb)
 obtain ⟨w2, hw2⟩ : ∃ w2, w2 = (w1.alloc (.cells #[.int .i64 h.e, .int .i64 h.p] 34)).alloc (.cells #[.int .i64 h.e2, .int .i64 h.p2] 34) := ⟨_, rfl⟩
 have hb2 : Below W0.heap.size W0 w2 := by rw [hw2]; exact below_alloc (below_alloc HB1.out _) _
 have HX2 := Aside0.mk ((hb2.block _ (mblk_lt HX0.out)).trans HX0.out)
 have HL2 := Aside0.mk (HL0.out.below hb2)
 have HB2 := Aside0.mk (below_step HB0.out hb2)
 rw [← hw2]
 clear hw2 hb2 HB1 HX0 HL0 HB0 HH
 have x0 : w2.cell? ⟨w.heap.size, 0, none⟩ = some (.int .i64 x.f0) := (mblk_cell HX2.out 0).trans rfl
 have x1 : w2.cell? ⟨w.heap.size, 1, none⟩ = some (.int .i64 x.f1) := (mblk_cell HX2.out 1).trans rfl
 by_cases hm : mayW x = true
 case neg =>
  have hm' : mayW x = false := by simpa using hm
  have HE := Aside0.mk (show joinE all (heldL l) l z x = 1 by unfold joinE; rw [if_pos hm'])
  clear hm
  go_wp2_with (go_at_call 66; refine (window_Check.calls x.f0 x.f1 _ _ HC.out).mono ?_; rw [hm']; rintro e w3 ⟨rfl, hb⟩; have HB3 := Aside0.mk hb; clear hb)
  refine bodyPost_ret (results_tmp rfl _ _ _) rfl ⟨by rw [HE.out]; rfl, ?_, (Kp.of HB2.out).trans (Kp.of HB3.out)⟩
  unfold joinL
  rw [HE.out, if_neg (by decide)]
  exact HL2.out.below HB3.out
 have HM := Aside0.mk hm
 by_cases hh : hasL l z = true
 ·have HE := Aside0.mk (show joinE all (heldL l) l z x = 14 by unfold joinE; rw [if_neg (by simp [HM.out]), if_pos hh])
  go_wp2_with (go_at_call 66; refine (window_Check.calls x.f0 x.f1 _ _ HC.out).mono ?_; rw [hm]; rintro e w3 ⟨rfl, hb⟩; have HB3 := Aside0.mk hb; clear hb)
  refine bodyPost_ret (results_tmp rfl _ _ _) rfl ⟨by rw [HE.out]; rfl, ?_, (Kp.of HB2.out).trans (Kp.of HB3.out)⟩
  unfold joinL
  rw [HE.out, if_neg (by decide)]
  exact HL2.out.below HB3.out
 have hh' : hasL l z = false := by simpa using hh
 have HH := Aside0.mk hh'
 clear hh
 go_upto_if 27 with (first
  | (go_at_call 66; refine (window_Check.calls x.f0 x.f1 _ _ HC.out).mono ?_; rw [hm]; rintro e w3 ⟨rfl, hb⟩; have HB3 := Aside0.mk (below_step HB2.out hb); have HX3 := Aside0.mk ((hb.block _ (mblk_lt HX2.out)).trans HX2.out); have HL3 := Aside0.mk (HL2.out.below hb); have x0 : w3.cell? ⟨w.heap.size, 0, none⟩ = some (.int .i64 x.f0) := (mblk_cell HX3.out 0).trans rfl; have x1 : w3.cell? ⟨w.heap.size, 1, none⟩ = some (.int .i64 x.f1) := (mblk_cell HX3.out 1).trans rfl; clear hb HC)
  | (go_at_call 22; refine (Fits_calls g b all (heldL l) l x ⟨0, 0⟩ _ HL3.out HA.out.1 (sz_mono (held_sz HA.out.2.1) (by omega))).mono ?_; rintro e w4 ⟨rfl, hb⟩; have HB4 := Aside0.mk (below_step HB3.out hb); have HX4 := Aside0.mk ((hb.block _ (mblk_lt HX3.out)).trans HX3.out); have HL4 := Aside0.mk (HL3.out.below hb); clear hb))
 clear HL2 HX2 HB2 HL3 HX3 HB3 x0 x1
 have x0 : w4.cell? ⟨w.heap.size, 0, none⟩ = some (.int .i64 x.f0) := (mblk_cell HX4.out 0).trans rfl
 have x1 : w4.cell? ⟨w.heap.size, 1, none⟩ = some (.int .i64 x.f1) := (mblk_cell HX4.out 1).trans rfl
 by_cases hf : fitsW all (heldL l) x ⟨0, 0⟩ = true
 case neg =>
  have hf' : fitsW all (heldL l) x ⟨0, 0⟩ = false := by simpa using hf
  have HE := Aside0.mk (show joinE all (heldL l) l z x = 18 by unfold joinE; rw [if_neg (by simp [HM.out]), if_neg (by simp [HH.out]), if_pos hf'])
  rw [hf']
  clear hf hf' hm hh'
  go_wp2_with fail
  refine bodyPost_ret (results_tmp rfl _ _ _) rfl ⟨by rw [HE.out]; rfl, ?_, Kp.of HB4.out⟩
  unfold joinL
  rw [HE.out, if_neg (by decide)]
  exact HL4.out
 have HE := Aside0.mk (show joinE all (heldL l) l z x = 0 by unfold joinE; rw [if_neg (by simp [HM.out]), if_neg (by simp [HH.out]), if_neg (by simp [hf])])
 have HGS := Aside0.mk (set_good (z := z) (h := ⟨x.f0, x.f1, 0, 0, false⟩) HA.out.2.1 HA.out.2.2.1 ⟨may_ok HM.out, fun h => by cases h⟩)
 rw [hf]
 clear hf hm hh'
 go_wp2_with (go_at_call 67; refine (puts_calls g b all (heldL l) l z ⟨x.f0, x.f1, 0, 0, false⟩ _ HL4.out HA.out.2.2.2 (by have := HA.out.2.2.1; omega) HGS.out).mono ?_; rintro e w5 ⟨⟨v5, rfl⟩, hl5, hk5⟩; have HL5 := Aside0.mk hl5; have HK5 := Aside0.mk ((Kp.of HB4.out).trans hk5); clear hl5 hk5)
 refine bodyPost_ret (results_tmp rfl _ _ _) rfl ⟨by rw [HE.out]; rfl, ?_, HK5.out⟩
 unfold joinL
 rw [HE.out, if_pos rfl]
 exact HL5.out
end Go.Proofs.Ytfldklimlcnnnaa.XMeth
end

section
namespace Go.Proofs.Ytfldklimlcnnnaa.XAsk
open Go.RowKit Go.Shelf Go.Proofs.Ytfldklimlcnnnaa.PHq Go.Proofs.YtfldklimlcnnnaaW.PrintWords Go.Proofs.YtfldklimlcnnnaaW.PrintLast Go.Proofs.YtfldklimlcnnnaaW.PrintMore Go.Proofs.Ytfldklimlcnnnaa.MWords
open Go.Proofs.Ytfldklimlcnnnaa.MNat Go.Proofs.Ytfldklimlcnnnaa.QNat Go.Proofs.Ytfldklimlcnnnaa.QText Go.Proofs.Ytfldklimlcnnnaa.QEv Go.Proofs.Ytfldklimlcnnnaa.QRatio Go.Proofs.Ytfldklimlcnnnaa.XRV Go.Proofs.Ytfldklimlcnnnaa.XHold Go.Proofs.Ytfldklimlcnnnaa.XWts Go.Proofs.Ytfldklimlcnnnaa.XLed Go.Proofs.Ytfldklimlcnnnaa.XPuts Go.Proofs.Ytfldklimlcnnnaa.XFits Go.Proofs.Ytfldklimlcnnnaa.XJoin Go.Proofs.Ytfldklimlcnnnaa.XMeth
def asks (h : Hd) (x : S34) : Hd := ⟨h.e, h.p, x.f0, x.f1, true⟩
def askE (all q : Rat) (l : List (Int × Hd)) (z : Int) (x : S34) : Int :=
 if mayW x = false then 1 else match getL l z with
  | none => 12
  | some h => if h.a = true then 13 else if fitsQ all q (wt (hv (asks h x))) (wt (wN h)) = false then 18 else 0
def askL (all q : Rat) (l : List (Int × Hd)) (z : Int) (x : S34) : List (Int × Hd) := if askE all q l z x = 0 then setL l z (asks ((getL l z).getD zeroH) x) else l
set_option maxRecDepth 100000 in
set_option maxHeartbeats 4000000 in
theorem ask_calls (g b : Nat) (all : Rat) (l : List (Int × Hd)) (z : Int) (x : S34) (w : World) (hL : Led w g b all (heldL l) l) (ha : Sz 3000 all) (hG : GoodL l) (hl : l.length < 500) (hz : wfI z) :
    Calls Try.prog 28 #[.pointer (some ⟨g, 0, none⟩), .int .i64 z, .agg #[.int .i64 x.f0, .int .i64 x.f1]] w fun e w' => e = .returned (.int .i64 (askE all (heldL l) l z x)) ∧ Led w' g b all (heldL (askL all (heldL l) l z x)) (askL all (heldL l) l z x) ∧ Kp g b w w' := by
  have mixed : Try.prog.follows Departure.mixedOrders = true := by kernel_rfl
  obtain ⟨W0, hW0⟩ : ∃ W0, W0 = w.alloc (.cells #[.int .i64 x.f0, .int .i64 x.f1] 34) := ⟨_, rfl⟩
  have hb0 : Below w.heap.size w W0 := by rw [hW0]; exact below_alloc (Below.refl _ _) _
  have HX0 := Aside0.mk (show MBlk W0 w.heap.size 34 #[.int .i64 x.f0, .int .i64 x.f1] by rw [hW0]; exact mblk_new _ _ _)
  have HB0 := Aside0.mk hb0
  have HL0 := Aside0.mk (hL.below hb0)
  have HA := Aside0.mk (And.intro ha (And.intro hG (And.intro hl hz)))
  have HC := Aside0.mk (wcheck_f x)
  clear hL hb0 ha hG hl hz
  go_enter Try.func28, Try.ntmps28
  go_upto_region 1 with fail
  rw [← hW0]
  clear hW0
  have x0 : W0.cell? ⟨w.heap.size, 0, none⟩ = some (.int .i64 x.f0) := (mblk_cell HX0.out 0).trans rfl
  have x1 : W0.cell? ⟨w.heap.size, 1, none⟩ = some (.int .i64 x.f1) := (mblk_cell HX0.out 1).trans rfl
  by_cases hm : mayW x = true
  case neg =>
    have hm' : mayW x = false := by simpa using hm
    have HE := Aside0.mk (show askE all (heldL l) l z x = 1 by unfold askE; rw [if_pos hm'])
    clear hm
    go_wp2_with (go_at_call 66; refine (window_Check.calls x.f0 x.f1 _ _ HC.out).mono ?_; rw [hm']; rintro e w3 ⟨rfl, hb⟩; have HB3 := Aside0.mk hb; clear hb)
    refine bodyPost_ret (results_tmp rfl _ _ _) rfl ⟨by rw [HE.out]; rfl, ?_, (Kp.of HB0.out).trans (Kp.of HB3.out)⟩
    unfold askL
    rw [HE.out, if_neg (by decide)]
    exact HL0.out.below HB3.out
  have HM := Aside0.mk hm
  go_upto_region 3 with (go_at_call 66; refine (window_Check.calls x.f0 x.f1 _ _ HC.out).mono ?_; rw [hm]; rintro e w1 ⟨rfl, hb⟩; have HB1 := Aside0.mk (below_step HB0.out hb); have HX1 := Aside0.mk ((hb.block _ (mblk_lt HX0.out)).trans HX0.out); have HL1 := Aside0.mk (HL0.out.below hb); clear hb)
  clear x0 x1 HX0 HL0 HB0 hm
  obtain ⟨h, hh⟩ : ∃ h, h = (getL l z).getD zeroH := ⟨_, rfl⟩
  have hrun := map_get HL1.out.map HA.out.2.2.2
  rw [← hh] at hrun
  simp only [hdV] at hrun
  have HH := Aside0.mk hh
  obtain ⟨_, _, _, _, hM, _⟩ := HL1.out.cells
  have k1 : w1.cell? ⟨g, 2, none⟩ = some (.map (some b)) := (mblk_cell hM 2).trans rfl
  clear hM hh
  obtain ⟨w2, hw2⟩ : ∃ w2, w2 = w1.alloc (.cells #[.int .i64 h.e, .int .i64 h.p, .int .i64 h.e2, .int .i64 h.p2, .bool h.a] 102) := ⟨_, rfl⟩
  have hb2 : Below w1.heap.size w1 w2 := by rw [hw2]; exact below_alloc (Below.refl _ _) _
  have HX2 := Aside0.mk ((hb2.block _ (mblk_lt HX1.out)).trans HX1.out)
  have HL2 := Aside0.mk (HL1.out.below hb2)
  have HB2 := Aside0.mk (below_step HB1.out hb2)
  have HH2 := Aside0.mk (show MBlk w2 w1.heap.size 102 #[.int .i64 h.e, .int .i64 h.p, .int .i64 h.e2, .int .i64 h.p2, .bool h.a] by rw [hw2]; exact mblk_new _ _ _)
  have HW2 := Aside0.mk hw2
  clear hw2 hb2
  go_upto_region 4 with fail
  rw [← HW2.out]
  clear HW2 hrun k1 HX1 HL1 HB1
  have hLE : ∀ v, askE all (heldL l) l z x = v → v ≠ 0 → askL all (heldL l) l z x = l := fun v e hne => by unfold askL; rw [e, if_neg hne]
  have HLE := Aside0.mk hLE
  clear hLE
  cases hgt : getL l z with
  | none =>
    have hno := getL_none hgt
    have HE := Aside0.mk (show askE all (heldL l) l z x = 12 by unfold askE; rw [if_neg (by simp [HM.out]), hgt])
    rw [hno]
    clear hno hgt
    go_wp2_with fail
    refine bodyPost_ret (results_tmp rfl _ _ _) rfl ⟨by rw [HE.out]; rfl, ?_, Kp.of HB2.out⟩
    rw [HLE.out 12 HE.out (by decide)]
    exact HL2.out
  | some h' =>
    obtain rfl : h = h' := by have := HH.out; rw [hgt] at this; exact this
    have hyes : hasL l z = true := by rw [getL_has, hgt]; rfl
    rw [hyes]
    have HGT := Aside0.mk hgt
    have HOK := Aside0.mk (HA.out.2.1.ok _ (getL_mem hgt))
    clear hyes hgt
    have y0 : w2.cell? ⟨w1.heap.size, 0, none⟩ = some (.int .i64 h.e) := (mblk_cell HH2.out 0).trans rfl
    have y1 : w2.cell? ⟨w1.heap.size, 1, none⟩ = some (.int .i64 h.p) := (mblk_cell HH2.out 1).trans rfl
    have y4 : w2.cell? ⟨w1.heap.size, 4, none⟩ = some (.bool h.a) := (mblk_cell HH2.out 4).trans rfl
    have x0 : w2.cell? ⟨w.heap.size, 0, none⟩ = some (.int .i64 x.f0) := (mblk_cell HX2.out 0).trans rfl
    have x1 : w2.cell? ⟨w.heap.size, 1, none⟩ = some (.int .i64 x.f1) := (mblk_cell HX2.out 1).trans rfl
    by_cases ha : h.a = true
    · have HE := Aside0.mk (show askE all (heldL l) l z x = 13 by unfold askE; rw [if_neg (by simp [HM.out]), HGT.out]; exact if_pos ha)
      rw [ha] at y4
      go_wp2_with fail
      refine bodyPost_ret (results_tmp rfl _ _ _) rfl ⟨by rw [HE.out]; rfl, ?_, Kp.of HB2.out⟩
      rw [HLE.out 13 HE.out (by decide)]
      exact HL2.out
    have ha' : h.a = false := by simpa using ha
    have HNA := Aside0.mk ha'
    rw [ha'] at y4
    clear ha ha'
    obtain ⟨w3, hw3⟩ : ∃ w3, w3 = w2.alloc (.cells #[.int .i64 h.e, .int .i64 h.p, .int .i64 x.f0, .int .i64 x.f1, .bool true] 102) := ⟨_, rfl⟩
    have hb3 : Below w2.heap.size w2 w3 := by rw [hw3]; exact below_alloc (Below.refl _ _) _
    have HL3 := Aside0.mk (HL2.out.below hb3)
    have HB3 := Aside0.mk (below_step HB2.out hb3)
    have HH3 := Aside0.mk ((hb3.block _ (mblk_lt HH2.out)).trans HH2.out)
    have HA3 := Aside0.mk (show MBlk w3 w2.heap.size 102 #[.int .i64 h.e, .int .i64 h.p, .int .i64 x.f0, .int .i64 x.f1, .bool true] by rw [hw3]; exact mblk_new _ _ _)
    have HW3 := Aside0.mk hw3
    clear hw3 hb3
    go_upto_region 9 with fail
    rw [← HW3.out]
    clear HW3 x0 x1 y0 y1 y4 HX2 HL2 HB2 HH2
    have hoka : okH (asks h x) := ⟨HOK.out.1, fun _ => may_ok HM.out⟩
    obtain ⟨fv, hfv⟩ := (hv_t (asks h x) hoka).get
    obtain ⟨V, hV⟩ : ∃ V, V = hv (asks h x) := ⟨_, rfl⟩
    have hokV : okW V := by rw [hV]; exact hv_ok hoka
    rw [← hV] at hfv
    have HFV := Aside0.mk (show hold_holder_holds.f fv h.e h.p x.f0 x.f1 true = some (V.f0, V.f1) from hfv)
    have HVV := Aside0.mk (And.intro hV hokV)
    obtain ⟨B, hB⟩ : ∃ B, B = fitsQ all (heldL l) (mkRat (V.f0.toNat : Int) V.f1.toNat) (mkRat ((wN h).f0.toNat : Int) (wN h).f1.toNat) := ⟨_, rfl⟩
    have HBQ := Aside0.mk hB
    have HOV := Aside0.mk (of_w V hokV)
    have HON := Aside0.mk (show ratio_Of.f h.e h.p = some (limbs (wN h).f0.toNat, limbs (wN h).f1.toNat) from of_w (wN h) HOK.out.1)
    obtain ⟨a1, e1⟩ : ∃ a1, a1 = limbs V.f0.toNat := ⟨_, rfl⟩
    obtain ⟨a2, e2⟩ : ∃ a2, a2 = limbs V.f1.toNat := ⟨_, rfl⟩
    obtain ⟨a3, e3⟩ : ∃ a3, a3 = limbs (wN h).f0.toNat := ⟨_, rfl⟩
    obtain ⟨a4, e4⟩ : ∃ a4, a4 = limbs (wN h).f1.toNat := ⟨_, rfl⟩
    rw [← e1, ← e2] at HOV
    rw [← e3, ← e4] at HON
    have HEQ := Aside0.mk (And.intro e1 (And.intro e2 (And.intro e3 e4)))
    clear hoka hfv hV hokV hB e1 e2 e3 e4
    go_cut [44] from 36 to 44 (fun v44 wc => v44 = .bool (!B) ∧ Aside0 (Below w.heap.size w wc) ∧ Aside0 (Led wc g b all (heldL l) l) ∧ Aside0 (MBlk wc w2.heap.size 102 #[.int .i64 h.e, .int .i64 h.p, .int .i64 x.f0, .int .i64 x.f1, .bool true]))
    case first =>
      have z0 : w3.cell? ⟨w2.heap.size, 0, none⟩ = some (.int .i64 h.e) := (mblk_cell HA3.out 0).trans rfl
      have z1 : w3.cell? ⟨w2.heap.size, 1, none⟩ = some (.int .i64 h.p) := (mblk_cell HA3.out 1).trans rfl
      have z2 : w3.cell? ⟨w2.heap.size, 2, none⟩ = some (.int .i64 x.f0) := (mblk_cell HA3.out 2).trans rfl
      have z3 : w3.cell? ⟨w2.heap.size, 3, none⟩ = some (.int .i64 x.f1) := (mblk_cell HA3.out 3).trans rfl
      have z4 : w3.cell? ⟨w2.heap.size, 4, none⟩ = some (.bool true) := (mblk_cell HA3.out 4).trans rfl
      have y0 : w3.cell? ⟨w1.heap.size, 0, none⟩ = some (.int .i64 h.e) := (mblk_cell HH3.out 0).trans rfl
      have y1 : w3.cell? ⟨w1.heap.size, 1, none⟩ = some (.int .i64 h.p) := (mblk_cell HH3.out 1).trans rfl
      go_region_law
        (first
          | (go_simp; go_at_call 76
             refine (hold_holder_holds.calls fv h.e h.p x.f0 x.f1 true _ _ _ HFV.out).mono ?_
             rintro e w4 ⟨rfl, hb⟩
             have hb4 : Below w3.heap.size w3 w4 := below_step (below_drew (Below.refl _ _)) hb
             have HB4 := Aside0.mk hb4
             have y0 : w4.cell? ⟨w1.heap.size, 0, none⟩ = some (.int .i64 h.e) := (mblk_cell ((hb4.block _ (mblk_lt HH3.out)).trans HH3.out) 0).trans rfl
             have y1 : w4.cell? ⟨w1.heap.size, 1, none⟩ = some (.int .i64 h.p) := (mblk_cell ((hb4.block _ (mblk_lt HH3.out)).trans HH3.out) 1).trans rfl
             clear hb hb4)
          | (go_simp; go_at_call 71
             refine (of_rv HOV.out).mono ?_
             rintro e w5 ⟨p1, p2, rfl, hp, hb⟩
             obtain ⟨S1, c1, S2, c2, rfl, rfl⟩ := hp.shape
             have hb5 : Below w3.heap.size w3 w5 := below_step HB4.out hb
             have HB5 := Aside0.mk hb5
             have HP5 := Aside0.mk hp
             have y0 : w5.cell? ⟨w1.heap.size, 0, none⟩ = some (.int .i64 h.e) := (mblk_cell ((hb5.block _ (mblk_lt HH3.out)).trans HH3.out) 0).trans rfl
             have y1 : w5.cell? ⟨w1.heap.size, 1, none⟩ = some (.int .i64 h.p) := (mblk_cell ((hb5.block _ (mblk_lt HH3.out)).trans HH3.out) 1).trans rfl
             clear hp hb hb5 HOV)
          | (go_simp; go_at_call 71
             refine (of_rv HON.out).mono ?_
             rintro e w6 ⟨q1, q2, rfl, hq, hb⟩
             obtain ⟨T1, d1, T2, d2, rfl, rfl⟩ := hq.shape
             have HB6 := Aside0.mk (below_step HB5.out hb)
             have HP6 := Aside0.mk (HP5.out.below hb)
             have HQ6 := Aside0.mk hq
             clear hq hb HON)
          | (go_simp; go_at_call 72
             refine (fitsW_calls g b all (heldL l) l (.slice S1 a1.length c1) (.slice S2 a2.length c2) (.slice T1 a3.length d1) (.slice T2 a4.length d2) V.f0.toNat V.f1.toNat (wN h).f0.toNat (wN h).f1.toNat w6 (HL3.out.below HB6.out) HA.out.1 (sz_mono (held_sz HA.out.2.1) (by omega)) (okW_F HVV.out.2).1 (okW_F HVV.out.2).2 (okW_pos HVV.out.2) (okW_F HOK.out.1).1 (okW_F HOK.out.1).2 (okW_pos HOK.out.1) (by rw [← HEQ.out.1, ← HEQ.out.2.1]; exact HP6.out) (by rw [← HEQ.out.2.2.1, ← HEQ.out.2.2.2]; exact HQ6.out)).mono ?_
             rintro e w7 ⟨he, hb⟩
             rw [← HBQ.out] at he
             subst he
             have HB7 := Aside0.mk (below_step HB6.out hb)
             clear hb))
      all_goals
        go_wp2_with fail
        go_meet
        case rel => exact ⟨rfl, ⟨below_step HB3.out HB7.out⟩, ⟨HL3.out.below HB7.out⟩, ⟨(HB7.out.block _ (mblk_lt HA3.out)).trans HA3.out⟩⟩
    case rest =>
      obtain ⟨rfl, HB8, HL8, HA8⟩ := hcut
      have z0 : wc.cell? ⟨w2.heap.size, 0, none⟩ = some (.int .i64 h.e) := (mblk_cell HA8.out 0).trans rfl
      have z1 : wc.cell? ⟨w2.heap.size, 1, none⟩ = some (.int .i64 h.p) := (mblk_cell HA8.out 1).trans rfl
      have z2 : wc.cell? ⟨w2.heap.size, 2, none⟩ = some (.int .i64 x.f0) := (mblk_cell HA8.out 2).trans rfl
      have z3 : wc.cell? ⟨w2.heap.size, 3, none⟩ = some (.int .i64 x.f1) := (mblk_cell HA8.out 3).trans rfl
      have z4 : wc.cell? ⟨w2.heap.size, 4, none⟩ = some (.bool true) := (mblk_cell HA8.out 4).trans rfl
      have HEE := Aside0.mk (show askE all (heldL l) l z x = if B = false then 18 else 0 by
        unfold askE
        rw [if_neg (by simp [HM.out]), HGT.out, HBQ.out, HVV.out.1]
        exact if_neg (by simp [HNA.out]))
      cases hBB : B with
      | false =>
        have HE := Aside0.mk (show askE all (heldL l) l z x = 18 by rw [HEE.out, if_pos hBB])
        clear hBB
        go_wp2_with fail
        refine bodyPost_ret (results_tmp rfl _ _ _) rfl ⟨by rw [HE.out]; rfl, ?_, Kp.of HB8.out⟩
        rw [HLE.out 18 HE.out (by decide)]
        exact HL8.out
      | true =>
        have HE := Aside0.mk (show askE all (heldL l) l z x = 0 by rw [HEE.out, if_neg (by simp [hBB])])
        have HGS := Aside0.mk (set_good (z := z) (h := asks h x) HA.out.2.1 HA.out.2.2.1 ⟨HOK.out.1, fun _ => may_ok HM.out⟩)
        clear hBB
        go_wp2_with (go_at_call 67; refine (puts_calls g b all (heldL l) l z (asks h x) _ HL8.out HA.out.2.2.2 (by have := HA.out.2.2.1; omega) HGS.out).mono ?_; rintro e w9 ⟨⟨v9, rfl⟩, hl9, hk9⟩; have HL9 := Aside0.mk hl9; have HK9 := Aside0.mk ((Kp.of HB8.out).trans hk9); clear hl9 hk9)
        refine bodyPost_ret (results_tmp rfl _ _ _) rfl ⟨by rw [HE.out]; rfl, ?_, HK9.out⟩
        unfold askL
        rw [HE.out, if_pos rfl, HGT.out]
        exact HL9.out
end Go.Proofs.Ytfldklimlcnnnaa.XAsk
end

section
namespace Go.Proofs.Ytfldklimlcnnnaa.XEnd
open Go.RowKit Go.Shelf Go.Proofs.Ytfldklimlcnnnaa.PHq Go.Proofs.YtfldklimlcnnnaaW.PrintWords Go.Proofs.YtfldklimlcnnnaaW.PrintLast Go.Proofs.YtfldklimlcnnnaaW.PrintMore Go.Proofs.Ytfldklimlcnnnaa.MWords
open Go.Proofs.Ytfldklimlcnnnaa.MNat Go.Proofs.Ytfldklimlcnnnaa.QNat Go.Proofs.Ytfldklimlcnnnaa.QText Go.Proofs.Ytfldklimlcnnnaa.QEv Go.Proofs.Ytfldklimlcnnnaa.QRatio Go.Proofs.Ytfldklimlcnnnaa.XRV Go.Proofs.Ytfldklimlcnnnaa.XHold Go.Proofs.Ytfldklimlcnnnaa.XWts Go.Proofs.Ytfldklimlcnnnaa.XLed Go.Proofs.Ytfldklimlcnnnaa.XPuts Go.Proofs.Ytfldklimlcnnnaa.XFits Go.Proofs.Ytfldklimlcnnnaa.XJoin Go.Proofs.Ytfldklimlcnnnaa.XMeth Go.Proofs.Ytfldklimlcnnnaa.XAsk
def settled (h : Hd) : Hd := ⟨h.e2, h.p2, 0, 0, false⟩
def settleE (l : List (Int × Hd)) (z : Int) : Int :=
 match getL l z with
 | none => 12
 | some h => if h.a = true then 0 else 13
def settleL (l : List (Int × Hd)) (z : Int) : List (Int × Hd) := if settleE l z = 0 then setL l z (settled ((getL l z).getD zeroH)) else l
set_option maxRecDepth 100000 in
set_option maxHeartbeats 4000000 in
theorem settle_calls (g b : Nat) (all : Rat) (l : List (Int × Hd)) (z : Int) (w : World) (hL : Led w g b all (heldL l) l) (hG : GoodL l) (hl : l.length < 500) (hz : wfI z) :
  Calls Try.prog 30 #[.pointer (some ⟨g, 0, none⟩), .int .i64 z] w fun e w' => e = .returned (.int .i64 (settleE l z)) ∧ Led w' g b all (heldL (settleL l z)) (settleL l z) ∧ Kp g b w w' := by
 have HL1 := Aside0.mk hL
 have HA := Aside0.mk (And.intro hG (And.intro hl hz))
 obtain ⟨h, hh⟩ : ∃ h, h = (getL l z).getD zeroH := ⟨_, rfl⟩
 have hrun := map_get hL.map hz
 rw [← hh] at hrun
 simp only [hdV] at hrun
 have HH := Aside0.mk hh
 obtain ⟨_, _, _, _, hM, _⟩ := hL.cells
 have k1 : w.cell? ⟨g, 2, none⟩ = some (.map (some b)) := (mblk_cell hM 2).trans rfl
 clear hM hh
 obtain ⟨w2, hw2⟩ : ∃ w2, w2 = w.alloc (.cells #[.int .i64 h.e, .int .i64 h.p, .int .i64 h.e2, .int .i64 h.p2, .bool h.a] 102) := ⟨_, rfl⟩
 have hb2 : Below w.heap.size w w2 := by rw [hw2]; exact below_alloc (Below.refl _ _) _
 have HL2 := Aside0.mk (hL.below hb2)
 have HB2 := Aside0.mk hb2
 have HH2 := Aside0.mk (show MBlk w2 w.heap.size 102 #[.int .i64 h.e, .int .i64 h.p, .int .i64 h.e2, .int .i64 h.p2, .bool h.a] by rw [hw2]; exact mblk_new _ _ _)
 have HW2 := Aside0.mk hw2
 clear hL hG hl hz hw2 hb2
 go_enter Try.func30, Try.ntmps30
 go_upto_region 4 with fail
 rw [← HW2.out]
 clear HW2 hrun k1 HL1
 have HLE := Aside0.mk (show ∀ v, settleE l z = v → v ≠ 0 → settleL l z = l from fun v e hne => by unfold settleL; rw [e, if_neg hne])
 cases hgt : getL l z with
 | none =>
  have hno := getL_none hgt
  have HE := Aside0.mk (show settleE l z = 12 by unfold settleE; rw [hgt])
  rw [hno]
  clear hno hgt
  go_wp2_with fail
  refine bodyPost_ret (results_tmp rfl _ _ _) rfl ⟨by rw [HE.out]; rfl, ?_, Kp.of HB2.out⟩
  rw [HLE.out 12 HE.out (by decide)]
  exact HL2.out
 | some h' =>
  obtain rfl : h = h' := by have := HH.out; rw [hgt] at this; exact this
  have hyes : hasL l z = true := by rw [getL_has, hgt]; rfl
  rw [hyes]
  have HGT := Aside0.mk hgt
  have HOK := Aside0.mk (HA.out.1.ok _ (getL_mem hgt))
  clear hyes hgt
  have y2 : w2.cell? ⟨w.heap.size, 2, none⟩ = some (.int .i64 h.e2) := (mblk_cell HH2.out 2).trans rfl
  have y3 : w2.cell? ⟨w.heap.size, 3, none⟩ = some (.int .i64 h.p2) := (mblk_cell HH2.out 3).trans rfl
  have y4 : w2.cell? ⟨w.heap.size, 4, none⟩ = some (.bool h.a) := (mblk_cell HH2.out 4).trans rfl
  by_cases ha : h.a = true
  case neg =>
   have ha' : h.a = false := by simpa using ha
   have HE := Aside0.mk (show settleE l z = 13 by unfold settleE; rw [HGT.out]; exact if_neg ha)
   rw [ha'] at y4
   clear ha ha'
   go_wp2_with fail
   refine bodyPost_ret (results_tmp rfl _ _ _) rfl ⟨by rw [HE.out]; rfl, ?_, Kp.of HB2.out⟩
   rw [HLE.out 13 HE.out (by decide)]
   exact HL2.out
  have HE := Aside0.mk (show settleE l z = 0 by unfold settleE; rw [HGT.out]; exact if_pos ha)
  have HGS := Aside0.mk (set_good (z := z) (h := settled h) HA.out.1 HA.out.2.1 ⟨HOK.out.2 ha, fun h => by cases h⟩)
  rw [ha] at y4
  clear ha
  go_wp2_with (go_at_call 67; refine (puts_calls g b all (heldL l) l z (settled h) _ HL2.out HA.out.2.2 (by have := HA.out.2.1; omega) HGS.out).mono ?_; rintro e w9 ⟨⟨v9, rfl⟩, hl9, hk9⟩; have HL9 := Aside0.mk hl9; have HK9 := Aside0.mk ((Kp.of HB2.out).trans hk9); clear hl9 hk9)
  refine bodyPost_ret (results_tmp rfl _ _ _) rfl ⟨by rw [HE.out]; rfl, ?_, HK9.out⟩
  unfold settleL
  rw [HE.out, if_pos rfl, HGT.out]
  exact HL9.out
theorem map_del {W : World} {b : Nat} {l : List (Int × Hd)} (h : MapIs W b l) {x : Int} (hx : wfI x) :
  ∃ w', (Builtin.delete_ #[94, 3] 0 #[.map (some b), .int .i64 x]).run Try.prog W = .ok (.tuple #[]) w' ∧ MapIs w' b (delL l x) ∧ W.mapTurned w' b := by
 obtain ⟨D, hD, hV⟩ := h
 obtain ⟨w', hrun, h1, h2⟩ := hD.drop keyed Try.underlying94 (key_of hx) 0
 have hv := hV.del (hD.tidy keyed) x
 have h3 := own_size h1
 rw [hv.size] at h3
 exact ⟨w', hrun, ⟨_, h3, hv⟩, h2⟩
def freeE (l : List (Int × Hd)) (z : Int) : Int := if hasL l z = true then 0 else 12
def freeL (l : List (Int × Hd)) (z : Int) : List (Int × Hd) := if hasL l z = true then delL l z else l
theorem del_good {l : List (Int × Hd)} {z : Int} (hG : GoodL l) : GoodL (delL l z) :=
 ⟨Nat.le_trans (List.length_filter_le _ _) hG.len, fun y hy => hG.ok y (List.mem_filter.1 hy).1⟩
set_option maxRecDepth 100000 in
set_option maxHeartbeats 4000000 in
theorem free_calls (g b : Nat) (all : Rat) (l : List (Int × Hd)) (z : Int) (w : World) (hL : Led w g b all (heldL l) l) (hG : GoodL l) (hz : wfI z) :
  Calls Try.prog 25 #[.pointer (some ⟨g, 0, none⟩), .int .i64 z] w fun e w' => e = .returned (.int .i64 (freeE l z)) ∧ Led w' g b all (heldL (freeL l z)) (freeL l z) ∧ Kp g b w w' := by
 have HL0 := Aside0.mk hL
 have HA := Aside0.mk (And.intro hG hz)
 obtain ⟨h, hh⟩ : ∃ h, h = (getL l z).getD zeroH := ⟨_, rfl⟩
 have HH := Aside0.mk hh
 clear hL hG hz hh
 go_enter Try.func25, Try.ntmps25
 go_upto_region 2 with (go_at_call 27; refine (of_calls g b all (heldL l) l z h _ HL0.out HA.out.2 HH.out).mono ?_; rintro e w1 ⟨rfl, hb⟩; have HB1 := Aside0.mk hb; clear hb)
 obtain ⟨w2, hw2⟩ : ∃ w2, w2 = (w1.alloc (.cells #[.int .i64 h.e, .int .i64 h.p] 34)).alloc (.cells #[.int .i64 h.e2, .int .i64 h.p2] 34) := ⟨_, rfl⟩
 have hb2 : Below w.heap.size w w2 := by rw [hw2]; exact below_alloc (below_alloc HB1.out _) _
 have HL2 := Aside0.mk (HL0.out.below hb2)
 have HB2 := Aside0.mk hb2
 rw [← hw2]
 clear hw2 hb2 HB1 HL0 HH
 by_cases hs : hasL l z = true
 case neg =>
  have hs' : hasL l z = false := by simpa using hs
  have HE := Aside0.mk (show freeE l z = 12 ∧ freeL l z = l by unfold freeE freeL; exact ⟨if_neg hs, if_neg hs⟩)
  rw [hs']
  clear hs hs'
  go_wp2_with fail
  refine bodyPost_ret (results_tmp rfl _ _ _) rfl ⟨by rw [HE.out.1]; rfl, ?_, Kp.of HB2.out⟩
  rw [HE.out.2]
  exact HL2.out
 have HE := Aside0.mk (show freeE l z = 0 ∧ freeL l z = delL l z by unfold freeE freeL; exact ⟨if_pos hs, if_pos hs⟩)
 rw [hs]
 clear hs
 obtain ⟨_, _, _, _, hM, _⟩ := HL2.out.cells
 have k1 : w2.cell? ⟨g, 2, none⟩ = some (.map (some b)) := (mblk_cell hM 2).trans rfl
 obtain ⟨w3, hrun, hm3, ht3⟩ := map_del HL2.out.map HA.out.2
 have HL3 := Aside0.mk (led_turn HL2.out hm3 ht3)
 have HK3 := Aside0.mk ((Kp.of HB2.out).trans (kp_turn (g := g) ht3))
 have HGD := Aside0.mk (del_good (z := z) HA.out.1)
 clear hM hm3 ht3
 go_upto_region 7 with fail
 go_wp2_with (go_at_call 74; refine (counts_calls g b all (heldL l) _ _ HL3.out HGD.out).mono ?_; rintro e w9 ⟨⟨v9, rfl⟩, hl9, hk9⟩; have HL9 := Aside0.mk hl9; have HK9 := Aside0.mk (HK3.out.trans hk9); clear hl9 hk9)
 refine bodyPost_ret (results_tmp rfl _ _ _) rfl ⟨by rw [HE.out.1]; rfl, ?_, HK9.out⟩
 rw [HE.out.2]
 exact HL9.out
end Go.Proofs.Ytfldklimlcnnnaa.XEnd
end

section
namespace Go.Proofs.Ytfldklimlcnnnaa.XAwake
open Go.RowKit Go.Shelf Go.Proofs.Ytfldklimlcnnnaa.PHq Go.Proofs.YtfldklimlcnnnaaW.PrintWords Go.Proofs.YtfldklimlcnnnaaW.PrintLast Go.Proofs.YtfldklimlcnnnaaW.PrintMore Go.Proofs.Ytfldklimlcnnnaa.MWords
open Go.Proofs.Ytfldklimlcnnnaa.MNat Go.Proofs.Ytfldklimlcnnnaa.QNat Go.Proofs.Ytfldklimlcnnnaa.QText Go.Proofs.Ytfldklimlcnnnaa.QEv Go.Proofs.Ytfldklimlcnnnaa.QRatio Go.Proofs.Ytfldklimlcnnnaa.XRV Go.Proofs.Ytfldklimlcnnnaa.XHold Go.Proofs.Ytfldklimlcnnnaa.XWts Go.Proofs.Ytfldklimlcnnnaa.XLed Go.Proofs.Ytfldklimlcnnnaa.XPuts Go.Proofs.Ytfldklimlcnnnaa.XFits Go.Proofs.Ytfldklimlcnnnaa.XJoin Go.Proofs.Ytfldklimlcnnnaa.XMeth Go.Proofs.Ytfldklimlcnnnaa.XAsk Go.Proofs.Ytfldklimlcnnnaa.XEnd
theorem one_f (n d : Nat) (hn : n < 18446744073709551616) (hd : d < 18446744073709551616) : regattalaw12_one.f 5 (n : Int) (d : Int) = some (limbs n, limbs d) := by
 unfold regattalaw12_one.f
 rw [QRef.rof_f 5 n hn (by omega), Option.bind_some, QRef.rof_f 5 d hd (by omega), Option.bind_some]
theorem one_rv (n d : Nat) (hn : n < 18446744073709551616) (hd : d < 18446744073709551616) (W : World) :
  Calls Try.prog 17 #[.int .u64 (n : Int), .int .u64 (d : Int)] W fun e w' => ∃ p q : Value, e = .returned (.agg #[p, q]) ∧ RV w' p q (limbs n) (limbs d) ∧ Below W.heap.size W w' :=
 (regattalaw12_one.calls 5 n d (limbs n) (limbs d) W (one_f n d hn hd)).mono fun e w' ⟨p, q, he, h1, h2, hb⟩ => ⟨p, q, he, RV.ofR h1 h2, hb⟩
theorem F_u64 {n : Nat} (h : n < 18446744073709551616) : F 2 n := by unfold F; simpa using h
theorem Kp.below {g b : Nat} {w X Y : World} (h : Below w.heap.size w X) (hg : w.heap.size ≤ g) (hb : w.heap.size ≤ b) (hk : Kp g b X Y) : Below w.heap.size w Y :=
 ⟨hk.os.trans h.os, hk.tape.trans h.tape, hk.output.trans h.output, Nat.le_trans h.size hk.size, fun k hlt => (hk.same k (Nat.lt_of_lt_of_le hlt h.size) (by omega) (by omega)).trans (h.block k hlt)⟩
theorem mkR_sz {n d : Nat} (hn : n < 18446744073709551616) (hd : d < 18446744073709551616) (h0 : 0 < d) : Sz 3000 (mkRat (n : Int) d) := sz_mono (mk_sz 2 n d (F_u64 hn) (F_u64 hd) h0) (by omega)
def aw1 : List (Int × Hd) := [(1, ⟨1, 2, 0, 0, false⟩)]
def aw2 : List (Int × Hd) := [(1, ⟨1, 2, 3, 4, true⟩)]
theorem good_nil : GoodL [] := ⟨by simp, by simp⟩
theorem good_aw1 : GoodL aw1 := ⟨by decide, fun z hz => by
 obtain rfl := List.mem_singleton.1 hz
 exact ⟨by unfold okW; decide, fun h => by cases h⟩⟩
theorem good_aw2 : GoodL aw2 := ⟨by decide, fun z hz => by
 obtain rfl := List.mem_singleton.1 hz
 exact ⟨by unfold okW; decide, fun h => by unfold okW; decide⟩⟩
theorem aw_e1 : joinE (mkRat ((1 : Nat) : Int) 1) (heldL []) [] 1 ⟨1, 2⟩ = 0 := by kernel_rfl
theorem aw_e2 : joinE (mkRat ((1 : Nat) : Int) 1) (heldL aw1) aw1 2 ⟨2, 3⟩ = 18 := by kernel_rfl
theorem aw_e3 : askE (mkRat ((1 : Nat) : Int) 1) (heldL aw1) aw1 1 ⟨3, 4⟩ = 0 := by kernel_rfl
theorem aw_e4 : joinE (mkRat ((1 : Nat) : Int) 1) (heldL aw2) aw2 2 ⟨1, 3⟩ = 18 := by kernel_rfl
theorem aw_l1 : joinL (mkRat ((1 : Nat) : Int) 1) (heldL []) [] 1 ⟨1, 2⟩ = aw1 := by unfold joinL; rw [aw_e1]; rfl
theorem aw_l2 : joinL (mkRat ((1 : Nat) : Int) 1) (heldL aw1) aw1 2 ⟨2, 3⟩ = aw1 := by unfold joinL; rw [aw_e2]; rfl
theorem aw_l3 : askL (mkRat ((1 : Nat) : Int) 1) (heldL aw1) aw1 1 ⟨3, 4⟩ = aw2 := by unfold askL; rw [aw_e3]; rfl
theorem aw_l4 : joinL (mkRat ((1 : Nat) : Int) 1) (heldL aw2) aw2 2 ⟨1, 3⟩ = aw2 := by unfold joinL; rw [aw_e4]; rfl
set_option maxRecDepth 100000 in
set_option maxHeartbeats 4000000 in
theorem awake_calls (w : World) : Calls Try.prog 15 #[] w fun e w' => e = .returned (.bool true) ∧ Below w.heap.size w w' := by
 have HS := Aside0.mk (mkR_sz (n := 1) (d := 1) (by omega) (by omega) (by omega))
 obtain ⟨A, hA⟩ : ∃ A, A = mkRat ((1 : Nat) : Int) 1 := ⟨_, rfl⟩
 have HAA := Aside0.mk hA
 rw [← hA] at HS
 go_enter Try.func15, Try.ntmps15
 go_upto_region 2 with (first
  | (go_at_call 17; refine (one_rv 1 1 (by omega) (by omega) _).mono ?_; rintro e w1 ⟨p, p', rfl, h1, hb⟩; obtain ⟨P1, c1, P2, c2, rfl, rfl⟩ := h1.shape; have HB1 := Aside0.mk hb; have H1 := Aside0.mk h1; clear h1 hb)
  | (go_at_call 16; refine (new_calls _ _ 1 1 2 w1 H1.out (F_u64 (by omega)) (F_u64 (by omega)) (by omega) (by omega)).mono ?_; rintro e w2 ⟨g, b, rfl, hl, hb, hg1, hg2⟩; rw [← HAA.out] at hl; have HL2 := Aside0.mk (show Led w2 g b A (heldL []) [] from hl); have HB2 := Aside0.mk (below_step HB1.out hb); have HG := Aside0.mk (And.intro (Nat.le_trans HB1.out.size hg1) (Nat.le_trans HB1.out.size hg2)); clear hl hb hg1 hg2))
 clear HB1 H1
 go_upto_region 5 with (go_at_call 18; refine (join_calls g b A [] 1 ⟨1, 2⟩ _ HL2.out HS.out good_nil (by simp) (wfI_of (by omega) (by omega))).mono ?_; rintro e w3 ⟨rfl, hl, hk⟩; rw [HAA.out, aw_e1]; rw [show joinL A (heldL []) [] 1 ⟨1, 2⟩ = aw1 by rw [HAA.out]; exact aw_l1] at hl; have HL3 := Aside0.mk hl; have HB3 := Aside0.mk (Kp.below HB2.out HG.out.1 HG.out.2 hk); clear hl hk)
 clear HL2 HB2
 go_upto_region 6 with (go_at_call 18; refine (join_calls g b A aw1 2 ⟨2, 3⟩ _ HL3.out HS.out good_aw1 (by decide) (wfI_of (by omega) (by omega))).mono ?_; rintro e w4 ⟨rfl, hl, hk⟩; rw [HAA.out, aw_e2]; rw [show joinL A (heldL aw1) aw1 2 ⟨2, 3⟩ = aw1 by rw [HAA.out]; exact aw_l2] at hl; have HL4 := Aside0.mk hl; have HB4 := Aside0.mk (Kp.below HB3.out HG.out.1 HG.out.2 hk); clear hl hk)
 clear HL3 HB3
 go_upto_region 7 with (go_at_call 28; refine (ask_calls g b A aw1 1 ⟨3, 4⟩ _ HL4.out HS.out good_aw1 (by decide) (wfI_of (by omega) (by omega))).mono ?_; rintro e w5 ⟨rfl, hl, hk⟩; rw [HAA.out, aw_e3]; rw [show askL A (heldL aw1) aw1 1 ⟨3, 4⟩ = aw2 by rw [HAA.out]; exact aw_l3] at hl; have HL5 := Aside0.mk hl; have HB5 := Aside0.mk (Kp.below HB4.out HG.out.1 HG.out.2 hk); clear hl hk)
 clear HL4 HB4
 go_upto_region 8 with (go_at_call 18; refine (join_calls g b A aw2 2 ⟨1, 3⟩ _ HL5.out HS.out good_aw2 (by decide) (wfI_of (by omega) (by omega))).mono ?_; rintro e w6 ⟨rfl, hl, hk⟩; rw [HAA.out, aw_e4]; rw [show joinL A (heldL aw2) aw2 2 ⟨1, 3⟩ = aw2 by rw [HAA.out]; exact aw_l4] at hl; have HL6 := Aside0.mk hl; have HB6 := Aside0.mk (Kp.below HB5.out HG.out.1 HG.out.2 hk); clear hl hk)
 clear HL5 HB5
 go_wp2_with (go_at_call 21; refine (len_calls g b A (heldL aw2) aw2 _ HL6.out (by decide)).mono ?_; rintro e w7 ⟨rfl, rfl⟩)
 exact bodyPost_ret (results_tmp rfl _ _ _) rfl ⟨rfl, HB6.out⟩
end Go.Proofs.Ytfldklimlcnnnaa.XAwake
end

section
namespace Go.Proofs.Ytfldklimlcnnnaa.XNew
open Go.RowKit Go.Shelf Go.Proofs.Ytfldklimlcnnnaa.PHq Go.Proofs.YtfldklimlcnnnaaW.PrintWords Go.Proofs.YtfldklimlcnnnaaW.PrintLast Go.Proofs.YtfldklimlcnnnaaW.PrintMore Go.Proofs.Ytfldklimlcnnnaa.MWords
open Go.Proofs.Ytfldklimlcnnnaa.MNat Go.Proofs.Ytfldklimlcnnnaa.QNat Go.Proofs.Ytfldklimlcnnnaa.QText Go.Proofs.Ytfldklimlcnnnaa.QEv Go.Proofs.Ytfldklimlcnnnaa.QRatio Go.Proofs.Ytfldklimlcnnnaa.XRV Go.Proofs.Ytfldklimlcnnnaa.XHold Go.Proofs.Ytfldklimlcnnnaa.XWts Go.Proofs.Ytfldklimlcnnnaa.XLed Go.Proofs.Ytfldklimlcnnnaa.XPuts
theorem nil_ne (ad : Addr) (n c : Nat) (w : World) : (binOp BinOp.eql 26 (.slice (some ad) n c) (.slice none 0 0)).run Try.prog w = .ok (.bool false) w := by
 kernel_rfl
theorem nil_eq (n c : Nat) (w : World) : (binOp BinOp.eql 26 (.slice none n c) (.slice none 0 0)).run Try.prog w = .ok (.bool true) w := by
 kernel_rfl
set_option maxRecDepth 100000 in
set_option maxHeartbeats 4000000 in
theorem clone_calls (A : Option Addr) (c : Nat) (xs : List Int) (w : World) (hC : Kd.C (Kd.int .u32) w A xs.length xs) (hc : xs.length ≤ c) (hl : xs.length ≤ 1000000) :
  Calls Try.prog 70 #[.slice A xs.length c] w fun e w' => ∃ A' c', e = .returned (.slice A' xs.length c') ∧ (xs.length ≤ c' ∧ Kd.C (Kd.int .u32) w' A' xs.length xs) ∧ Below w.heap.size w w' := by
 have HC := Aside0.mk hC
 have HL := Aside0.mk hl
 clear hC
 go_enter Try.func70, Try.ntmps70
 cases A with
 | none =>
  have h0 : xs = [] := by
   cases xs with
   | nil => rfl
   | cons x xs => obtain ⟨ad, h, _⟩ := HC.out.2.2 (by simp); cases h
  subst h0
  have q0 := nil_eq 0 c
  go_wp2_with fail
  exact bodyPost_ret (results_tmp rfl _ _ _) rfl ⟨none, 0, rfl, ⟨Nat.le_refl _, Kd.C_nil _ _⟩, Below.refl _ _⟩
 | some ad =>
  have q0 := nil_ne ad xs.length c
  go_wp2_with (first
   | ((with_reducible refine gate_dst (N := 5) rfl ?_); refine Kd.R_lit (Kd.int .u32) (w0 := w) w.heap.size 89 rfl (N := 5) rfl (xs := ([] : List Int)) (inner := []) (ok := fun _ => True) (okp := fun _ => True) (by first | (go_simp; done) | (go_simp; rfl)) (Reps.none _ _) (fun _ hk => hk) trivial (Below.refl _ _) (Nat.le_refl _) (by simp) ?_; intro v1 w1 hR1 hb1 _ _; have HR1 := Aside0.mk hR1; have HB1 := Aside0.mk hb1; have HS1 := Aside0.mk hb1.size; clear hR1 hb1)
   | ((with_reducible refine gate_builtin (b := .append) (xs := #[.tmp 5, .tmp 6]) rfl ?_); at_builtin; refine Kd.R_append_rows (Kd.int .u32) (w0 := w) w.heap.size rfl (.tmp 5) (.tmp 6) 26 89 (.int .u32 0) 4 rfl Try.underlying26 info89 rfl (by decide) (by omega) v1 [] xs (some ad) xs.length c (fun _ => True) (fun _ => False) rfl rfl HR1.out (Kd.C_below HC.out HB1.out) (fun _ _ h => h) (fun _ hk => hk.elim) (fun _ _ => trivial) HB1.out HS1.out (by have := HL.out; simp; omega) ?_; intro v2 w2 hR2 hb2 _ _; have HR2 := Aside0.mk hR2; have HB2 := Aside0.mk hb2; clear hR2 hb2))
  obtain ⟨A2, c2, rfl⟩ := Kd.R_slice HR2.out
  refine bodyPost_ret (results_tmp rfl _ _ _) rfl ⟨A2, c2, rfl, (Kd.R_reads' HR2.out).2, HB2.out⟩
set_option maxRecDepth 100000 in
set_option maxHeartbeats 4000000 in
theorem held_calls (g b : Nat) (all q : Rat) (l : List (Int × Hd)) (w : World) (hL : Led w g b all q l) (hs : Sz 100000 q) :
    Calls Try.prog 20 #[.pointer (some ⟨g, 0, none⟩)] w fun e w' => ∃ p p' : Value, e = .returned (.agg #[p, p']) ∧ RV w' p p' (L q).1 (L q).2 ∧ Below w.heap.size w w' := by
  have mixed : Try.prog.follows Departure.mixedOrders = true := by kernel_rfl
  obtain ⟨x, y, u, v, hM, _, hUV⟩ := hL.cells
  obtain ⟨⟨Au, cu, rfl, hu1, hu2⟩, Av, cv, rfl, hv1, hv2⟩ := hUV
  obtain ⟨W0, hW0⟩ : ∃ W0, W0 = w.alloc (.cells #[.slice none 0 0, .slice none 0 0] 28) := ⟨_, rfl⟩
  have hb0 : Below w.heap.size w W0 := by rw [hW0]; exact below_alloc (Below.refl _ _) _
  have HB0 := Aside0.mk hb0
  have HR0 := Aside0.mk (show MBlk W0 w.heap.size 28 #[.slice none 0 0, .slice none 0 0] by rw [hW0]; exact mblk_new _ _ _)
  have HM0 := Aside0.mk ((hb0.block _ (mblk_lt hM)).trans hM)
  have HU := Aside0.mk (And.intro hu1 hu2)
  have HV := Aside0.mk (And.intro hv1 hv2)
  have HSZ := Aside0.mk (show (L q).1.length ≤ 1000000 ∧ (L q).2.length ≤ 1000000 from And.intro (hs.2.1.isN (by omega)).2 (hs.2.2.isN (by omega)).2)
  generalize (L q).1 = ua at *
  generalize (L q).2 = va at *
  clear hL hb0 hM hu1 hu2 hv1 hv2
  go_enter Try.func20, Try.ntmps20
  go_upto_region 3 with fail
  rw [← hW0]
  clear hW0
  have k3 : W0.cell? ⟨g, 3, none⟩ = some (.slice Au ua.length cu) := (mblk_cell HM0.out 3).trans rfl
  have k4 : W0.cell? ⟨g, 4, none⟩ = some (.slice Av va.length cv) := (mblk_cell HM0.out 4).trans rfl
  go_region_law
    (first
      | (go_simp; go_at_call 70
         refine (clone_calls Au cu ua _ (Kd.C_below HU.out.2 (below_drew HB0.out)) HU.out.1 HSZ.out.1).mono ?_
         rintro e w1 ⟨A1, c1, rfl, h1, hb⟩
         have HB1 := Aside0.mk (below_step (below_drew HB0.out) hb)
         have HM1 := Aside0.mk ((hb.block _ (mblk_lt HM0.out)).trans HM0.out)
         have HR1 := Aside0.mk ((hb.block _ (mblk_lt HR0.out)).trans HR0.out)
         have H1 := Aside0.mk h1
         have k4 : w1.cell? ⟨g, 4, none⟩ = some (.slice Av va.length cv) := (mblk_cell HM1.out 4).trans rfl
         clear h1 hb)
      | (go_simp; go_at_call 70
         refine (clone_calls Av cv va _ (Kd.C_below HV.out.2 HB1.out) HV.out.1 HSZ.out.2).mono ?_
         rintro e w2 ⟨A2, c2, rfl, h2, hb⟩
         have HB2 := Aside0.mk (below_step HB1.out hb)
         have HR2 := Aside0.mk ((hb.block _ (mblk_lt HR1.out)).trans HR1.out)
         have H2 := Aside0.mk h2
         have H3 := Aside0.mk (Kd.C_below H1.out.2 hb)
         have r0 : w2.cell? ⟨w.heap.size, 0, none⟩ = some (.slice none 0 0) := (mblk_cell HR2.out 0).trans rfl
         have r1 : w2.cell? ⟨w.heap.size, 1, none⟩ = some (.slice none 0 0) := (mblk_cell HR2.out 1).trans rfl
         have f0 : w2.frozen? ⟨w.heap.size, 0, none⟩ = false := mblk_frozen HR2.out 0
         have f1 : w2.frozen? ⟨w.heap.size, 1, none⟩ = false := mblk_frozen HR2.out 1
         clear h2 hb))
  all_goals
    have HF := Aside0.mk (show MBlk ((w2.setCell ⟨w.heap.size, 0, none⟩ (.slice A1 ua.length c1)).setCell ⟨w.heap.size, 1, none⟩ (.slice A2 va.length c2)) w.heap.size 28 #[.slice A1 ua.length c1, .slice A2 va.length c2] from mblk_set (mblk_set HR2.out 0 _) 1 _)
    have HBF := Aside0.mk (show Below w.heap.size w ((w2.setCell ⟨w.heap.size, 0, none⟩ (.slice A1 ua.length c1)).setCell ⟨w.heap.size, 1, none⟩ (.slice A2 va.length c2)) from (HB2.out.setCell (p := ⟨w.heap.size, 0, none⟩) (Nat.le_refl _) _).setCell (p := ⟨w.heap.size, 1, none⟩) (Nat.le_refl _) _)
    have HRV := Aside0.mk (show RV ((w2.setCell ⟨w.heap.size, 0, none⟩ (.slice A1 ua.length c1)).setCell ⟨w.heap.size, 1, none⟩ (.slice A2 va.length c2)) (.slice A1 ua.length c1) (.slice A2 va.length c2) ua va from
      RV.near ⟨⟨A1, c1, rfl, H1.out.1, H3.out⟩, A2, c2, rfl, H2.out.1, H2.out.2⟩ (fun k hk hn => by
        have hne : k ≠ w.heap.size := fun e => hn (by
          intro p hp n hc
          rw [e] at hp
          unfold World.cell? at hc
          rw [hp, show w2.heap[w.heap.size]? = _ from HR2.out] at hc
          simp only at hc
          split at hc
          · cases hc
          · match ho : p.off, hc with
            | 0, hc => simp at hc
            | 1, hc => simp at hc
            | k + 2, hc => simp at hc)
        exact (Below.heap_setCell _ ⟨w.heap.size, 1, none⟩ _ k hne).trans (Below.heap_setCell _ ⟨w.heap.size, 0, none⟩ _ k hne)))
    clear r0 r1 f0 f1 k4
    go_wp2_with fail
    have e0 := (mblk_cell HF.out 0).trans rfl
    have e1 := (mblk_cell HF.out 1).trans rfl
    exact bodyPost_ret (v := .agg #[.slice A1 ua.length c1, .slice A2 va.length c2]) (by simp [results, Try.results20, go_sem, e0, e1]) rfl ⟨_, _, rfl, HRV.out, HBF.out⟩
end Go.Proofs.Ytfldklimlcnnnaa.XNew
end

section
namespace Go.Proofs.Ytfldklimlcnnnaa.QHold
open Go.RowKit Go.Shelf Go.Proofs.Ytfldklimlcnnnaa.PHq Go.Proofs.YtfldklimlcnnnaaW.PrintWords Go.Proofs.YtfldklimlcnnnaaW.PrintLast Go.Proofs.YtfldklimlcnnnaaW.PrintMore Go.Proofs.Ytfldklimlcnnnaa.MWords
open Go.Proofs.Ytfldklimlcnnnaa.MNat Go.Proofs.Ytfldklimlcnnnaa.QNat Go.Proofs.Ytfldklimlcnnnaa.QText Go.Proofs.Ytfldklimlcnnnaa.QEv Go.Proofs.Ytfldklimlcnnnaa.QRatio Go.Proofs.Ytfldklimlcnnnaa.XRV Go.Proofs.Ytfldklimlcnnnaa.XHold Go.Proofs.Ytfldklimlcnnnaa.XWts Go.Proofs.Ytfldklimlcnnnaa.XLed Go.Proofs.Ytfldklimlcnnnaa.XPuts Go.Proofs.Ytfldklimlcnnnaa.XFits Go.Proofs.Ytfldklimlcnnnaa.XJoin Go.Proofs.Ytfldklimlcnnnaa.XMeth Go.Proofs.Ytfldklimlcnnnaa.XAsk Go.Proofs.Ytfldklimlcnnnaa.XEnd Go.Proofs.Ytfldklimlcnnnaa.XAwake
theorem rat_le_iff {a b : Rat} : a ≤ b ↔ ¬ b < a := Rat.not_lt.symm
theorem held_app (a b : List (Int × Hd)) : heldL (a ++ b) = heldL a + heldL b := by
 unfold heldL
 rw [List.map_append, sumR_append]
theorem held_cons (y : Int × Hd) (a : List (Int × Hd)) : heldL (y :: a) = wt (hv y.2) + heldL a := rfl
theorem wt_nonneg (x : S34) : 0 ≤ wt x := mk_nonneg _ _
theorem held_nonneg : ∀ l : List (Int × Hd), 0 ≤ heldL l
 | [] => Rat.le_refl
 | y :: l => Rat.add_nonneg (wt_nonneg _) (held_nonneg l)
theorem set_new {l : List (Int × Hd)} {z : Int} (h : hasL l z = false) (k : Hd) : setL l z k = l ++ [(z, k)] := by
 unfold setL
 rw [if_neg (by simp [h])]
theorem held_new {l : List (Int × Hd)} {z : Int} (h : hasL l z = false) (k : Hd) : heldL (setL l z k) = heldL l + wt (hv k) := by
 rw [set_new h, held_app, held_cons]
 show heldL l + (wt (hv k) + 0) = _
 rw [Rat.add_zero]
def NodK (l : List (Int × Hd)) : Prop := (l.map (·.1)).Nodup
theorem Led.nodk {W : World} {g b : Nat} {all q : Rat} {l : List (Int × Hd)} (h : Led W g b all q l) : NodK l := by
 obtain ⟨D, _, v⟩ := h.map
 exact v.nodup
theorem get_split {l : List (Int × Hd)} (hn : NodK l) {z : Int} {h : Hd} (e : getL l z = some h) : ∃ a b, l = a ++ (z, h) :: b ∧ (∀ y ∈ a, y.1 ≠ z) ∧ ∀ y ∈ b, y.1 ≠ z := by
 obtain ⟨a, b, rfl⟩ := List.append_of_mem (getL_mem e)
 refine ⟨a, b, rfl, fun y hy hz => ?_, fun y hy hz => ?_⟩
 ·unfold NodK at hn
  rw [List.map_append, List.nodup_append] at hn
  exact hn.2.2 y.1 (List.mem_map.2 ⟨y, hy, rfl⟩) z (by simp) hz
 ·unfold NodK at hn
  rw [List.map_append, List.nodup_append] at hn
  have := hn.2.1
  rw [List.map_cons, List.nodup_cons] at this
  exact this.1 (List.mem_map.2 ⟨y, hy, hz⟩)
theorem map_far {a : List (Int × Hd)} {z : Int} (h : ∀ y ∈ a, y.1 ≠ z) (k : Hd) : a.map (fun y => if y.1 = z then (z, k) else y) = a := by
 induction a with
 | nil => rfl
 | cons y a ih =>
  rw [List.map_cons, if_neg (h y (by simp)), ih (fun x hx => h x (by simp [hx]))]
theorem filter_far {a : List (Int × Hd)} {z : Int} (h : ∀ y ∈ a, y.1 ≠ z) : a.filter (fun y => decide (y.1 ≠ z)) = a := by
 rw [List.filter_eq_self]
 intro y hy
 simpa using h y hy
theorem set_split {l : List (Int × Hd)} (hn : NodK l) {z : Int} {h : Hd} (e : getL l z = some h) (k : Hd) : ∃ a b, l = a ++ (z, h) :: b ∧ setL l z k = a ++ (z, k) :: b ∧ delL l z = a ++ b := by
 obtain ⟨a, b, rfl, ha, hb⟩ := get_split hn e
 refine ⟨a, b, rfl, ?_, ?_⟩
 ·unfold setL
  rw [if_pos (by rw [getL_has, e]; rfl), List.map_append, List.map_cons, map_far ha, map_far hb]
  simp
 ·unfold delL
  rw [List.filter_append, List.filter_cons, filter_far ha, filter_far hb]
  simp
theorem held_old {l : List (Int × Hd)} (hn : NodK l) {z : Int} {h : Hd} (e : getL l z = some h) (k : Hd) : heldL (setL l z k) + wt (hv h) = heldL l + wt (hv k) := by
 obtain ⟨a, b, h1, h2, _⟩ := set_split hn e k
 rw [h2, h1, held_app, held_app, held_cons, held_cons]
 show heldL a + (wt (hv k) + heldL b) + wt (hv h) = heldL a + (wt (hv h) + heldL b) + wt (hv k)
 generalize heldL a = A
 generalize heldL b = B
 generalize wt (hv h) = X
 generalize wt (hv k) = Y
 grind
theorem held_gone {l : List (Int × Hd)} (hn : NodK l) {z : Int} {h : Hd} (e : getL l z = some h) : heldL (delL l z) + wt (hv h) = heldL l := by
 obtain ⟨a, b, h1, _, h2⟩ := set_split hn e h
 rw [h2, h1, held_app, held_app, held_cons]
 show heldL a + heldL b + wt (hv h) = heldL a + (wt (hv h) + heldL b)
 rw [Rat.add_assoc, Rat.add_comm (heldL b)]
theorem held_szN {l : List (Int × Hd)} (hG : GoodL l) : Sz (1 + 2 * l.length) (heldL l) := by
 have h := (sum_t (l.map fun z => hv z.2) (by rw [List.length_map]; have := hG.len; omega) (fun z hz => by
  obtain ⟨y, hy, rfl⟩ := List.mem_map.1 hz
  exact hv_ok (hG.ok y hy))).2
 rwa [List.length_map] at h
theorem fits_new {all q : Rat} {x : S34} (hq : 0 ≤ q) (hm : mayW x = true) : fitsW all q x ⟨0, 0⟩ = decide (q + wt x ≤ all) := by
 unfold fitsW fitsQ
 rw [hm, if_neg (by decide), Bool.true_and, show q + wt x - 0 = q + wt x by grind, decide_eq_true (Rat.add_nonneg hq (wt_nonneg x)), Bool.true_and]
theorem join_new {all q : Rat} {l : List (Int × Hd)} {z : Int} {x : S34} (hq : 0 ≤ q) (hm : mayW x = true) (hz : hasL l z = false) :
  joinE all q l z x = if q + wt x ≤ all then 0 else 18 := by
 unfold joinE
 rw [if_neg (by simp [hm]), if_neg (by simp [hz]), fits_new hq hm]
 by_cases h : q + wt x ≤ all
 ·rw [decide_eq_true h, if_neg (by decide), if_pos h]
 ·rw [decide_eq_false h, if_pos rfl, if_neg h]
theorem Led.keep {X Y : World} {g b m : Nat} {all q : Rat} {l : List (Int × Hd)} {t : TypeId} {cs : Array Value} (h : Led X g b all q l) (hk : Kp g b X Y) (hm : MBlk X m t cs) (ht : t ≠ 97) : MBlk Y m t cs := by
 obtain ⟨_, _, _, _, h1, _⟩ := h.cells
 obtain ⟨es, c, h2⟩ := h.map.obj
 exact (hk.same m (mblk_lt hm) (mblk_ne hm h1 ht) (fun e => by subst e; rw [show X.heap[m]? = _ from hm] at h2; cases h2)).trans hm
theorem joinE_zero {all q : Rat} {l : List (Int × Hd)} {z : Int} {x : S34} (h : joinE all q l z x = 0) : mayW x = true ∧ hasL l z = false ∧ fitsW all q x ⟨0, 0⟩ = true := by
 unfold joinE at h
 by_cases h1 : mayW x = false
 ·rw [if_pos h1] at h; cases h
 rw [if_neg h1] at h
 by_cases h2 : hasL l z = true
 ·rw [if_pos h2] at h; cases h
 rw [if_neg h2] at h
 by_cases h3 : fitsW all q x ⟨0, 0⟩ = false
 ·rw [if_pos h3] at h; cases h
 exact ⟨by simpa using h1, by simpa using h2, by simpa using h3⟩
theorem askE_zero {all q : Rat} {l : List (Int × Hd)} {z : Int} {x : S34} (h : askE all q l z x = 0) : mayW x = true ∧ ∃ k, getL l z = some k ∧ k.a = false ∧ fitsQ all q (wt (hv (asks k x))) (wt (wN k)) = true := by
 unfold askE at h
 by_cases h1 : mayW x = false
 ·rw [if_pos h1] at h; cases h
 rw [if_neg h1] at h
 cases hg : getL l z with
 | none => rw [hg] at h; cases h
 | some k =>
  rw [hg] at h
  simp only at h
  by_cases h2 : k.a = true
  ·rw [if_pos h2] at h; cases h
  rw [if_neg h2] at h
  by_cases h3 : fitsQ all q (wt (hv (asks k x))) (wt (wN k)) = false
  ·rw [if_pos h3] at h; cases h
  exact ⟨by simpa using h1, k, rfl, by simpa using h2, by simpa using h3⟩
theorem settleE_zero {l : List (Int × Hd)} {z : Int} (h : settleE l z = 0) : ∃ k, getL l z = some k ∧ k.a = true := by
 unfold settleE at h
 cases hg : getL l z with
 | none => rw [hg] at h; cases h
 | some k =>
  rw [hg] at h
  simp only at h
  by_cases h2 : k.a = true
  ·exact ⟨k, rfl, h2⟩
  ·rw [if_neg h2] at h; cases h
theorem hv_plain {h : Hd} (ha : h.a = false) : hv h = wN h := by
 unfold hv
 rw [if_neg (by simp [ha])]
theorem hv_next {h : Hd} (ha : h.a = true) : wt (wX h) ≤ wt (hv h) := by
 unfold hv
 by_cases hl : wt (wN h) < wt (wX h)
 ·rw [if_pos ⟨ha, hl⟩]
  exact Rat.le_refl
 ·rw [if_neg (fun c => hl c.2)]
  exact Rat.not_lt.1 hl
theorem le_of_add {a b c d : Rat} (h : a + b = c + d) (hd : d ≤ b) : a ≤ c := by grind
structure Ok (all : Rat) (l : List (Int × Hd)) (n : Nat) : Prop where
 good : GoodL l
 len : l.length ≤ n
 le : heldL l ≤ all
theorem Ok.mono {all : Rat} {l : List (Int × Hd)} {m n : Nat} (h : Ok all l m) (hmn : m ≤ n) : Ok all l n := ⟨h.good, Nat.le_trans h.len hmn, h.le⟩
theorem ok_join {all : Rat} {l : List (Int × Hd)} {n : Nat} (h : Ok all l n) (hn : n < 500) (z : Int) (x : S34) : Ok all (joinL all (heldL l) l z x) (n + 1) := by
 unfold joinL
 by_cases he : joinE all (heldL l) l z x = 0
 ·rw [if_pos he]
  obtain ⟨h1, h2, h3⟩ := joinE_zero he
  refine ⟨set_good h.good (by have := h.len; omega) ⟨may_ok h1, fun k => by cases k⟩, ?_, ?_⟩
  ·rw [set_len]
   have := h.len
   split <;> omega
  ·rw [held_new h2]
   rw [fits_new (held_nonneg l) h1] at h3
   exact of_decide_eq_true h3
 ·rw [if_neg he]
  exact h.mono (by omega)
theorem ok_ask {all : Rat} {l : List (Int × Hd)} {n : Nat} (h : Ok all l n) (hn : n < 500) (hd : NodK l) (z : Int) (x : S34) : Ok all (askL all (heldL l) l z x) (n + 1) := by
 unfold askL
 by_cases he : askE all (heldL l) l z x = 0
 ·rw [if_pos he]
  obtain ⟨h1, k, hk, ha, h3⟩ := askE_zero he
  rw [hk]
  show Ok all (setL l z (asks k x)) (n + 1)
  refine ⟨set_good h.good (by have := h.len; omega) ⟨(h.good.ok _ (getL_mem hk)).1, fun _ => may_ok h1⟩, ?_, ?_⟩
  ·rw [set_len]
   have := h.len
   split <;> omega
  ·have e := held_old hd hk (asks k x)
   rw [hv_plain ha] at e
   unfold fitsQ at h3
   rw [Bool.and_eq_true] at h3
   have h4 := of_decide_eq_true h3.2
   grind
 ·rw [if_neg he]
  exact h.mono (by omega)
theorem ok_settle {all : Rat} {l : List (Int × Hd)} {n : Nat} (h : Ok all l n) (hn : n < 500) (hd : NodK l) (z : Int) : Ok all (settleL l z) (n + 1) := by
 unfold settleL
 by_cases he : settleE l z = 0
 ·rw [if_pos he]
  obtain ⟨k, hk, ha⟩ := settleE_zero he
  rw [hk]
  show Ok all (setL l z (settled k)) (n + 1)
  refine ⟨set_good h.good (by have := h.len; omega) ⟨(h.good.ok _ (getL_mem hk)).2 ha, fun k => by cases k⟩, ?_, ?_⟩
  ·rw [set_len]
   have := h.len
   split <;> omega
  ·have e := held_old hd hk (settled k)
   exact Rat.le_trans (le_of_add e (hv_next ha)) h.le
 ·rw [if_neg he]
  exact h.mono (by omega)
theorem ok_free {all : Rat} {l : List (Int × Hd)} {n : Nat} (h : Ok all l n) (hd : NodK l) (z : Int) : Ok all (freeL l z) (n + 1) := by
 unfold freeL
 by_cases he : hasL l z = true
 ·rw [if_pos he]
  rw [getL_has] at he
  obtain ⟨k, hk⟩ := Option.isSome_iff_exists.1 he
  refine ⟨del_good h.good, Nat.le_trans (List.length_filter_le _ _) (by have := h.len; omega), ?_⟩
  have e := held_gone hd hk
  have := wt_nonneg (hv k)
  have := h.le
  grind
 ·rw [if_neg he]
  exact h.mono (by omega)
theorem joinL_same {all q : Rat} {l : List (Int × Hd)} {z : Int} {x : S34} (h : joinE all q l z x ≠ 0) : joinL all q l z x = l := by unfold joinL; rw [if_neg h]
theorem askL_same {all q : Rat} {l : List (Int × Hd)} {z : Int} {x : S34} (h : askE all q l z x ≠ 0) : askL all q l z x = l := by unfold askL; rw [if_neg h]
theorem settleL_same {l : List (Int × Hd)} {z : Int} (h : settleE l z ≠ 0) : settleL l z = l := by unfold settleL; rw [if_neg h]
theorem freeL_same {l : List (Int × Hd)} {z : Int} (h : freeE l z ≠ 0) : freeL l z = l := by
 unfold freeE at h
 unfold freeL
 by_cases he : hasL l z = true
 ·rw [if_pos he] at h; exact absurd rfl h
 ·rw [if_neg he]
end Go.Proofs.Ytfldklimlcnnnaa.QHold
end

section
namespace Go.Proofs.Ytfldklimlcnnnaa.XOp
open Go.RowKit Go.Shelf Go.Proofs.Ytfldklimlcnnnaa.PHq Go.Proofs.YtfldklimlcnnnaaW.PrintWords Go.Proofs.YtfldklimlcnnnaaW.PrintLast Go.Proofs.YtfldklimlcnnnaaW.PrintMore Go.Proofs.Ytfldklimlcnnnaa.MWords Go.Proofs.Ytfldklimlcnnnaa.MOpen
open Go.Proofs.Ytfldklimlcnnnaa.MNat Go.Proofs.Ytfldklimlcnnnaa.QNat Go.Proofs.Ytfldklimlcnnnaa.QText Go.Proofs.Ytfldklimlcnnnaa.QEv Go.Proofs.Ytfldklimlcnnnaa.QRatio Go.Proofs.Ytfldklimlcnnnaa.XHold Go.Proofs.Ytfldklimlcnnnaa.XLed Go.Proofs.Ytfldklimlcnnnaa.QHold
def kP2 : Kd (Int × Int) := Kd.pair (Kd.int .i64) (Kd.int .i64)
theorem kP2_open {w : World} {x : Int × Int} {cs : List Value} (h : kP2.K w x cs) : cs = [.int .i64 x.1, .int .i64 x.2] := by
 obtain ⟨_, _, rfl, rfl, rfl⟩ := h
 rfl
theorem opensP2 : Opens Try.prog 39 kP2 (fun p => (Lit.int .i64 p.1).wf = true ∧ (Lit.int .i64 p.2).wf = true) :=
 Opens.array Try.underlying39 (Ts := [3, 3]) (OpensL.cons (Opens.int Try.underlying3) (OpensL.one (Opens.int Try.underlying3))) rfl (by kernel_rfl) (by kernel_rfl)
abbrev OpV := Int × Int × (Int × Int) × (Int × Int)
def kOp : Kd OpV := Kd.pair (Kd.int .i64) (Kd.pair (Kd.int .i64) (Kd.pair kP2 kP2))
theorem kOp_open {w : World} {x : OpV} {cs : List Value} (h : kOp.K w x cs) : cs = [.int .i64 x.1, .int .i64 x.2.1, .int .i64 x.2.2.1.1, .int .i64 x.2.2.1.2, .int .i64 x.2.2.2.1, .int .i64 x.2.2.2.2] := by
 obtain ⟨_, _, rfl, rfl, ⟨_, _, rfl, rfl, ⟨_, _, rfl, h1, h2⟩⟩⟩ := h
 obtain rfl := kP2_open h1
 obtain rfl := kP2_open h2
 rfl
theorem opensOp : Opens Try.prog 48 kOp (fun p => (Lit.int .i64 p.1).wf = true ∧ (Lit.int .i64 p.2.1).wf = true ∧ ((Lit.int .i64 p.2.2.1.1).wf = true ∧ (Lit.int .i64 p.2.2.1.2).wf = true) ∧ ((Lit.int .i64 p.2.2.2.1).wf = true ∧ (Lit.int .i64 p.2.2.2.2).wf = true)) :=
 Opens.struct Try.underlying48 (Ts := [3, 3, 39, 39]) (OpensL.cons (Opens.int Try.underlying3) (OpensL.cons (Opens.int Try.underlying3) (OpensL.cons opensP2 (OpensL.one opensP2)))) rfl (by kernel_rfl) (by kernel_rfl)
def opZ : OpV := (0, 0, (0, 0), (0, 0))
theorem at_Op {w : World} {A : Option Addr} {n : Nat} {xs : List OpV} (h : Kd.C kOp w A n xs) (i : Nat) (hi : i < n) : ∃ ad, A = some ad ∧ w.cell? (ad.add (i * 6)) = some (.int .i64 (xs.getD i opZ).1)
  ∧ w.cell? ⟨(ad.add (i * 6)).block, (ad.add (i * 6)).off + 1, none⟩ = some (.int .i64 (xs.getD i opZ).2.1)
  ∧ w.cell? ⟨(ad.add (i * 6)).block, (ad.add (i * 6)).off + 2, none⟩ = some (.int .i64 (xs.getD i opZ).2.2.1.1)
  ∧ w.cell? ⟨(ad.add (i * 6)).block, (ad.add (i * 6)).off + 3, none⟩ = some (.int .i64 (xs.getD i opZ).2.2.1.2)
  ∧ w.cell? ⟨(ad.add (i * 6)).block, (ad.add (i * 6)).off + 4, none⟩ = some (.int .i64 (xs.getD i opZ).2.2.2.1)
  ∧ w.cell? ⟨(ad.add (i * 6)).block, (ad.add (i * 6)).off + 5, none⟩ = some (.int .i64 (xs.getD i opZ).2.2.2.2) := by
 obtain ⟨ad, c, e, _, hK, hc0⟩ := Kd.C_get h opZ (i : Int) (by omega) (by omega)
 have hc : ∀ j u, c[j]? = some u → w.cell? (ad.add (i * 6 + j)) = some u := hc0
 have hK' : kOp.K w (xs.getD i opZ) c := hK
 obtain rfl := kOp_open hK'
 exact ⟨ad, e, hc 0 _ rfl, by rw [← add_field _ _ 1 (by omega)]; exact hc 1 _ rfl, by rw [← add_field _ _ 2 (by omega)]; exact hc 2 _ rfl, by rw [← add_field _ _ 3 (by omega)]; exact hc 3 _ rfl, by rw [← add_field _ _ 4 (by omega)]; exact hc 4 _ rfl, by rw [← add_field _ _ 5 (by omega)]; exact hc 5 _ rfl⟩
def madeW (p q : Int) : S34 := ⟨wrap64 ((Go.bits .and .i64 p 31) - 1), Go.bits .and .i64 q 31⟩
theorem made_any (p q : Int) (w : World) : Calls Try.prog 29 #[.agg #[.int .i64 p, .int .i64 q]] w fun e w' => e = .returned (.agg #[.int .i64 (madeW p q).f0, .int .i64 (madeW p q).f1]) ∧ Below w.heap.size w w' :=
 regattalaw12_made.calls p q _ _ w rfl
end Go.Proofs.Ytfldklimlcnnnaa.XOp
end

section
namespace Go.Proofs.Ytfldklimlcnnnaa.XLeft
open Go.RowKit Go.Shelf Go.Proofs.Ytfldklimlcnnnaa.PHq Go.Proofs.YtfldklimlcnnnaaW.PrintWords Go.Proofs.YtfldklimlcnnnaaW.PrintLast Go.Proofs.YtfldklimlcnnnaaW.PrintMore Go.Proofs.Ytfldklimlcnnnaa.MWords
open Go.Proofs.Ytfldklimlcnnnaa.MNat Go.Proofs.Ytfldklimlcnnnaa.QNat Go.Proofs.Ytfldklimlcnnnaa.QText Go.Proofs.Ytfldklimlcnnnaa.QEv Go.Proofs.Ytfldklimlcnnnaa.QRatio Go.Proofs.Ytfldklimlcnnnaa.XRV Go.Proofs.Ytfldklimlcnnnaa.XHold Go.Proofs.Ytfldklimlcnnnaa.XWts Go.Proofs.Ytfldklimlcnnnaa.XLed Go.Proofs.Ytfldklimlcnnnaa.XPuts Go.Proofs.Ytfldklimlcnnnaa.XNew Go.Proofs.Ytfldklimlcnnnaa.XFits Go.Proofs.Ytfldklimlcnnnaa.XJoin Go.Proofs.Ytfldklimlcnnnaa.XMeth Go.Proofs.Ytfldklimlcnnnaa.XAsk Go.Proofs.Ytfldklimlcnnnaa.XEnd Go.Proofs.Ytfldklimlcnnnaa.XAwake Go.Proofs.Ytfldklimlcnnnaa.QHold
theorem noLimb_box {X : World} {g7 : Nat} {o1 o2 : Option Addr} {n1 n2 m1 m2 : Nat} {t : TypeId} (hG : MBlk X g7 t #[.slice o1 n1 m1, .slice o2 n2 m2]) : NoLimb X g7 := by
 intro p hp n hc
 unfold World.cell? at hc
 rw [hp, show X.heap[g7]? = _ from hG] at hc
 simp only at hc
 split at hc
 ·cases hc
 ·match ho : p.off, hc with
  | 0, hc => simp at hc
  | 1, hc => simp at hc
  | k + 2, hc => simp at hc
theorem box_put2 {X w : World} {g7 g2 : Nat} {p p' : Value} {r1 r2 : List Int} {cs : Array Value} {t : TypeId} {o1 o2 : Option Addr} {n1 n2 m1 m2 : Nat} (hG : MBlk X g7 28 #[.slice o1 n1 m1, .slice o2 n2 m2]) (hV : RV X p p' r1 r2) (hB : Below w.heap.size w X) (hg : w.heap.size ≤ g7) (hM : MBlk X g2 t cs) (hne : g2 ≠ g7) :
  MBlk ((X.setCell ⟨g7, 0, none⟩ p).setCell ⟨g7, 1, none⟩ p') g7 28 #[p, p'] ∧ RV ((X.setCell ⟨g7, 0, none⟩ p).setCell ⟨g7, 1, none⟩ p') p p' r1 r2 ∧ Below w.heap.size w ((X.setCell ⟨g7, 0, none⟩ p).setCell ⟨g7, 1, none⟩ p') ∧ MBlk ((X.setCell ⟨g7, 0, none⟩ p).setCell ⟨g7, 1, none⟩ p') g2 t cs := by
 have hn := noLimb_box hG
 have hs : ∀ k, k ≠ g7 → ((X.setCell ⟨g7, 0, none⟩ p).setCell ⟨g7, 1, none⟩ p').heap[k]? = X.heap[k]? := fun k hk => (Below.heap_setCell _ ⟨g7, 1, none⟩ _ k hk).trans (Below.heap_setCell _ ⟨g7, 0, none⟩ _ k hk)
 have hk : ∀ k, k < X.heap.size → ¬ NoLimb X k → ((X.setCell ⟨g7, 0, none⟩ p).setCell ⟨g7, 1, none⟩ p').heap[k]? = X.heap[k]? := fun k _ h => hs k (fun e => h (by rw [e]; exact hn))
 exact ⟨mblk_set (mblk_set hG 0 _) 1 _, hV.near hk, (hB.setCell (p := ⟨g7, 0, none⟩) hg _).setCell (p := ⟨g7, 1, none⟩) hg _, (hs g2 hne).trans hM⟩
set_option maxRecDepth 100000 in
set_option maxHeartbeats 4000000 in
theorem left_calls (g b : Nat) (all q : Rat) (l : List (Int × Hd)) (w : World) (hL : Led w g b all q l) (ha : Sz 3000 all) (hq : Sz 3000 q) (hle : q ≤ all) :
    Calls Try.prog 24 #[.pointer (some ⟨g, 0, none⟩)] w fun e w' => ∃ p p' : Value, e = .returned (.agg #[p, p']) ∧ RV w' p p' (L (all - q)).1 (L (all - q)).2 ∧ Below w.heap.size w w' := by
  have mixed : Try.prog.follows Departure.mixedOrders = true := by kernel_rfl
  obtain ⟨f, hf⟩ := (subL 3000 3000 all q ha hq (by omega)).get
  rw [if_neg (Rat.not_lt.2 hle)] at hf
  generalize (L (all - q)).1 = r1 at *
  generalize (L (all - q)).2 = r2 at *
  obtain ⟨x, y, u, v, hM, hXY, hUV⟩ := hL.cells
  generalize L all = la at *
  generalize L q = lq at *
  have HF := Aside0.mk hf
  obtain ⟨X1, a1, X2, a2, rfl, rfl⟩ := hXY.shape
  obtain ⟨U1, b1, U2, b2, rfl, rfl⟩ := hUV.shape
  obtain ⟨W0, hW0⟩ : ∃ W0, W0 = w.alloc (.cells #[.slice none 0 0, .slice none 0 0] 28) := ⟨_, rfl⟩
  have hb0 : Below w.heap.size w W0 := by rw [hW0]; exact below_alloc (Below.refl _ _) _
  have HB0 := Aside0.mk hb0
  have HZ0 := Aside0.mk (show W0.heap.size = w.heap.size + 1 by rw [hW0]; simp)
  have HR0 := Aside0.mk (show MBlk W0 w.heap.size 28 #[.slice none 0 0, .slice none 0 0] by rw [hW0]; exact mblk_new _ _ _)
  have HM0 := Aside0.mk (show MBlk W0 g 97 _ from (hb0.block _ (mblk_lt hM)).trans hM)
  have VX := Aside0.mk (hXY.below hb0)
  have VU := Aside0.mk (hUV.below hb0)
  clear hL hf hb0 hM hXY hUV ha hq hle
  go_enter Try.func24, Try.ntmps24
  go_upto_region 3 with fail
  rw [← hW0]
  clear hW0
  go_cut [3] from 3 to 19 (fun v3 wc => ∃ (g3 : Nat) (p p' : Value), v3 = .pointer (some ⟨g3, 0, none⟩) ∧ Aside0 (MBlk wc g3 28 #[p, p']) ∧ Aside0 (RV wc p p' r1 r2) ∧ Aside0 (Below w.heap.size w wc) ∧ Aside0 (MBlk wc w.heap.size 28 #[.slice none 0 0, .slice none 0 0]))
  case first =>
    have k0 : W0.cell? ⟨g, 0, none⟩ = some (.slice X1 la.1.length a1) := (mblk_cell HM0.out 0).trans rfl
    have k1 : W0.cell? ⟨g, 1, none⟩ = some (.slice X2 la.2.length a2) := (mblk_cell HM0.out 1).trans rfl
    have k3 : W0.cell? ⟨g, 3, none⟩ = some (.slice U1 lq.1.length b1) := (mblk_cell HM0.out 3).trans rfl
    have k4 : W0.cell? ⟨g, 4, none⟩ = some (.slice U2 lq.2.length b2) := (mblk_cell HM0.out 4).trans rfl
    have lg : g < W0.heap.size := mblk_lt HM0.out
    go_region_law
      (first
        | (go_simp; go_at_call 73
           refine (sub_rv (VX.out.below (by first | exact below_drew (Below.refl _ _) | exact below_alloc (below_drew (Below.refl _ _)) _)) (VU.out.below (by first | exact below_drew (Below.refl _ _) | exact below_alloc (below_drew (Below.refl _ _)) _)) HF.out).mono ?_
           rintro e w2 ⟨t1, t2, rfl, h2, hb⟩
           have hb2 : Below W0.heap.size W0 w2 := by first | exact below_step (below_drew (Below.refl _ _)) hb | exact below_step (below_alloc (below_drew (Below.refl _ _)) _) hb
           obtain ⟨T1, e3, T2, e4, rfl, rfl⟩ := h2.shape
           have HB2 := Aside0.mk hb2
           have HT2 := Aside0.mk h2
           try have HGB := Aside0.mk (show MBlk w2 W0.heap.size 28 #[.slice none 0 0, .slice none 0 0] from (hb.block _ (mblk_lt (mblk_new W0.drew 28 #[.slice none 0 0, .slice none 0 0]))).trans (mblk_new W0.drew 28 #[.slice none 0 0, .slice none 0 0]))
           try have z0 := (mblk_cell HGB.out 0).trans rfl
           try have z1 := (mblk_cell HGB.out 1).trans rfl
           try have rf0 := mblk_frozen HGB.out 0
           try have rf1 := mblk_frozen HGB.out 1
           clear h2 hb hb2))
    all_goals
      have HBX := Aside0.mk (below_step HB0.out HB2.out)
      have HRX := Aside0.mk ((HB2.out.block _ (mblk_lt HR0.out)).trans HR0.out)
      go_wp2_with fail
      go_meet
      case rel =>
        first
          | (obtain ⟨q1, q2, q3, q4⟩ := box_put2 HGB.out HT2.out HBX.out (by have := HZ0.out; omega) HRX.out (by have := HZ0.out; omega)
             exact ⟨_, _, _, rfl, ⟨q1⟩, ⟨q2⟩, ⟨q3⟩, ⟨q4⟩⟩)
          | exact ⟨w2.heap.size, _, _, rfl, ⟨mblk_new w2 28 #[.slice T1 r1.length e3, .slice T2 r2.length e4]⟩, ⟨HT2.out.below (below_alloc (Below.refl _ _) _)⟩, ⟨below_alloc HBX.out _⟩, ⟨mblk_alloc HRX.out _⟩⟩
  case rest =>
    obtain ⟨g3, p, p', rfl, HG3, HV3, HB3, HR3⟩ := hcut
    clear HB0 HR0 HM0 VX VU HF
    obtain ⟨T1, e3, T2, e4, rfl, rfl⟩ := HV3.out.shape
    have t0 : wc.cell? ⟨g3, 0, none⟩ = some (.slice T1 r1.length e3) := (mblk_cell HG3.out 0).trans rfl
    have t1 : wc.cell? ⟨g3, 1, none⟩ = some (.slice T2 r2.length e4) := (mblk_cell HG3.out 1).trans rfl
    have z0 : wc.cell? ⟨w.heap.size, 0, none⟩ = some (.slice none 0 0) := (mblk_cell HR3.out 0).trans rfl
    have z1 : wc.cell? ⟨w.heap.size, 1, none⟩ = some (.slice none 0 0) := (mblk_cell HR3.out 1).trans rfl
    have f0 : wc.frozen? ⟨w.heap.size, 0, none⟩ = false := mblk_frozen HR3.out 0
    have f1 : wc.frozen? ⟨w.heap.size, 1, none⟩ = false := mblk_frozen HR3.out 1
    obtain ⟨w5, hw5⟩ : ∃ w5, w5 = (wc.setCell ⟨w.heap.size, 0, none⟩ (.slice T1 r1.length e3)).setCell ⟨w.heap.size, 1, none⟩ (.slice T2 r2.length e4) := ⟨_, rfl⟩
    have HQ : MBlk w5 w.heap.size 28 #[.slice T1 r1.length e3, .slice T2 r2.length e4] ∧ RV w5 (.slice T1 r1.length e3) (.slice T2 r2.length e4) r1 r2 ∧ Below w.heap.size w w5 := by
      have hn := noLimb_box HR3.out
      have hs : ∀ k, k ≠ w.heap.size → w5.heap[k]? = wc.heap[k]? := fun k hk => by rw [hw5]; exact (Below.heap_setCell _ ⟨w.heap.size, 1, none⟩ _ k hk).trans (Below.heap_setCell _ ⟨w.heap.size, 0, none⟩ _ k hk)
      refine ⟨by rw [hw5]; exact mblk_set (mblk_set HR3.out 0 _) 1 _, HV3.out.near (fun k _ h => hs k (fun e => h (by rw [e]; exact hn))), ?_⟩
      rw [hw5]
      exact (HB3.out.setCell (p := ⟨w.heap.size, 0, none⟩) (Nat.le_refl _) _).setCell (p := ⟨w.heap.size, 1, none⟩) (Nat.le_refl _) _
    have HQ5 := Aside0.mk HQ
    have HW5 := Aside0.mk hw5
    clear hw5 HQ
    go_wp2_with fail
    rw [← HW5.out]
    clear HW5 t0 t1 z0 z1 f0 f1
    have e0 : w5.cell? ⟨w.heap.size, 0, none⟩ = some (.slice T1 r1.length e3) := (mblk_cell HQ5.out.1 0).trans rfl
    have e1 : w5.cell? ⟨w.heap.size, 1, none⟩ = some (.slice T2 r2.length e4) := (mblk_cell HQ5.out.1 1).trans rfl
    exact bodyPost_ret (v := .agg #[.slice T1 r1.length e3, .slice T2 r2.length e4]) (by simp [results, Try.results24, go_sem, e0, e1]) rfl ⟨_, _, rfl, HQ5.out.2.1, HQ5.out.2.2⟩
end Go.Proofs.Ytfldklimlcnnnaa.XLeft
end

section
namespace Go.Proofs.Ytfldklimlcnnnaa.QLeft
open Go.RowKit Go.Shelf Go.Proofs.Ytfldklimlcnnnaa.PHq Go.Proofs.YtfldklimlcnnnaaW.PrintWords Go.Proofs.YtfldklimlcnnnaaW.PrintLast Go.Proofs.YtfldklimlcnnnaaW.PrintMore Go.Proofs.Ytfldklimlcnnnaa.MWords
open Go.Proofs.Ytfldklimlcnnnaa.MNat Go.Proofs.Ytfldklimlcnnnaa.QNat Go.Proofs.Ytfldklimlcnnnaa.QText Go.Proofs.Ytfldklimlcnnnaa.QEv Go.Proofs.Ytfldklimlcnnnaa.QRatio Go.Proofs.Ytfldklimlcnnnaa.XRV Go.Proofs.Ytfldklimlcnnnaa.XHold Go.Proofs.Ytfldklimlcnnnaa.XWts Go.Proofs.Ytfldklimlcnnnaa.XLed Go.Proofs.Ytfldklimlcnnnaa.XPuts Go.Proofs.Ytfldklimlcnnnaa.XFits Go.Proofs.Ytfldklimlcnnnaa.XJoin Go.Proofs.Ytfldklimlcnnnaa.XMeth Go.Proofs.Ytfldklimlcnnnaa.XAsk Go.Proofs.Ytfldklimlcnnnaa.XEnd Go.Proofs.Ytfldklimlcnnnaa.XAwake Go.Proofs.Ytfldklimlcnnnaa.QHold
theorem left_sz {j c d : Nat} {q : Rat} (hq : Sz j q) (h0 : 0 < d) (hc : c < 4294967296) (hd : d < 4294967296) (hle : q ≤ mkRat (c : Int) d) : Sz (j + 1) (mkRat (c : Int) d - q) := by
 have e := self_mk q hq.1
 have hx : q.num.natAbs * d ≤ c * q.den := by
  rw [← e, rat_le_iff, mk_lt c d _ _ h0 (Rat.den_pos _)] at hle
  omega
 rw [← e, mk_sub c d _ _ h0 (Rat.den_pos _) hx]
 have h1 := (F.one hc).mul hq.2.2
 have h2 := (F.one hd).mul hq.2.2
 rw [Nat.add_comm 1 j] at h1 h2
 exact mk_sz _ _ _ (h1.le (Nat.sub_le _ _)) h2 (Nat.mul_pos h0 (Rat.den_pos _))
theorem plus_cmp {i j : Nat} {p q : Rat} (hp : Sz i p) (hq : Sz j q) (hij : i + j ≤ 1900) (c d : Nat) (hc : c < 18446744073709551616) (hd : d < 18446744073709551616) (h0 : 0 < d) :
  (∃ k, regattaref03_Plus.f k (L p).1 (L p).2 (L q).1 (L q).2 = some (limbs (p.num.natAbs * q.den + q.num.natAbs * p.den), limbs (p.den * q.den)))
   ∧ ∃ k, regattaref03_Cmp.f k (limbs (p.num.natAbs * q.den + q.num.natAbs * p.den)) (limbs (p.den * q.den)) (limbs c) (limbs d) = some (cmpR (p + q) (mkRat (c : Int) d)) := by
 refine ⟨(r3plus_t i j _ _ _ _ hp.2.1 hp.2.2 hq.2.1 hq.2.2 (by omega)).get, ?_⟩
 have h := r3cmp_t (i + j + 1) 2 (p.num.natAbs * q.den + q.num.natAbs * p.den) (p.den * q.den) c d (F_cross hp.2.1 hp.2.2 hq.2.1 hq.2.2) ((hp.2.2.mul hq.2.2).mono (by omega)) (F_u64 hc) (F_u64 hd) (by omega) (Nat.mul_pos p.den_pos q.den_pos) h0
 rw [← mk_add _ _ _ _ p.den_pos q.den_pos, self_mk p hp.1, self_mk q hq.1] at h
 exact h.get
theorem cmp_le {p q : Rat} : decide (cmpR p q ≤ 0) = decide (p ≤ q) := by
 unfold cmpR
 by_cases h1 : p < q
 ·rw [if_pos h1]
  exact (decide_eq_true (by omega)).trans (decide_eq_true (by grind)).symm
 ·rw [if_neg h1]
  by_cases h2 : p = q
  ·rw [if_pos h2]
   exact (decide_eq_true (by omega)).trans (decide_eq_true (by grind)).symm
  ·rw [if_neg h2]
   exact (decide_eq_false (by omega)).trans (decide_eq_false (by grind)).symm
end Go.Proofs.Ytfldklimlcnnnaa.QLeft
end

section
namespace Go.Proofs.Ytfldklimlcnnnaa.QRef12
open Go.RowKit Go.Shelf Go.Proofs.Ytfldklimlcnnnaa.PHq Go.Proofs.YtfldklimlcnnnaaW.PrintWords Go.Proofs.YtfldklimlcnnnaaW.PrintLast Go.Proofs.YtfldklimlcnnnaaW.PrintMore Go.Proofs.Ytfldklimlcnnnaa.MWords
open Go.Proofs.Ytfldklimlcnnnaa.MNat Go.Proofs.Ytfldklimlcnnnaa.QNat Go.Proofs.Ytfldklimlcnnnaa.QText Go.Proofs.Ytfldklimlcnnnaa.QEv Go.Proofs.Ytfldklimlcnnnaa.QRatio Go.Proofs.Ytfldklimlcnnnaa.XRV Go.Proofs.Ytfldklimlcnnnaa.XHold Go.Proofs.Ytfldklimlcnnnaa.XWts Go.Proofs.Ytfldklimlcnnnaa.XLed Go.Proofs.Ytfldklimlcnnnaa.XPuts Go.Proofs.Ytfldklimlcnnnaa.XFits Go.Proofs.Ytfldklimlcnnnaa.XJoin Go.Proofs.Ytfldklimlcnnnaa.XMeth Go.Proofs.Ytfldklimlcnnnaa.XAsk Go.Proofs.Ytfldklimlcnnnaa.XEnd Go.Proofs.Ytfldklimlcnnnaa.XAwake Go.Proofs.Ytfldklimlcnnnaa.QHold Go.Proofs.Ytfldklimlcnnnaa.QLeft
def rowH (z : Int × Hd) : S60 := ⟨z.1, ⟨z.2.e, z.2.p⟩, ⟨z.2.e2, z.2.p2⟩, z.2.a⟩
def smallW (x : S34) : Prop := x.f0 ≤ 1048576 ∧ x.f1 ≤ 1048576
def SmallL (l : List (Int × Hd)) : Prop := ∀ z ∈ l, smallW (wN z.2) ∧ (z.2.a = true → smallW (wX z.2))
theorem may_small {x : S34} (h : mayW x = true) : smallW x := by
 unfold mayW at h
 simp at h
 unfold smallW
 omega
theorem small_set {l : List (Int × Hd)} {z : Int} {h : Hd} (hs : SmallL l) (hh : smallW (wN h) ∧ (h.a = true → smallW (wX h))) : SmallL (setL l z h) := fun y hy => by
 rcases set_mem hy with rfl | ⟨hm, _⟩
 ·exact hh
 ·exact hs y hm
theorem small_del {l : List (Int × Hd)} {z : Int} (hs : SmallL l) : SmallL (delL l z) := fun y hy => hs y ((List.mem_filter.1 hy).1)
theorem holds_f (z : Int) (h : Hd) (hk : okH h) (hs : smallW (wN h) ∧ (h.a = true → smallW (wX h))) : regattaref12_holds.f z h.e h.p h.e2 h.p2 h.a = some ((hv h).f0, (hv h).f1) := by
 unfold regattaref12_holds.f hv
 by_cases ha : h.a = true
 ·obtain ⟨n0, n1, n2, n3⟩ := hk.1
  obtain ⟨x0, x1, x2, x3⟩ := hk.2 ha
  have s1 := hs.1
  have s2 := hs.2 ha
  have m0 : 0 ≤ h.e2 * h.p := Int.mul_nonneg x0 (by have : 1 ≤ h.p := n2; omega)
  have m1 : 0 ≤ h.e * h.p2 := Int.mul_nonneg n0 (by have : 1 ≤ h.p2 := x2; omega)
  have m2 : h.e2 * h.p ≤ 1048576 * 1048576 := Int.mul_le_mul s2.1 s1.2 (by have : 1 ≤ h.p := n2; omega) (by omega)
  have m3 : h.e * h.p2 ≤ 1048576 * 1048576 := Int.mul_le_mul s1.1 s2.2 (by have : 1 ≤ h.p2 := x2; omega) (by omega)
  rw [if_pos ha, QBits.w64 (by omega) (by omega), QBits.w64 (by omega) (by omega)]
  have key : (h.e2 * h.p > h.e * h.p2) ↔ wt (wN h) < wt (wX h) := by
   unfold wt
   rw [mk_lt _ _ _ _ (okW_pos hk.1) (okW_pos (hk.2 ha))]
   have e1 : ((wN h).f0.toNat : Int) = h.e := Int.toNat_of_nonneg n0
   have e2 : ((wN h).f1.toNat : Int) = h.p := Int.toNat_of_nonneg (by have : 1 ≤ h.p := n2; show 0 ≤ h.p; omega)
   have e3 : ((wX h).f0.toNat : Int) = h.e2 := Int.toNat_of_nonneg x0
   have e4 : ((wX h).f1.toNat : Int) = h.p2 := Int.toNat_of_nonneg (by have : 1 ≤ h.p2 := x2; show 0 ≤ h.p2; omega)
   rw [← Int.ofNat_lt, Int.natCast_mul, Int.natCast_mul, e1, e2, e3, e4]
  by_cases hlt : wt (wN h) < wt (wX h)
  ·rw [if_pos (key.2 hlt), if_pos ⟨ha, hlt⟩]
   rfl
  ·rw [if_neg (fun c => hlt (key.1 c)), if_neg (fun c => hlt c.2)]
   rfl
 ·rw [if_neg ha, if_neg (fun c => ha c.1)]
  rfl
theorem rdH (l : List (Int × Hd)) (i : Nat) (hi : i < l.length) : rd_T60 (l.map rowH) (i : Int) = rowH l[i] := by
 unfold rd_T60
 rw [Int.toNat_natCast, List.getD_eq_getElem?_getD, List.getElem?_eq_getElem (by simpa using hi), List.getElem_map]
 rfl
theorem weights_l (l : List (Int × Hd)) (hl : l.length ≤ 100000) (ho : ∀ z ∈ l, okH z.2) (hs : SmallL l) (d : Nat) : ∀ (i : Nat), i + d = l.length →
  Tell (fun k => regattaref12_weights.l0 k (l.map rowH) ((l.take i).map fun z => hv z.2) (i : Int)) (l.map fun z => hv z.2) := by
 induction d with
 | zero =>
  intro i hi
  rw [List.take_of_length_le (by omega)]
  exact Tell.step (g := fun _ => some (l.map fun z => hv z.2)) (fun k => by rw [regattaref12_weights.l0, if_neg (by simp; omega)]) (Tell.const _)
 | succ d ih =>
  intro i hi
  have hlt : i < l.length := by omega
  have hm := List.getElem_mem hlt
  refine Tell.step (g := fun k => regattaref12_weights.l0 k (l.map rowH) (((l.take i).map fun z => hv z.2) ++ [hv (l[i]).2]) ((i + 1 : Nat) : Int)) (fun k => by
   have e1 : regattaref12_holds.f (rowH l[i]).f0 (rowH l[i]).f1.f0 (rowH l[i]).f1.f1 (rowH l[i]).f2.f0 (rowH l[i]).f2.f1 (rowH l[i]).f3 = some ((hv (l[i]).2).f0, (hv (l[i]).2).f1) := holds_f _ _ (ho _ hm) (hs _ hm)
   rw [regattaref12_weights.l0, if_pos (by simp; omega), if_pos (by omega), rdH l i hlt, e1, Option.bind_some, if_pos (by simp; omega), QBits.w64 (by omega) (by omega)]
   rfl) ?_
  have h := ih (i + 1) (by omega)
  rw [← List.take_append_getElem hlt, List.map_append] at h
  exact h
theorem weights_t (l : List (Int × Hd)) (hl : l.length ≤ 100000) (ho : ∀ z ∈ l, okH z.2) (hs : SmallL l) : ∃ k, regattaref12_weights.f k (l.map rowH) = some (l.map fun z => hv z.2) :=
 (weights_l l hl ho hs l.length 0 (by omega)).get
theorem rdW (l : List S34) (i : Nat) (hi : i < l.length) : rd_T34 l (i : Int) = l[i] := by
 unfold rd_T34
 rw [Int.toNat_natCast, List.getD_eq_getElem?_getD, List.getElem?_eq_getElem hi]
 rfl
theorem rsum_l (l : List S34) (hl : l.length ≤ 500) (ho : ∀ x ∈ l, okW x) (d : Nat) : ∀ (i j n e : Nat), i + d = l.length → F j n → F j e → 0 < e → j + 3 * d ≤ 1800 →
  ∃ N E, Tell (fun k => regattaref03_Sum.l0 k l (i : Int) (limbs n) (limbs e)) (limbs N, limbs E) ∧ F (j + 3 * d) N ∧ F (j + 3 * d) E ∧ 0 < E ∧ mkRat (N : Int) E = mkRat (n : Int) e + sumR (l.drop i) := by
 induction d with
 | zero =>
  intro i j n e hi hn he h0 _
  rw [List.drop_of_length_le (by omega)]
  exact ⟨n, e, Tell.step (g := fun _ => some (limbs n, limbs e)) (fun k => by rw [regattaref03_Sum.l0, if_neg (by omega)]) (Tell.const _), hn, he, h0, (Rat.add_zero _).symm⟩
 | succ d ih =>
  intro i j n e hi hn he h0 hj
  have hlt : i < l.length := by omega
  have hx := ho l[i] (List.getElem_mem hlt)
  obtain ⟨f0, f1⟩ := okW_F hx
  have hp := okW_pos hx
  have hc := F_cross hn he f0 f1
  have hm := he.mul f1
  obtain ⟨N, E, h1, h2, h3, h4, h5⟩ := ih (i + 1) (j + 3) _ _ (by omega) (hc.mono (by omega)) (hm.mono (by omega)) (Nat.mul_pos h0 hp) (by omega)
  refine ⟨N, E, ?_, by rw [show j + 3 * (d + 1) = j + 3 + 3 * d by omega]; exact h2, by rw [show j + 3 * (d + 1) = j + 3 + 3 * d by omega]; exact h3, h4, ?_⟩
  ·refine Tell.step (fun k => by rw [regattaref03_Sum.l0, if_pos (by omega), if_pos (by omega), rdW l i hlt, QBits.w64 (by omega) (by omega)]) ?_
   exact Tell.bind (r3of_t _ hx) (Tell.bind (r3plus_t j 1 n e _ _ hn he f0 f1 (by omega)) h1)
  ·rw [h5, List.drop_eq_getElem_cons hlt, ← mk_add n e _ _ h0 hp]
   exact Rat.add_assoc _ _ _
theorem rheld_t (l : List (Int × Hd)) (hl : l.length ≤ 500) (ho : ∀ z ∈ l, okH z.2) : ∃ N E, (∃ k, regattaref03_Sum.f k (l.map fun z => hv z.2) = some (limbs N, limbs E)) ∧ F 1600 N ∧ F 1600 E ∧ 0 < E ∧ mkRat (N : Int) E = heldL l := by
 have ho' : ∀ x ∈ l.map (fun z => hv z.2), okW x := fun x hx => by
  obtain ⟨y, hy, rfl⟩ := List.mem_map.1 hx
  exact hv_ok (ho y hy)
 have hl' : (l.map fun z => hv z.2).length = l.length := List.length_map _
 obtain ⟨N, E, h1, h2, h3, h4, h5⟩ := rsum_l (l.map fun z => hv z.2) (by omega) ho' l.length 0 1 0 1 (by omega) (F.one (by omega)) (F.one (by omega)) (by omega) (by omega)
 refine ⟨N, E, (Tell.of (fun k => by rw [regattaref03_Sum.f, show limbs 0 = [] by unfold limbs; rfl, show limbs 1 = [1] by unfold limbs; unfold limbs; rfl]; rfl) h1).get, h2.mono (by omega), h3.mono (by omega), h4, ?_⟩
 rw [h5, List.drop_zero]
 exact Rat.zero_add _
def atI (l : List (Int × Hd)) (z : Int) : Int := match l.findIdx? (fun y => decide (y.1 = z)) with | some k => (k : Int) | none => -1
theorem at_none {l : List (Int × Hd)} {z : Int} (h : ∀ y ∈ l, y.1 ≠ z) : atI l z = -1 := by
 unfold atI
 rw [List.findIdx?_eq_none_iff.2 (fun y hy => by simpa using h y hy)]
theorem at_some {a b : List (Int × Hd)} {z : Int} {h : Hd} (ha : ∀ y ∈ a, y.1 ≠ z) : atI (a ++ (z, h) :: b) z = (a.length : Int) := by
 unfold atI
 rw [List.findIdx?_append, List.findIdx?_eq_none_iff.2 (fun y hy => by simpa using ha y hy)]
 simp [List.findIdx?_cons]
theorem has_none {l : List (Int × Hd)} {z : Int} (h : hasL l z = false) : ∀ y ∈ l, y.1 ≠ z := fun y hy e => by
 unfold hasL at h
 rw [List.any_eq_false] at h
 exact h y hy (by simp [e])
end Go.Proofs.Ytfldklimlcnnnaa.QRef12
end

section
namespace Go.Proofs.Ytfldklimlcnnnaa.XRef12
open Go.RowKit Go.Shelf Go.Proofs.Ytfldklimlcnnnaa.PHq Go.Proofs.YtfldklimlcnnnaaW.PrintWords Go.Proofs.YtfldklimlcnnnaaW.PrintLast Go.Proofs.YtfldklimlcnnnaaW.PrintMore Go.Proofs.Ytfldklimlcnnnaa.MWords
open Go.Proofs.Ytfldklimlcnnnaa.MNat Go.Proofs.Ytfldklimlcnnnaa.QNat Go.Proofs.Ytfldklimlcnnnaa.QText Go.Proofs.Ytfldklimlcnnnaa.QEv Go.Proofs.Ytfldklimlcnnnaa.QRatio Go.Proofs.Ytfldklimlcnnnaa.XRV Go.Proofs.Ytfldklimlcnnnaa.XHold Go.Proofs.Ytfldklimlcnnnaa.XWts Go.Proofs.Ytfldklimlcnnnaa.XLed Go.Proofs.Ytfldklimlcnnnaa.XPuts Go.Proofs.Ytfldklimlcnnnaa.XNew Go.Proofs.Ytfldklimlcnnnaa.XFits Go.Proofs.Ytfldklimlcnnnaa.XJoin Go.Proofs.Ytfldklimlcnnnaa.XMeth Go.Proofs.Ytfldklimlcnnnaa.XAsk Go.Proofs.Ytfldklimlcnnnaa.XEnd Go.Proofs.Ytfldklimlcnnnaa.XAwake Go.Proofs.Ytfldklimlcnnnaa.QHold Go.Proofs.Ytfldklimlcnnnaa.XLeft Go.Proofs.Ytfldklimlcnnnaa.QLeft Go.Proofs.Ytfldklimlcnnnaa.QRef12
structure RL (W : World) (gr base : Nat) (x y : Value) (l : List (Int × Hd)) : Prop where
 out : ∃ v, MBlk W gr 57 #[x, y, v] ∧ Kd.R k60 60 W base (fun _ => True) v (l.map rowH)
 shape : (∃ A n c, x = .slice A n c) ∧ ∃ A n c, y = .slice A n c
theorem RL.below {W W' : World} {gr base : Nat} {x y : Value} {l : List (Int × Hd)} (h : RL W gr base x y l) (hb : Below W.heap.size W W') : RL W' gr base x y l := by
 obtain ⟨v, h1, h2⟩ := h.out
 exact ⟨⟨v, (hb.block _ (mblk_lt h1)).trans h1, Kd.R_below h2 hb⟩, h.shape⟩
structure KR (gr base : Nat) (W W' : World) : Prop where
 os : W'.os = W.os
 tape : W'.tape = W.tape
 output : W'.output = W.output
 size : W.heap.size ≤ W'.heap.size
 same : ∀ k, k < W.heap.size → k ≠ gr → (base ≤ k → ∀ cs, W.heap[k]? ≠ some (.cells cs 60 (0, 0))) → W'.heap[k]? = W.heap[k]?
 limbs : ∀ (p : Addr) (n : Int), W.cell? p = some (.int .u32 n) → W'.cell? p = some (.int .u32 n)
theorem KR.of {gr base : Nat} {W W' : World} (h : Below W.heap.size W W') : KR gr base W W' :=
 ⟨h.os, h.tape, h.output, h.size, fun k hk _ _ => h.block k hk, fun p n hp => (h.cell (World.block_lt_of_cell? W _ hp)).trans hp⟩
theorem KR.trans {gr base : Nat} {X Y Z : World} (h : KR gr base X Y) (k : KR gr base Y Z) : KR gr base X Z :=
 ⟨k.os.trans h.os, k.tape.trans h.tape, k.output.trans h.output, Nat.le_trans h.size k.size, fun i hi h1 h2 => by
  have e := h.same i hi h1 h2
  exact (k.same i (Nat.lt_of_lt_of_le hi h.size) h1 (fun hb cs => by rw [e]; exact h2 hb cs)).trans e, fun p n hp => k.limbs p n (h.limbs p n hp)⟩
theorem KR.below {gr base : Nat} {w X Y : World} (h : Below w.heap.size w X) (hg : w.heap.size ≤ gr) (hb : w.heap.size ≤ base) (hk : KR gr base X Y) : Below w.heap.size w Y :=
 ⟨hk.os.trans h.os, hk.tape.trans h.tape, hk.output.trans h.output, Nat.le_trans h.size hk.size, fun k hlt => (hk.same k (Nat.lt_of_lt_of_le hlt h.size) (by omega) (fun h2 => by omega)).trans (h.block k hlt)⟩
theorem C_limbs {W W' : World} {A : Option Addr} {n : Nat} {xs : List Int} (h : Kd.C (Kd.int .u32) W A n xs) (hk : ∀ (p : Addr) (n : Int), W.cell? p = some (.int .u32 n) → W'.cell? p = some (.int .u32 n)) : Kd.C (Kd.int .u32) W' A n xs :=
 ⟨h.1, h.2.1, fun hp => by
  obtain ⟨ad, e, hc⟩ := h.2.2 hp
  refine ⟨ad, e, fun j p hj => ?_⟩
  obtain ⟨c, hl, hK, hcell⟩ := hc j p hj
  refine ⟨c, hl, hK, fun i u hi => ?_⟩
  have := hcell i u hi
  obtain rfl : c = [.int .u32 p] := hK
  cases i with
  | zero =>
   obtain rfl : Value.int .u32 p = u := by simpa using hi
   exact hk _ _ this
  | succ i => simp at hi⟩
theorem RV.limbs {W W' : World} {x y : Value} {a b : List Int} (h : RV W x y a b) (hk : ∀ (p : Addr) (n : Int), W.cell? p = some (.int .u32 n) → W'.cell? p = some (.int .u32 n)) : RV W' x y a b := by
 obtain ⟨⟨A, c, e1, h1, h2⟩, A', c', e3, h3, h4⟩ := h
 exact ⟨⟨A, c, e1, h1, C_limbs h2 hk⟩, A', c', e3, h3, C_limbs h4 hk⟩
theorem noLimb_rl {W : World} {gr : Nat} {A1 A2 A3 : Option Addr} {n1 n2 n3 c1 c2 c3 : Nat} (h : MBlk W gr 57 #[.slice A1 n1 c1, .slice A2 n2 c2, .slice A3 n3 c3]) : NoLimb W gr := by
 intro p hp n hc
 unfold World.cell? at hc
 rw [hp, show W.heap[gr]? = _ from h] at hc
 simp only at hc
 split at hc
 ·cases hc
 ·match ho : p.off, hc with
  | 0, hc => simp at hc
  | 1, hc => simp at hc
  | 2, hc => simp at hc
  | k + 3, hc => simp at hc
theorem limbs_of {W W' : World} (h : ∀ k, k < W.heap.size → ¬ NoLimb W k → W'.heap[k]? = W.heap[k]?) (p : Addr) (n : Int) (hp : W.cell? p = some (.int .u32 n)) : W'.cell? p = some (.int .u32 n) := by
 have hlt := World.block_lt_of_cell? W _ hp
 have e := h p.block hlt (fun hn => hn p rfl n hp)
 unfold World.cell? at hp ⊢
 rw [e]
 exact hp
theorem RL.put {W : World} {gr base : Nat} {x y v : Value} {l l' : List (Int × Hd)} (h : RL W gr base x y l) (hR : Kd.R k60 60 W base (fun _ => True) v (l'.map rowH)) :
  RL (W.setCell ⟨gr, 2, none⟩ v) gr base x y l' ∧ KR gr base W (W.setCell ⟨gr, 2, none⟩ v) := by
 obtain ⟨u, h1, h2⟩ := h.out
 obtain ⟨⟨A1, n1, c1, rfl⟩, A2, n2, c2, rfl⟩ := h.shape
 obtain ⟨A3, c3, rfl⟩ := Kd.R_slice h2
 have hn := noLimb_rl h1
 have hs : ∀ k, k ≠ gr → (W.setCell ⟨gr, 2, none⟩ v).heap[k]? = W.heap[k]? := fun k hk => Below.heap_setCell _ ⟨gr, 2, none⟩ _ k hk
 exact ⟨⟨⟨v, mblk_set h1 2 v, Kd.R_set hR h1 (by decide) 2 v⟩, ⟨⟨_, _, _, rfl⟩, _, _, _, rfl⟩⟩,
  ⟨by simp [World.setCell], by simp [World.setCell], by simp [World.setCell], by simp [World.setCell], fun k _ hk _ => hs k hk, limbs_of (fun k _ hk => hs k (fun e => hk (by rw [e]; exact hn)))⟩⟩
theorem Led.kr {W W' : World} {g b gr base : Nat} {all q : Rat} {l l' : List (Int × Hd)} {x y : Value} (h : Led W g b all q l) (hr : RL W gr base x y l') (hk : KR gr base W W') : Led W' g b all q l := by
 obtain ⟨x1, y1, u1, v1, h1, h2, h3⟩ := h.cells
 obtain ⟨vr, r1, _⟩ := hr.out
 obtain ⟨es, c, h4⟩ := h.map.obj
 have e1 : W'.heap[g]? = W.heap[g]? := hk.same g (mblk_lt h1) (mblk_ne h1 r1 (by decide)) (fun _ cs e => by
  rw [show W.heap[g]? = _ from h1] at e
  simp at e)
 have e2 : W'.heap[b]? = W.heap[b]? := hk.same b h.map.lt (fun e => by subst e; rw [show W.heap[b]? = _ from r1] at h4; cases h4) (fun _ cs e => by rw [h4] at e; cases e)
 exact ⟨⟨x1, y1, u1, v1, e1.trans h1, RV.limbs h2 hk.limbs, RV.limbs h3 hk.limbs⟩, h.map.kept e2⟩
theorem RL.kp {W W' : World} {g b gr base : Nat} {all q : Rat} {l l' : List (Int × Hd)} {x y : Value} (hr : RL W gr base x y l') (h : Led W g b all q l) (hk : Kp g b W W') : RL W' gr base x y l' := by
 obtain ⟨x1, y1, u1, v1, h1, h2, h3⟩ := h.cells
 obtain ⟨vr, r1, r2⟩ := hr.out
 obtain ⟨es, c, h4⟩ := h.map.obj
 refine ⟨⟨vr, QHold.Led.keep h hk r1 (by decide), ?_⟩, hr.shape⟩
 refine Kd.R_mono (Kd.R_step (Kd.R_bound r2) (fun k hk1 hlt => hk.same k hlt (fun e => ?_) (fun e => ?_))) (fun _ _ => trivial)
 ·obtain ⟨_, _, _, t, ht, cs, hc⟩ := hk1
  subst e
  rw [show W.heap[k]? = _ from h1] at hc
  simp at hc
  have := hc.2
  subst this
  revert ht
  decide
 ·obtain ⟨_, _, _, t, ht, cs, hc⟩ := hk1
  subst e
  rw [h4] at hc
  cases hc
theorem RL.keep {X Y : World} {gr base m : Nat} {x y : Value} {l : List (Int × Hd)} {t : TypeId} {cs : Array Value} (h : RL X gr base x y l) (hk : KR gr base X Y) (hm : MBlk X m t cs) (h1 : t ≠ 57) (h2 : t ≠ 60) : MBlk Y m t cs := by
 obtain ⟨_, r1, _⟩ := h.out
 refine (hk.same m (mblk_lt hm) (mblk_ne hm r1 h1) (fun _ c e => ?_)).trans hm
 rw [show X.heap[m]? = _ from hm] at e
 simp at e
 exact h2 e.2
set_option maxRecDepth 100000 in
set_option maxHeartbeats 4000000 in
theorem at_calls (gr base : Nat) (x y : Value) (l : List (Int × Hd)) (z : Int) (w : World) (h : RL w gr base x y l) (hl : l.length ≤ 100000) :
  Calls Try.prog 35 #[.pointer (some ⟨gr, 0, none⟩), .int .i64 z] w fun e w' => e = .returned (.int .i64 (atI l z)) ∧ w' = w := by
 obtain ⟨v, hM, hR⟩ := h.out
 obtain ⟨A, c, rfl, hc, hC⟩ := Kd.R_reads hR
 rw [List.length_map] at hC hc hM hR
 have k2 : w.cell? ⟨gr, 2, none⟩ = some (.slice A l.length c) := (mblk_cell hM 2).trans (by simp)
 have HC := Aside0.mk hC
 clear hM hR hC h
 go_enter Try.func35, Try.ntmps35
 go_wp2_with fail
 go_loopw [5] (fun v5 wr => ∃ i : Nat, v5 = .int .i64 i ∧ i ≤ l.length ∧ Aside0 (∀ y ∈ l.take i, y.1 ≠ z) ∧ w = wr) (fun v5 _ => l.length - (intOf v5).toNat)
 case atStart => exact ⟨0, rfl, by omega, ⟨by simp⟩, by first | rfl | trivial⟩
 case round =>
  obtain ⟨i, rfl, hi, hn, rfl⟩ := hrel
  by_cases hlt : i < l.length
  ·have d1 : decide ((i : Int) < (l.length : Int)) = true := decide_eq_true (by omega)
   obtain ⟨ad, e, a0, _⟩ := at_T60 HC.out (i : Int) (by omega) (by omega)
   subst e
   rw [rdH l i hlt, Int.toNat_natCast] at a0
   obtain ⟨q, hq⟩ : ∃ q, q = (l[i]).1 := ⟨_, rfl⟩
   have a0' : w.cell? (ad.add (i * 6)) = some (.int .i64 q) := by rw [a0, hq]; rfl
   clear a0
   have HQ := Aside0.mk hq
   clear hq
   by_cases he : q = z
   ·have d2 : (q == z) = true := by rw [he]; exact beq_self_eq_true _
    have HE := Aside0.mk he
    clear he
    go_wp2_with fail
    refine bodyPost_ret (results_tmp rfl _ _ _) rfl ⟨?_, rfl⟩
    have e1 : l = l.take i ++ (z, (l[i]).2) :: l.drop (i + 1) := by
     rw [show (z, (l[i]).2) = l[i] by rw [← HE.out, HQ.out], List.getElem_cons_drop, List.take_append_drop]
    have e2 : atI l z = (i : Int) := by
     rw [e1, at_some hn.out, List.length_take]
     congr 1
     omega
    rw [e2]
    rfl
   ·have d2 : (q == z) = false := beq_eq_false_iff_ne.2 he
    have HE := Aside0.mk he
    clear he
    go_wp2_with fail
    go_roundw
    case rel =>
     refine ⟨i + 1, by simp, by omega, ⟨fun y hy => ?_⟩, by first | rfl | trivial⟩
     rw [← List.take_append_getElem hlt] at hy
     rcases List.mem_append.1 hy with hy | hy
     ·exact hn.out y hy
     ·obtain rfl := List.mem_singleton.1 hy
      rw [← HQ.out]
      exact HE.out
    case measure => simp [intOf]; omega
  ·have d1 : decide ((i : Int) < (l.length : Int)) = false := decide_eq_false (by omega)
   go_wp2_with fail
   refine bodyPost_ret (results_tmp rfl _ _ _) rfl ⟨?_, rfl⟩
   rw [at_none (fun y hy => hn.out y (by rw [List.take_of_length_le (by omega)]; exact hy))]
   rfl
theorem rweights_rv (A : Option Addr) (c : Nat) (l : List (Int × Hd)) (w : World) (hC : Kd.C k60 w A l.length (l.map rowH)) (hc : l.length ≤ c) (hl : l.length ≤ 500) (ho : ∀ z ∈ l, okH z.2) (hs : SmallL l) :
  Calls Try.prog 80 #[.slice A l.length c] w fun e w' => ∃ (A' : Option Addr) (c' : Nat), e = .returned (.slice A' (l.map fun z => hv z.2).length c') ∧ ((l.map fun z => hv z.2).length ≤ c' ∧ Kd.C k34 w' A' (l.map fun z => hv z.2).length (l.map fun z => hv z.2)) ∧ Below w.heap.size w w' := by
 obtain ⟨k, hk⟩ := weights_t l (by omega) ho hs
 have h := regattaref12_weights.calls k A c (l.map rowH) _ w (by rw [List.length_map]; exact hC) (by rw [List.length_map]; exact hc) hk
 rw [List.length_map] at h
 refine h.mono fun e w' ⟨v, he, h1, hb⟩ => ?_
 obtain ⟨A', c', rfl, h2⟩ := Kd.R_reads h1
 exact ⟨A', c', he, h2, hb⟩
theorem rsum_rv {k : Nat} {W : World} {A : Option Addr} {c : Nat} {l : List S34} {r1 r2 : List Int} (h : l.length ≤ c ∧ Kd.C k34 W A l.length l) (hf : regattaref03_Sum.f k l = some (r1, r2)) :
  Calls Try.prog 79 #[.slice A l.length c] W fun e w' => ∃ p q : Value, e = .returned (.agg #[p, q]) ∧ RV w' p q r1 r2 ∧ Below W.heap.size W w' :=
 (regattaref03_Sum.calls k A c l r1 r2 W h.2 h.1 hf).mono fun e w' ⟨p, q, he, h1, h2, hb⟩ => ⟨p, q, he, RV.ofR h1 h2, hb⟩
set_option maxRecDepth 100000 in
set_option maxHeartbeats 4000000 in

theorem rheld_calls (gr base : Nat) (x y : Value) (l : List (Int × Hd)) (n e : Nat) (k : Nat) (w : World) (h : RL w gr base x y l) (hl : l.length ≤ 500) (ho : ∀ z ∈ l, okH z.2) (hs : SmallL l) (hk : regattaref03_Sum.f k (l.map fun z => hv z.2) = some (limbs n, limbs e)) :
  Calls Try.prog 37 #[.pointer (some ⟨gr, 0, none⟩)] w fun e' w' => ∃ p q : Value, e' = .returned (.agg #[p, q]) ∧ RV w' p q (limbs n) (limbs e) ∧ Below w.heap.size w w' := by
 obtain ⟨v, hM, hR⟩ := h.out
 obtain ⟨A, c, rfl, hc, hC⟩ := Kd.R_reads hR
 rw [List.length_map] at hC hc hM hR
 obtain ⟨W0, hW0⟩ : ∃ W0, W0 = w.alloc (.cells #[.slice none 0 0, .slice none 0 0] 28) := ⟨_, rfl⟩
 have hb0 : Below w.heap.size w W0 := by rw [hW0]; exact below_alloc (Below.refl _ _) _
 have HB0 := Aside0.mk hb0
 have HR0 := Aside0.mk (show MBlk W0 w.heap.size 28 #[.slice none 0 0, .slice none 0 0] by rw [hW0]; exact mblk_new _ _ _)
 have k2 : W0.cell? ⟨gr, 2, none⟩ = some (.slice A l.length c) := (mblk_cell ((hb0.block _ (mblk_lt hM)).trans hM) 2).trans (by simp)
 have HC := Aside0.mk (And.intro (Kd.C_below hC hb0) hc)
 have HH := Aside0.mk (And.intro hl (And.intro ho (And.intro hs hk)))
 generalize limbs n = ln at *
 generalize limbs e = le at *
 clear hM hR hC hc h hb0 hl ho hs hk
 go_enter Try.func37, Try.ntmps37
 go_upto_region 1 with fail
 rw [← hW0]
 clear hW0
 obtain ⟨ws, hws⟩ : ∃ ws, ws = l.map fun z => hv z.2 := ⟨_, rfl⟩
 have HWS := Aside0.mk hws
 clear hws
 go_wp2_with (first
  | (go_at_call 80; refine (rweights_rv A c l _ HC.out.1 HC.out.2 HH.out.1 HH.out.2.1 HH.out.2.2.1).mono ?_; rw [← HWS.out]; rintro e1 w1 ⟨A1, c1, rfl, h1, hb⟩; have HB1 := Aside0.mk (below_step HB0.out hb); have HR1 := Aside0.mk ((hb.block _ (mblk_lt HR0.out)).trans HR0.out); have H1 := Aside0.mk h1; clear h1 hb)
  | (go_at_call 79; refine (rsum_rv H1.out (show regattaref03_Sum.f k ws = some (ln, le) by rw [HWS.out]; exact HH.out.2.2.2)).mono ?_; rintro e2 w2 ⟨p, q, rfl, h2, hb⟩; obtain ⟨P1, p1, P2, p2, rfl, rfl⟩ := h2.shape; have HB2 := Aside0.mk (below_step HB1.out hb); have HR2 := Aside0.mk ((hb.block _ (mblk_lt HR1.out)).trans HR1.out); have H2 := Aside0.mk h2; have z0 : w2.cell? ⟨w.heap.size, 0, none⟩ = some (.slice none 0 0) := (mblk_cell HR2.out 0).trans rfl; have z1 : w2.cell? ⟨w.heap.size, 1, none⟩ = some (.slice none 0 0) := (mblk_cell HR2.out 1).trans rfl; have f0 : w2.frozen? ⟨w.heap.size, 0, none⟩ = false := mblk_frozen HR2.out 0; have f1 : w2.frozen? ⟨w.heap.size, 1, none⟩ = false := mblk_frozen HR2.out 1; clear h2 hb k2))
 obtain ⟨w5, hw5⟩ : ∃ w5, w5 = (w2.setCell ⟨w.heap.size, 0, none⟩ (.slice P1 ln.length p1)).setCell ⟨w.heap.size, 1, none⟩ (.slice P2 le.length p2) := ⟨_, rfl⟩
 have HQ : MBlk w5 w.heap.size 28 #[.slice P1 ln.length p1, .slice P2 le.length p2] ∧ RV w5 (.slice P1 ln.length p1) (.slice P2 le.length p2) ln le ∧ Below w.heap.size w w5 := by
  have hn := noLimb_box HR2.out
  have hs : ∀ k, k ≠ w.heap.size → w5.heap[k]? = w2.heap[k]? := fun k hk => by rw [hw5]; exact (Below.heap_setCell _ ⟨w.heap.size, 1, none⟩ _ k hk).trans (Below.heap_setCell _ ⟨w.heap.size, 0, none⟩ _ k hk)
  refine ⟨by rw [hw5]; exact mblk_set (mblk_set HR2.out 0 _) 1 _, H2.out.near (fun k _ h => hs k (fun e => h (by rw [e]; exact hn))), ?_⟩
  rw [hw5]
  exact (HB2.out.setCell (p := ⟨w.heap.size, 0, none⟩) (Nat.le_refl _) _).setCell (p := ⟨w.heap.size, 1, none⟩) (Nat.le_refl _) _
 rw [← hw5]
 have e0 : w5.cell? ⟨w.heap.size, 0, none⟩ = some (.slice P1 ln.length p1) := (mblk_cell HQ.1 0).trans rfl
 have e1 : w5.cell? ⟨w.heap.size, 1, none⟩ = some (.slice P2 le.length p2) := (mblk_cell HQ.1 1).trans rfl
 exact bodyPost_ret (v := .agg #[.slice P1 ln.length p1, .slice P2 le.length p2]) (by simp [results, Try.results37, go_sem, e0, e1]) rfl ⟨_, _, rfl, HQ.2.1, HQ.2.2⟩
set_option maxRecDepth 100000 in
set_option maxHeartbeats 4000000 in

theorem rfits_calls (gr base : Nat) (x y : Value) (l0 l : List (Int × Hd)) (A : Option Addr) (c n d : Nat) (w : World) (h : RL w gr base x y l0) (hV : RV w x y (limbs n) (limbs d)) (hn : n < 18446744073709551616) (hd : d < 18446744073709551616) (hd0 : 0 < d) (hC : Kd.C k60 w A l.length (l.map rowH)) (hc : l.length ≤ c) (hl : l.length ≤ 500) (ho : ∀ z ∈ l, okH z.2) (hs : SmallL l) :
  Calls Try.prog 78 #[.pointer (some ⟨gr, 0, none⟩), .slice A l.length c] w fun e' w' => e' = .returned (.bool (decide (heldL l ≤ mkRat (n : Int) d))) ∧ Below w.heap.size w w' := by
 have mixed : Try.prog.follows Departure.mixedOrders = true := by kernel_rfl
 obtain ⟨v, hM, _⟩ := h.out
 obtain ⟨N, E, ⟨k, hk⟩, fN, fE, hE, hq⟩ := rheld_t l hl ho
 obtain ⟨k1, hk1⟩ := (r3cmp_t 1600 2 N E n d fN fE (F_u64 hn) (F_u64 hd) (by omega) hE hd0).get
 rw [hq] at hk1
 have HB := Aside0.mk (cmp_le (p := heldL l) (q := mkRat (n : Int) d))
 obtain ⟨C, hCq⟩ : ∃ C, C = cmpR (heldL l) (mkRat (n : Int) d) := ⟨_, rfl⟩
 rw [← hCq] at hk1 HB
 generalize decide (heldL l ≤ mkRat (n : Int) d) = B at *
 have hCB := HB.out
 clear hCq HB hq fN fE hE hn hd hd0
 generalize limbs N = lN at *
 generalize limbs E = lE at *
 generalize limbs n = ln at *
 generalize limbs d = ld at *
 obtain ⟨X1, x1, X2, x2, rfl, rfl⟩ := hV.shape
 have HM := Aside0.mk hM
 have HV := Aside0.mk hV
 have HH := Aside0.mk (And.intro hC (And.intro hc (And.intro hl (And.intro ho (And.intro hs (And.intro hk hk1))))))
 obtain ⟨ws, hws⟩ : ∃ ws, ws = l.map fun z => hv z.2 := ⟨_, rfl⟩
 have HWS := Aside0.mk hws
 have z0 : w.cell? ⟨gr, 0, none⟩ = some (.slice X1 ln.length x1) := (mblk_cell hM 0).trans (by simp)
 have z1 : w.cell? ⟨gr, 1, none⟩ = some (.slice X2 ld.length x2) := (mblk_cell hM 1).trans (by simp)
 clear hM hV hC hc hl ho hs hk hk1 h hws
 go_enter Try.func78, Try.ntmps78
 go_upto_region 1 with fail
 go_region_held3 (fun w' => w'.cell? ⟨gr, 0, none⟩ = some (.slice X1 ln.length x1) ∧ w'.cell? ⟨gr, 1, none⟩ = some (.slice X2 ld.length x2))
  (first | (exact ⟨z0, z1⟩) | go_keep)
  (first
   | (go_at_call 80; refine (rweights_rv A c l _ (Kd.C_below HH.out.1 (below_drew (Below.refl _ _))) HH.out.2.1 HH.out.2.2.1 HH.out.2.2.2.1 HH.out.2.2.2.2.1).mono ?_; rw [← HWS.out]; rintro e1 w1 ⟨A1, c1, rfl, h1, hb⟩; have hbb : Below w.heap.size w w1 := below_step (below_drew (Below.refl _ _)) hb; have HB1 := Aside0.mk hbb; have H1 := Aside0.mk h1; have z0 : w1.cell? ⟨gr, 0, none⟩ = some (.slice X1 ln.length x1) := (mblk_cell ((hbb.block _ (mblk_lt HM.out)).trans HM.out) 0).trans (by simp); have z1 : w1.cell? ⟨gr, 1, none⟩ = some (.slice X2 ld.length x2) := (mblk_cell ((hbb.block _ (mblk_lt HM.out)).trans HM.out) 1).trans (by simp); clear h1 hb hbb)
   | (go_at_call 79; refine (rsum_rv H1.out (show regattaref03_Sum.f k ws = some (lN, lE) by rw [HWS.out]; exact HH.out.2.2.2.2.2.1)).mono ?_; rintro e2 w2 ⟨p, q, rfl, h2, hb⟩; obtain ⟨P1, p1, P2, p2, rfl, rfl⟩ := h2.shape; have hbb : Below w.heap.size w w2 := below_step HB1.out hb; have HB2 := Aside0.mk hbb; have H2 := Aside0.mk h2; have z0 : w2.cell? ⟨gr, 0, none⟩ = some (.slice X1 ln.length x1) := (mblk_cell ((hbb.block _ (mblk_lt HM.out)).trans HM.out) 0).trans (by simp); have z1 : w2.cell? ⟨gr, 1, none⟩ = some (.slice X2 ld.length x2) := (mblk_cell ((hbb.block _ (mblk_lt HM.out)).trans HM.out) 1).trans (by simp); clear h2 hb hbb H1 HB1)
   | (go_at_call 19; refine (rcmp_rv H2.out (HV.out.below HB2.out) HH.out.2.2.2.2.2.2).mono ?_; rintro e3 w3 ⟨rfl, hb⟩; have hbb : Below w.heap.size w w3 := below_step HB2.out hb; have HB3 := Aside0.mk hbb; have z0 : w3.cell? ⟨gr, 0, none⟩ = some (.slice X1 ln.length x1) := (mblk_cell ((hbb.block _ (mblk_lt HM.out)).trans HM.out) 0).trans (by simp); have z1 : w3.cell? ⟨gr, 1, none⟩ = some (.slice X2 ld.length x2) := (mblk_cell ((hbb.block _ (mblk_lt HM.out)).trans HM.out) 1).trans (by simp); clear hb hbb H2 HB2))
 all_goals
  go_wp2_with fail
  exact bodyPost_ret (results_tmp rfl _ _ _) rfl ⟨rfl, HB3.out⟩
end Go.Proofs.Ytfldklimlcnnnaa.XRef12
end

section
namespace Go.Proofs.Ytfldklimlcnnnaa.XRJoin
open Go.RowKit Go.Shelf Go.Proofs.Ytfldklimlcnnnaa.PHq Go.Proofs.YtfldklimlcnnnaaW.PrintWords Go.Proofs.YtfldklimlcnnnaaW.PrintLast Go.Proofs.YtfldklimlcnnnaaW.PrintMore Go.Proofs.Ytfldklimlcnnnaa.MWords
open Go.Proofs.Ytfldklimlcnnnaa.MNat Go.Proofs.Ytfldklimlcnnnaa.QNat Go.Proofs.Ytfldklimlcnnnaa.QText Go.Proofs.Ytfldklimlcnnnaa.QEv Go.Proofs.Ytfldklimlcnnnaa.QRatio Go.Proofs.Ytfldklimlcnnnaa.XRV Go.Proofs.Ytfldklimlcnnnaa.XHold Go.Proofs.Ytfldklimlcnnnaa.XWts Go.Proofs.Ytfldklimlcnnnaa.XLed Go.Proofs.Ytfldklimlcnnnaa.XPuts Go.Proofs.Ytfldklimlcnnnaa.XNew Go.Proofs.Ytfldklimlcnnnaa.XFits Go.Proofs.Ytfldklimlcnnnaa.XJoin Go.Proofs.Ytfldklimlcnnnaa.XMeth Go.Proofs.Ytfldklimlcnnnaa.XAsk Go.Proofs.Ytfldklimlcnnnaa.XEnd Go.Proofs.Ytfldklimlcnnnaa.XAwake Go.Proofs.Ytfldklimlcnnnaa.QHold Go.Proofs.Ytfldklimlcnnnaa.XLeft Go.Proofs.Ytfldklimlcnnnaa.QLeft Go.Proofs.Ytfldklimlcnnnaa.QRef12 Go.Proofs.Ytfldklimlcnnnaa.XRef12 Go.Proofs.Ytfldklimlcnnnaa.XOp
attribute [local go_sem ↓] Go.wp_at_zero Go.wp_at_succ
theorem infoH : (Try.prog.info? 60).map (fun i => (i.zero, i.size, i.bytes)) = some (some (.agg #[.int .i64 0, .int .i64 0, .int .i64 0, .int .i64 0, .int .i64 0, .bool false]), 6, 48) := by kernel_rfl
theorem rcheck_f (x : S34) : regattaref04_Check.f x.f0 x.f1 = some (mayW x) := by
 unfold regattaref04_Check.f mayW
 by_cases h1 : x.f0 ≥ 1
 ·by_cases h2 : x.f0 ≤ x.f1
  ·simp [h1, h2]
  ·simp [h1, h2]
 ·simp [h1]
theorem R_empty (w : World) (base : Nat) (hb : base ≤ w.heap.size) : Kd.R k60 60 (w.alloc (.cells #[] 60)) base (fun _ => True) (.slice (some ⟨w.heap.size, 0, none⟩) 0 0) [] :=
 ⟨fun _ _ => trivial, [], World.ownsRow_made w #[] 0 hb (by decide) (by simp), Reps.none _ _⟩
theorem rows_M {w : World} {base : Nat} {A : Option Addr} {n : Nat} {xs : List S60} (h : Kd.C k60 w A n xs) : ReadsRow (k60.M w base (fun _ => False)) k60.sz w A n xs :=
 ReadsRow.imp_ h (Below.refl _ _) (fun x cs hp => by obtain rfl := k60_open hp; exact k60_mkM _ _ _ x)
theorem C_lit {w : World} {g : Nat} (x : S60) (h : MBlk w g 60 #[.int .i64 x.f0, .int .i64 x.f1.f0, .int .i64 x.f1.f1, .int .i64 x.f2.f0, .int .i64 x.f2.f1, .bool x.f3]) : Kd.C k60 w (some ⟨g, 0, none⟩) 1 [x] := by
 refine ⟨rfl, by decide, fun _ => ⟨_, rfl, fun j p hj => ?_⟩⟩
 match j, hj with
 | 0, hj =>
  obtain rfl : x = p := by simpa using hj
  refine ⟨_, rfl, k60_mk w x, fun i u hi => ?_⟩
  have e := mblk_cell h i
  rw [show (⟨g, 0, none⟩ : Addr).add (0 * k60.sz + i) = ⟨g, i, none⟩ by simp [Addr.add] <;> omega]
  rw [e]
  simpa using hi
 | j + 1, hj => simp at hj
set_option maxRecDepth 100000 in
set_option maxHeartbeats 4000000 in
theorem rjoin_calls (gr base : Nat) (x y : Value) (l : List (Int × Hd)) (z : Int) (X : S34) (n d : Nat) (w : World) (h : RL w gr base x y l) (hV : RV w x y (limbs n) (limbs d)) (hn : n < 18446744073709551616) (hd : d < 18446744073709551616) (hd0 : 0 < d) (hG : GoodL l) (hs : SmallL l) (hl : l.length < 490) (hb : base ≤ w.heap.size) :
  Calls Try.prog 36 #[.pointer (some ⟨gr, 0, none⟩), .int .i64 z, .agg #[.int .i64 X.f0, .int .i64 X.f1]] w fun e w' => e = .returned (.int .i64 (joinE (mkRat (n : Int) d) (heldL l) l z X)) ∧ RL w' gr base x y (joinL (mkRat (n : Int) d) (heldL l) l z X) ∧ KR gr base w w' := by
 have mixed : Try.prog.follows Departure.mixedOrders = true := by kernel_rfl
 obtain ⟨all, hall⟩ : ∃ all, all = mkRat (n : Int) d := ⟨_, rfl⟩
 rw [← hall]
 have HALL := Aside0.mk hall
 obtain ⟨W0, hW0⟩ : ∃ W0, W0 = w.alloc (.cells #[.int .i64 X.f0, .int .i64 X.f1] 34) := ⟨_, rfl⟩
 have hb0 : Below w.heap.size w W0 := by rw [hW0]; exact below_alloc (Below.refl _ _) _
 have HX0 := Aside0.mk (show MBlk W0 w.heap.size 34 #[.int .i64 X.f0, .int .i64 X.f1] by rw [hW0]; exact mblk_new _ _ _)
 have HB0 := Aside0.mk hb0
 have HR0 := Aside0.mk (h.below hb0)
 have HV0 := Aside0.mk (hV.below hb0)
 have HA := Aside0.mk (And.intro hn (And.intro hd (And.intro hd0 (And.intro hG (And.intro hs (And.intro hl hb))))))
 have HC := Aside0.mk (rcheck_f X)
 clear h hV hn hd hd0 hG hs hl hb0 hall
 go_enter Try.func36, Try.ntmps36
 go_upto_region 1 with fail
 rw [← hW0]
 clear hW0
 have x0 : W0.cell? ⟨w.heap.size, 0, none⟩ = some (.int .i64 X.f0) := (mblk_cell HX0.out 0).trans rfl
 have x1 : W0.cell? ⟨w.heap.size, 1, none⟩ = some (.int .i64 X.f1) := (mblk_cell HX0.out 1).trans rfl
 by_cases hm : mayW X = true
 case neg =>
  have hm' : mayW X = false := by simpa using hm
  have HE := Aside0.mk (show joinE all (heldL l) l z X = 1 by unfold joinE; rw [if_pos hm'])
  clear hm
  go_wp2_with (go_at_call 77; refine (regattaref04_Check.calls X.f0 X.f1 _ _ HC.out).mono ?_; rw [hm']; rintro e w3 ⟨rfl, hb3⟩; have HB3 := Aside0.mk hb3; clear hb3)
  refine bodyPost_ret (results_tmp rfl _ _ _) rfl ⟨by rw [HE.out]; rfl, ?_, (KR.of HB0.out).trans (KR.of HB3.out)⟩
  rw [joinL_same (by rw [HE.out]; decide)]
  exact HR0.out.below HB3.out
 have HM := Aside0.mk hm
 have HAI := Aside0.mk (And.intro HA.out.2.2.2.2.2.1 trivial)
 by_cases hh : hasL l z = true
 ·have HE := Aside0.mk (show joinE all (heldL l) l z X = 14 by unfold joinE; rw [if_neg (by simp [HM.out]), if_pos hh])
  have d1 : decide (0 ≤ atI l z) = true := by
   unfold atI
   cases hf : l.findIdx? (fun y => decide (y.1 = z)) with
   | some k => exact decide_eq_true (by simp)
   | none =>
    rw [List.findIdx?_eq_none_iff] at hf
    unfold hasL at hh
    rw [List.any_eq_true] at hh
    obtain ⟨y, hy, he⟩ := hh
    rw [hf y hy] at he
    cases he
  generalize hI : atI l z = I at d1
  have HI := Aside0.mk hI
  clear hI hh
  rw [hm] at HC
  go_wp2_with (first
   | (go_at_call 77; refine (regattaref04_Check.calls X.f0 X.f1 _ _ HC.out).mono ?_; rintro e w3 ⟨rfl, hb3⟩; have HB3 := Aside0.mk hb3; clear hb3 HC)
   | (go_at_call 35; refine (at_calls gr base x y l z _ (HR0.out.below HB3.out) (by have := HA.out.2.2.2.2.2.1; omega)).mono ?_; rw [HI.out]; rintro e w4 ⟨rfl, rfl⟩))
  refine bodyPost_ret (results_tmp rfl _ _ _) rfl ⟨by rw [HE.out]; rfl, ?_, (KR.of HB0.out).trans (KR.of HB3.out)⟩
  rw [joinL_same (by rw [HE.out]; decide)]
  exact HR0.out.below HB3.out
 have hh' : hasL l z = false := by simpa using hh
 have HH := Aside0.mk hh'
 have HAT := Aside0.mk (at_none (has_none hh'))
 clear hh hh'
 rw [hm] at HC
 go_upto_region 6 with (first
  | (go_at_call 77; refine (regattaref04_Check.calls X.f0 X.f1 _ _ HC.out).mono ?_; rintro e w3 ⟨rfl, hb3⟩; have HB3 := Aside0.mk hb3; clear hb3 HC)
  | (go_at_call 35; refine (at_calls gr base x y l z _ (HR0.out.below HB3.out) (by have := HA.out.2.2.2.2.2.1; omega)).mono ?_; rw [HAT.out]; rintro e w4 ⟨rfl, rfl⟩))
 have HR4 := Aside0.mk (HR0.out.below HB3.out)
 have HB4 := Aside0.mk (below_step HB0.out HB3.out)
 have HV4 := Aside0.mk (HV0.out.below HB3.out)
 have HX4 := Aside0.mk (show MBlk w4 w.heap.size 34 _ from (HB3.out.block _ (mblk_lt HX0.out)).trans HX0.out)
 clear HR0 HB0 HV0 HX0 HB3 x0 x1 hm
 obtain ⟨K, hK⟩ : ∃ K : Hd, K = ⟨X.f0, X.f1, 0, 0, false⟩ := ⟨_, rfl⟩
 have HK := Aside0.mk hK
 have hRow : rowH (z, K) = ⟨z, ⟨X.f0, X.f1⟩, ⟨0, 0⟩, false⟩ := by rw [hK]; rfl
 have HRow := Aside0.mk hRow
 clear hRow hK
 go_cut [8] (fun v8 wc => ∃ A c, v8 = .slice A (l ++ [(z, K)]).length c ∧ Aside0 (Kd.R k60 60 wc w4.heap.size (fun _ => True) v8 ((l ++ [(z, K)]).map rowH)) ∧ Aside0 (Below w4.heap.size w4 wc))
 case first =>
  obtain ⟨v, hM, hR⟩ := HR4.out.out
  obtain ⟨A, c, rfl, hc, hC⟩ := Kd.R_reads hR
  rw [List.length_map] at hC hc hM hR
  have HM4 := Aside0.mk hM
  have HC4 := Aside0.mk hC
  have k2 : w4.cell? ⟨gr, 2, none⟩ = some (.slice A l.length c) := (mblk_cell hM 2).trans (by simp)
  have x0 : w4.cell? ⟨w.heap.size, 0, none⟩ = some (.int .i64 X.f0) := (mblk_cell HX4.out 0).trans rfl
  have x1 : w4.cell? ⟨w.heap.size, 1, none⟩ = some (.int .i64 X.f1) := (mblk_cell HX4.out 1).trans rfl
  clear hM hR hC hc
  obtain ⟨bx, hbx⟩ : ∃ bx, bx = l.map rowH ++ [(⟨z, ⟨X.f0, X.f1⟩, ⟨0, 0⟩, false⟩ : S60)] := ⟨_, rfl⟩
  have HJN := Aside0.mk hbx
  have HBX := Aside0.mk (show bx = (l ++ [(z, K)]).map rowH by rw [hbx, List.map_append, List.map_cons, HRow.out]; rfl)
  clear hbx
  go_region_held3 (fun w' => w'.cell? ⟨gr, 2, none⟩ = some (.slice A l.length c) ∧ w'.cell? ⟨w.heap.size, 0, none⟩ = some (.int .i64 X.f0) ∧ w'.cell? ⟨w.heap.size, 1, none⟩ = some (.int .i64 X.f1))
   (first | (exact ⟨k2, x0, x1⟩) | go_keep)
   (first
    | (refine Kd.R_append_rows_step k60 (w0 := w4) w4.heap.size (by rfl) (.tmp 18) (.tmp 22) 55 60 (.agg #[.int .i64 0, .int .i64 0, .int .i64 0, .int .i64 0, .int .i64 0, .bool false]) 48 (by rfl) Try.underlying55 infoH rfl (by decide) (by omega) (.slice (some ⟨w4.heap.size, 0, none⟩) 0 0) [] (l.map rowH) A l.length c (fun _ => True) (fun _ => False) (by rfl) (by rfl) (R_empty w4.drew w4.heap.size (Nat.le_refl _)) (rows_M (Kd.C_below HC4.out (below_alloc (below_drew (Below.refl _ _)) _))) (fun _ _ h => h) (fun _ h => h.elim) (fun _ _ => trivial) (below_alloc (below_drew (Below.refl _ _)) _) (by simp <;> omega) (by have := HA.out.2.2.2.2.2.1; simp; omega) ?_; intro v1 w5_ hR hbb hg _; rw [List.nil_append] at hR; have HR5 := Aside0.mk hR; have HB5 := Aside0.mk hbb; have k2 : w5_.cell? ⟨gr, 2, none⟩ = some (.slice A l.length c) := (mblk_cell ((hbb.block _ (mblk_lt HM4.out)).trans HM4.out) 2).trans (by simp); have x0 : w5_.cell? ⟨w.heap.size, 0, none⟩ = some (.int .i64 X.f0) := (mblk_cell ((hbb.block _ (mblk_lt HX4.out)).trans HX4.out) 0).trans rfl; have x1 : w5_.cell? ⟨w.heap.size, 1, none⟩ = some (.int .i64 X.f1) := (mblk_cell ((hbb.block _ (mblk_lt HX4.out)).trans HX4.out) 1).trans rfl; clear hR hbb hg)
    | (refine Kd.R_append_rows_step k60 (w0 := w4) w4.heap.size (by rfl) (.tmp 18) (.tmp 22) 55 60 (.agg #[.int .i64 0, .int .i64 0, .int .i64 0, .int .i64 0, .int .i64 0, .bool false]) 48 (by rfl) Try.underlying55 infoH rfl (by decide) (by omega) (.slice (some ⟨w4.heap.size, 0, none⟩) 0 0) [] (l.map rowH) A l.length c (fun _ => True) (fun _ => False) (by rfl) (by rfl) (Kd.R_alloc (R_empty w4.drew w4.heap.size (Nat.le_refl _)) _) (rows_M (Kd.C_below HC4.out (below_alloc (below_alloc (below_drew (Below.refl _ _)) _) _))) (fun _ _ h => h) (fun _ h => h.elim) (fun _ _ => trivial) (below_alloc (below_alloc (below_drew (Below.refl _ _)) _) _) (by simp <;> omega) (by have := HA.out.2.2.2.2.2.1; simp; omega) ?_; intro v1 w5_ hR hbb hg _; rw [List.nil_append] at hR; have HR5 := Aside0.mk hR; have HB5 := Aside0.mk hbb; have k2 : w5_.cell? ⟨gr, 2, none⟩ = some (.slice A l.length c) := (mblk_cell ((hbb.block _ (mblk_lt HM4.out)).trans HM4.out) 2).trans (by simp); have x0 : w5_.cell? ⟨w.heap.size, 0, none⟩ = some (.int .i64 X.f0) := (mblk_cell ((hbb.block _ (mblk_lt HX4.out)).trans HX4.out) 0).trans rfl; have x1 : w5_.cell? ⟨w.heap.size, 1, none⟩ = some (.int .i64 X.f1) := (mblk_cell ((hbb.block _ (mblk_lt HX4.out)).trans HX4.out) 1).trans rfl; have HLIT := Aside0.mk (show MBlk w5_ (w4.heap.size + 1) 60 #[.int .i64 z, .int .i64 X.f0, .int .i64 X.f1, .int .i64 0, .int .i64 0, .bool false] from (hg.block _ (by simp) (by simp [Value.ownBlock])).trans (by rw [show w4.heap.size + 1 = (w4.drew.alloc (.cells #[] 60)).heap.size by simp]; exact mblk_new _ _ _)); clear hR hbb hg)
    | (refine Kd.R_append_rows_step k60 (w0 := w4) w4.heap.size (by rfl) (.tmp 18) (.tmp 22) 55 60 (.agg #[.int .i64 0, .int .i64 0, .int .i64 0, .int .i64 0, .int .i64 0, .bool false]) 48 (by rfl) Try.underlying55 infoH rfl (by decide) (by omega) (.slice (some ⟨w4.heap.size + 1, 0, none⟩) 0 0) [] (l.map rowH) A l.length c (fun _ => True) (fun _ => False) (by rfl) (by rfl) (by rw [show w4.heap.size + 1 = (w4.drew.alloc (.cells #[.int .i64 z, .int .i64 X.f0, .int .i64 X.f1, .int .i64 0, .int .i64 0, .bool false] 60)).heap.size by simp]; exact R_empty _ w4.heap.size (by simp)) (rows_M (Kd.C_below HC4.out (below_alloc (below_alloc (below_drew (Below.refl _ _)) _) _))) (fun _ _ h => h) (fun _ h => h.elim) (fun _ _ => trivial) (below_alloc (below_alloc (below_drew (Below.refl _ _)) _) _) (by simp <;> omega) (by have := HA.out.2.2.2.2.2.1; simp; omega) ?_; intro v1 w5_ hR hbb hg _; rw [List.nil_append] at hR; have HR5 := Aside0.mk hR; have HB5 := Aside0.mk hbb; have k2 : w5_.cell? ⟨gr, 2, none⟩ = some (.slice A l.length c) := (mblk_cell ((hbb.block _ (mblk_lt HM4.out)).trans HM4.out) 2).trans (by simp); have x0 : w5_.cell? ⟨w.heap.size, 0, none⟩ = some (.int .i64 X.f0) := (mblk_cell ((hbb.block _ (mblk_lt HX4.out)).trans HX4.out) 0).trans rfl; have x1 : w5_.cell? ⟨w.heap.size, 1, none⟩ = some (.int .i64 X.f1) := (mblk_cell ((hbb.block _ (mblk_lt HX4.out)).trans HX4.out) 1).trans rfl; have HLIT := Aside0.mk (show MBlk w5_ w4.heap.size 60 #[.int .i64 z, .int .i64 X.f0, .int .i64 X.f1, .int .i64 0, .int .i64 0, .bool false] from (hg.block _ (by simp; omega) (by simp [Value.ownBlock])).trans (mblk_alloc (mblk_new w4.drew 60 #[.int .i64 z, .int .i64 X.f0, .int .i64 X.f1, .int .i64 0, .int .i64 0, .bool false]) _)); clear hR hbb hg)
    | (refine Kd.R_append_rows_step k60 (w0 := w4) w4.heap.size (by rfl) (.tmp 23) (.tmp 27) 55 60 (.agg #[.int .i64 0, .int .i64 0, .int .i64 0, .int .i64 0, .int .i64 0, .bool false]) 48 (by rfl) Try.underlying55 infoH rfl (by decide) (by omega) _ (l.map rowH) [(⟨z, ⟨X.f0, X.f1⟩, ⟨0, 0⟩, false⟩ : S60)] _ 1 1 (fun _ => True) (fun _ => False) (by rfl) (by rfl) (Kd.R_alloc HR5.out _) (rows_M (C_lit ((⟨z, ⟨X.f0, X.f1⟩, ⟨0, 0⟩, false⟩ : S60)) (mblk_new _ _ _))) (fun _ _ h => h) (fun _ h => h.elim) (fun _ _ => trivial) (below_alloc HB5.out _) (Nat.le_trans HB5.out.size (by simp)) (by have := HA.out.2.2.2.2.2.1; simp; omega) ?_; intro v2 w6_ hR hbb hg _; rw [← HJN.out] at hR; obtain ⟨A6, c6, rfl⟩ := Kd.R_slice hR; have HR6 := Aside0.mk hR; have HB6_ := Aside0.mk hbb; have k2 : w6_.cell? ⟨gr, 2, none⟩ = some (.slice A l.length c) := (mblk_cell ((hbb.block _ (mblk_lt HM4.out)).trans HM4.out) 2).trans (by simp); have x0 : w6_.cell? ⟨w.heap.size, 0, none⟩ = some (.int .i64 X.f0) := (mblk_cell ((hbb.block _ (mblk_lt HX4.out)).trans HX4.out) 0).trans rfl; have x1 : w6_.cell? ⟨w.heap.size, 1, none⟩ = some (.int .i64 X.f1) := (mblk_cell ((hbb.block _ (mblk_lt HX4.out)).trans HX4.out) 1).trans rfl; clear hR hbb hg HR5 HB5)
    | (refine Kd.R_append_rows_step k60 (w0 := w4) w4.heap.size (by rfl) (.tmp 23) (.tmp 27) 55 60 (.agg #[.int .i64 0, .int .i64 0, .int .i64 0, .int .i64 0, .int .i64 0, .bool false]) 48 (by rfl) Try.underlying55 infoH rfl (by decide) (by omega) _ (l.map rowH) [(⟨z, ⟨X.f0, X.f1⟩, ⟨0, 0⟩, false⟩ : S60)] _ 1 1 (fun _ => True) (fun _ => False) (by rfl) (by rfl) (HR5.out) (rows_M (C_lit ((⟨z, ⟨X.f0, X.f1⟩, ⟨0, 0⟩, false⟩ : S60)) HLIT.out)) (fun _ _ h => h) (fun _ h => h.elim) (fun _ _ => trivial) (HB5.out) (Nat.le_trans HB5.out.size (by simp)) (by have := HA.out.2.2.2.2.2.1; simp; omega) ?_; intro v2 w6_ hR hbb hg _; rw [← HJN.out] at hR; obtain ⟨A6, c6, rfl⟩ := Kd.R_slice hR; have HR6 := Aside0.mk hR; have HB6_ := Aside0.mk hbb; have k2 : w6_.cell? ⟨gr, 2, none⟩ = some (.slice A l.length c) := (mblk_cell ((hbb.block _ (mblk_lt HM4.out)).trans HM4.out) 2).trans (by simp); have x0 : w6_.cell? ⟨w.heap.size, 0, none⟩ = some (.int .i64 X.f0) := (mblk_cell ((hbb.block _ (mblk_lt HX4.out)).trans HX4.out) 0).trans rfl; have x1 : w6_.cell? ⟨w.heap.size, 1, none⟩ = some (.int .i64 X.f1) := (mblk_cell ((hbb.block _ (mblk_lt HX4.out)).trans HX4.out) 1).trans rfl; clear hR hbb hg HR5 HB5))
  all_goals
   go_wp2_with fail
   go_meet
   case rel => exact ⟨A6, c6, by rw [HBX.out, List.length_map], ⟨by rw [← HBX.out]; exact HR6.out⟩, HB6_⟩
 case rest =>
  obtain ⟨A8, c8, rfl, HR8, HB8⟩ := hcut
  skip
  have HRL := Aside0.mk (HR4.out.below HB8.out)
  have HVL := Aside0.mk (HV4.out.below HB8.out)
  obtain ⟨bl, hbl⟩ : ∃ bl, bl = l ++ [(z, K)] := ⟨_, rfl⟩
  have HBL := Aside0.mk hbl
  rw [← hbl] at HR8
  rw [← hbl]
  have HSET := Aside0.mk (show setL l z K = bl by rw [hbl]; exact set_new HH.out K)
  have HGB := Aside0.mk (show GoodL bl by rw [← HSET.out]; exact set_good HA.out.2.2.2.1 (by have := HA.out.2.2.2.2.2.1; omega) ⟨by rw [HK.out]; exact may_ok HM.out, fun k => by rw [HK.out] at k; cases k⟩)
  have HSB := Aside0.mk (show SmallL bl by rw [← HSET.out]; exact small_set HA.out.2.2.2.2.1 ⟨by rw [HK.out]; exact may_small HM.out, fun k => by rw [HK.out] at k; cases k⟩)
  have HLB := Aside0.mk (show bl.length ≤ 500 by have := HA.out.2.2.2.2.2.1; rw [hbl]; simp; omega)
  obtain ⟨Bf, hBf⟩ : ∃ Bf, Bf = decide (heldL bl ≤ mkRat (n : Int) d) := ⟨_, rfl⟩
  have HBF := Aside0.mk hBf
  have HEQ := Aside0.mk (show joinE all (heldL l) l z X = if Bf = false then 18 else 0 by
   have e1 : heldL bl = heldL l + wt X := by
    rw [← HSET.out, held_new HH.out, HK.out]
    rfl
   rw [join_new (held_nonneg l) HM.out HH.out, hBf, e1, ← HALL.out]
   by_cases hle : heldL l + wt X ≤ all
   ·rw [if_pos hle, decide_eq_true hle]; rfl
   ·rw [if_neg hle, decide_eq_false hle]; rfl)
  clear hbl hBf
  go_upto_if 33 with (go_at_call 78; go_loud (refine (rfits_calls gr base x y l bl A8 c8 n d wc HRL.out HVL.out HA.out.1 HA.out.2.1 HA.out.2.2.1 (by have := (Kd.R_reads' HR8.out).2.2; rw [List.length_map] at this; exact this) (Kd.R_reads' HR8.out).2.1 HLB.out HGB.out.ok HSB.out).mono ?_); rw [← HBF.out]; rintro e w9 ⟨rfl, hb9⟩; have HB9 := Aside0.mk hb9; clear hb9)
  have HR9 := Aside0.mk (HRL.out.below HB9.out)
  have HW9 := Aside0.mk (Kd.R_lower (Kd.R_below HR8.out HB9.out) (show base ≤ w4.heap.size from Nat.le_trans HA.out.2.2.2.2.2.2 HB4.out.size))
  have HK9 := Aside0.mk ((KR.of (gr := gr) (base := base) HB4.out).trans ((KR.of HB8.out).trans (KR.of HB9.out)))
  clear HRL HVL HR8
  cases Bf with
  | false =>
   have HE := Aside0.mk (show joinE all (heldL l) l z X = 18 from HEQ.out)
   go_wp2_with fail
   refine bodyPost_ret (results_tmp rfl _ _ _) rfl ⟨by rw [HE.out]; rfl, ?_, HK9.out⟩
   rw [joinL_same (by rw [HE.out]; decide)]
   exact HR9.out
  | true =>
   have HE := Aside0.mk (show joinE all (heldL l) l z X = 0 from HEQ.out)
   obtain ⟨v, hM, _⟩ := HR9.out.out
   have g2 : w9.cell? ⟨gr, 2, none⟩ = some v := (mblk_cell hM 2).trans (by simp)
   have f2 : w9.frozen? ⟨gr, 2, none⟩ = false := mblk_frozen hM 2
   have HP := Aside0.mk (RL.put HR9.out HW9.out)
   clear hM
   go_wp2_with fail
   refine bodyPost_ret (results_tmp rfl _ _ _) rfl ⟨by rw [HE.out]; rfl, ?_, HK9.out.trans HP.out.2⟩
   unfold joinL
   rw [HE.out, if_pos rfl, show setL l z ⟨X.f0, X.f1, 0, 0, false⟩ = bl by rw [← HSET.out, HK.out]]
   exact HP.out.1
end Go.Proofs.Ytfldklimlcnnnaa.XRJoin
end

section
namespace Go.Proofs.Ytfldklimlcnnnaa.XRSet
open Go.RowKit Go.Shelf Go.Proofs.Ytfldklimlcnnnaa.PHq Go.Proofs.YtfldklimlcnnnaaW.PrintWords Go.Proofs.YtfldklimlcnnnaaW.PrintLast Go.Proofs.YtfldklimlcnnnaaW.PrintMore Go.Proofs.Ytfldklimlcnnnaa.MWords
open Go.Proofs.Ytfldklimlcnnnaa.MNat Go.Proofs.Ytfldklimlcnnnaa.QNat Go.Proofs.Ytfldklimlcnnnaa.QText Go.Proofs.Ytfldklimlcnnnaa.QEv Go.Proofs.Ytfldklimlcnnnaa.QRatio Go.Proofs.Ytfldklimlcnnnaa.XRV Go.Proofs.Ytfldklimlcnnnaa.XHold Go.Proofs.Ytfldklimlcnnnaa.XWts Go.Proofs.Ytfldklimlcnnnaa.XLed Go.Proofs.Ytfldklimlcnnnaa.XPuts Go.Proofs.Ytfldklimlcnnnaa.XNew Go.Proofs.Ytfldklimlcnnnaa.XFits Go.Proofs.Ytfldklimlcnnnaa.XJoin Go.Proofs.Ytfldklimlcnnnaa.XMeth Go.Proofs.Ytfldklimlcnnnaa.XAsk Go.Proofs.Ytfldklimlcnnnaa.XEnd Go.Proofs.Ytfldklimlcnnnaa.XAwake Go.Proofs.Ytfldklimlcnnnaa.QHold Go.Proofs.Ytfldklimlcnnnaa.XLeft Go.Proofs.Ytfldklimlcnnnaa.QLeft Go.Proofs.Ytfldklimlcnnnaa.QRef12 Go.Proofs.Ytfldklimlcnnnaa.XRef12 Go.Proofs.Ytfldklimlcnnnaa.XOp Go.Proofs.Ytfldklimlcnnnaa.XRJoin
theorem split_all {l : List (Int × Hd)} (hn : NodK l) {z : Int} {h : Hd} (e : getL l z = some h) : ∃ a b, l = a ++ (z, h) :: b ∧ (∀ y ∈ a, y.1 ≠ z) ∧ (∀ k, setL l z k = a ++ (z, k) :: b) ∧ delL l z = a ++ b := by
 obtain ⟨a, b, rfl, ha, hb⟩ := get_split hn e
 refine ⟨a, b, rfl, ha, fun k => ?_, ?_⟩
 ·unfold setL
  rw [if_pos (by rw [getL_has, e]; rfl), List.map_append, List.map_cons, map_far ha, map_far hb]
  simp
 ·unfold delL
  rw [List.filter_append, List.filter_cons, filter_far ha, filter_far hb]
  simp
def cellsH (z : Int) (h : Hd) : List Value := [.int .i64 z, .int .i64 h.e, .int .i64 h.p, .int .i64 h.e2, .int .i64 h.p2, .bool h.a]
theorem R_row {W : World} {base g n cap : Nat} {a b : List (Int × Hd)} {z : Int} {h : Hd} (hR : Kd.R k60 60 W base (fun _ => True) (.slice (some ⟨g, 0, none⟩) n cap) ((a ++ (z, h) :: b).map rowH)) :
  (∀ j u, (cellsH z h)[j]? = some u → W.cell? ⟨g, a.length * 6 + j, none⟩ = some u) ∧ (∀ j, W.frozen? ⟨g, a.length * 6 + j, none⟩ = false) ∧ n = (a ++ (z, h) :: b).length := by
 have hn := (Kd.R_reads' hR).1
 rw [List.length_map] at hn
 obtain ⟨c, hcl, hM, hc, hf⟩ := Kd.R_elem hR (rowH (z, h)) (a.length : Int) (by omega) (by rw [hn]; simp; omega)
 have hrow : ((a ++ (z, h) :: b).map rowH).getD (a.length : Int).toNat (rowH (z, h)) = rowH (z, h) := by
  rw [Int.toNat_natCast, List.getD_eq_getElem?_getD, List.getElem?_map, List.getElem?_append_right (Nat.le_refl _)]
  simp
 rw [hrow] at hM
 obtain rfl := k60_openM hM
 exact ⟨fun j u hj => hc j u hj, fun j => hf j, hn⟩
theorem R_turn {W : World} {base g n cap : Nat} {a b : List (Int × Hd)} {z : Int} {h k : Hd} (hR : Kd.R k60 60 W base (fun _ => True) (.slice (some ⟨g, 0, none⟩) n cap) ((a ++ (z, h) :: b).map rowH)) (j : Nat) (seg : List Value) (hj : j + seg.length ≤ 6) (hs : (cellsH z h).take j ++ seg ++ (cellsH z h).drop (j + seg.length) = cellsH z k) :
  Kd.R k60 60 (W.setCells g (a.length * 6 + j) seg) base (fun _ => True) (.slice (some ⟨g, 0, none⟩) n cap) ((a ++ (z, k) :: b).map rowH) ∧ W.grownBy (W.setCells g (a.length * 6 + j) seg) (some g) := by
 obtain ⟨hc, _, hn⟩ := R_row hR
 have h1 := Kd.R_seg (okp := fun _ => False) hR (a.length : Int) (by omega) (by rw [hn]; simp; omega) (c := cellsH z h) (seg := seg) (j := j) rfl (fun j u hj => hc j u hj) hj (x' := rowH (z, k)) (by rw [hs]; exact k60_mkM _ _ _ (rowH (z, k))) (fun _ hk => hk.elim)
 have e : ((a ++ (z, h) :: b).map rowH).set (a.length : Int).toNat (rowH (z, k)) = (a ++ (z, k) :: b).map rowH := by
  rw [Int.toNat_natCast, List.map_append, List.map_append, List.set_append_right _ _ (by simp)]
  simp
 rw [e] at h1
 exact h1
end Go.Proofs.Ytfldklimlcnnnaa.XRSet
end

section
namespace Go.Proofs.Ytfldklimlcnnnaa.XRAsk
open Go.RowKit Go.Shelf Go.Proofs.Ytfldklimlcnnnaa.PHq Go.Proofs.YtfldklimlcnnnaaW.PrintWords Go.Proofs.YtfldklimlcnnnaaW.PrintLast Go.Proofs.YtfldklimlcnnnaaW.PrintMore Go.Proofs.Ytfldklimlcnnnaa.MWords
open Go.Proofs.Ytfldklimlcnnnaa.MNat Go.Proofs.Ytfldklimlcnnnaa.QNat Go.Proofs.Ytfldklimlcnnnaa.QText Go.Proofs.Ytfldklimlcnnnaa.QEv Go.Proofs.Ytfldklimlcnnnaa.QRatio Go.Proofs.Ytfldklimlcnnnaa.XRV Go.Proofs.Ytfldklimlcnnnaa.XHold Go.Proofs.Ytfldklimlcnnnaa.XWts Go.Proofs.Ytfldklimlcnnnaa.XLed Go.Proofs.Ytfldklimlcnnnaa.XPuts Go.Proofs.Ytfldklimlcnnnaa.XNew Go.Proofs.Ytfldklimlcnnnaa.XFits Go.Proofs.Ytfldklimlcnnnaa.XJoin Go.Proofs.Ytfldklimlcnnnaa.XMeth Go.Proofs.Ytfldklimlcnnnaa.XAsk Go.Proofs.Ytfldklimlcnnnaa.XEnd Go.Proofs.Ytfldklimlcnnnaa.XAwake Go.Proofs.Ytfldklimlcnnnaa.QHold Go.Proofs.Ytfldklimlcnnnaa.XLeft Go.Proofs.Ytfldklimlcnnnaa.QLeft Go.Proofs.Ytfldklimlcnnnaa.QRef12 Go.Proofs.Ytfldklimlcnnnaa.XRef12 Go.Proofs.Ytfldklimlcnnnaa.XOp Go.Proofs.Ytfldklimlcnnnaa.XRJoin Go.Proofs.Ytfldklimlcnnnaa.XRSet
theorem ask_held {all : Rat} {l : List (Int × Hd)} {z : Int} {h : Hd} {X : S34} (hn : NodK l) (e : getL l z = some h) (ha : h.a = false) : fitsQ all (heldL l) (wt (hv (asks h X))) (wt (wN h)) = decide (heldL (setL l z (asks h X)) ≤ all) := by
 have h1 := held_old hn e (asks h X)
 have h2 : hv h = wN h := by unfold hv; rw [if_neg (fun c => by rw [ha] at c; cases c.1)]
 rw [h2] at h1
 have h3 : wt (wN h) ≤ wt (hv (asks h X)) := by
  have e1 : wN (asks h X) = wN h := rfl
  unfold hv
  by_cases hlt : wt (wN (asks h X)) < wt (wX (asks h X))
  ·rw [if_pos ⟨rfl, hlt⟩]
   rw [e1] at hlt
   grind
  ·rw [if_neg (fun c => hlt c.2), e1]
   grind
 have h4 := held_nonneg l
 unfold fitsQ
 generalize heldL (setL l z (asks h X)) = s at *
 generalize heldL l = q at *
 generalize wt (hv (asks h X)) = m at *
 generalize wt (wN h) = v at *
 rw [decide_eq_true (show v ≤ q + m by grind), Bool.true_and]
 exact decide_eq_decide.2 (by constructor <;> intro k <;> grind)
set_option maxRecDepth 100000 in
set_option maxHeartbeats 4000000 in
theorem rask_calls (gr base : Nat) (x y : Value) (l : List (Int × Hd)) (z : Int) (X : S34) (n d : Nat) (w : World) (h : RL w gr base x y l) (hV : RV w x y (limbs n) (limbs d)) (hn : n < 18446744073709551616) (hd : d < 18446744073709551616) (hd0 : 0 < d) (hG : GoodL l) (hs : SmallL l) (hl : l.length < 490) (hb : base ≤ w.heap.size) (hk : NodK l) :
  Calls Try.prog 31 #[.pointer (some ⟨gr, 0, none⟩), .int .i64 z, .agg #[.int .i64 X.f0, .int .i64 X.f1]] w fun e w' => e = .returned (.int .i64 (askE (mkRat (n : Int) d) (heldL l) l z X)) ∧ RL w' gr base x y (askL (mkRat (n : Int) d) (heldL l) l z X) ∧ KR gr base w w' := by
 have mixed : Try.prog.follows Departure.mixedOrders = true := by kernel_rfl
 obtain ⟨all, hall⟩ : ∃ all, all = mkRat (n : Int) d := ⟨_, rfl⟩
 rw [← hall]
 have HALL := Aside0.mk hall
 have hsame : askE all (heldL l) l z X ≠ 0 → askL all (heldL l) l z X = l := askL_same
 have HSAME := Aside0.mk hsame
 clear hsame
 obtain ⟨W0, hW0⟩ : ∃ W0, W0 = w.alloc (.cells #[.int .i64 X.f0, .int .i64 X.f1] 34) := ⟨_, rfl⟩
 have hb0 : Below w.heap.size w W0 := by rw [hW0]; exact below_alloc (Below.refl _ _) _
 have HX0 := Aside0.mk (show MBlk W0 w.heap.size 34 #[.int .i64 X.f0, .int .i64 X.f1] by rw [hW0]; exact mblk_new _ _ _)
 have HB0 := Aside0.mk hb0
 have HR0 := Aside0.mk (h.below hb0)
 have HV0 := Aside0.mk (hV.below hb0)
 have HA := Aside0.mk (And.intro hn (And.intro hd (And.intro hd0 (And.intro hG (And.intro hs (And.intro hl (And.intro hb hk)))))))
 have HC := Aside0.mk (rcheck_f X)
 clear h hV hn hd hd0 hG hs hl hb0 hall hk hb
 go_enter Try.func31, Try.ntmps31
 go_upto_region 1 with fail
 rw [← hW0]
 clear hW0
 have x0 : W0.cell? ⟨w.heap.size, 0, none⟩ = some (.int .i64 X.f0) := (mblk_cell HX0.out 0).trans rfl
 have x1 : W0.cell? ⟨w.heap.size, 1, none⟩ = some (.int .i64 X.f1) := (mblk_cell HX0.out 1).trans rfl
 by_cases hm : mayW X = true
 case neg =>
  have hm' : mayW X = false := by simpa using hm
  have HE := Aside0.mk (show askE all (heldL l) l z X = 1 by unfold askE; rw [if_pos hm'])
  clear hm
  go_wp2_with (go_at_call 77; refine (regattaref04_Check.calls X.f0 X.f1 _ _ HC.out).mono ?_; rw [hm']; rintro e w3 ⟨rfl, hb3⟩; have HB3 := Aside0.mk hb3; clear hb3)
  refine bodyPost_ret (results_tmp rfl _ _ _) rfl ⟨by rw [HE.out]; rfl, ?_, (KR.of HB0.out).trans (KR.of HB3.out)⟩
  rw [HSAME.out (by rw [HE.out]; decide)]
  exact HR0.out.below HB3.out
 have HM := Aside0.mk hm
 rw [hm] at HC
 clear hm
 cases hg : getL l z with
 | none =>
  have HE := Aside0.mk (show askE all (heldL l) l z X = 12 by unfold askE; rw [if_neg (by rw [HM.out]; decide), hg])
  have HAT := Aside0.mk (at_none (has_none (by rw [getL_has, hg]; rfl)))
  clear hg
  go_wp2_with (first
   | (go_at_call 77; refine (regattaref04_Check.calls X.f0 X.f1 _ _ HC.out).mono ?_; rintro e w3 ⟨rfl, hb3⟩; have HB3 := Aside0.mk hb3; clear hb3 HC)
   | (go_at_call 35; refine (at_calls gr base x y l z _ (HR0.out.below HB3.out) (by have := HA.out.2.2.2.2.2.1; omega)).mono ?_; rw [HAT.out]; rintro e w4 ⟨rfl, rfl⟩))
  refine bodyPost_ret (results_tmp rfl _ _ _) rfl ⟨by rw [HE.out]; rfl, ?_, (KR.of HB0.out).trans (KR.of HB3.out)⟩
  rw [HSAME.out (by rw [HE.out]; decide)]
  exact HR0.out.below HB3.out
 | some h =>
  obtain ⟨a, b, hL, ha, hset, _⟩ := split_all HA.out.2.2.2.2.2.2.2 hg
  have HGET := Aside0.mk hg
  have HL := Aside0.mk hL
  have HSET := Aside0.mk (hset (asks h X))
  have HAT := Aside0.mk (show atI l z = (a.length : Int) by rw [hL]; exact at_some ha)
  have hal : a.length < l.length := by rw [hL]; simp
  clear hg hL ha hset
  go_upto_if 19 with (first
   | (go_at_call 77; refine (regattaref04_Check.calls X.f0 X.f1 _ _ HC.out).mono ?_; rintro e w3 ⟨rfl, hb3⟩; have HB3 := Aside0.mk hb3; clear hb3 HC)
   | (go_at_call 35; refine (at_calls gr base x y l z _ (HR0.out.below HB3.out) (by have := HA.out.2.2.2.2.2.1; omega)).mono ?_; rw [HAT.out]; rintro e w4 ⟨rfl, rfl⟩))
  have d0 : decide ((a.length : Int) < 0) = false := decide_eq_false (by omega)
  have HR4 := Aside0.mk (HR0.out.below HB3.out)
  have HB4 := Aside0.mk (below_step HB0.out HB3.out)
  have HV4 := Aside0.mk (HV0.out.below HB3.out)
  have HX4 := Aside0.mk (show MBlk w4 w.heap.size 34 _ from (HB3.out.block _ (mblk_lt HX0.out)).trans HX0.out)
  clear HR0 HB0 HV0 HX0 HB3 x0 x1
  obtain ⟨v, hM, hR⟩ := HR4.out.out
  have hR0 := hR
  rw [HL.out] at hR0
  obtain ⟨g0, c0, rfl, _, _, _⟩ := Kd.R_form hR0 (by simp <;> omega)
  rw [List.length_map, ← HL.out] at hR0
  obtain ⟨hc, hf, hlen⟩ := R_row (W := w4) (a := a) (b := b) (z := z) (h := h) (n := l.length) (by rw [← HL.out]; exact hR0)
  have k2 : w4.cell? ⟨gr, 2, none⟩ = some (.slice (some ⟨g0, 0, none⟩) l.length c0) := (mblk_cell hM 2).trans (by simp [HL.out])
  have c5 : w4.cell? ⟨g0, a.length * 6 + 5, none⟩ = some (.bool h.a) := hc 5 _ rfl
  have HC4 := Aside0.mk (Kd.R_reads' hR0)
  have HM4 := Aside0.mk hM
  clear hR hR0 hc hf hlen hM
  have d1 : decide ((a.length : Int) < (l.length : Int)) = true := decide_eq_true (by omega)
  have d2 : decide (0 ≤ (a.length : Int)) = true := decide_eq_true (by omega)
  cases hA : h.a with
  | true =>
   rw [hA] at c5
   have HE := Aside0.mk (show askE all (heldL l) l z X = 13 by unfold askE; rw [if_neg (by rw [HM.out]; decide), HGET.out]; exact if_pos hA)
   clear hA
   go_wp2_with fail
   refine bodyPost_ret (results_tmp rfl _ _ _) rfl ⟨by rw [HE.out]; rfl, ?_, KR.of HB4.out⟩
   rw [HSAME.out (by rw [HE.out]; decide)]
   exact HR4.out
  | false =>
   rw [hA] at c5
   have HHA := Aside0.mk hA
   clear hA
   have HCL := Aside0.mk (show Kd.C k60 w4 (some ⟨g0, 0, none⟩) l.length (l.map rowH) by have := HC4.out.2.2; rw [List.length_map] at this; exact this)
   clear HC4
   go_upto_region 9 with fail
   clear c5
   have lgr : gr < w4.heap.size := mblk_lt HM4.out
   have lgx : w.heap.size < w4.heap.size := mblk_lt HX4.out
   have x0 : w4.cell? ⟨w.heap.size, 0, none⟩ = some (.int .i64 X.f0) := (mblk_cell HX4.out 0).trans rfl
   have x1 : w4.cell? ⟨w.heap.size, 1, none⟩ = some (.int .i64 X.f1) := (mblk_cell HX4.out 1).trans rfl
   go_upto_region 10 with ((with_reducible refine gate_builtin (b := .append) (xs := #[.tmp 28, .tmp 32]) rfl ?_); at_builtin; refine Kd.R_append_rows k60 (w0 := w4) w4.heap.size rfl (.tmp 28) (.tmp 32) 55 60 (.agg #[.int .i64 0, .int .i64 0, .int .i64 0, .int .i64 0, .int .i64 0, .bool false]) 48 rfl Try.underlying55 infoH rfl (by decide) (by omega) (.slice (some ⟨w4.heap.size, 0, none⟩) 0 0) [] (l.map rowH) (some ⟨g0, 0, none⟩) l.length c0 (fun _ => True) (fun _ => False) rfl rfl (R_empty w4 w4.heap.size (Nat.le_refl _)) (rows_M (Kd.C_below HCL.out (below_alloc (Below.refl _ _) _))) (fun _ _ h => h) (fun _ h => h.elim) (fun _ _ => trivial) (below_alloc (Below.refl _ _) _) (by simp <;> omega) (by have := HA.out.2.2.2.2.2.1; simp; omega) ?_; intro v1 w5 hR hbb hg _; rw [List.nil_append] at hR; have HR5 := Aside0.mk hR; have HB5 := Aside0.mk hbb; clear hR hbb hg k2 x0 x1)
   have hR5 := HR5.out
   rw [HL.out] at hR5
   obtain ⟨g5, c5, rfl, hg5, _, _⟩ := Kd.R_form hR5 (by simp <;> omega)
   rw [List.length_map, ← HL.out] at hR5
   rw [List.length_map, ← HL.out]
   obtain ⟨hc, hf, _⟩ := R_row (W := w5) (a := a) (b := b) (z := z) (h := h) (n := l.length) (by rw [← HL.out]; exact hR5)
   have y3 : w5.cell? ⟨g5, a.length * 6 + 3, none⟩ = some (.int .i64 h.e2) := hc 3 _ rfl
   have y4 : w5.cell? ⟨g5, a.length * 6 + 4, none⟩ = some (.int .i64 h.p2) := hc 4 _ rfl
   have y5 : w5.cell? ⟨g5, a.length * 6 + 5, none⟩ = some (.bool h.a) := hc 5 _ rfl
   have f3 := hf 3
   have f4 := hf 4
   have f5 := hf 5
   have x0 : w5.cell? ⟨w.heap.size, 0, none⟩ = some (.int .i64 X.f0) := (mblk_cell ((HB5.out.block _ (mblk_lt HX4.out)).trans HX4.out) 0).trans rfl
   have x1 : w5.cell? ⟨w.heap.size, 1, none⟩ = some (.int .i64 X.f1) := (mblk_cell ((HB5.out.block _ (mblk_lt HX4.out)).trans HX4.out) 1).trans rfl
   have hR6 : Kd.R k60 60 w5 w4.heap.size (fun _ => True) (.slice (some ⟨g5, 0, none⟩) l.length c5) ((a ++ (z, h) :: b).map rowH) := by rw [← HL.out]; exact hR5
   have HT := Aside0.mk (R_turn (k := asks h X) hR6 3 [.int .i64 X.f0, .int .i64 X.f1, .bool true] (by simp) rfl)
   clear hR6
   have HG5 := Aside0.mk hg5
   clear hR5 hc hf hg5 HR5
   go_upto_region 12 with fail
   obtain ⟨w6, hw6⟩ : ∃ w6, w6 = ((w5.setCell ⟨g5, a.length * 6 + 3, none⟩ (.int .i64 X.f0)).setCell ⟨g5, a.length * 6 + 3 + 1, none⟩ (.int .i64 X.f1)).setCell ⟨g5, a.length * 6 + 5, none⟩ (.bool true) := ⟨_, rfl⟩
   obtain ⟨bl, hbl⟩ : ∃ bl, bl = setL l z (asks h X) := ⟨_, rfl⟩
   have hbl2 : bl = a ++ (z, asks h X) :: b := by rw [hbl]; exact HSET.out
   have hlb : l.length = bl.length := by rw [hbl2, HL.out]; simp
   have HT6 := Aside0.mk (show Kd.R k60 60 w6 w4.heap.size (fun _ => True) (.slice (some ⟨g5, 0, none⟩) bl.length c5) (bl.map rowH) by rw [hw6, ← hlb, hbl2]; exact HT.out.1)
   have HB6 := Aside0.mk (show Below w4.heap.size w4 w6 by rw [hw6]; exact HB5.out.grown HT.out.2 HB5.out.size (fun k e => by have := Option.some.inj e; have := HG5.out; omega))
   rw [← hw6, hlb]
   clear hw6 y3 y4 y5 f3 f4 f5 x0 x1 HT
   have HRL := Aside0.mk (HR4.out.below HB6.out)
   have HVL := Aside0.mk (HV4.out.below HB6.out)
   have HSETL := Aside0.mk hbl
   have HGB := Aside0.mk (show GoodL bl by rw [hbl]; exact set_good HA.out.2.2.2.1 (by have := HA.out.2.2.2.2.2.1; omega) ⟨(HA.out.2.2.2.1.ok _ (getL_mem HGET.out)).1, fun _ => may_ok HM.out⟩)
   have HSB := Aside0.mk (show SmallL bl by rw [hbl]; exact small_set HA.out.2.2.2.2.1 ⟨(HA.out.2.2.2.2.1 _ (getL_mem HGET.out)).1, fun _ => may_small HM.out⟩)
   have HLB := Aside0.mk (show bl.length ≤ 500 by have := HA.out.2.2.2.2.2.1; omega)
   obtain ⟨Bf, hBf⟩ : ∃ Bf, Bf = decide (heldL bl ≤ mkRat (n : Int) d) := ⟨_, rfl⟩
   have HBF := Aside0.mk hBf
   have HEQ := Aside0.mk (show askE all (heldL l) l z X = if Bf = false then 18 else 0 by
    unfold askE
    rw [if_neg (by rw [HM.out]; decide), HGET.out]
    show (if h.a = true then 13 else if fitsQ all (heldL l) (wt (hv (asks h X))) (wt (wN h)) = false then 18 else 0) = _
    rw [if_neg (by rw [HHA.out]; decide), ask_held HA.out.2.2.2.2.2.2.2 HGET.out HHA.out, hBf, hbl, HALL.out])
   clear hbl hbl2 hBf
   go_upto_if 47 with (go_at_call 78; go_loud (refine (rfits_calls gr base x y l bl (some ⟨g5, 0, none⟩) c5 n d w6 HRL.out HVL.out HA.out.1 HA.out.2.1 HA.out.2.2.1 (by have := (Kd.R_reads' HT6.out).2.2; rw [List.length_map] at this; exact this) (Kd.R_reads' HT6.out).2.1 HLB.out HGB.out.ok HSB.out).mono ?_); rw [← HBF.out]; rintro e w9 ⟨rfl, hb9⟩; have HB9 := Aside0.mk hb9; clear hb9)
   have HR9 := Aside0.mk (HRL.out.below HB9.out)
   have HW9 := Aside0.mk (Kd.R_lower (Kd.R_below HT6.out HB9.out) (show base ≤ w4.heap.size from Nat.le_trans HA.out.2.2.2.2.2.2.1 HB4.out.size))
   have HK9 := Aside0.mk ((KR.of (gr := gr) (base := base) HB4.out).trans ((KR.of HB6.out).trans (KR.of HB9.out)))
   clear HRL HVL HT6
   cases Bf with
   | false =>
    have HE := Aside0.mk (show askE all (heldL l) l z X = 18 from HEQ.out)
    go_wp2_with fail
    refine bodyPost_ret (results_tmp rfl _ _ _) rfl ⟨by rw [HE.out]; rfl, ?_, HK9.out⟩
    rw [HSAME.out (by rw [HE.out]; decide)]
    exact HR9.out
   | true =>
    have HE := Aside0.mk (show askE all (heldL l) l z X = 0 from HEQ.out)
    obtain ⟨v, hM, _⟩ := HR9.out.out
    have g2 : w9.cell? ⟨gr, 2, none⟩ = some v := (mblk_cell hM 2).trans (by simp)
    have f2 : w9.frozen? ⟨gr, 2, none⟩ = false := mblk_frozen hM 2
    have HP := Aside0.mk (RL.put HR9.out HW9.out)
    clear hM
    go_wp2_with fail
    refine bodyPost_ret (results_tmp rfl _ _ _) rfl ⟨by rw [HE.out]; rfl, ?_, HK9.out.trans HP.out.2⟩
    unfold askL
    rw [HE.out, if_pos rfl, HGET.out, Option.getD_some, ← HSETL.out]
    exact HP.out.1
end Go.Proofs.Ytfldklimlcnnnaa.XRAsk
end

section
namespace Go.Proofs.Ytfldklimlcnnnaa.XRSettle
open Go.RowKit Go.Shelf Go.Proofs.Ytfldklimlcnnnaa.PHq Go.Proofs.YtfldklimlcnnnaaW.PrintWords Go.Proofs.YtfldklimlcnnnaaW.PrintLast Go.Proofs.YtfldklimlcnnnaaW.PrintMore Go.Proofs.Ytfldklimlcnnnaa.MWords
open Go.Proofs.Ytfldklimlcnnnaa.MNat Go.Proofs.Ytfldklimlcnnnaa.QNat Go.Proofs.Ytfldklimlcnnnaa.QText Go.Proofs.Ytfldklimlcnnnaa.QEv Go.Proofs.Ytfldklimlcnnnaa.QRatio Go.Proofs.Ytfldklimlcnnnaa.XRV Go.Proofs.Ytfldklimlcnnnaa.XHold Go.Proofs.Ytfldklimlcnnnaa.XWts Go.Proofs.Ytfldklimlcnnnaa.XLed Go.Proofs.Ytfldklimlcnnnaa.XPuts Go.Proofs.Ytfldklimlcnnnaa.XNew Go.Proofs.Ytfldklimlcnnnaa.XFits Go.Proofs.Ytfldklimlcnnnaa.XJoin Go.Proofs.Ytfldklimlcnnnaa.XMeth Go.Proofs.Ytfldklimlcnnnaa.XAsk Go.Proofs.Ytfldklimlcnnnaa.XEnd Go.Proofs.Ytfldklimlcnnnaa.XAwake Go.Proofs.Ytfldklimlcnnnaa.QHold Go.Proofs.Ytfldklimlcnnnaa.XLeft Go.Proofs.Ytfldklimlcnnnaa.QLeft Go.Proofs.Ytfldklimlcnnnaa.QRef12 Go.Proofs.Ytfldklimlcnnnaa.XRef12 Go.Proofs.Ytfldklimlcnnnaa.XOp Go.Proofs.Ytfldklimlcnnnaa.XRJoin Go.Proofs.Ytfldklimlcnnnaa.XRSet
theorem limbs_set {W : World} {p : Addr} {u v : Value} (h : W.cell? p = some u) (hu : ∀ n, u ≠ .int .u32 n) (q : Addr) (n : Int) (hq : W.cell? q = some (.int .u32 n)) : (W.setCell p v).cell? q = some (.int .u32 n) := by
 rw [World.cell?_setCell_other _ _ _ _ (fun e => by subst e; rw [h] at hq; exact hu n (Option.some.inj hq))]
 exact hq
theorem limbs_row {g : Nat} : ∀ (us vs : List Value) (W : World) (o : Nat), us.length = vs.length → (∀ j u, us[j]? = some u → W.cell? ⟨g, o + j, none⟩ = some u) → (∀ u ∈ us, ∀ n, u ≠ .int .u32 n) → ∀ (q : Addr) (n : Int), W.cell? q = some (.int .u32 n) → (W.setCells g o vs).cell? q = some (.int .u32 n)
 | [], [], W, o, _, _, _, q, n, hq => hq
 | u :: us, v :: vs, W, o, hl, hc, hu, q, n, hq => by
  rw [World.setCells]
  have h0 : W.cell? ⟨g, o, none⟩ = some u := hc 0 u rfl
  refine limbs_row us vs (W.setCell ⟨g, o, none⟩ v) (o + 1) (by simpa using hl) (fun j y hj => ?_) (fun y hy => hu y (List.mem_cons_of_mem _ hy)) q n (limbs_set h0 (hu u List.mem_cons_self) q n hq)
  have := hc (j + 1) y hj
  rw [World.cell?_setCell_other _ _ _ _ (fun e => by simp only [Addr.mk.injEq] at e; omega), show o + 1 + j = o + (j + 1) by omega]
  exact this
set_option maxRecDepth 100000 in
set_option maxHeartbeats 4000000 in
theorem rsettle_calls (gr base : Nat) (x y : Value) (l : List (Int × Hd)) (z : Int) (w : World) (h : RL w gr base x y l) (hl : l.length < 490) (hk : NodK l) :
  Calls Try.prog 32 #[.pointer (some ⟨gr, 0, none⟩), .int .i64 z] w fun e w' => e = .returned (.int .i64 (settleE l z)) ∧ RL w' gr base x y (settleL l z) ∧ KR gr base w w' := by
 have mixed : Try.prog.follows Departure.mixedOrders = true := by kernel_rfl
 have HR4 := Aside0.mk h
 have HA := Aside0.mk (And.intro hl hk)
 clear hl hk h
 go_enter Try.func32, Try.ntmps32
 cases hg : getL l z with
 | none =>
  have HE := Aside0.mk (show settleE l z = 12 by unfold settleE; rw [hg])
  have HAT := Aside0.mk (at_none (has_none (by rw [getL_has, hg]; rfl)))
  clear hg
  go_wp2_with (go_at_call 35; refine (at_calls gr base x y l z _ HR4.out (by have := HA.out.1; omega)).mono ?_; rw [HAT.out]; rintro e w4 ⟨rfl, rfl⟩)
  refine bodyPost_ret (results_tmp rfl _ _ _) rfl ⟨by rw [HE.out]; rfl, ?_, KR.of (Below.refl _ _)⟩
  rw [settleL_same (by rw [HE.out]; decide)]
  exact HR4.out
 | some h =>
  obtain ⟨a, b, hL, ha, hset, _⟩ := split_all HA.out.2 hg
  have HGET := Aside0.mk hg
  have HL := Aside0.mk hL
  have HSET := Aside0.mk (hset (settled h))
  have HAT := Aside0.mk (show atI l z = (a.length : Int) by rw [hL]; exact at_some ha)
  have hal : a.length < l.length := by rw [hL]; simp
  clear hg hL ha hset
  go_upto_if 10 with (go_at_call 35; refine (at_calls gr base x y l z _ HR4.out (by have := HA.out.1; omega)).mono ?_; rw [HAT.out]; rintro e w4 ⟨rfl, rfl⟩)
  have d0 : decide ((a.length : Int) < 0) = false := decide_eq_false (by omega)
  obtain ⟨v, hM, hR⟩ := HR4.out.out
  have hR0 := hR
  rw [HL.out] at hR0
  obtain ⟨g0, c0, rfl, hbg, _, _⟩ := Kd.R_form hR0 (by simp <;> omega)
  rw [List.length_map, ← HL.out] at hR0
  have hR1 : Kd.R k60 60 w4 base (fun _ => True) (.slice (some ⟨g0, 0, none⟩) l.length c0) ((a ++ (z, h) :: b).map rowH) := by rw [← HL.out]; exact hR0
  obtain ⟨hc, hf, hlen⟩ := R_row hR1
  have k2 : w4.cell? ⟨gr, 2, none⟩ = some (.slice (some ⟨g0, 0, none⟩) l.length c0) := (mblk_cell hM 2).trans (by simp [HL.out])
  have y0 : w4.cell? ⟨g0, a.length * 6, none⟩ = some (.int .i64 z) := hc 0 _ rfl
  have y1 : w4.cell? ⟨g0, a.length * 6 + 1, none⟩ = some (.int .i64 h.e) := hc 1 _ rfl
  have y2 : w4.cell? ⟨g0, a.length * 6 + 2, none⟩ = some (.int .i64 h.p) := hc 2 _ rfl
  have y3 : w4.cell? ⟨g0, a.length * 6 + 3, none⟩ = some (.int .i64 h.e2) := hc 3 _ rfl
  have y4 : w4.cell? ⟨g0, a.length * 6 + 4, none⟩ = some (.int .i64 h.p2) := hc 4 _ rfl
  have y5 : w4.cell? ⟨g0, a.length * 6 + 5, none⟩ = some (.bool h.a) := hc 5 _ rfl
  have f0 : w4.frozen? ⟨g0, a.length * 6, none⟩ = false := hf 0
  have f1 := hf 1
  have f2 := hf 2
  have f3 := hf 3
  have f4 := hf 4
  have f5 := hf 5
  have HR1 := Aside0.mk hR1
  have HM4 := Aside0.mk hM
  have HBG := Aside0.mk hbg
  have HCC := Aside0.mk hc
  clear hR hR0 hR1 hc hf hlen hM hbg
  have d1 : decide ((a.length : Int) < (l.length : Int)) = true := decide_eq_true (by omega)
  have d2 : decide (0 ≤ (a.length : Int)) = true := decide_eq_true (by omega)
  cases hA : h.a with
  | false =>
   rw [hA] at y5
   have HE := Aside0.mk (show settleE l z = 13 by unfold settleE; rw [HGET.out]; exact if_neg (by rw [hA]; decide))
   clear hA
   go_wp2_with fail
   refine bodyPost_ret (results_tmp rfl _ _ _) rfl ⟨by rw [HE.out]; rfl, ?_, KR.of (Below.refl _ _)⟩
   rw [settleL_same (by rw [HE.out]; decide)]
   exact HR4.out
  | true =>
   rw [hA] at y5
   have HE := Aside0.mk (show settleE l z = 0 by unfold settleE; rw [HGET.out]; exact if_pos hA)
   clear hA
   go_upto_region 6 with fail
   refine start_ (n := 17) (S := fun w' => w'.cell? ⟨gr, 2, none⟩ = some (.slice (some ⟨g0, 0, none⟩) l.length c0) ∧ w'.cell? ⟨g0, a.length * 6, none⟩ = some (.int .i64 z) ∧ w'.cell? ⟨g0, a.length * 6 + 1, none⟩ = some (.int .i64 h.e) ∧ w'.cell? ⟨g0, a.length * 6 + 2, none⟩ = some (.int .i64 h.p) ∧ w'.cell? ⟨g0, a.length * 6 + 3, none⟩ = some (.int .i64 h.e2) ∧ w'.cell? ⟨g0, a.length * 6 + 4, none⟩ = some (.int .i64 h.p2) ∧ w'.cell? ⟨g0, a.length * 6 + 5, none⟩ = some (.bool true)) (ds := [16]) #[false, false, false, false, false, false, false, false, false, false, false, false, false, false, false, false, false] (by kernel_rfl) rfl rfl ⟨k2, y0, y1, y2, y3, y4, y5⟩ (fun hHeld => ?_)
   refine pure_ (i := 0) (N := some 20) (v := ?_) (a' := ?_) #[true, false, false, false, false, false, false, false, false, false, false, false, false, false, false, false, false] rfl rfl (by kernel_rfl) (fun _ _ _ h => h) (Or.inl ⟨by rfl, ?_⟩) ?_ ?_
   rotate_left
   ·intro w'
    go_simp
    with_reducible rfl
   rotate_left
   ·simp only [Act.put, List.setIfInBounds_toArray, List.set_cons_zero, List.set_cons_succ, i64_w, i32_w]
    rfl
   refine pure_ (i := 1) (N := some 21) (v := ?_) (a' := ?_) #[true, true, false, false, false, false, false, false, false, false, false, false, false, false, false, false, false] rfl rfl (by kernel_rfl) (fun _ _ _ h => h) (Or.inl ⟨by rfl, ?_⟩) ?_ ?_
   rotate_left
   ·intro w'
    go_simp
    with_reducible rfl
   rotate_left
   ·simp only [Act.put, List.setIfInBounds_toArray, List.set_cons_zero, List.set_cons_succ, i64_w, i32_w]
    rfl
   refine pure_ (i := 2) (N := some 22) (v := ?_) (a' := ?_) #[true, true, true, false, false, false, false, false, false, false, false, false, false, false, false, false, false] rfl rfl (by kernel_rfl) (fun _ _ _ h => h) (Or.inl ⟨by rfl, ?_⟩) ?_ ?_
   rotate_left
   ·intro w'
    go_simp
    with_reducible rfl
   rotate_left
   ·simp only [Act.put, List.setIfInBounds_toArray, List.set_cons_zero, List.set_cons_succ, i64_w, i32_w]
    rfl
   refine pure_ (i := 4) (N := some 24) (v := ?_) (a' := ?_) #[true, true, true, false, true, false, false, false, false, false, false, false, false, false, false, false, false] rfl rfl (by kernel_rfl) (fun _ _ _ h => h) (Or.inl ⟨by rfl, ?_⟩) ?_ ?_
   rotate_left
   ·intro w'
    go_simp
    with_reducible rfl
   rotate_left
   ·simp only [Act.put, List.setIfInBounds_toArray, List.set_cons_zero, List.set_cons_succ, i64_w, i32_w]
    rfl
   refine pure_ (i := 5) (N := some 25) (v := ?_) (a' := ?_) #[true, true, true, false, true, true, false, false, false, false, false, false, false, false, false, false, false] rfl rfl (by kernel_rfl) (fun _ _ _ h => h) (Or.inl ⟨by rfl, ?_⟩) ?_ ?_
   rotate_left
   ·intro w'
    go_simp
    with_reducible rfl
   rotate_left
   ·simp only [Act.put, List.setIfInBounds_toArray, List.set_cons_zero, List.set_cons_succ, i64_w, i32_w]
    rfl
   refine pure_ (i := 6) (N := some 26) (v := ?_) (a' := ?_) #[true, true, true, false, true, true, true, false, false, false, false, false, false, false, false, false, false] rfl rfl (by kernel_rfl) (fun _ _ _ h => h) (Or.inl ⟨by rfl, ?_⟩) ?_ ?_
   rotate_left
   ·intro w'
    go_simp
    with_reducible rfl
   rotate_left
   ·simp only [Act.put, List.setIfInBounds_toArray, List.set_cons_zero, List.set_cons_succ, i64_w, i32_w]
    rfl
   refine pure_ (i := 7) (N := some 27) (v := ?_) (a' := ?_) #[true, true, true, false, true, true, true, true, false, false, false, false, false, false, false, false, false] rfl rfl (by kernel_rfl) (fun _ _ _ h => h) (Or.inl ⟨by rfl, ?_⟩) ?_ ?_
   rotate_left
   ·intro w'
    go_simp
    with_reducible rfl
   rotate_left
   ·simp only [Act.put, List.setIfInBounds_toArray, List.set_cons_zero, List.set_cons_succ, i64_w, i32_w]
    rfl
   refine pure_ (i := 8) (N := some 28) (v := ?_) (a' := ?_) #[true, true, true, false, true, true, true, true, true, false, false, false, false, false, false, false, false] rfl rfl (by kernel_rfl) (fun _ _ _ h => h) (Or.inl ⟨by rfl, ?_⟩) ?_ ?_
   rotate_left
   ·intro w'
    go_simp
    with_reducible rfl
   rotate_left
   ·simp only [Act.put, List.setIfInBounds_toArray, List.set_cons_zero, List.set_cons_succ, i64_w, i32_w]
    rfl
   refine pure_ (i := 10) (N := some 30) (v := ?_) (a' := ?_) #[true, true, true, false, true, true, true, true, true, false, true, false, false, false, false, false, false] rfl rfl (by kernel_rfl) (fun _ _ _ h => h) (Or.inl ⟨by rfl, ?_⟩) ?_ ?_
   rotate_left
   ·intro w'
    go_simp
    with_reducible rfl
   rotate_left
   ·simp only [Act.put, List.setIfInBounds_toArray, List.set_cons_zero, List.set_cons_succ, i64_w, i32_w]
    rfl
   refine take_ (i := 3) (N := some 23) (v := ?_) (a' := ?_) #[true, true, true, true, true, true, true, true, true, false, true, false, false, false, false, false, false] rfl rfl (by kernel_rfl) (fun _ _ _ h => h) (Or.inl ⟨by rfl, ?_⟩) hHeld ?_ ?_
   rotate_left
   ·rintro w' ⟨s0, s1, s2, s3, s4, s5, s6⟩
    go_simp
    with_reducible rfl
   rotate_left
   ·simp only [Act.put, List.setIfInBounds_toArray, List.set_cons_zero, List.set_cons_succ, i64_w, i32_w]
    rfl
   refine take_ (i := 9) (N := some 29) (v := ?_) (a' := ?_) #[true, true, true, true, true, true, true, true, true, true, true, false, false, false, false, false, false] rfl rfl (by kernel_rfl) (fun _ _ _ h => h) (Or.inl ⟨by rfl, ?_⟩) hHeld ?_ ?_
   rotate_left
   ·rintro w' ⟨s0, s1, s2, s3, s4, s5, s6⟩
    go_simp
    with_reducible rfl
   rotate_left
   ·simp only [Act.put, List.setIfInBounds_toArray, List.set_cons_zero, List.set_cons_succ, i64_w, i32_w]
    rfl
   refine pure_ (i := 11) (N := some 31) (v := ?_) (a' := ?_) #[true, true, true, true, true, true, true, true, true, true, true, true, false, false, false, false, false] rfl rfl (by kernel_rfl) (fun _ _ _ h => h) (Or.inl ⟨by rfl, ?_⟩) ?_ ?_
   rotate_left
   ·intro w'
    go_simp
    with_reducible rfl
   rotate_left
   ·simp only [Act.put, List.setIfInBounds_toArray, List.set_cons_zero, List.set_cons_succ, i64_w, i32_w]
    rfl
   refine pure_ (i := 12) (N := some 32) (v := ?_) (a' := ?_) #[true, true, true, true, true, true, true, true, true, true, true, true, true, false, false, false, false] rfl rfl (by kernel_rfl) (fun _ _ _ h => h) (Or.inl ⟨by rfl, ?_⟩) ?_ ?_
   rotate_left
   ·intro w'
    go_simp
    with_reducible rfl
   rotate_left
   ·simp only [Act.put, List.setIfInBounds_toArray, List.set_cons_zero, List.set_cons_succ, i64_w, i32_w]
    rfl
   refine take_ (i := 13) (N := some 33) (v := ?_) (a' := ?_) #[true, true, true, true, true, true, true, true, true, true, true, true, true, true, false, false, false] rfl rfl (by kernel_rfl) (fun _ _ _ h => h) (Or.inl ⟨by rfl, ?_⟩) hHeld ?_ ?_
   rotate_left
   ·rintro w' ⟨s0, s1, s2, s3, s4, s5, s6⟩
    go_simp
    with_reducible rfl
   rotate_left
   ·simp only [Act.put, List.setIfInBounds_toArray, List.set_cons_zero, List.set_cons_succ, i64_w, i32_w]
    rfl
   refine pure_ (i := 14) (N := some 34) (v := ?_) (a' := ?_) #[true, true, true, true, true, true, true, true, true, true, true, true, true, true, true, false, false] rfl rfl (by kernel_rfl) (fun _ _ _ h => h) (Or.inl ⟨by rfl, ?_⟩) ?_ ?_
   rotate_left
   ·intro w'
    go_simp
    with_reducible rfl
   rotate_left
   ·simp only [Act.put, List.setIfInBounds_toArray, List.set_cons_zero, List.set_cons_succ, i64_w, i32_w]
    rfl
   refine pure_ (i := 15) (N := some 35) (v := ?_) (a' := ?_) #[true, true, true, true, true, true, true, true, true, true, true, true, true, true, true, true, false] rfl rfl (by kernel_rfl) (fun _ _ _ h => h) (Or.inl ⟨by rfl, ?_⟩) ?_ ?_
   rotate_left
   ·intro w'
    go_simp
    with_reducible rfl
   rotate_left
   ·simp only [Act.put, List.setIfInBounds_toArray, List.set_cons_zero, List.set_cons_succ, i64_w, i32_w]
    rfl
   refine last_ (i := 16) (N := none) #[true, true, true, true, true, true, true, true, true, true, true, true, true, true, true, true, true] rfl rfl (by kernel_rfl) (by decide) (fun K hK => ?_)
   refine skip_ (w1 := ?_) (by rfl) rfl ?_ ?_
   rotate_left
   ·go_simp
    rfl
   refine hK.out _ _ ?_
   clear hK K
   refine done_ (by kernel_rfl) ?_
   obtain ⟨w6, hw6⟩ : ∃ w6, w6 = w4.setCells g0 (a.length * 6 + 0) (cellsH z (settled h)) := ⟨_, rfl⟩
   have HT := R_turn (k := settled h) HR1.out 0 (cellsH z (settled h)) (by simp [cellsH]) rfl
   rw [← hw6] at HT
   have hng : g0 ≠ gr := by
    rintro rfl
    obtain ⟨cells, hc⟩ := Kd.R_typed HR1.out g0 rfl
    rw [show w4.heap[g0]? = _ from HM4.out] at hc
    simp at hc
   have hs : ∀ k, k ≠ g0 → w6.heap[k]? = w4.heap[k]? := fun k hk => by rw [hw6]; exact setCells_far _ _ k hk
   have hgb := HT.2
   have HK := Aside0.mk (show KR gr base w4 w6 from ⟨hgb.os, hgb.tape, hgb.output, hgb.size, fun k hlt hk ht => hs k (fun e => by
    subst e
    obtain ⟨cells, hc⟩ := Kd.R_typed HR1.out k rfl
    exact ht HBG.out cells hc), fun q n hq => by
    rw [hw6]
    exact limbs_row (cellsH z h) (cellsH z (settled h)) w4 (a.length * 6 + 0) rfl (fun j u hj => HCC.out j u hj) (fun u hu n e => by
     subst e
     unfold cellsH at hu
     simp at hu) q n hq⟩)
   have HRL := Aside0.mk (show RL w6 gr base x y (settleL l z) from ⟨⟨_, (hs gr (fun e => hng e.symm)).trans HM4.out, by
    have e1 : settleL l z = a ++ (z, settled h) :: b := by
     unfold settleL
     rw [HE.out, if_pos rfl, HGET.out]
     exact HSET.out
    rw [e1]
    have := HT.1
    rw [show l.length = (a ++ (z, h) :: b).length by rw [HL.out]] at this
    rw [List.length_map, ← HL.out]
    rw [← HL.out] at this
    exact this⟩, HR4.out.shape⟩)
   clear HT hng hs hgb
   have e6 : ((((((w4.setCell ⟨g0, a.length * 6, none⟩ (.int .i64 z)).setCell ⟨g0, a.length * 6 + 1, none⟩ (.int .i64 h.e2)).setCell ⟨g0, a.length * 6 + 2, none⟩ (.int .i64 h.p2)).setCell ⟨g0, a.length * 6 + 3, none⟩ (.int .i64 0)).setCell ⟨g0, a.length * 6 + 4, none⟩ (.int .i64 0)).setCell ⟨g0, a.length * 6 + 5, none⟩ (.bool false)) = w6 := hw6.symm
   rw [e6]
   clear hw6 e6 y0 y1 y2 y3 y4 y5 f0 f1 f2 f3 f4 f5 k2
   go_wp2_with fail
   have hbd := below_drew (Below.refl w6.heap.size w6)
   exact bodyPost_ret (results_tmp rfl _ _ _) rfl ⟨by rw [HE.out]; rfl, HRL.out.below hbd, HK.out.trans (KR.of hbd)⟩
end Go.Proofs.Ytfldklimlcnnnaa.XRSettle
end

section
namespace Go.Proofs.Ytfldklimlcnnnaa.XRFree
open Go.RowKit Go.Shelf Go.Proofs.Ytfldklimlcnnnaa.PHq Go.Proofs.YtfldklimlcnnnaaW.PrintWords Go.Proofs.YtfldklimlcnnnaaW.PrintLast Go.Proofs.YtfldklimlcnnnaaW.PrintMore Go.Proofs.Ytfldklimlcnnnaa.MWords
open Go.Proofs.Ytfldklimlcnnnaa.MNat Go.Proofs.Ytfldklimlcnnnaa.QNat Go.Proofs.Ytfldklimlcnnnaa.QText Go.Proofs.Ytfldklimlcnnnaa.QEv Go.Proofs.Ytfldklimlcnnnaa.QRatio Go.Proofs.Ytfldklimlcnnnaa.XRV Go.Proofs.Ytfldklimlcnnnaa.XHold Go.Proofs.Ytfldklimlcnnnaa.XWts Go.Proofs.Ytfldklimlcnnnaa.XLed Go.Proofs.Ytfldklimlcnnnaa.XPuts Go.Proofs.Ytfldklimlcnnnaa.XNew Go.Proofs.Ytfldklimlcnnnaa.XFits Go.Proofs.Ytfldklimlcnnnaa.XJoin Go.Proofs.Ytfldklimlcnnnaa.XMeth Go.Proofs.Ytfldklimlcnnnaa.XAsk Go.Proofs.Ytfldklimlcnnnaa.XEnd Go.Proofs.Ytfldklimlcnnnaa.XAwake Go.Proofs.Ytfldklimlcnnnaa.QHold Go.Proofs.Ytfldklimlcnnnaa.XLeft Go.Proofs.Ytfldklimlcnnnaa.QLeft Go.Proofs.Ytfldklimlcnnnaa.QRef12 Go.Proofs.Ytfldklimlcnnnaa.XRef12 Go.Proofs.Ytfldklimlcnnnaa.XOp Go.Proofs.Ytfldklimlcnnnaa.XRJoin Go.Proofs.Ytfldklimlcnnnaa.XRSet
theorem C_take {w : World} {A : Option Addr} {n : Nat} {xs : List S60} (h : Kd.C k60 w A n xs) (k : Nat) (hk : k ≤ n) : Kd.C k60 w A k (xs.take k) := by
 have h1 : xs.length = n := h.1
 refine ⟨by rw [List.length_take]; omega, by have := h.2.1; omega, fun hp => ?_⟩
 obtain ⟨ad, e, hc⟩ := h.2.2 (by omega)
 refine ⟨ad, e, fun j p hj => hc j p ?_⟩
 rw [List.getElem?_take] at hj
 split at hj
 ·exact hj
 ·cases hj
theorem C_drop {w : World} {g n : Nat} {xs : List S60} (h : Kd.C k60 w (some ⟨g, 0, none⟩) n xs) (k : Nat) (hk : k ≤ n) : Kd.C k60 w (some ⟨g, k * 6, none⟩) (n - k) (xs.drop k) := by
 have h1 : xs.length = n := h.1
 refine ⟨by rw [List.length_drop]; omega, by have := h.2.1; omega, fun hp => ⟨_, rfl, fun j p hj => ?_⟩⟩
 obtain ⟨ad, e, hc⟩ := h.2.2 (by omega)
 obtain rfl := Option.some.inj e
 rw [List.getElem?_drop] at hj
 obtain ⟨c, hl, hK, hcell⟩ := hc (k + j) p hj
 refine ⟨c, hl, hK, fun i u hi => ?_⟩
 have := hcell i u hi
 have e2 : (⟨g, 0, none⟩ : Addr).add ((k + j) * k60.sz + i) = (⟨g, k * 6, none⟩ : Addr).add (j * k60.sz + i) := by
  have : k60.sz = 6 := rfl
  rw [this]
  simp only [Addr.add]
  simp
  split <;> split <;> simp <;> omega
 rw [← e2]
 exact this
theorem C_tail {w : World} {g n c : Nat} {xs : List S60} (h : Kd.C k60 w (some ⟨g, 0, none⟩) n xs) (hc : n ≤ c) (k : Nat) (hk : k ≤ n) : Kd.C k60 w (if c = k then some ⟨g, 0, none⟩ else some ⟨g, k * 6, none⟩) (n - k) (xs.drop k) := by
 by_cases e : c = k
 ·have h1 : xs.length = n := h.1
  exact ⟨by rw [List.length_drop]; omega, by have := h.2.1; omega, fun hp => by omega⟩
 ·rw [if_neg e]
  exact C_drop h k hk
set_option maxRecDepth 100000 in
set_option maxHeartbeats 4000000 in
theorem rfree_calls (gr base : Nat) (x y : Value) (l : List (Int × Hd)) (z : Int) (w : World) (h : RL w gr base x y l) (hl : l.length < 490) (hk : NodK l) (hb : base ≤ w.heap.size) :
  Calls Try.prog 33 #[.pointer (some ⟨gr, 0, none⟩), .int .i64 z] w fun e w' => e = .returned (.int .i64 (freeE l z)) ∧ RL w' gr base x y (freeL l z) ∧ KR gr base w w' := by
 have mixed : Try.prog.follows Departure.mixedOrders = true := by kernel_rfl
 have HR4 := Aside0.mk h
 have HA := Aside0.mk (And.intro hl (And.intro hk hb))
 clear hl hk h hb
 go_enter Try.func33, Try.ntmps33
 cases hg : getL l z with
 | none =>
  have HE := Aside0.mk (show freeE l z = 12 by unfold freeE; rw [getL_has, hg]; rfl)
  have HAT := Aside0.mk (at_none (has_none (by rw [getL_has, hg]; rfl)))
  clear hg
  go_wp2_with (go_at_call 35; refine (at_calls gr base x y l z _ HR4.out (by have := HA.out.1; omega)).mono ?_; rw [HAT.out]; rintro e w4 ⟨rfl, rfl⟩)
  refine bodyPost_ret (results_tmp rfl _ _ _) rfl ⟨by rw [HE.out]; rfl, ?_, KR.of (Below.refl _ _)⟩
  rw [freeL_same (by rw [HE.out]; decide)]
  exact HR4.out
 | some h =>
  obtain ⟨a, b, hL, ha, _, hdel⟩ := split_all HA.out.2.1 hg
  have HE := Aside0.mk (show freeE l z = 0 by unfold freeE; rw [getL_has, hg]; rfl)
  have HFL := Aside0.mk (show freeL l z = a ++ b by unfold freeL; rw [getL_has, hg]; exact (if_pos rfl).trans hdel)
  have HL := Aside0.mk hL
  have HAT := Aside0.mk (show atI l z = (a.length : Int) by rw [hL]; exact at_some ha)
  have HAL := Aside0.mk (show l.length = a.length + 1 + b.length by rw [hL]; simp; omega)
  have hal : a.length < l.length := by have := HAL.out; omega
  clear hg hL ha hdel
  go_upto_if 11 with (go_at_call 35; refine (at_calls gr base x y l z _ HR4.out (by have := HA.out.1; omega)).mono ?_; rw [HAT.out]; rintro e w4 ⟨rfl, rfl⟩)
  have d0 : decide ((a.length : Int) < 0) = false := decide_eq_false (by omega)
  obtain ⟨v, hM, hR⟩ := HR4.out.out
  obtain ⟨g0, c0, rfl, hbg, _, _⟩ := Kd.R_form hR (by simp; omega)
  rw [List.length_map] at hR hM
  have hrd := Kd.R_reads' hR
  rw [List.length_map] at hrd
  have k2 : w4.cell? ⟨gr, 2, none⟩ = some (.slice (some ⟨g0, 0, none⟩) l.length c0) := (mblk_cell hM 2).trans (by simp)
  have HCL := Aside0.mk hrd.2.2
  have hlc := hrd.2.1
  have HM4 := Aside0.mk hM
  have HTA := Aside0.mk (show (l.map rowH).take a.length = a.map rowH by rw [HL.out, List.map_append, List.take_left' (by simp)])
  have HTB := Aside0.mk (show (l.map rowH).drop (a.length + 1) = b.map rowH by rw [HL.out, List.map_append, List.map_cons, List.drop_append, List.length_map]; simp)
  clear hR hrd hM hbg
  have d1 : decide (0 ≤ (a.length : Int)) = true := decide_eq_true (by omega)
  have d2 : (a.length : Int) ≤ (c0 : Int) := by omega
  go_upto_region 6 with ((with_reducible refine gate_builtin (b := .append) (xs := #[.tmp 12, .tmp 18]) rfl ?_); at_builtin; go_loud (refine Kd.R_append_rows k60 (w0 := w4) w4.heap.size rfl (.tmp 12) (.tmp 18) 55 60 (.agg #[.int .i64 0, .int .i64 0, .int .i64 0, .int .i64 0, .int .i64 0, .bool false]) 48 rfl Try.underlying55 infoH rfl (by decide) (by omega) (.slice none 0 0) [] (a.map rowH) (some ⟨g0, 0, none⟩) a.length c0 (fun _ => True) (fun _ => False) rfl rfl (Kd.R_nil _ _ _ _ _) (rows_M (by rw [← HTA.out]; exact C_take HCL.out a.length (by omega))) (fun _ _ h => h) (fun _ h => h.elim) (fun _ _ => trivial) (Below.refl _ _) (Nat.le_refl _) (by have := HA.out.1; simp; omega) ?_); intro v1 w5 hR hbb hg _; rw [List.nil_append] at hR; have HR5 := Aside0.mk hR; have HB5 := Aside0.mk hbb; clear hR hbb hg)
  have k2' : w5.cell? ⟨gr, 2, none⟩ = some (.slice (some ⟨g0, 0, none⟩) l.length c0) := (mblk_cell ((HB5.out.block _ (mblk_lt HM4.out)).trans HM4.out) 2).trans (by simp)
  have d3 : ((a.length : Int) + 1) ≤ (l.length : Int) := by omega
  have d4 : wrap64 ((a.length : Int) + 1) = ((a.length + 1 : Nat) : Int) := by have := HA.out.1; rw [QBits.w64 (by omega) (by omega)]; omega
  have d5 : ((a.length + 1 : Nat) : Int) ≤ (l.length : Int) := by omega
  have d6 : (l.length : Int) ≤ (c0 : Int) := by omega
  clear k2
  by_cases hcc : c0 = a.length + 1
  ·have HCC := Aside0.mk hcc
   replace hcc := eq_true hcc
   go_upto_region 7 with ((with_reducible refine gate_builtin (b := .append) (xs := #[.tmp 21, .tmp 28]) rfl ?_); at_builtin; go_loud (refine Kd.R_append_rows k60 (w0 := w4) w4.heap.size rfl (.tmp 21) (.tmp 28) 55 60 (.agg #[.int .i64 0, .int .i64 0, .int .i64 0, .int .i64 0, .int .i64 0, .bool false]) 48 rfl Try.underlying55 infoH rfl (by decide) (by omega) v1 (a.map rowH) (b.map rowH) (some ⟨g0, 0, none⟩) (l.length - (a.length + 1)) (c0 - (a.length + 1)) (fun _ => True) (fun _ => False) rfl rfl HR5.out (rows_M (by rw [← HTB.out]; have h_ := C_tail (c := c0) (Kd.C_below HCL.out HB5.out) (by omega) (a.length + 1) (by omega); rw [if_pos HCC.out] at h_; exact h_)) (fun _ _ h => h) (fun _ h => h.elim) (fun _ _ => trivial) HB5.out HB5.out.size (by have := HA.out.1; simp; omega) ?_); intro v2 w6 hR hbb hg _; obtain ⟨A6, c6, rfl⟩ := Kd.R_slice hR; have HR6 := Aside0.mk hR; have HB6 := Aside0.mk hbb; have g2 : w6.cell? ⟨gr, 2, none⟩ = some (.slice (some ⟨g0, 0, none⟩) l.length c0) := (mblk_cell ((hbb.block _ (mblk_lt HM4.out)).trans HM4.out) 2).trans (by simp); have f2 : w6.frozen? ⟨gr, 2, none⟩ = false := mblk_frozen ((hbb.block _ (mblk_lt HM4.out)).trans HM4.out) 2; clear hR hbb hg)
   have HW := Aside0.mk (Kd.R_lower HR6.out (show base ≤ w4.heap.size from HA.out.2.2))
   have HP := Aside0.mk (RL.put (l' := a ++ b) (HR4.out.below HB6.out) (by rw [List.map_append]; exact HW.out))
   clear k2' d3 d4 d5 d6 g2 f2
   go_wp2_with fail
   have hpx := HP.out
   simp only [List.length_append, List.length_map] at hpx
   refine bodyPost_ret (results_tmp rfl _ _ _) rfl ⟨by rw [HE.out]; rfl, ?_, (KR.of HB6.out).trans hpx.2⟩
   rw [HFL.out]
   exact hpx.1
  ·go_upto_region 7 with ((with_reducible refine gate_builtin (b := .append) (xs := #[.tmp 21, .tmp 28]) rfl ?_); at_builtin; go_loud (refine Kd.R_append_rows k60 (w0 := w4) w4.heap.size rfl (.tmp 21) (.tmp 28) 55 60 (.agg #[.int .i64 0, .int .i64 0, .int .i64 0, .int .i64 0, .int .i64 0, .bool false]) 48 rfl Try.underlying55 infoH rfl (by decide) (by omega) v1 (a.map rowH) (b.map rowH) (some ⟨g0, (a.length + 1) * 6, none⟩) (l.length - (a.length + 1)) (c0 - (a.length + 1)) (fun _ => True) (fun _ => False) rfl rfl HR5.out (rows_M (by rw [← HTB.out]; have h_ := C_tail (c := c0) (Kd.C_below HCL.out HB5.out) (by omega) (a.length + 1) (by omega); rw [if_neg hcc] at h_; exact h_)) (fun _ _ h => h) (fun _ h => h.elim) (fun _ _ => trivial) HB5.out HB5.out.size (by have := HA.out.1; simp; omega) ?_); intro v2 w6 hR hbb hg _; obtain ⟨A6, c6, rfl⟩ := Kd.R_slice hR; have HR6 := Aside0.mk hR; have HB6 := Aside0.mk hbb; have g2 : w6.cell? ⟨gr, 2, none⟩ = some (.slice (some ⟨g0, 0, none⟩) l.length c0) := (mblk_cell ((hbb.block _ (mblk_lt HM4.out)).trans HM4.out) 2).trans (by simp); have f2 : w6.frozen? ⟨gr, 2, none⟩ = false := mblk_frozen ((hbb.block _ (mblk_lt HM4.out)).trans HM4.out) 2; clear hR hbb hg)
   have HW := Aside0.mk (Kd.R_lower HR6.out (show base ≤ w4.heap.size from HA.out.2.2))
   have HP := Aside0.mk (RL.put (l' := a ++ b) (HR4.out.below HB6.out) (by rw [List.map_append]; exact HW.out))
   clear k2' d3 d4 d5 d6 g2 f2
   go_wp2_with fail
   have hpx := HP.out
   simp only [List.length_append, List.length_map] at hpx
   refine bodyPost_ret (results_tmp rfl _ _ _) rfl ⟨by rw [HE.out]; rfl, ?_, (KR.of HB6.out).trans hpx.2⟩
   rw [HFL.out]
   exact hpx.1
end Go.Proofs.Ytfldklimlcnnnaa.XRFree
end

section
namespace Go.Proofs.YtfldklimlcnnnaaW.PrintLast
theorem up_self (b : Nat → Bool) (i : Nat) : up b i i = true := by simp [up]
theorem up_ne {b : Nat → Bool} {i j : Nat} (h : j ≠ i) : up b i j = b j := by simp [up, h]
def lof (n : Nat) (O : List Nat) (b : Nat → Bool) : List Bool := (List.range n).map fun j => if O.contains j then b j else true
def putSel (a : Act) (b : Nat → Bool) : List (Nat × Tmp × Value) → Act
 | [] => a
 | e :: r => putSel (if b e.1 = true then a.put (some e.2.1) e.2.2 else a) b r
section
variable {P : Program} {ops : Array Oper} {Q : Exit → Act → World → Prop} {md : Region.Mode} {T : Bool × List (List Nat × List Nat)} {B : List Nat} {O : List Nat} {b : Nat → Bool} {i j n : Nat}
theorem lof_length : (lof n O b).length = n := by simp [lof]
theorem lof_get {d : Bool} (hj : j < n) : (lof n O b).getD j d = if O.contains j then b j else true := by
 simp [lof, List.getD_eq_getElem?_getD, hj]
theorem lof_up (hi : O.contains i = true) : (lof n O b).set i true = lof n O (up b i) := by
 apply List.ext_getElem?
 intro j
 by_cases hj : j < n
 ·by_cases hij : i = j
  ·subst hij
   have hl : i < (lof n O b).length := by rw [lof_length]; exact hj
   rw [List.getElem?_set_self hl]
   simp only [lof, List.getElem?_map, List.getElem?_range hj, Option.map_some, hi, if_true, up_self]
  ·rw [List.getElem?_set_ne hij]
   simp only [lof, List.getElem?_map, List.getElem?_range hj, Option.map_some]
   rw [up_ne (Ne.symm hij)]
 ·rw [List.getElem?_eq_none (by simp [lof]; omega), List.getElem?_eq_none (by simp [lof]; omega)]
def StepAt (P : Program) (ops : Array Oper) (Q : Exit → Act → World → Prop) (B : List Nat) (O : List Nat) (I : (Nat → Bool) → Act → World → Prop) (i : Nat) : Prop :=
 ∀ b a w, I b a w → b i = false → (∀ j, (O.contains j && (B.getD i 0).testBit j) = true → b j = true) → (∀ d, (O.contains d && (B.getD d 0).testBit i) = true → b d = false) →
  ∃ oi, ops[i]? = some oi ∧ ∀ K : Act → World → Prop, Shut (∀ a' w', I (up b i) a' w' → K a' w') → if Region.wanted oi (yielded ops a.tmps) = true then Oper.wp P oi a w K Q else K (a.put oi.dst undef) w
theorem steps_nil {I : (Nat → Bool) → Act → World → Prop} : ∀ i ∈ ([] : List Nat), StepAt P ops Q B O I i := fun _ h => by cases h
theorem steps_cons {I : (Nat → Bool) → Act → World → Prop} {rs : List Nat} (h : StepAt P ops Q B O I i) (hs : ∀ j ∈ rs, StepAt P ops Q B O I j) : ∀ j ∈ i :: rs, StepAt P ops Q B O I j := fun j hj => by
 rcases List.mem_cons.1 hj with rfl | hj
 ·exact h
 ·exact hs j hj
def baseOk (T : List (List Nat × List Nat)) (O : List Nat) : Bool :=
 (List.range T.length).all (fun d => match T[d]? with
  | some r => (O.contains d || r.1.all fun n => !O.contains n) && r.1.all fun n => decide (n < d)
  | none => false) && O.all (fun i => decide (i < T.length)) && decide O.Nodup
theorem baseOk_row {T : List (List Nat × List Nat)} (h : baseOk T O = true) {d : Nat} {r : List Nat × List Nat} (hr : T[d]? = some r) : (O.contains d = false → ∀ n ∈ r.1, O.contains n = false) ∧ ∀ n ∈ r.1, n < d := by
 simp only [baseOk, Bool.and_eq_true] at h
 have h1 := List.all_eq_true.1 h.1.1 d (List.mem_range.2 (List.getElem?_eq_some_iff.1 hr).1)
 rw [hr] at h1
 simp only [Bool.and_eq_true, Bool.or_eq_true, List.all_eq_true, decide_eq_true_eq] at h1
 refine ⟨fun hd n hn => ?_, h1.2⟩
 rcases h1.1 with h2 | h2
 ·rw [hd] at h2; cases h2
 ·simpa using h2 n hn
theorem baseOk_lt {T : List (List Nat × List Nat)} (h : baseOk T O = true) {i : Nat} (hi : i ∈ O) : i < T.length := by
 simp only [baseOk, Bool.and_eq_true] at h
 simpa using List.all_eq_true.1 h.1.2 i hi
theorem baseOk_nodup {T : List (List Nat × List Nat)} (h : baseOk T O = true) : O.Nodup := by
 simp only [baseOk, Bool.and_eq_true] at h
 exact of_decide_eq_true h.2
def Closed (T : List (List Nat × List Nat)) (O : List Nat) (b : Nat → Bool) : Prop := ∀ d r, T[d]? = some r → O.contains d = true → b d = true → ∀ n ∈ r.1, O.contains n = true → b n = true
theorem bits_out {T : List (List Nat × List Nat)} (hw : waitsOk T B = true) (hk : baseOk T O = true) : ∀ (m d : Nat), d ≤ m → d < T.length → O.contains d = false → ∀ j, (B.getD d 0).testBit j = true → O.contains j = false := by
 intro m
 induction m with
 | zero =>
  intro d hd hl hO j hj
  have hd0 : d = 0 := by omega
  subst hd0
  have hr : T[0]? = some T[0] := List.getElem?_eq_getElem hl
  have h1 := List.all_eq_true.1 hw 0 (List.mem_range.2 hl)
  rw [hr] at h1
  simp only [beq_iff_eq] at h1
  have h2 : (upM B 0 T[0].1).testBit j = true := by rw [← h1, Nat.testBit_or, hj, Bool.true_or]
  obtain ⟨n, hn, h3⟩ := upM_bit h2
  have := (baseOk_row hk hr).2 n hn
  omega
 | succ m ih =>
  intro d hd hl hO j hj
  have hr : T[d]? = some T[d] := List.getElem?_eq_getElem hl
  have h1 := List.all_eq_true.1 hw d (List.mem_range.2 hl)
  rw [hr] at h1
  simp only [beq_iff_eq] at h1
  have h2 : (upM B d T[d].1).testBit j = true := by rw [← h1, Nat.testBit_or, hj, Bool.true_or]
  obtain ⟨n, hn, h3⟩ := upM_bit h2
  have hO2 := (baseOk_row hk hr).1 hO n hn
  rcases h3 with rfl | ⟨h4, h5⟩
  ·exact hO2
  ·exact ih n (by omega) (by omega) hO2 j h5
theorem closed_bits {T : List (List Nat × List Nat)} (hw : waitsOk T B = true) (hk : baseOk T O = true) (hc : Closed T O b) : ∀ (m d : Nat), d ≤ m → d < T.length → O.contains d = true → b d = true → ∀ j, O.contains j = true → (B.getD d 0).testBit j = true → b j = true := by
 intro m
 induction m with
 | zero =>
  intro d hd hl hO hb j hjO hj
  have hd0 : d = 0 := by omega
  subst hd0
  have hr : T[0]? = some T[0] := List.getElem?_eq_getElem hl
  have h1 := List.all_eq_true.1 hw 0 (List.mem_range.2 hl)
  rw [hr] at h1
  simp only [beq_iff_eq] at h1
  have h2 : (upM B 0 T[0].1).testBit j = true := by rw [← h1, Nat.testBit_or, hj, Bool.true_or]
  obtain ⟨n, hn, h3⟩ := upM_bit h2
  have := (baseOk_row hk hr).2 n hn
  omega
 | succ m ih =>
  intro d hd hl hO hb j hjO hj
  have hr : T[d]? = some T[d] := List.getElem?_eq_getElem hl
  have h1 := List.all_eq_true.1 hw d (List.mem_range.2 hl)
  rw [hr] at h1
  simp only [beq_iff_eq] at h1
  have h2 : (upM B d T[d].1).testBit j = true := by rw [← h1, Nat.testBit_or, hj, Bool.true_or]
  obtain ⟨n, hn, h3⟩ := upM_bit h2
  rcases h3 with rfl | ⟨h4, h5⟩
  ·exact hc d _ hr hO hb n hn hjO
  ·cases hO2 : O.contains n with
   | true => exact ih n (by omega) (by omega) hO2 (hc d _ hr hO hb n hn hO2) j hjO h5
   | false =>
    have := bits_out hw hk n n (Nat.le_refl _) (by omega) hO2 j h5
    rw [hjO] at this
    cases this
theorem up_count : ∀ {O : List Nat}, O.Nodup → i ∈ O → b i = false → (O.filter fun j => !up b i j).length + 1 = (O.filter fun j => !b j).length
 | [], _, hi, _ => by cases hi
 | x :: r, hn, hi, hb => by
  rw [List.nodup_cons] at hn
  rcases List.mem_cons.1 hi with rfl | hi
  ·have h1 : (r.filter fun j => !up b i j) = r.filter fun j => !b j := by
    refine List.filter_congr (fun j hj => ?_)
    rw [up_ne (fun e => hn.1 (by rw [← e]; exact hj))]
   rw [List.filter_cons, List.filter_cons]
   simp [up_self, hb, h1]
  ·have hxi : x ≠ i := fun e => hn.1 (e ▸ hi)
   have h1 := up_count hn.2 hi hb
   rw [List.filter_cons, List.filter_cons, up_ne hxi]
   cases hbx : b x
   ·simp only [Bool.not_false, if_true, List.length_cons]
    omega
   ·simpa using h1
theorem inv_all (hT : rtab md ops = T) (hw : waitsOk T.2 B = true) (hk : baseOk T.2 O = true) (I : (Nat → Bool) → Act → World → Prop) (hs : ∀ i ∈ O, StepAt P ops Q B O I i)
  (hend : ∀ b a w, (∀ j, O.contains j = true → b j = true) → I b a w → Q .normal a w) :
  ∀ (m : Nat) (b : Nat → Bool) (a : Act) (w : World), (O.filter fun j => !b j).length = m → Closed T.2 O b → I b a w → wpAnyLast P md ops Q (fun _ => True) [] m (lof T.2.length O b).toArray a w := by
 subst hT
 have mem_ready' : ∀ {b : Nat → Bool} {i : Nat}, i ∈ Region.ready md ops (lof (rtab md ops).2.length O b).toArray → i < (rtab md ops).2.length ∧ O.contains i = true ∧ b i = false ∧ ∀ r, (rtab md ops).2[i]? = some r → ∀ n ∈ r.1, n < (rtab md ops).2.length → O.contains n = true → b n = true := by
  intro b i hi
  rw [ready_eq] at hi
  unfold readyT at hi
  rw [List.mem_filter, List.mem_range] at hi
  obtain ⟨hl, h1⟩ := hi
  unfold readyAt at h1
  rw [Bool.and_eq_true, lof_get hl] at h1
  obtain ⟨h2, h3⟩ := h1
  have h4 : O.contains i = true := by
   cases h : O.contains i with
   | true => rfl
   | false => rw [h] at h2; simp at h2
  rw [h4] at h2
  refine ⟨hl, h4, by simpa using h2, fun r hr n hn hnl hO => ?_⟩
  rw [hr] at h3
  simp only [List.all_eq_true] at h3
  have h5 := h3 n hn
  rw [lof_get hnl, hO] at h5
  simpa using h5
 intro m
 induction m with
 | zero =>
  intro b a w hm hc hI
  have hall : ∀ j, O.contains j = true → b j = true := by
   intro j hj
   cases hb : b j with
   | true => rfl
   | false =>
    have : j ∈ O.filter fun j => !b j := List.mem_filter.2 ⟨List.contains_iff_mem.1 hj, by simp [hb]⟩
    rw [List.eq_nil_of_length_eq_zero hm] at this
    cases this
  refine ⟨?_, hend b a w hall hI⟩
  refine List.eq_nil_iff_forall_not_mem.2 (fun i hi => ?_)
  obtain ⟨_, h1, h2, _⟩ := mem_ready' hi
  rw [hall i h1] at h2
  cases h2
 | succ m ih =>
  intro b a w hm hc hI
  refine ⟨fun hr => ?_, fun i hi => ?_⟩
  ·exfalso
   -- the smallest number that isn't listed is ready
   have hex : ∃ i, O.contains i = true ∧ b i = false := by
    cases hf : O.filter (fun j => !b j) with
    | nil => rw [hf] at hm; simp at hm
    | cons x r =>
     have hx : x ∈ O.filter (fun j => !b j) := by rw [hf]; exact List.mem_cons_self
     rw [List.mem_filter] at hx
     exact ⟨x, List.contains_iff_mem.2 hx.1, by simpa using hx.2⟩
   have hmin : ∀ k, (∃ i, i ≤ k ∧ O.contains i = true ∧ b i = false) → ∃ i, O.contains i = true ∧ b i = false ∧ ∀ j, j < i → O.contains j = true → b j = true := by
    intro k
    induction k with
    | zero =>
     rintro ⟨i, hi, h1, h2⟩
     exact ⟨i, h1, h2, fun j hj => by omega⟩
    | succ k ihk =>
     rintro ⟨i, hi, h1, h2⟩
     by_cases hlow : ∃ j, j ≤ k ∧ O.contains j = true ∧ b j = false
     ·exact ihk hlow
     ·refine ⟨i, h1, h2, fun j hj hO => ?_⟩
      cases hb : b j with
      | true => rfl
      | false => exact absurd ⟨j, by omega, hO, hb⟩ hlow
   obtain ⟨i0, h1, h2⟩ := hex
   obtain ⟨i, hO, hb, hlow⟩ := hmin i0 ⟨i0, Nat.le_refl _, h1, h2⟩
   have hl := baseOk_lt hk (List.contains_iff_mem.1 hO)
   have hin : i ∈ Region.ready md ops (lof (rtab md ops).2.length O b).toArray := by
    rw [ready_eq]
    unfold readyT
    rw [List.mem_filter, List.mem_range]
    refine ⟨hl, ?_⟩
    unfold readyAt
    rw [lof_get hl, hO, hb]
    have hr2 : (rtab md ops).2[i]? = some (rtab md ops).2[i] := List.getElem?_eq_getElem hl
    rw [hr2]
    simp only [if_true, Bool.not_false, Bool.true_and, List.all_eq_true]
    intro n hn
    have hni := (baseOk_row hk hr2).2 n hn
    rw [lof_get (by omega)]
    cases hOn : O.contains n with
    | true => simpa using hlow n hni hOn
    | false => simp
   rw [hr] at hin
   cases hin
  ·obtain ⟨hl, hO, hb, hneed⟩ := mem_ready' hi
   have hon : ∀ j, (O.contains j && (B.getD i 0).testBit j) = true → b j = true := by
    intro j hj
    rw [Bool.and_eq_true] at hj
    have hr2 : (rtab md ops).2[i]? = some (rtab md ops).2[i] := List.getElem?_eq_getElem hl
    have h1 := List.all_eq_true.1 hw i (List.mem_range.2 hl)
    rw [hr2] at h1
    simp only [beq_iff_eq] at h1
    have h2 : (upM B i (rtab md ops).2[i].1).testBit j = true := by rw [← h1, Nat.testBit_or, hj.2, Bool.true_or]
    obtain ⟨n, hn, h3⟩ := upM_bit h2
    have hni := (baseOk_row hk hr2).2 n hn
    rcases h3 with rfl | ⟨h4, h5⟩
    ·exact hneed _ hr2 n hn (by omega) hj.1
    ·cases hO2 : O.contains n with
     | true => exact closed_bits hw hk hc n n (Nat.le_refl _) (by omega) hO2 (hneed _ hr2 n hn (by omega) hO2) j hj.1 h5
     | false =>
      have := bits_out hw hk n n (Nat.le_refl _) (by omega) hO2 j h5
      rw [hj.1] at this
      cases this
   have hoff : ∀ d, (O.contains d && (B.getD d 0).testBit i) = true → b d = false := by
    intro d hd
    rw [Bool.and_eq_true] at hd
    cases hbd : b d with
    | false => rfl
    | true =>
     have hdl := baseOk_lt hk (List.contains_iff_mem.1 hd.1)
     have := closed_bits hw hk hc d d (Nat.le_refl _) hdl hd.1 hbd i hO hd.2
     rw [hb] at this
     cases this
   obtain ⟨oi, hoi, hK⟩ := hs i (List.contains_iff_mem.1 hO) b a w hI hb hon hoff
   refine wpOp_step hoi (fun K' hK' => hK K' (fun a' w' hI' => hK' a' w' ⟨fun _ _ => trivial, ?_⟩))
   have hset : (lof (rtab md ops).2.length O b).toArray.setIfInBounds i true = (lof (rtab md ops).2.length O (up b i)).toArray := by
    apply Array.ext'
    rw [Array.toList_setIfInBounds]
    exact lof_up hO
   rw [hset]
   refine ih (up b i) a' w' ?_ ?_ hI'
   ·have := up_count (baseOk_nodup hk) (List.contains_iff_mem.1 hO) hb
    omega
   ·intro d r hr hOd hbd n hn hOn
    by_cases hni : n = i
    ·rw [hni, up_self]
    ·rw [up_ne hni]
     by_cases hdi : d = i
     ·subst hdi
      exact hneed r hr n hn (by have := (baseOk_row hk hr).2 n hn; omega) hOn
     ·rw [up_ne hdi] at hbd
      exact hc d r hr hOd hbd n hn hOn
theorem putSel_off {b : Nat → Bool} {t : Tmp} : ∀ {L : List (Nat × Tmp × Value)} {a : Act}, (L.all fun e => !(e.2.1 == t)) = true → (putSel a b L).tmps[t]? = a.tmps[t]?
 | [], _, _ => rfl
 | e :: r, a, h => by
  rw [List.all_cons, Bool.and_eq_true] at h
  have he : e.2.1 ≠ t := by simpa using h.1
  unfold putSel
  by_cases hb : b e.1 = true
  ·rw [if_pos hb, putSel_off h.2]
   simp [Act.put, Array.getElem?_setIfInBounds_ne he]
  ·rw [if_neg hb]
   exact putSel_off h.2
theorem putSel_on {b : Nat → Bool} {e : Nat × Tmp × Value} : ∀ {L : List (Nat × Tmp × Value)} {a : Act} (k : Nat), L[k]? = some e → ((L.drop (k + 1)).all fun x => !(x.2.1 == e.2.1)) = true → b e.1 = true → Nat.ble (e.2.1 + 1) a.tmps.size = true → (putSel a b L).tmps[e.2.1]? = some e.2.2
 | [], _, _, h, _, _, _ => by cases h
 | x :: r, a, 0, h, hd, hb, ht => by
  simp only [List.getElem?_cons_zero, Option.some.injEq] at h
  subst h
  unfold putSel
  rw [if_pos hb, putSel_off (by simpa using hd)]
  have ht2 : x.2.1 < a.tmps.size := Nat.le_of_ble_eq_true ht
  simp [Act.put, ht2]
 | x :: r, a, k + 1, h, hd, hb, ht => by
  unfold putSel
  refine putSel_on k (by simpa using h) (by simpa using hd) hb ?_
  by_cases hx : b x.1 = true
  ·rw [if_pos hx]
   simpa [Act.put] using ht
  ·rw [if_neg hx]
   exact ht
theorem put_comm {a : Act} {s t : Tmp} {u v : Value} (h : s ≠ t) : (a.put (some s) u).put (some t) v = (a.put (some t) v).put (some s) u := by
 simp only [Act.put]
 rw [Array.setIfInBounds_comm _ _ h]
theorem putSel_put {b : Nat → Bool} {t : Tmp} {v : Value} : ∀ {L : List (Nat × Tmp × Value)} {a : Act}, (L.all fun e => !(e.2.1 == t)) = true → (putSel a b L).put (some t) v = putSel (a.put (some t) v) b L
 | [], _, _ => rfl
 | e :: r, a, h => by
  rw [List.all_cons, Bool.and_eq_true] at h
  have he : e.2.1 ≠ t := by simpa using h.1
  unfold putSel
  by_cases hb : b e.1 = true
  ·rw [if_pos hb, if_pos hb, putSel_put h.2, put_comm he]
  ·rw [if_neg hb, if_neg hb]
   exact putSel_put h.2
theorem putSel_same {b : Nat → Bool} {i : Nat} : ∀ {L : List (Nat × Tmp × Value)} {a : Act}, (L.all fun e => !(e.1 == i)) = true → putSel a (up b i) L = putSel a b L
 | [], _, _ => rfl
 | e :: r, a, h => by
  rw [List.all_cons, Bool.and_eq_true] at h
  have he : e.1 ≠ i := by simpa using h.1
  unfold putSel
  rw [up_ne he]
  exact putSel_same h.2
theorem putSel_up {b : Nat → Bool} {i : Nat} {t : Tmp} {v0 v : Value} : ∀ {L1 L2 : List (Nat × Tmp × Value)} {a : Act}, b i = false → ((L1 ++ L2).all fun e => !(e.1 == i) && !(e.2.1 == t)) = true →
  (putSel a b (L1 ++ (i, t, v0) :: L2)).put (some t) v = putSel a (up b i) (L1 ++ (i, t, v) :: L2)
 | [], L2, a, hb, h => by
  simp only [List.nil_append] at h ⊢
  have h1 : (L2.all fun e => !(e.1 == i)) = true := List.all_eq_true.2 (fun e he => by have := List.all_eq_true.1 h e he; simp only [Bool.and_eq_true] at this; exact this.1)
  have h2 : (L2.all fun e => !(e.2.1 == t)) = true := List.all_eq_true.2 (fun e he => by have := List.all_eq_true.1 h e he; simp only [Bool.and_eq_true] at this; exact this.2)
  unfold putSel
  rw [if_neg (by rw [hb]; decide), if_pos (up_self b i), putSel_put h2, putSel_same h1]
 | e :: r, L2, a, hb, h => by
  simp only [List.cons_append, List.all_cons, Bool.and_eq_true] at h
  have he : e.1 ≠ i := by simpa using h.1.1
  simp only [List.cons_append]
  unfold putSel
  rw [up_ne he]
  exact putSel_up hb h.2
theorem putSel_upk {b : Nat → Bool} {i : Nat} {t : Tmp} {v0 v : Value} {a : Act} {L L' : List (Nat × Tmp × Value)} (k : Nat) (hb : b i = false) (hL : L[k]? = some (i, t, v0)) (hL' : L.set k (i, t, v) = L') (hd : ((L.take k ++ L.drop (k + 1)).all fun e => !(e.1 == i) && !(e.2.1 == t)) = true) :
  (putSel a b L).put (some t) v = putSel a (up b i) L' := by
 have hk := (List.getElem?_eq_some_iff.1 hL).1
 have h1 : L = L.take k ++ (i, t, v0) :: L.drop (k + 1) := by
  have h2 : L[k] = (i, t, v0) := (List.getElem?_eq_some_iff.1 hL).2
  rw [← h2, List.getElem_cons_drop, List.take_append_drop]
 have h3 : L' = L.take k ++ (i, t, v) :: L.drop (k + 1) := by rw [← hL', List.set_eq_take_append_cons_drop, if_pos hk]
 rw [h3]
 conv => lhs; rw [h1]
 exact putSel_up hb hd
theorem putSel_none {b : Nat → Bool} {i : Nat} {L : List (Nat × Tmp × Value)} {a : Act} {v : Value} (h : (L.all fun e => !(e.1 == i)) = true) : (putSel a b L).put none v = putSel a (up b i) L := (putSel_same h).symm
theorem inv_ {l : Array Bool} {fuel : Nat} {a : Act} {w : World} (O : List Nat) (I : (Nat → Bool) → Act → World → Prop) (hT : rtab md ops = T) (hw : waitsOk T.2 B = true) (hk : baseOk T.2 O = true)
  (hl : (lof T.2.length O (fun _ => false) == l.toList && O.length == fuel) = true) (h0 : I (fun _ => false) a w) (hs : ∀ i ∈ O, StepAt P ops Q B O I i)
  (hend : ∀ b a w, (∀ j, O.contains j = true → b j = true) → I b a w → Q .normal a w) : wpAnyLast P md ops Q (fun _ => True) [] fuel l a w := by
 rw [Bool.and_eq_true, beq_iff_eq, beq_iff_eq] at hl
 have h1 := inv_all hT hw hk I hs hend fuel (fun _ => false) a w (by rw [← hl.2]; simp) (fun d r _ _ hb => by cases hb) h0
 have h2 : (lof T.2.length O (fun _ => false)).toArray = l := by apply Array.ext'; exact hl.1
 rw [h2] at h1
 exact h1
theorem inv_at {l : Array Bool} {fuel : Nat} {a : Act} {w : World} (O : List Nat) (I : Act → (Nat → Bool) → Act → World → Prop) (hT : rtab md ops = T) (hw : waitsOk T.2 B = true) (hk : baseOk T.2 O = true)
  (hl : (lof T.2.length O (fun _ => false) == l.toList && O.length == fuel) = true) (h0 : I a (fun _ => false) a w) (hs : ∀ i ∈ O, StepAt P ops Q B O (I a) i)
  (hend : ∀ b a' w, (∀ j, O.contains j = true → b j = true) → I a b a' w → Q .normal a' w) : wpAnyLast P md ops Q (fun _ => True) [] fuel l a w := inv_ O (I a) hT hw hk hl h0 hs hend
end
end Go.Proofs.YtfldklimlcnnnaaW.PrintLast
namespace Go.Proofs.YtfldklimlcnnnaaW.PrintWords
open Go.RowKit
end Go.Proofs.YtfldklimlcnnnaaW.PrintWords
namespace Go.Proofs.YtfldklimlcnnnaaW.PrintLast
section
variable {ops : Array Oper} {a : Act} {o og : Oper} {g : Nat} {t : Tmp} {u : Bool}
end
end Go.Proofs.YtfldklimlcnnnaaW.PrintLast
end

section
namespace Go.Proofs.Ytfldklimlcnnnaa.XRFits
open Go.RowKit Go.Shelf Go.Proofs.Ytfldklimlcnnnaa.PHq Go.Proofs.YtfldklimlcnnnaaW.PrintWords Go.Proofs.YtfldklimlcnnnaaW.PrintLast Go.Proofs.YtfldklimlcnnnaaW.PrintMore Go.Proofs.Ytfldklimlcnnnaa.MWords
open Go.Proofs.Ytfldklimlcnnnaa.MNat Go.Proofs.Ytfldklimlcnnnaa.QNat Go.Proofs.Ytfldklimlcnnnaa.QText Go.Proofs.Ytfldklimlcnnnaa.QEv Go.Proofs.Ytfldklimlcnnnaa.QRatio Go.Proofs.Ytfldklimlcnnnaa.XRV Go.Proofs.Ytfldklimlcnnnaa.XHold Go.Proofs.Ytfldklimlcnnnaa.XWts Go.Proofs.Ytfldklimlcnnnaa.XLed Go.Proofs.Ytfldklimlcnnnaa.XPuts Go.Proofs.Ytfldklimlcnnnaa.XNew Go.Proofs.Ytfldklimlcnnnaa.XFits Go.Proofs.Ytfldklimlcnnnaa.XJoin Go.Proofs.Ytfldklimlcnnnaa.XMeth Go.Proofs.Ytfldklimlcnnnaa.XAsk Go.Proofs.Ytfldklimlcnnnaa.XEnd Go.Proofs.Ytfldklimlcnnnaa.XAwake Go.Proofs.Ytfldklimlcnnnaa.QHold Go.Proofs.Ytfldklimlcnnnaa.XLeft Go.Proofs.Ytfldklimlcnnnaa.QLeft Go.Proofs.Ytfldklimlcnnnaa.QRef12 Go.Proofs.Ytfldklimlcnnnaa.XRef12 Go.Proofs.Ytfldklimlcnnnaa.XOp Go.Proofs.Ytfldklimlcnnnaa.XRJoin Go.Proofs.Ytfldklimlcnnnaa.XRSet
theorem fit_nums (l : List (Int × Hd)) (hl : l.length ≤ 500) (ho : ∀ z ∈ l, okH z.2) (X : S34) (hX : okW X) (n d : Nat) (hn : n < 18446744073709551616) (hd : d < 18446744073709551616) (h0 : 0 < d) :
  ∃ N E S1 S2, (∃ k, regattaref03_Sum.f k (l.map fun z => hv z.2) = some (limbs N, limbs E)) ∧ (∃ k, regattaref03_Plus.f k (limbs N) (limbs E) (limbs X.f0.toNat) (limbs X.f1.toNat) = some (limbs S1, limbs S2))
   ∧ (∃ k, regattaref03_Cmp.f k (limbs S1) (limbs S2) (limbs n) (limbs d) = some (cmpR (heldL l + wt X) (mkRat (n : Int) d)))
   ∧ ∀ I : S34, okW I → (∃ k, regattaref03_Cmp.f k (limbs I.f0.toNat) (limbs I.f1.toNat) (limbs S1) (limbs S2) = some (cmpR (wt I) (heldL l + wt X)))
    ∧ ∃ A1 A2, (∃ k, regattaref03_Plus.f k (limbs n) (limbs d) (limbs I.f0.toNat) (limbs I.f1.toNat) = some (limbs A1, limbs A2)) ∧ ∃ k, regattaref03_Cmp.f k (limbs S1) (limbs S2) (limbs A1) (limbs A2) = some (cmpR (heldL l + wt X) (mkRat (n : Int) d + wt I)) := by
 obtain ⟨N, E, hk, fN, fE, hE, hq⟩ := rheld_t l hl ho
 obtain ⟨x0, x1⟩ := okW_F hX
 have xp := okW_pos hX
 have f1 := F_cross fN fE x0 x1
 have f2 : F (1600 + 1 + 1) (E * X.f1.toNat) := (fE.mul x1).mono (by omega)
 have p2 : 0 < E * X.f1.toNat := Nat.mul_pos hE xp
 have e1 : mkRat ((N * X.f1.toNat + X.f0.toNat * E : Nat) : Int) (E * X.f1.toNat) = heldL l + wt X := by
  rw [← mk_add N E _ _ hE xp, hq]
  rfl
 refine ⟨N, E, N * X.f1.toNat + X.f0.toNat * E, E * X.f1.toNat, hk, (r3plus_t 1600 1 _ _ _ _ fN fE x0 x1 (by omega)).get, ?_, fun I hI => ?_⟩
 ·have h := r3cmp_t (1600 + 1 + 1) 2 _ _ n d f1 f2 (F_u64 hn) (F_u64 hd) (by omega) p2 h0
  rw [e1] at h
  exact h.get
 ·obtain ⟨i0, i1⟩ := okW_F hI
  have ip := okW_pos hI
  refine ⟨?_, n * I.f1.toNat + I.f0.toNat * d, d * I.f1.toNat, (r3plus_t 2 1 _ _ _ _ (F_u64 hn) (F_u64 hd) i0 i1 (by omega)).get, ?_⟩
  ·have h := r3cmp_t 1 (1600 + 1 + 1) _ _ _ _ i0 i1 f1 f2 (by omega) ip p2
   rw [e1] at h
   exact h.get
  ·have h := r3cmp_t (1600 + 1 + 1) (2 + 1 + 1) _ _ _ _ f1 f2 (F_cross (F_u64 hn) (F_u64 hd) i0 i1) (((F_u64 hd).mul i1).mono (by omega)) (by omega) p2 (Nat.mul_pos h0 ip)
   rw [e1, ← mk_add n d _ _ h0 ip] at h
   exact h.get
theorem plus_rv {k : Nat} {W : World} {x y u v : Value} {a b c d r1 r2 : List Int} (h : RV W x y a b) (g : RV W u v c d) (hf : regattaref03_Plus.f k a b c d = some (r1, r2)) :
  Calls Try.prog 26 #[.agg #[x, y], .agg #[u, v]] W fun e w' => ∃ p q : Value, e = .returned (.agg #[p, q]) ∧ RV w' p q r1 r2 ∧ Below W.heap.size W w' := by
 obtain ⟨⟨A1, c1, rfl, p1, q1⟩, A2, c2, rfl, p2, q2⟩ := h
 obtain ⟨⟨A3, c3, rfl, p3, q3⟩, A4, c4, rfl, p4, q4⟩ := g
 exact (regattaref03_Plus.calls k A1 c1 a A2 c2 b A3 c3 c A4 c4 d r1 r2 W q1 p1 q2 p2 q3 p3 q4 p4 hf).mono fun e w' ⟨p, q, he, h1, h2, hb⟩ => ⟨p, q, he, RV.ofR h1 h2, hb⟩
theorem r3of_rv (x : S34) (hx : okW x) (W : World) :
  Calls Try.prog 23 #[.agg #[.int .i64 x.f0, .int .i64 x.f1]] W fun e w' => ∃ p q : Value, e = .returned (.agg #[p, q]) ∧ RV w' p q (limbs x.f0.toNat) (limbs x.f1.toNat) ∧ Below W.heap.size W w' := by
 obtain ⟨k, hk⟩ := (r3of_t x hx).get
 exact (regattaref03_Of.calls k x.f0 x.f1 _ _ W hk).mono fun e w' ⟨p, q, he, h1, h2, hb⟩ => ⟨p, q, he, RV.ofR h1 h2, hb⟩
theorem box_put1 {X w : World} {g7 : Nat} {p p' : Value} {r1 r2 : List Int} {t : TypeId} {o1 o2 : Option Addr} {n1 n2 m1 m2 : Nat} (hG : MBlk X g7 t #[.slice o1 n1 m1, .slice o2 n2 m2]) (hV : RV X p p' r1 r2) (hB : Below w.heap.size w X) (hg : w.heap.size ≤ g7) :
  MBlk ((X.setCell ⟨g7, 0, none⟩ p).setCell ⟨g7, 1, none⟩ p') g7 t #[p, p'] ∧ RV ((X.setCell ⟨g7, 0, none⟩ p).setCell ⟨g7, 1, none⟩ p') p p' r1 r2 ∧ Below w.heap.size w ((X.setCell ⟨g7, 0, none⟩ p).setCell ⟨g7, 1, none⟩ p') := by
 have hn := noLimb_box hG
 have hs : ∀ k, k ≠ g7 → ((X.setCell ⟨g7, 0, none⟩ p).setCell ⟨g7, 1, none⟩ p').heap[k]? = X.heap[k]? := fun k hk => (Below.heap_setCell _ ⟨g7, 1, none⟩ _ k hk).trans (Below.heap_setCell _ ⟨g7, 0, none⟩ _ k hk)
 exact ⟨mblk_set (mblk_set hG 0 _) 1 _, hV.near (fun k _ h => hs k (fun e => h (by rw [e]; exact hn))), (hB.setCell (p := ⟨g7, 0, none⟩) hg _).setCell (p := ⟨g7, 1, none⟩) hg _⟩
theorem fitsW_no {all q : Rat} {X I : S34} (hq : 0 ≤ q) (hX : mayW X = true) (hI : mayW I = false) : fitsW all q X I = decide (q + wt X ≤ all) := by
 unfold fitsW fitsQ
 have := wt_nonneg X
 rw [hX, hI, if_neg (by decide), Bool.true_and]
 generalize wt X = x at *
 rw [decide_eq_true (show (0 : Rat) ≤ q + x by grind), Bool.true_and, show q + x - 0 = q + x by grind]
theorem fitsW_yes {all q : Rat} {X I : S34} (hX : mayW X = true) (hI : mayW I = true) : fitsW all q X I = (decide (wt I ≤ q + wt X) && decide (q + wt X ≤ all + wt I)) := by
 unfold fitsW fitsQ
 rw [hX, hI, if_pos rfl, Bool.true_and]
 congr 1
 generalize wt X = x
 generalize wt I = i
 exact decide_eq_decide.2 (by constructor <;> intro k <;> grind)
def rfit.T4 : Bool × List (List Nat × List Nat) := (true, [([], []), ([0], [0]), ([], []), ([2, 1], [2]), ([1, 3, 3], [1, 3]), ([], []), ([5, 4, 4, 0, 1, 2, 3, 4, 5], [4, 5])])
def rfit.B4 : List Nat := [0, 1, 0, 7, 15, 0, 63]
theorem rfit.tab4 : rtab .any (opsOf Try.f34 4) = rfit.T4 := by kernel_rfl
theorem rfit.bits4 : waitsOk rfit.T4.2 rfit.B4 = true := by kernel_rfl
set_option maxRecDepth 100000 in
set_option maxHeartbeats 4000000 in
theorem rFits_calls (gr base : Nat) (x y : Value) (l : List (Int × Hd)) (X I : S34) (n d : Nat) (w : World) (h : RL w gr base x y l) (hV : RV w x y (limbs n) (limbs d)) (hn : n < 18446744073709551616) (hd : d < 18446744073709551616) (hd0 : 0 < d) (hG : GoodL l) (hs : SmallL l) :
  Calls Try.prog 34 #[.pointer (some ⟨gr, 0, none⟩), .agg #[.int .i64 X.f0, .int .i64 X.f1], .agg #[.int .i64 I.f0, .int .i64 I.f1]] w fun e w' => e = .returned (.bool (fitsW (mkRat (n : Int) d) (heldL l) X I)) ∧ Below w.heap.size w w' := by
 have mixed : Try.prog.follows Departure.mixedOrders = true := by kernel_rfl
 obtain ⟨all, hall⟩ : ∃ all, all = mkRat (n : Int) d := ⟨_, rfl⟩
 rw [← hall]
 have ha : (w.alloc (.cells #[.int .i64 X.f0, .int .i64 X.f1] 34)).heap.size = w.heap.size + 1 := by simp
 obtain ⟨W0, hW0⟩ : ∃ W0, W0 = (w.alloc (.cells #[.int .i64 X.f0, .int .i64 X.f1] 34)).alloc (.cells #[.int .i64 I.f0, .int .i64 I.f1] 34) := ⟨_, rfl⟩
 have hb0 : Below w.heap.size w W0 := by rw [hW0]; exact below_alloc (below_alloc (Below.refl _ _) _) _
 have HX0 := Aside0.mk (show MBlk W0 w.heap.size 34 #[.int .i64 X.f0, .int .i64 X.f1] by rw [hW0]; exact mblk_alloc (mblk_new _ _ _) _)
 have HI0 := Aside0.mk (show MBlk W0 (w.heap.size + 1) 34 #[.int .i64 I.f0, .int .i64 I.f1] by rw [hW0, ← ha]; exact mblk_new _ _ _)
 have HB0 := Aside0.mk hb0
 have HR0 := Aside0.mk (h.below hb0)
 have HV0 := Aside0.mk (hV.below hb0)
 have HA := Aside0.mk (And.intro hn (And.intro hd (And.intro hd0 (And.intro hG hs))))
 have HC := Aside0.mk (rcheck_f X)
 have HCI := Aside0.mk (rcheck_f I)
 have HALL := Aside0.mk hall
 clear h hV hn hd hd0 hG hs hb0 ha hall
 go_enter Try.func34, Try.ntmps34
 go_upto_region 1 with fail
 rw [← hW0]
 clear hW0
 have x0 : W0.cell? ⟨w.heap.size, 0, none⟩ = some (.int .i64 X.f0) := (mblk_cell HX0.out 0).trans rfl
 have x1 : W0.cell? ⟨w.heap.size, 1, none⟩ = some (.int .i64 X.f1) := (mblk_cell HX0.out 1).trans rfl
 by_cases hm : mayW X = true
 case neg =>
  have hm' : mayW X = false := by simpa using hm
  have HE := Aside0.mk (show fitsW all (heldL l) X I = false by unfold fitsW; rw [hm']; rfl)
  clear hm
  go_wp2_with (go_at_call 77; refine (regattaref04_Check.calls X.f0 X.f1 _ _ HC.out).mono ?_; rw [hm']; rintro e w3 ⟨rfl, hb3⟩; have HB3 := Aside0.mk hb3; clear hb3)
  exact bodyPost_ret (results_tmp rfl _ _ _) rfl ⟨by rw [HE.out]; rfl, below_step HB0.out HB3.out⟩
 have HM := Aside0.mk hm
 obtain ⟨N, E, S1, S2, ⟨k0, n0⟩, ⟨k1, n1⟩, ⟨k2, n2⟩, n3⟩ := fit_nums l HA.out.2.2.2.1.len HA.out.2.2.2.1.ok X (may_ok hm) n d HA.out.1 HA.out.2.1 HA.out.2.2.1
 rw [hm] at HC
 obtain ⟨C1, hC1⟩ : ∃ C1, C1 = cmpR (heldL l + wt X) (mkRat (n : Int) d) := ⟨_, rfl⟩
 rw [← hC1] at n2
 have HC1 := Aside0.mk hC1
 have N0 := Aside0.mk n0
 have N1 := Aside0.mk n1
 have N2 := Aside0.mk n2
 have N3 := Aside0.mk n3
 clear n0 n1 n2 n3 hC1 hm
 obtain ⟨lN, hlN⟩ : ∃ lN, lN = limbs N := ⟨_, rfl⟩
 obtain ⟨lE, hlE⟩ : ∃ lE, lE = limbs E := ⟨_, rfl⟩
 obtain ⟨lS1, hS1⟩ : ∃ lS1, lS1 = limbs S1 := ⟨_, rfl⟩
 obtain ⟨lS2, hS2⟩ : ∃ lS2, lS2 = limbs S2 := ⟨_, rfl⟩
 obtain ⟨ln, hln⟩ : ∃ ln, ln = limbs n := ⟨_, rfl⟩
 obtain ⟨ld, hld⟩ : ∃ ld, ld = limbs d := ⟨_, rfl⟩
 obtain ⟨lX, hlX⟩ : ∃ lX, lX = limbs X.f0.toNat := ⟨_, rfl⟩
 obtain ⟨lY, hlY⟩ : ∃ lY, lY = limbs X.f1.toNat := ⟨_, rfl⟩
 rw [← hlN, ← hlE, ← hlX, ← hlY, ← hS1, ← hS2] at N1
 rw [← hS1, ← hS2, ← hln, ← hld] at N2
 rw [← hS1, ← hS2, ← hln, ← hld] at N3
 rw [← hln, ← hld] at HV0
 have HLN := Aside0.mk (And.intro hlN (And.intro hlE (And.intro hlX hlY)))
 clear hlN hlE hS1 hS2 hln hld hlX hlY
 go_upto_region 4 with (go_at_call 77; refine (regattaref04_Check.calls X.f0 X.f1 _ _ HC.out).mono ?_; rintro e w3 ⟨rfl, hb3⟩; have HB3 := Aside0.mk hb3; clear hb3)
 have HR3 := Aside0.mk (HR0.out.below HB3.out)
 have HV3 := Aside0.mk (HV0.out.below HB3.out)
 have HX3 := Aside0.mk ((HB3.out.block _ (mblk_lt HX0.out)).trans HX0.out)
 have HI3 := Aside0.mk ((HB3.out.block _ (mblk_lt HI0.out)).trans HI0.out)
 have HD3 := Aside0.mk (below_step HB0.out HB3.out)
 clear HR0 HV0 HX0 HI0 HB3 x0 x1 HC
 go_cut [8] (fun v8 wc => ∃ (g8 : Nat) (P1 P2 : Option Addr) (p1 p2 : Nat), v8 = .pointer (some ⟨g8, 0, none⟩) ∧ Aside0 (MBlk wc g8 28 #[.slice P1 lS1.length p1, .slice P2 lS2.length p2]) ∧ Aside0 (RV wc (.slice P1 lS1.length p1) (.slice P2 lS2.length p2) lS1 lS2) ∧ Aside0 (Below w3.heap.size w3 wc))
 case first =>
  refine start_ (n := 7) (S := fun w' => True) (ds := []) #[false, false, false, false, false, false, false] (by kernel_rfl) rfl rfl trivial (fun hHeld => ?_)
  refine with_tabW rfit.tab4 rfit.bits4 (fun HT_ HW_ => ?_)
  have FB := Aside0.mk (below_drew (Below.refl w3.heap.size w3))
  refine pure_ (i := 0) (N := some 15) (v := ?_) (a' := ?_) #[true, false, false, false, false, false, false] rfl rfl (any_of HT_.out (by kernel_rfl)) (fun _ _ _ h => h) (Or.inl ⟨by rfl, ?_⟩) ?_ ?_
  rotate_left
  ·intro w'
   go_simp
   with_reducible rfl
  rotate_left
  ·simp only [Act.put, List.setIfInBounds_toArray, List.set_cons_zero, List.set_cons_succ, i64_w, i32_w]
   rfl
  refine inv_at [1, 2, 3, 4, 5, 6] (fun a0_ b a w' => ∃ (H1 : Option Addr) (h1 : Nat) (H2 : Option Addr) (h2 : Nat) (O1 : Option Addr) (o1 : Nat) (O2 : Option Addr) (o2 : Nat) (P1 : Option Addr) (p1 : Nat) (P2 : Option Addr) (p2 : Nat) (g5 : Nat) (m1_ : Value) (m3_ : Value) (m4_ : Value) (m5_ : Value), a = putSel a0_ b [(1, 16, m1_), (2, 17, .agg #[.int .i64 X.f0, .int .i64 X.f1]), (3, 18, m3_), (4, 19, m4_), (5, 8, m5_)] ∧ (Below w3.heap.size w3 w') ∧ (b 1 = true → b 4 = false → RV w' (.slice H1 lN.length h1) (.slice H2 lE.length h2) lN lE) ∧ (b 3 = true → b 4 = false → RV w' (.slice O1 lX.length o1) (.slice O2 lY.length o2) lX lY) ∧ (b 4 = true → RV w' (.slice P1 lS1.length p1) (.slice P2 lS2.length p2) lS1 lS2) ∧ (b 5 = true → w3.heap.size ≤ g5) ∧ (b 5 = true → b 6 = false → MBlk w' g5 28 #[.slice none 0 0, .slice none 0 0]) ∧ (b 6 = true → MBlk w' g5 28 #[.slice P1 lS1.length p1, .slice P2 lS2.length p2]) ∧ (b 1 = true → (m1_ : Value) = .agg #[.slice H1 lN.length h1, .slice H2 lE.length h2]) ∧ (b 3 = true → (m3_ : Value) = .agg #[.slice O1 lX.length o1, .slice O2 lY.length o2]) ∧ (b 4 = true → (m4_ : Value) = .agg #[.slice P1 lS1.length p1, .slice P2 lS2.length p2]) ∧ (b 5 = true → (m5_ : Value) = .pointer (some ⟨g5, 0, none⟩))) HT_.out HW_.out (by kernel_rfl) (by kernel_rfl) ?_ ?_ ?_
  ·exact ⟨none, 0, none, 0, none, 0, none, 0, none, 0, none, 0, 0, .bool false, .bool false, .bool false, .bool false, by simp only [putSel, Bool.false_eq_true, if_false], FB.out, fun h_ => absurd h_ (by decide), fun h_ => absurd h_ (by decide), fun h_ => absurd h_ (by decide), fun h_ => absurd h_ (by decide), fun h_ => absurd h_ (by decide), fun h_ => absurd h_ (by decide), fun h_ => absurd h_ (by decide), fun h_ => absurd h_ (by decide), fun h_ => absurd h_ (by decide), fun h_ => absurd h_ (by decide)⟩
  ·skip
   clear FB
   refine steps_cons ?_ ?_
   ·rintro b a w' ⟨H1, h1, H2, h2, O1, o1, O2, o2, P1, p1, P2, p2, g5, m1_, m3_, m4_, m5_, ha, Q_FB, Q_F1, Q_F3, Q_F4, Q_G5, Q_F5, Q_F6, Q_X1_, Q_X3_, Q_X4_, Q_X5_⟩ hb_ hon hoff
    refine ⟨_, rfl, fun K hK => ?_⟩
    have e15 : a.tmps[15]? = some (.pointer (some ⟨gr, 0, none⟩)) := by rw [ha]; exact (putSel_off rfl).trans rfl
    replace ha := Aside0.mk ha
    have FB := Aside0.mk Q_FB
    refine goes_ Try.func37 (by kernel_rfl) rfl #[.pointer (some ⟨gr, 0, none⟩)] (by rfl) rfl rfl (by simp only [List.map_toArray, List.map_cons, List.map_nil, Act.eval, Array.getD_eq_getD_getElem?, e15, Option.getD_some]) ?_
    refine (rheld_calls gr base x y l N E k0 _ (HR3.out.below FB.out) HA.out.2.2.2.1.len HA.out.2.2.2.1.ok HA.out.2.2.2.2 N0.out).mono ?_
    rintro e1_ w1 ⟨u, u', rfl, h, hb⟩
    rw [← HLN.out.1, ← HLN.out.2.1] at h
    obtain ⟨U1, u1, U2, u2, rfl, rfl⟩ := h.shape
    refine ⟨_, rfl, ?_⟩
    refine hK.out _ _ ⟨U1, u1, U2, u2, O1, o1, O2, o2, P1, p1, P2, p2, g5, (.agg #[.slice U1 lN.length u1, .slice U2 lE.length u2]), m3_, m4_, m5_, (by rw [ha.out]; exact putSel_upk 0 hb_ rfl rfl rfl), below_step FB.out hb, fun _ _ => h, fun h0_ _ => absurd ((hoff 3 (by kernel_rfl)).symm.trans h0_) (by decide), fun h0_ => absurd ((hoff 4 (by kernel_rfl)).symm.trans h0_) (by decide), Q_G5, fun h0_ h1_ => (hb.block _ (mblk_lt (Q_F5 h0_ h1_))).trans (Q_F5 h0_ h1_), fun h0_ => absurd ((hoff 6 (by kernel_rfl)).symm.trans h0_) (by decide), fun _ => rfl, fun h0_ => absurd ((hoff 3 (by kernel_rfl)).symm.trans h0_) (by decide), fun h0_ => absurd ((hoff 4 (by kernel_rfl)).symm.trans h0_) (by decide), Q_X5_⟩
   refine steps_cons ?_ ?_
   ·rintro b a w' ⟨H1, h1, H2, h2, O1, o1, O2, o2, P1, p1, P2, p2, g5, m1_, m3_, m4_, m5_, ha, Q_FB, Q_F1, Q_F3, Q_F4, Q_G5, Q_F5, Q_F6, Q_X1_, Q_X3_, Q_X4_, Q_X5_⟩ hb_ hon hoff
    refine ⟨_, rfl, fun K hK => ?_⟩
    have e4 : a.tmps[4]? = some (.pointer (some ⟨w.heap.size, 0, none⟩)) := by rw [ha]; exact (putSel_off rfl).trans rfl
    replace ha := Aside0.mk ha
    have FB := Aside0.mk Q_FB
    have hx0 : w'.cell? ⟨w.heap.size, 0, none⟩ = some (.int .i64 X.f0) := (mblk_cell ((FB.out.block _ (mblk_lt HX3.out)).trans HX3.out) 0).trans rfl
    have hx1 : w'.cell? ⟨w.heap.size, 1, none⟩ = some (.int .i64 X.f1) := (mblk_cell ((FB.out.block _ (mblk_lt HX3.out)).trans HX3.out) 1).trans rfl
    refine value_ (w1 := w') (v := .agg #[.int .i64 X.f0, .int .i64 X.f1]) (by rfl) rfl ?_ ?_
    ·go_simp
     (try simp only [i64_w])
     try rfl
    refine hK.out _ _ ⟨H1, h1, H2, h2, O1, o1, O2, o2, P1, p1, P2, p2, g5, m1_, m3_, m4_, m5_, (by rw [ha.out]; exact putSel_upk 1 hb_ rfl rfl rfl), Q_FB, Q_F1, fun h0_ _ => absurd ((hoff 3 (by kernel_rfl)).symm.trans h0_) (by decide), fun h0_ => absurd ((hoff 4 (by kernel_rfl)).symm.trans h0_) (by decide), Q_G5, Q_F5, fun h0_ => absurd ((hoff 6 (by kernel_rfl)).symm.trans h0_) (by decide), Q_X1_, fun h0_ => absurd ((hoff 3 (by kernel_rfl)).symm.trans h0_) (by decide), fun h0_ => absurd ((hoff 4 (by kernel_rfl)).symm.trans h0_) (by decide), Q_X5_⟩
   refine steps_cons ?_ ?_
   ·rintro b a w' ⟨H1, h1, H2, h2, O1, o1, O2, o2, P1, p1, P2, p2, g5, m1_, m3_, m4_, m5_, ha, Q_FB, Q_F1, Q_F3, Q_F4, Q_G5, Q_F5, Q_F6, Q_X1_, Q_X3_, Q_X4_, Q_X5_⟩ hb_ hon hoff
    refine ⟨_, rfl, fun K hK => ?_⟩
    have e17 : a.tmps[17]? = some (.agg #[.int .i64 X.f0, .int .i64 X.f1]) := by rw [ha]; exact putSel_on (e := (2, 17, .agg #[.int .i64 X.f0, .int .i64 X.f1])) 1 rfl rfl (hon 2 (by kernel_rfl)) rfl
    replace ha := Aside0.mk ha
    have FB := Aside0.mk Q_FB
    have F1 := Aside0.mk (Q_F1 (hon 1 (by kernel_rfl)) (hoff 4 (by kernel_rfl)))
    refine goes_ Try.func23 (by kernel_rfl) rfl #[.agg #[.int .i64 X.f0, .int .i64 X.f1]] (by rfl) rfl rfl (by simp only [List.map_toArray, List.map_cons, List.map_nil, Act.eval, Array.getD_eq_getD_getElem?, e17, Option.getD_some]) ?_
    refine (r3of_rv X (may_ok HM.out) _).mono ?_
    rintro e1_ w1 ⟨u, u', rfl, h, hb⟩
    rw [← HLN.out.2.2.1, ← HLN.out.2.2.2] at h
    obtain ⟨U1, u1, U2, u2, rfl, rfl⟩ := h.shape
    refine ⟨_, rfl, ?_⟩
    refine hK.out _ _ ⟨H1, h1, H2, h2, U1, u1, U2, u2, P1, p1, P2, p2, g5, m1_, (.agg #[.slice U1 lX.length u1, .slice U2 lY.length u2]), m4_, m5_, (by rw [ha.out]; exact putSel_upk 2 hb_ rfl rfl rfl), below_step FB.out hb, fun _ _ => F1.out.below hb, fun _ _ => h, fun h0_ => absurd ((hoff 4 (by kernel_rfl)).symm.trans h0_) (by decide), Q_G5, fun h0_ h1_ => (hb.block _ (mblk_lt (Q_F5 h0_ h1_))).trans (Q_F5 h0_ h1_), fun h0_ => absurd ((hoff 6 (by kernel_rfl)).symm.trans h0_) (by decide), Q_X1_, fun _ => rfl, fun h0_ => absurd ((hoff 4 (by kernel_rfl)).symm.trans h0_) (by decide), Q_X5_⟩
   refine steps_cons ?_ ?_
   ·rintro b a w' ⟨H1, h1, H2, h2, O1, o1, O2, o2, P1, p1, P2, p2, g5, m1_, m3_, m4_, m5_, ha, Q_FB, Q_F1, Q_F3, Q_F4, Q_G5, Q_F5, Q_F6, Q_X1_, Q_X3_, Q_X4_, Q_X5_⟩ hb_ hon hoff
    refine ⟨_, rfl, fun K hK => ?_⟩
    have e16 : a.tmps[16]? = some (m1_) := by rw [ha]; exact putSel_on (e := (1, 16, m1_)) 0 rfl rfl (hon 1 (by kernel_rfl)) rfl
    rw [Q_X1_ (hon 1 (by kernel_rfl))] at e16
    have e18 : a.tmps[18]? = some (m3_) := by rw [ha]; exact putSel_on (e := (3, 18, m3_)) 2 rfl rfl (hon 3 (by kernel_rfl)) rfl
    rw [Q_X3_ (hon 3 (by kernel_rfl))] at e18
    replace ha := Aside0.mk ha
    have FB := Aside0.mk Q_FB
    have F1 := Aside0.mk (Q_F1 (hon 1 (by kernel_rfl)) hb_)
    have F3 := Aside0.mk (Q_F3 (hon 3 (by kernel_rfl)) hb_)
    refine goes_ Try.func26 (by kernel_rfl) rfl #[.agg #[.slice H1 lN.length h1, .slice H2 lE.length h2], .agg #[.slice O1 lX.length o1, .slice O2 lY.length o2]] (by rfl) rfl rfl (by simp only [List.map_toArray, List.map_cons, List.map_nil, Act.eval, Array.getD_eq_getD_getElem?, e16, e18, Option.getD_some]) ?_
    refine (plus_rv F1.out F3.out N1.out).mono ?_
    rintro e1_ w1 ⟨u, u', rfl, h, hb⟩
    obtain ⟨U1, u1, U2, u2, rfl, rfl⟩ := h.shape
    refine ⟨_, rfl, ?_⟩
    refine hK.out _ _ ⟨H1, h1, H2, h2, O1, o1, O2, o2, U1, u1, U2, u2, g5, m1_, m3_, (.agg #[.slice U1 lS1.length u1, .slice U2 lS2.length u2]), m5_, (by rw [ha.out]; exact putSel_upk 3 hb_ rfl rfl rfl), below_step FB.out hb, fun _ h1_ => absurd ((up_self b 4).symm.trans h1_) (by decide), fun _ h1_ => absurd ((up_self b 4).symm.trans h1_) (by decide), fun _ => h, Q_G5, fun h0_ h1_ => (hb.block _ (mblk_lt (Q_F5 h0_ h1_))).trans (Q_F5 h0_ h1_), fun h0_ => absurd ((hoff 6 (by kernel_rfl)).symm.trans h0_) (by decide), Q_X1_, Q_X3_, fun _ => rfl, Q_X5_⟩
   refine steps_cons ?_ ?_
   ·rintro b a w' ⟨H1, h1, H2, h2, O1, o1, O2, o2, P1, p1, P2, p2, g5, m1_, m3_, m4_, m5_, ha, Q_FB, Q_F1, Q_F3, Q_F4, Q_G5, Q_F5, Q_F6, Q_X1_, Q_X3_, Q_X4_, Q_X5_⟩ hb_ hon hoff
    refine ⟨_, rfl, fun K hK => ?_⟩
    replace ha := Aside0.mk ha
    have FB := Aside0.mk Q_FB
    refine value_ (w1 := w'.alloc (.cells #[.slice none 0 0, .slice none 0 0] 28)) (v := .pointer (some ⟨w'.heap.size, 0, none⟩)) (by rfl) rfl ?_ ?_
    ·go_simp
    refine hK.out _ _ ⟨H1, h1, H2, h2, O1, o1, O2, o2, P1, p1, P2, p2, w'.heap.size, m1_, m3_, m4_, (.pointer (some ⟨w'.heap.size, 0, none⟩)), (by rw [ha.out]; exact putSel_upk 4 hb_ rfl rfl rfl), below_alloc FB.out _, fun h0_ h1_ => (Q_F1 h0_ h1_).below (below_alloc (Below.refl _ _) _), fun h0_ h1_ => (Q_F3 h0_ h1_).below (below_alloc (Below.refl _ _) _), fun h0_ => (Q_F4 h0_).below (below_alloc (Below.refl _ _) _), fun _ => FB.out.size, fun _ _ => mblk_new _ _ _, fun h0_ => absurd ((hoff 6 (by kernel_rfl)).symm.trans h0_) (by decide), Q_X1_, Q_X3_, Q_X4_, fun _ => rfl⟩
   refine steps_cons ?_ ?_
   ·rintro b a w' ⟨H1, h1, H2, h2, O1, o1, O2, o2, P1, p1, P2, p2, g5, m1_, m3_, m4_, m5_, ha, Q_FB, Q_F1, Q_F3, Q_F4, Q_G5, Q_F5, Q_F6, Q_X1_, Q_X3_, Q_X4_, Q_X5_⟩ hb_ hon hoff
    refine ⟨_, rfl, fun K hK => ?_⟩
    have e8 : a.tmps[8]? = some (m5_) := by rw [ha]; exact putSel_on (e := (5, 8, m5_)) 4 rfl rfl (hon 5 (by kernel_rfl)) rfl
    rw [Q_X5_ (hon 5 (by kernel_rfl))] at e8
    have e19 : a.tmps[19]? = some (m4_) := by rw [ha]; exact putSel_on (e := (4, 19, m4_)) 3 rfl rfl (hon 4 (by kernel_rfl)) rfl
    rw [Q_X4_ (hon 4 (by kernel_rfl))] at e19
    replace ha := Aside0.mk ha
    have FB := Aside0.mk Q_FB
    have F4 := Aside0.mk (Q_F4 (hon 4 (by kernel_rfl)))
    have G5 := Aside0.mk (Q_G5 (hon 5 (by kernel_rfl)))
    have F5 := Aside0.mk (Q_F5 (hon 5 (by kernel_rfl)) hb_)
    have z0 := (mblk_cell F5.out 0).trans rfl
    have z1 := (mblk_cell F5.out 1).trans rfl
    have r0 := mblk_frozen F5.out 0
    have r1 := mblk_frozen F5.out 1
    have HQ := Aside0.mk (box_put1 F5.out F4.out FB.out G5.out)
    refine skip_ (w1 := (w'.setCell ⟨g5, 0, none⟩ (.slice P1 lS1.length p1)).setCell ⟨g5, 1, none⟩ (.slice P2 lS2.length p2)) (by rfl) rfl ?_ ?_
    ·go_simp
    refine hK.out _ _ ⟨H1, h1, H2, h2, O1, o1, O2, o2, P1, p1, P2, p2, g5, m1_, m3_, m4_, m5_, (by rw [ha.out]; exact putSel_none (v := undef) rfl), HQ.out.2.2, fun _ h1_ => absurd ((hon 4 (by kernel_rfl)).symm.trans h1_) (by decide), fun _ h1_ => absurd ((hon 4 (by kernel_rfl)).symm.trans h1_) (by decide), fun _ => HQ.out.2.1, fun _ => G5.out, fun _ h1_ => absurd ((up_self b 6).symm.trans h1_) (by decide), fun _ => HQ.out.1, Q_X1_, Q_X3_, Q_X4_, Q_X5_⟩
   exact steps_nil
  rintro b a wz hall ⟨H1, h1, H2, h2, O1, o1, O2, o2, P1, p1, P2, p2, g5, m1_, m3_, m4_, m5_, ha, Q_FB, Q_F1, Q_F3, Q_F4, Q_G5, Q_F5, Q_F6, Q_X1_, Q_X3_, Q_X4_, Q_X5_⟩
  clear FB
  have hb1_ := hall 1 (by kernel_rfl)
  have hb2_ := hall 2 (by kernel_rfl)
  have hb3_ := hall 3 (by kernel_rfl)
  have hb4_ := hall 4 (by kernel_rfl)
  have hb5_ := hall 5 (by kernel_rfl)
  have hb6_ := hall 6 (by kernel_rfl)
  subst ha
  obtain rfl := Q_X1_ hb1_
  obtain rfl := Q_X3_ hb3_
  obtain rfl := Q_X4_ hb4_
  obtain rfl := Q_X5_ hb5_
  simp only [putSel, hb1_, hb2_, hb3_, hb4_, hb5_, hb6_, if_true, Act.put, List.setIfInBounds_toArray, List.set_cons_zero, List.set_cons_succ]
  have FB := Aside0.mk Q_FB
  clear Q_FB
  clear Q_F1
  clear Q_F3
  have F4 := Aside0.mk (Q_F4 hb4_)
  clear Q_F4
  have G5 := Aside0.mk (Q_G5 hb5_)
  clear Q_G5
  clear Q_F5
  have F6 := Aside0.mk (Q_F6 hb6_)
  clear Q_F6
  clear hall hb1_ hb2_ hb3_ hb4_ hb5_ hb6_
  go_wp2_with fail
  go_meet
  case rel => exact ⟨g5, P1, P2, p1, p2, rfl, F6, F4, FB⟩
 case rest =>
  obtain ⟨g8, P1, P2, p1, p2, rfl, HG8, HP8, HB8⟩ := hcut
  have HRc := Aside0.mk (HR3.out.below HB8.out)
  have HVc := Aside0.mk (HV3.out.below HB8.out)
  have HIc := Aside0.mk (show MBlk wc (w.heap.size + 1) 34 _ from (HB8.out.block _ (mblk_lt HI3.out)).trans HI3.out)
  have HDc := Aside0.mk (below_step HD3.out HB8.out)
  clear HR3 HV3 HX3 HI3 HD3 HB8 N0 N1 HLN
  have i0 : wc.cell? ⟨w.heap.size + 1, 0, none⟩ = some (.int .i64 I.f0) := (mblk_cell HIc.out 0).trans rfl
  have i1 : wc.cell? ⟨w.heap.size + 1, 1, none⟩ = some (.int .i64 I.f1) := (mblk_cell HIc.out 1).trans rfl
  obtain ⟨X1, c1, X2, c2, rfl, rfl⟩ := HVc.out.shape
  by_cases hi : mayW I = true
  case neg =>
   have hi' : mayW I = false := by simpa using hi
   rw [hi'] at HCI
   obtain ⟨B, hB⟩ : ∃ B, B = fitsW all (heldL l) X I := ⟨_, rfl⟩
   have b1 : decide (C1 ≤ 0) = B := by rw [hB, HC1.out, cmp_le, fitsW_no (held_nonneg l) HM.out hi', HALL.out]
   have HBB := Aside0.mk hB
   clear hi hi' hB
   go_upto_region 7 with (go_at_call 77; refine (regattaref04_Check.calls I.f0 I.f1 _ _ HCI.out).mono ?_; rintro e w5 ⟨rfl, hb5⟩; have HB5 := Aside0.mk hb5; clear hb5)
   have HG5 := Aside0.mk ((HB5.out.block _ (mblk_lt HG8.out)).trans HG8.out)
   have HP5 := Aside0.mk (HP8.out.below HB5.out)
   have HV5 := Aside0.mk (HVc.out.below HB5.out)
   obtain ⟨v, hM, _⟩ := HRc.out.out
   have HM5 := Aside0.mk ((HB5.out.block _ (mblk_lt hM)).trans hM)
   have HD5 := Aside0.mk (below_step HDc.out HB5.out)
   clear hM HG8 HP8 HVc HRc HIc HDc HB5 i0 i1
   have s0 : w5.cell? ⟨g8, 0, none⟩ = some (.slice P1 lS1.length p1) := (mblk_cell HG5.out 0).trans rfl
   have s1 : w5.cell? ⟨g8, 1, none⟩ = some (.slice P2 lS2.length p2) := (mblk_cell HG5.out 1).trans rfl
   have z0 : w5.cell? ⟨gr, 0, none⟩ = some (.slice X1 ln.length c1) := (mblk_cell HM5.out 0).trans (by simp)
   have z1 : w5.cell? ⟨gr, 1, none⟩ = some (.slice X2 ld.length c2) := (mblk_cell HM5.out 1).trans (by simp)
   go_region_held3 (fun w' => w'.cell? ⟨g8, 0, none⟩ = some (.slice P1 lS1.length p1) ∧ w'.cell? ⟨g8, 1, none⟩ = some (.slice P2 lS2.length p2) ∧ w'.cell? ⟨gr, 0, none⟩ = some (.slice X1 ln.length c1) ∧ w'.cell? ⟨gr, 1, none⟩ = some (.slice X2 ld.length c2))
    (first | (exact ⟨s0, s1, z0, z1⟩) | go_keep)
    (first
     | (go_at_call 19; refine (rcmp_rv (HP5.out.below (below_drew (Below.refl _ _))) (HV5.out.below (below_drew (Below.refl _ _))) N2.out).mono ?_; rintro e w6 ⟨rfl, hb⟩; have hbb : Below w5.heap.size w5 w6 := below_step (below_drew (Below.refl _ _)) hb; have HB6 := Aside0.mk hbb; have s0 : w6.cell? ⟨g8, 0, none⟩ = some (.slice P1 lS1.length p1) := (mblk_cell ((hbb.block _ (mblk_lt HG5.out)).trans HG5.out) 0).trans rfl; have s1 : w6.cell? ⟨g8, 1, none⟩ = some (.slice P2 lS2.length p2) := (mblk_cell ((hbb.block _ (mblk_lt HG5.out)).trans HG5.out) 1).trans rfl; have z0 : w6.cell? ⟨gr, 0, none⟩ = some (.slice X1 ln.length c1) := (mblk_cell ((hbb.block _ (mblk_lt HM5.out)).trans HM5.out) 0).trans (by simp); have z1 : w6.cell? ⟨gr, 1, none⟩ = some (.slice X2 ld.length c2) := (mblk_cell ((hbb.block _ (mblk_lt HM5.out)).trans HM5.out) 1).trans (by simp); clear hb hbb N2))
   all_goals
    go_wp2_with fail
    exact bodyPost_ret (results_tmp rfl _ _ _) rfl ⟨by rw [← HBB.out]; rfl, below_step HD5.out HB6.out⟩
  have HMI := Aside0.mk hi
  rw [hi] at HCI
  obtain ⟨⟨k3, n3⟩, A1, A2, ⟨k4, n4⟩, k5, n5⟩ := N3.out I (may_ok hi)
  obtain ⟨C2, hC2⟩ : ∃ C2, C2 = cmpR (wt I) (heldL l + wt X) := ⟨_, rfl⟩
  obtain ⟨C3, hC3⟩ : ∃ C3, C3 = cmpR (heldL l + wt X) (mkRat (n : Int) d + wt I) := ⟨_, rfl⟩
  rw [← hC2] at n3
  rw [← hC3] at n5
  have HFW := Aside0.mk (show fitsW all (heldL l) X I = (decide (C2 ≤ 0) && decide (C3 ≤ 0)) by rw [hC2, hC3, cmp_le, cmp_le, fitsW_yes HM.out hi, HALL.out])
  obtain ⟨lI, hlI⟩ : ∃ lI, lI = limbs I.f0.toNat := ⟨_, rfl⟩
  obtain ⟨lJ, hlJ⟩ : ∃ lJ, lJ = limbs I.f1.toNat := ⟨_, rfl⟩
  obtain ⟨lA1, hA1⟩ : ∃ lA1, lA1 = limbs A1 := ⟨_, rfl⟩
  obtain ⟨lA2, hA2⟩ : ∃ lA2, lA2 = limbs A2 := ⟨_, rfl⟩
  rw [← hlI, ← hlJ] at n3
  rw [← hlI, ← hlJ, ← hA1, ← hA2] at n4
  rw [← hA1, ← hA2] at n5
  have M3 := Aside0.mk n3
  have M4 := Aside0.mk n4
  have M5 := Aside0.mk n5
  have HLI := Aside0.mk (And.intro hlI hlJ)
  clear n3 n4 n5 hC2 hC3 hlI hlJ hA1 hA2 hi N2 HC1
  go_upto_region 8 with (go_at_call 77; refine (regattaref04_Check.calls I.f0 I.f1 _ _ HCI.out).mono ?_; rintro e w5 ⟨rfl, hb5⟩; have HB5 := Aside0.mk hb5; clear hb5)
  have HI5 := Aside0.mk ((HB5.out.block _ (mblk_lt HIc.out)).trans HIc.out)
  clear i0 i1
  have i0 : w5.cell? ⟨w.heap.size + 1, 0, none⟩ = some (.int .i64 I.f0) := (mblk_cell HI5.out 0).trans rfl
  have i1 : w5.cell? ⟨w.heap.size + 1, 1, none⟩ = some (.int .i64 I.f1) := (mblk_cell HI5.out 1).trans rfl
  go_upto_region 9 with (go_at_call 23; refine (r3of_rv I (may_ok HMI.out) _).mono ?_; rw [← HLI.out.1, ← HLI.out.2]; rintro e w6 ⟨u, u', rfl, h6, hb⟩; obtain ⟨U1, u1, U2, u2, rfl, rfl⟩ := h6.shape; have HB6 := Aside0.mk (below_step HB5.out hb); have HU6 := Aside0.mk h6; clear h6 hb)
  obtain ⟨gi, hgi⟩ : ∃ gi, gi = w6.heap.size := ⟨_, rfl⟩
  obtain ⟨w7, hw7⟩ : ∃ w7, w7 = w6.alloc (.cells #[.slice U1 lI.length u1, .slice U2 lJ.length u2] 28) := ⟨_, rfl⟩
  have hb7 : Below w6.heap.size w6 w7 := by rw [hw7]; exact below_alloc (Below.refl _ _) _
  have hc7 := below_step HB6.out hb7
  have HGI := Aside0.mk (show MBlk w7 gi 28 #[.slice U1 lI.length u1, .slice U2 lJ.length u2] by rw [hw7, hgi]; exact mblk_new _ _ _)
  have HUI := Aside0.mk (HU6.out.below hb7)
  have HG7 := Aside0.mk (show MBlk w7 g8 28 #[.slice P1 lS1.length p1, .slice P2 lS2.length p2] from (hc7.block _ (mblk_lt HG8.out)).trans HG8.out)
  have HP7 := Aside0.mk (HP8.out.below hc7)
  have HV7 := Aside0.mk (HVc.out.below hc7)
  obtain ⟨v, hM, _⟩ := HRc.out.out
  have HM7 := Aside0.mk (show MBlk w7 gr 57 #[.slice X1 ln.length c1, .slice X2 ld.length c2, v] from (hc7.block _ (mblk_lt hM)).trans hM)
  have HD7 := Aside0.mk (below_step HDc.out hc7)
  rw [← hw7, ← hgi]
  clear hw7 hgi hb7 hc7 hM HG8 HP8 HVc HRc HIc HDc HB5 HI5 HB6 HU6 i0 i1
  have q0 : w7.cell? ⟨gi, 0, none⟩ = some (.slice U1 lI.length u1) := (mblk_cell HGI.out 0).trans rfl
  have q1 : w7.cell? ⟨gi, 1, none⟩ = some (.slice U2 lJ.length u2) := (mblk_cell HGI.out 1).trans rfl
  have s0 : w7.cell? ⟨g8, 0, none⟩ = some (.slice P1 lS1.length p1) := (mblk_cell HG7.out 0).trans rfl
  have s1 : w7.cell? ⟨g8, 1, none⟩ = some (.slice P2 lS2.length p2) := (mblk_cell HG7.out 1).trans rfl
  have z0 : w7.cell? ⟨gr, 0, none⟩ = some (.slice X1 ln.length c1) := (mblk_cell HM7.out 0).trans (by simp)
  have z1 : w7.cell? ⟨gr, 1, none⟩ = some (.slice X2 ld.length c2) := (mblk_cell HM7.out 1).trans (by simp)
  cases hb2 : decide (C2 ≤ 0) with
  | false =>
   have HFB := Aside0.mk (show fitsW all (heldL l) X I = false by rw [HFW.out, hb2]; rfl)
   refine start_ (n := 16) (S := fun w' => w'.cell? ⟨gi, 0, none⟩ = some (.slice U1 lI.length u1) ∧ w'.cell? ⟨gi, 1, none⟩ = some (.slice U2 lJ.length u2) ∧ w'.cell? ⟨g8, 0, none⟩ = some (.slice P1 lS1.length p1) ∧ w'.cell? ⟨g8, 1, none⟩ = some (.slice P2 lS2.length p2) ∧ w'.cell? ⟨gr, 0, none⟩ = some (.slice X1 ln.length c1) ∧ w'.cell? ⟨gr, 1, none⟩ = some (.slice X2 ld.length c2)) (ds := []) #[false, false, false, false, false, false, false, false, false, false, false, false, false, false, false, false] (by kernel_rfl) rfl rfl ⟨q0, q1, s0, s1, z0, z1⟩ (fun hHeld => ?_)
   refine take_ (i := 0) (N := some 33) (v := ?_) (a' := ?_) #[true, false, false, false, false, false, false, false, false, false, false, false, false, false, false, false] rfl rfl (by kernel_rfl) (fun _ _ _ h => h) (Or.inl ⟨by rfl, ?_⟩) hHeld ?_ ?_
   rotate_left
   ·rintro w' ⟨s0, s1, s2, s3, s4, s5⟩
    go_simp
    with_reducible rfl
   rotate_left
   ·simp only [Act.put, List.setIfInBounds_toArray, List.set_cons_zero, List.set_cons_succ, i64_w, i32_w]
    rfl
   refine take_ (i := 1) (N := some 34) (v := ?_) (a' := ?_) #[true, true, false, false, false, false, false, false, false, false, false, false, false, false, false, false] rfl rfl (by kernel_rfl) (fun _ _ _ h => h) (Or.inl ⟨by rfl, ?_⟩) hHeld ?_ ?_
   rotate_left
   ·rintro w' ⟨s0, s1, s2, s3, s4, s5⟩
    go_simp
    with_reducible rfl
   rotate_left
   ·simp only [Act.put, List.setIfInBounds_toArray, List.set_cons_zero, List.set_cons_succ, i64_w, i32_w]
    rfl
   refine one_ (i := 2) (N := some 35) #[true, true, true, false, false, false, false, false, false, false, false, false, false, false, false, false] rfl rfl (by kernel_rfl) (by decide) (fun K hK => ?_)
   refine goes_ Try.func19 (by kernel_rfl) rfl #[.agg #[.slice U1 lI.length u1, .slice U2 lJ.length u2], .agg #[.slice P1 lS1.length p1, .slice P2 lS2.length p2]] (by rfl) rfl rfl (by simp only [List.map_toArray, List.map_cons, List.map_nil]; rfl) ?_
   with_reducible refine (rcmp_rv (HUI.out.below (below_drew (Below.refl _ _))) (HP7.out.below (below_drew (Below.refl _ _))) M3.out).mono ?_
   rintro e1_ w8 ⟨rfl, hb⟩
   refine ⟨_, rfl, ?_⟩
   have hb8 : Below w7.heap.size w7 w8 := below_step (below_drew (Below.refl _ _)) hb
   have HB8 := Aside0.mk hb8
   clear hb
   refine hK.out _ _ ⟨(mblk_cell ((hb8.block _ (mblk_lt HGI.out)).trans HGI.out) 0).trans rfl, (mblk_cell ((hb8.block _ (mblk_lt HGI.out)).trans HGI.out) 1).trans rfl, (mblk_cell ((hb8.block _ (mblk_lt HG7.out)).trans HG7.out) 0).trans rfl, (mblk_cell ((hb8.block _ (mblk_lt HG7.out)).trans HG7.out) 1).trans rfl, (mblk_cell ((hb8.block _ (mblk_lt HM7.out)).trans HM7.out) 0).trans (by simp), (mblk_cell ((hb8.block _ (mblk_lt HM7.out)).trans HM7.out) 1).trans (by simp)⟩ (fun hHeld => ?_)
   clear hK K
   refine norm_ (a' := ?_) ?_ ?_
   rotate_left
   ·show Act.put _ (some 35) _ = _
    simp only [Act.put, List.setIfInBounds_toArray, List.set_cons_zero, List.set_cons_succ, i64_w, i32_w]
    rfl
   refine pure_ (i := 3) (N := some 36) (v := ?_) (a' := ?_) #[true, true, true, true, false, false, false, false, false, false, false, false, false, false, false, false] rfl rfl (by kernel_rfl) (fun _ _ _ h => h) (Or.inl ⟨by rfl, ?_⟩) ?_ ?_
   rotate_left
   ·intro w'
    go_simp
    with_reducible rfl
   rotate_left
   ·simp only [Act.put, List.setIfInBounds_toArray, List.set_cons_zero, List.set_cons_succ, i64_w, i32_w]
    rfl
   refine pure_ (i := 4) (N := some 37) (v := ?_) (a' := ?_) #[true, true, true, true, true, false, false, false, false, false, false, false, false, false, false, false] rfl rfl (by kernel_rfl) (fun _ _ _ h => h) (Or.inl ⟨by rfl, ?_⟩) ?_ ?_
   rotate_left
   ·intro w'
    go_simp
    with_reducible rfl
   rotate_left
   ·simp only [Act.put, List.setIfInBounds_toArray, List.set_cons_zero, List.set_cons_succ, i64_w, i32_w]
    rfl
   refine pure_ (i := 5) (N := some 38) (v := undef) (a' := ?_) #[true, true, true, true, true, true, false, false, false, false, false, false, false, false, false, false] rfl rfl (by kernel_rfl) (fun _ _ _ h => h) (Or.inr ⟨by rfl, rfl⟩) ?_ ?_
   rotate_left
   ·simp only [Act.put, List.setIfInBounds_toArray, List.set_cons_zero, List.set_cons_succ, i64_w, i32_w]
    rfl
   refine pure_ (i := 6) (N := some 39) (v := undef) (a' := ?_) #[true, true, true, true, true, true, true, false, false, false, false, false, false, false, false, false] rfl rfl (by kernel_rfl) (fun _ _ _ h => h) (Or.inr ⟨by rfl, rfl⟩) ?_ ?_
   rotate_left
   ·simp only [Act.put, List.setIfInBounds_toArray, List.set_cons_zero, List.set_cons_succ, i64_w, i32_w]
    rfl
   refine pure_ (i := 7) (N := some 40) (v := undef) (a' := ?_) #[true, true, true, true, true, true, true, true, false, false, false, false, false, false, false, false] rfl rfl (by kernel_rfl) (fun _ _ _ h => h) (Or.inr ⟨by rfl, rfl⟩) ?_ ?_
   rotate_left
   ·simp only [Act.put, List.setIfInBounds_toArray, List.set_cons_zero, List.set_cons_succ, i64_w, i32_w]
    rfl
   refine pure_ (i := 8) (N := some 41) (v := undef) (a' := ?_) #[true, true, true, true, true, true, true, true, true, false, false, false, false, false, false, false] rfl rfl (by kernel_rfl) (fun _ _ _ h => h) (Or.inr ⟨by rfl, rfl⟩) ?_ ?_
   rotate_left
   ·simp only [Act.put, List.setIfInBounds_toArray, List.set_cons_zero, List.set_cons_succ, i64_w, i32_w]
    rfl
   refine pure_ (i := 9) (N := some 42) (v := undef) (a' := ?_) #[true, true, true, true, true, true, true, true, true, true, false, false, false, false, false, false] rfl rfl (by kernel_rfl) (fun _ _ _ h => h) (Or.inr ⟨by rfl, rfl⟩) ?_ ?_
   rotate_left
   ·simp only [Act.put, List.setIfInBounds_toArray, List.set_cons_zero, List.set_cons_succ, i64_w, i32_w]
    rfl
   refine pure_ (i := 10) (N := some 43) (v := undef) (a' := ?_) #[true, true, true, true, true, true, true, true, true, true, true, false, false, false, false, false] rfl rfl (by kernel_rfl) (fun _ _ _ h => h) (Or.inr ⟨by rfl, rfl⟩) ?_ ?_
   rotate_left
   ·simp only [Act.put, List.setIfInBounds_toArray, List.set_cons_zero, List.set_cons_succ, i64_w, i32_w]
    rfl
   refine pure_ (i := 11) (N := some 44) (v := undef) (a' := ?_) #[true, true, true, true, true, true, true, true, true, true, true, true, false, false, false, false] rfl rfl (by kernel_rfl) (fun _ _ _ h => h) (Or.inr ⟨by rfl, rfl⟩) ?_ ?_
   rotate_left
   ·simp only [Act.put, List.setIfInBounds_toArray, List.set_cons_zero, List.set_cons_succ, i64_w, i32_w]
    rfl
   refine pure_ (i := 12) (N := some 45) (v := undef) (a' := ?_) #[true, true, true, true, true, true, true, true, true, true, true, true, true, false, false, false] rfl rfl (by kernel_rfl) (fun _ _ _ h => h) (Or.inr ⟨by rfl, rfl⟩) ?_ ?_
   rotate_left
   ·simp only [Act.put, List.setIfInBounds_toArray, List.set_cons_zero, List.set_cons_succ, i64_w, i32_w]
    rfl
   refine pure_ (i := 13) (N := some 46) (v := undef) (a' := ?_) #[true, true, true, true, true, true, true, true, true, true, true, true, true, true, false, false] rfl rfl (by kernel_rfl) (fun _ _ _ h => h) (Or.inr ⟨by rfl, rfl⟩) ?_ ?_
   rotate_left
   ·simp only [Act.put, List.setIfInBounds_toArray, List.set_cons_zero, List.set_cons_succ, i64_w, i32_w]
    rfl
   refine pure_ (i := 14) (N := some 47) (v := ?_) (a' := ?_) #[true, true, true, true, true, true, true, true, true, true, true, true, true, true, true, false] rfl rfl (by kernel_rfl) (fun _ _ _ h => h) (Or.inl ⟨by rfl, ?_⟩) ?_ ?_
   rotate_left
   ·intro w'
    go_simp
    with_reducible rfl
   rotate_left
   ·simp only [Act.put, List.setIfInBounds_toArray, List.set_cons_zero, List.set_cons_succ, i64_w, i32_w]
    rfl
   refine pure_ (i := 15) (N := some 6) (v := ?_) (a' := ?_) #[true, true, true, true, true, true, true, true, true, true, true, true, true, true, true, true] rfl rfl (by kernel_rfl) (fun _ _ _ h => h) (Or.inl ⟨by rfl, ?_⟩) ?_ ?_
   rotate_left
   ·intro w'
    go_simp
    with_reducible rfl
   rotate_left
   ·simp only [Act.put, List.setIfInBounds_toArray, List.set_cons_zero, List.set_cons_succ, i64_w, i32_w]
    rfl
   refine done_ (by kernel_rfl) ?_
   go_wp2_with fail
   exact bodyPost_ret (results_tmp rfl _ _ _) rfl ⟨by rw [HFB.out]; rfl, below_step HD7.out HB8.out⟩
  | true =>
   obtain ⟨B, hB⟩ : ∃ B, B = decide (C3 ≤ 0) := ⟨_, rfl⟩
   have hb3 : decide (C3 ≤ 0) = B := hB.symm
   have HFB := Aside0.mk (show fitsW all (heldL l) X I = B by rw [HFW.out, hb2, hB]; rfl)
   clear hB
   go_region_held3 (fun w' => w'.cell? ⟨gi, 0, none⟩ = some (.slice U1 lI.length u1) ∧ w'.cell? ⟨gi, 1, none⟩ = some (.slice U2 lJ.length u2) ∧ w'.cell? ⟨g8, 0, none⟩ = some (.slice P1 lS1.length p1) ∧ w'.cell? ⟨g8, 1, none⟩ = some (.slice P2 lS2.length p2) ∧ w'.cell? ⟨gr, 0, none⟩ = some (.slice X1 ln.length c1) ∧ w'.cell? ⟨gr, 1, none⟩ = some (.slice X2 ld.length c2))
    (first | (exact ⟨q0, q1, s0, s1, z0, z1⟩) | go_keep)
    (first
     | (go_at_call 19; refine (rcmp_rv (HUI.out.below (below_drew (Below.refl _ _))) (HP7.out.below (below_drew (Below.refl _ _))) M3.out).mono ?_; rintro e w8 ⟨rfl, hb⟩; have hbb : Below w7.heap.size w7 w8 := below_step (below_drew (Below.refl _ _)) hb; have HB8 := Aside0.mk hbb; have q0 : w8.cell? ⟨gi, 0, none⟩ = some (.slice U1 lI.length u1) := (mblk_cell ((hbb.block _ (mblk_lt HGI.out)).trans HGI.out) 0).trans rfl; have q1 : w8.cell? ⟨gi, 1, none⟩ = some (.slice U2 lJ.length u2) := (mblk_cell ((hbb.block _ (mblk_lt HGI.out)).trans HGI.out) 1).trans rfl; have s0 : w8.cell? ⟨g8, 0, none⟩ = some (.slice P1 lS1.length p1) := (mblk_cell ((hbb.block _ (mblk_lt HG7.out)).trans HG7.out) 0).trans rfl; have s1 : w8.cell? ⟨g8, 1, none⟩ = some (.slice P2 lS2.length p2) := (mblk_cell ((hbb.block _ (mblk_lt HG7.out)).trans HG7.out) 1).trans rfl; have z0 : w8.cell? ⟨gr, 0, none⟩ = some (.slice X1 ln.length c1) := (mblk_cell ((hbb.block _ (mblk_lt HM7.out)).trans HM7.out) 0).trans (by simp); have z1 : w8.cell? ⟨gr, 1, none⟩ = some (.slice X2 ld.length c2) := (mblk_cell ((hbb.block _ (mblk_lt HM7.out)).trans HM7.out) 1).trans (by simp); clear hb hbb M3)
     | (go_at_call 26; refine (plus_rv (HV7.out.below HB8.out) (HUI.out.below HB8.out) M4.out).mono ?_; rintro e w9 ⟨u, u', rfl, h9, hb⟩; obtain ⟨V1, v1, V2, v2, rfl, rfl⟩ := h9.shape; have hbb : Below w7.heap.size w7 w9 := below_step HB8.out hb; have HB9 := Aside0.mk hbb; have HV9 := Aside0.mk h9; have q0 : w9.cell? ⟨gi, 0, none⟩ = some (.slice U1 lI.length u1) := (mblk_cell ((hbb.block _ (mblk_lt HGI.out)).trans HGI.out) 0).trans rfl; have q1 : w9.cell? ⟨gi, 1, none⟩ = some (.slice U2 lJ.length u2) := (mblk_cell ((hbb.block _ (mblk_lt HGI.out)).trans HGI.out) 1).trans rfl; have s0 : w9.cell? ⟨g8, 0, none⟩ = some (.slice P1 lS1.length p1) := (mblk_cell ((hbb.block _ (mblk_lt HG7.out)).trans HG7.out) 0).trans rfl; have s1 : w9.cell? ⟨g8, 1, none⟩ = some (.slice P2 lS2.length p2) := (mblk_cell ((hbb.block _ (mblk_lt HG7.out)).trans HG7.out) 1).trans rfl; have z0 : w9.cell? ⟨gr, 0, none⟩ = some (.slice X1 ln.length c1) := (mblk_cell ((hbb.block _ (mblk_lt HM7.out)).trans HM7.out) 0).trans (by simp); have z1 : w9.cell? ⟨gr, 1, none⟩ = some (.slice X2 ld.length c2) := (mblk_cell ((hbb.block _ (mblk_lt HM7.out)).trans HM7.out) 1).trans (by simp); clear h9 hb hbb M4 HB8)
     | (go_at_call 19; refine (rcmp_rv (HP7.out.below HB9.out) HV9.out M5.out).mono ?_; rintro e w10 ⟨rfl, hb⟩; have hbb : Below w7.heap.size w7 w10 := below_step HB9.out hb; have HB10 := Aside0.mk hbb; have q0 : w10.cell? ⟨gi, 0, none⟩ = some (.slice U1 lI.length u1) := (mblk_cell ((hbb.block _ (mblk_lt HGI.out)).trans HGI.out) 0).trans rfl; have q1 : w10.cell? ⟨gi, 1, none⟩ = some (.slice U2 lJ.length u2) := (mblk_cell ((hbb.block _ (mblk_lt HGI.out)).trans HGI.out) 1).trans rfl; have s0 : w10.cell? ⟨g8, 0, none⟩ = some (.slice P1 lS1.length p1) := (mblk_cell ((hbb.block _ (mblk_lt HG7.out)).trans HG7.out) 0).trans rfl; have s1 : w10.cell? ⟨g8, 1, none⟩ = some (.slice P2 lS2.length p2) := (mblk_cell ((hbb.block _ (mblk_lt HG7.out)).trans HG7.out) 1).trans rfl; have z0 : w10.cell? ⟨gr, 0, none⟩ = some (.slice X1 ln.length c1) := (mblk_cell ((hbb.block _ (mblk_lt HM7.out)).trans HM7.out) 0).trans (by simp); have z1 : w10.cell? ⟨gr, 1, none⟩ = some (.slice X2 ld.length c2) := (mblk_cell ((hbb.block _ (mblk_lt HM7.out)).trans HM7.out) 1).trans (by simp); clear hb hbb M5 HB9 HV9))
   all_goals
    go_wp2_with fail
    exact bodyPost_ret (results_tmp rfl _ _ _) rfl ⟨by rw [HFB.out]; rfl, below_step HD7.out HB10.out⟩
end Go.Proofs.Ytfldklimlcnnnaa.XRFits
end

section
namespace Go.Proofs.Ytfldklimlcnnnaa.XPlay
open Go.RowKit Go.Shelf Go.Proofs.Ytfldklimlcnnnaa.PHq Go.Proofs.YtfldklimlcnnnaaW.PrintWords Go.Proofs.YtfldklimlcnnnaaW.PrintLast Go.Proofs.YtfldklimlcnnnaaW.PrintMore Go.Proofs.Ytfldklimlcnnnaa.MWords
open Go.Proofs.Ytfldklimlcnnnaa.MNat Go.Proofs.Ytfldklimlcnnnaa.QNat Go.Proofs.Ytfldklimlcnnnaa.QText Go.Proofs.Ytfldklimlcnnnaa.QEv Go.Proofs.Ytfldklimlcnnnaa.QRatio Go.Proofs.Ytfldklimlcnnnaa.XRV Go.Proofs.Ytfldklimlcnnnaa.XHold Go.Proofs.Ytfldklimlcnnnaa.XWts Go.Proofs.Ytfldklimlcnnnaa.XLed Go.Proofs.Ytfldklimlcnnnaa.XPuts Go.Proofs.Ytfldklimlcnnnaa.XNew Go.Proofs.Ytfldklimlcnnnaa.XFits Go.Proofs.Ytfldklimlcnnnaa.XJoin Go.Proofs.Ytfldklimlcnnnaa.XMeth Go.Proofs.Ytfldklimlcnnnaa.XAsk Go.Proofs.Ytfldklimlcnnnaa.XEnd Go.Proofs.Ytfldklimlcnnnaa.XAwake Go.Proofs.Ytfldklimlcnnnaa.QHold Go.Proofs.Ytfldklimlcnnnaa.XLeft Go.Proofs.Ytfldklimlcnnnaa.QLeft Go.Proofs.Ytfldklimlcnnnaa.QRef12 Go.Proofs.Ytfldklimlcnnnaa.XRef12 Go.Proofs.Ytfldklimlcnnnaa.XOp Go.Proofs.Ytfldklimlcnnnaa.XRJoin Go.Proofs.Ytfldklimlcnnnaa.XRSet
structure Pl (w W : World) (g b gr : Nat) (All : Rat) (x y : Value) (ln ld : List Int) (ga : Nat) (l l' : List (Int × Hd)) : Prop where
 led : Led W g b All (heldL l) l
 rl : RL W gr w.heap.size x y l'
 bel : Below w.heap.size w W
 a : MBlk W ga 28 #[x, y]
 rv : RV W x y ln ld
section
variable {w W W' : World} {g b gr ga : Nat} {All : Rat} {x y : Value} {ln ld : List Int} {l l' l2 : List (Int × Hd)}
theorem Pl.below (h : Pl w W g b gr All x y ln ld ga l l') (hb : Below W.heap.size W W') : Pl w W' g b gr All x y ln ld ga l l' :=
 ⟨h.led.below hb, h.rl.below hb, below_step h.bel hb, (hb.block _ (mblk_lt h.a)).trans h.a, h.rv.below hb⟩
theorem Pl.kp (h : Pl w W g b gr All x y ln ld ga l l') (hk : Kp g b W W') (hl : Led W' g b All (heldL l2) l2) (h1 : w.heap.size ≤ g) (h2 : w.heap.size ≤ b) : Pl w W' g b gr All x y ln ld ga l2 l' :=
 ⟨hl, RL.kp h.rl h.led hk, Kp.below h.bel h1 h2 hk, QHold.Led.keep h.led hk h.a (by decide), RV.kp h.rv h.led hk⟩
theorem Pl.kr (h : Pl w W g b gr All x y ln ld ga l l') (hk : KR gr w.heap.size W W') (hr : RL W' gr w.heap.size x y l2) (h1 : w.heap.size ≤ gr) : Pl w W' g b gr All x y ln ld ga l l2 :=
 ⟨XRef12.Led.kr h.led h.rl hk, hr, KR.below h.bel h1 (Nat.le_refl _) hk, RL.keep h.rl hk h.a (by decide) (by decide), XRef12.RV.limbs h.rv hk.limbs⟩
theorem Pl.blkp (h : Pl w W g b gr All x y ln ld ga l l') (hk : Kp g b W W') {m : Nat} {t : TypeId} {cs : Array Value} (hm : MBlk W m t cs) (ht : t ≠ 97) : MBlk W' m t cs := QHold.Led.keep h.led hk hm ht
theorem Pl.blkr (h : Pl w W g b gr All x y ln ld ga l l') (hk : KR gr w.heap.size W W') {m : Nat} {t : TypeId} {cs : Array Value} (hm : MBlk W m t cs) (h1 : t ≠ 57) (h2 : t ≠ 60) : MBlk W' m t cs := RL.keep h.rl hk hm h1 h2
end
theorem small_join {all q : Rat} {l : List (Int × Hd)} {z : Int} {X : S34} (hs : SmallL l) : SmallL (joinL all q l z X) := by
 unfold joinL
 by_cases he : joinE all q l z X = 0
 ·rw [if_pos he]
  exact small_set hs ⟨may_small (joinE_zero he).1, fun k => by cases k⟩
 ·rw [if_neg he]; exact hs
theorem small_ask {all q : Rat} {l : List (Int × Hd)} {z : Int} {X : S34} (hs : SmallL l) : SmallL (askL all q l z X) := by
 unfold askL
 by_cases he : askE all q l z X = 0
 ·rw [if_pos he]
  obtain ⟨h1, k, hk, _, _⟩ := askE_zero he
  rw [hk]
  exact small_set hs ⟨(hs _ (getL_mem hk)).1, fun _ => may_small h1⟩
 ·rw [if_neg he]; exact hs
theorem small_settle {l : List (Int × Hd)} {z : Int} (hs : SmallL l) : SmallL (settleL l z) := by
 unfold settleL
 by_cases he : settleE l z = 0
 ·rw [if_pos he]
  obtain ⟨k, hk, ha⟩ := settleE_zero he
  rw [hk]
  exact small_set hs ⟨(hs _ (getL_mem hk)).2 ha, fun c => by cases c⟩
 ·rw [if_neg he]; exact hs
theorem small_free {l : List (Int × Hd)} {z : Int} (hs : SmallL l) : SmallL (freeL l z) := by
 unfold freeL
 by_cases he : hasL l z = true
 ·rw [if_pos he]; exact small_del hs
 ·rw [if_neg he]; exact hs
theorem held_cmp {l : List (Int × Hd)} (hG : GoodL l) (hl : l.length ≤ 60) : ∃ N E, (∃ k, regattaref03_Sum.f k (l.map fun z => hv z.2) = some (limbs N, limbs E)) ∧ ∃ k, regattaref03_Cmp.f k (L (heldL l)).1 (L (heldL l)).2 (limbs N) (limbs E) = some 0 := by
 obtain ⟨N, E, hk, fN, fE, hE, hq⟩ := rheld_t l hG.len hG.ok
 refine ⟨N, E, hk, ?_⟩
 have hs := held_szN hG
 have h := r3cmp_t (1 + 2 * l.length) 1600 (heldL l).num.natAbs (heldL l).den N E hs.2.1 hs.2.2 fN fE (by omega) (Rat.den_pos _) hE
 rw [self_mk _ hs.1, hq, cmpR_self] at h
 exact h.get
end Go.Proofs.Ytfldklimlcnnnaa.XPlay
end
