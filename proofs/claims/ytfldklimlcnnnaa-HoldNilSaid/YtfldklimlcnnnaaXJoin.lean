/- The walks of hold's Fits and Join. -/
import Derived.Test.YtfldklimlcnnnaaXFits
import Derived.Test.YtfldklimlcnnnaaPHqx6
import Derived.Test.YtfldklimlcnnnaaPHqx14
namespace Go.Proofs.Ytfldklimlcnnnaa.XJoin
open Go.RowKit Go.Shelf Go.Proofs.Ytfldklimlcnnnaa.PHq Go.Proofs.YtfldklimlcnnnaaW.PrintWords Go.Proofs.YtfldklimlcnnnaaW.PrintLast Go.Proofs.YtfldklimlcnnnaaW.PrintMore Go.Proofs.Ytfldklimlcnnnaa.MWords
open Go.Proofs.Ytfldklimlcnnnaa.MNat Go.Proofs.Ytfldklimlcnnnaa.QNat Go.Proofs.Ytfldklimlcnnnaa.QText Go.Proofs.Ytfldklimlcnnnaa.QEv Go.Proofs.Ytfldklimlcnnnaa.QRatio Go.Proofs.Ytfldklimlcnnnaa.XRV Go.Proofs.Ytfldklimlcnnnaa.XHold Go.Proofs.Ytfldklimlcnnnaa.XWts Go.Proofs.Ytfldklimlcnnnaa.XLed Go.Proofs.Ytfldklimlcnnnaa.XPuts Go.Proofs.Ytfldklimlcnnnaa.XFits
set_option linter.unusedVariables false
set_option linter.unusedSimpArgs false
-- window_Check.calls

/-- May a weight be? -/
def mayW (x : S34) : Bool := decide (1 ≤ x.f0) && decide (x.f0 ≤ x.f1) && decide (x.f1 ≤ 1048576)
theorem wcheck_f (x : S34) : window_Check.f x.f0 x.f1 = some (mayW x) := by
  unfold window_Check.f mayW
  by_cases h1 : 1 ≤ x.f0
  · rw [if_pos h1, decide_eq_true h1]
    by_cases h2 : x.f0 ≤ x.f1
    · rw [if_pos h2, decide_eq_true h2]; rfl
    · rw [if_neg h2, decide_eq_false h2]; rfl
  · rw [if_neg h1, decide_eq_false h1]; rfl
theorem may_ok {x : S34} (h : mayW x = true) : okW x := by
  unfold mayW at h
  simp only [Bool.and_eq_true, decide_eq_true_eq] at h
  unfold okW
  omega
/-- Fits: a weight, with another one less if that may be. -/
def fitsW (all q : Rat) (x i : S34) : Bool := mayW x && fitsQ all q (wt x) (if mayW i = true then wt i else 0)
/-- Behind the store of a ratio into a box that holds one. -/
theorem box_put {X w : World} {g7 g b k0 : Nat} {all q : Rat} {l : List (Int × Hd)} {p p' : Value} {r1 r2 : List Int} {cs : Array Value} {o1 o2 : Option Addr} {n1 n2 m1 m2 : Nat} (hG : MBlk X g7 28 #[.slice o1 n1 m1, .slice o2 n2 m2]) (hV : RV X p p' r1 r2) (hB : Below w.heap.size w X) (hg : w.heap.size ≤ g7) (hL : Led X g b all q l) (hM : MBlk X k0 34 cs) :
    MBlk ((X.setCell ⟨g7, 0, none⟩ p).setCell ⟨g7, 1, none⟩ p') g7 28 #[p, p'] ∧ RV ((X.setCell ⟨g7, 0, none⟩ p).setCell ⟨g7, 1, none⟩ p') p p' r1 r2 ∧ Below w.heap.size w ((X.setCell ⟨g7, 0, none⟩ p).setCell ⟨g7, 1, none⟩ p') ∧ MBlk ((X.setCell ⟨g7, 0, none⟩ p).setCell ⟨g7, 1, none⟩ p') k0 34 cs ∧ Led ((X.setCell ⟨g7, 0, none⟩ p).setCell ⟨g7, 1, none⟩ p') g b all q l := by
  have hn : NoLimb X g7 := by
    intro p hp n hc
    unfold World.cell? at hc
    rw [hp, show X.heap[g7]? = _ from hG] at hc
    simp only at hc
    split at hc
    · cases hc
    · match ho : p.off, hc with
      | 0, hc => simp at hc
      | 1, hc => simp at hc
      | k + 2, hc => simp at hc
  have hs : ∀ k, k ≠ g7 → ((X.setCell ⟨g7, 0, none⟩ p).setCell ⟨g7, 1, none⟩ p').heap[k]? = X.heap[k]? := fun k hk => (Below.heap_setCell _ ⟨g7, 1, none⟩ _ k hk).trans (Below.heap_setCell _ ⟨g7, 0, none⟩ _ k hk)
  have hk : ∀ k, k < X.heap.size → ¬ NoLimb X k → ((X.setCell ⟨g7, 0, none⟩ p).setCell ⟨g7, 1, none⟩ p').heap[k]? = X.heap[k]? := fun k _ h => hs k (fun e => h (by rw [e]; exact hn))
  obtain ⟨_, _, _, _, h1, _⟩ := hL.cells
  obtain ⟨es, c, h4⟩ := hL.map.obj
  exact ⟨mblk_set (mblk_set hG 0 _) 1 _, hV.near hk, (hB.setCell (p := ⟨g7, 0, none⟩) hg _).setCell (p := ⟨g7, 1, none⟩) hg _, (hs k0 (mblk_ne hM hG (by decide))).trans hM, hL.near (hs g (mblk_ne h1 hG (by decide))) (hs b (fun e => by rw [e, show X.heap[g7]? = _ from hG] at h4; cases h4)) hk⟩
set_option maxRecDepth 100000 in
set_option maxHeartbeats 4000000 in
/-- fits, of a weight more and a weight or nothing less. -/
theorem fitsW_calls (g b : Nat) (all q : Rat) (l : List (Int × Hd)) (x y u v : Value) (m1 m2 s1 s2 : Nat) (w : World) (hL : Led w g b all q l) (ha : Sz 3000 all) (hq : Sz 2999 q) (h1 : F 1 m1) (h2 : F 1 m2) (h20 : 0 < m2) (h3 : F 1 s1) (h4 : F 1 s2) (h40 : 0 < s2)
    (hx : RV w x y (limbs m1) (limbs m2)) (hu : RV w u v (limbs s1) (limbs s2)) :
    Calls Try.prog 72 #[.pointer (some ⟨g, 0, none⟩), .agg #[x, y], .agg #[u, v]] w fun e w' => e = .returned (.bool (fitsQ all q (mkRat (m1 : Int) m2) (mkRat (s1 : Int) s2))) ∧ Below w.heap.size w w' := by
  have a1 := radd_t 2999 1 q.num.natAbs q.den m1 m2 hq.2.1 hq.2.2 h1 h2 (by omega) (Rat.den_pos q) h20
  rw [self_mk q hq.1] at a1
  have z1 := sz_add 2999 1 q.num.natAbs q.den m1 m2 hq.2.1 hq.2.2 h1 h2 (Rat.den_pos q) h20
  rw [self_mk q hq.1] at z1
  have a2 := rsub_t 3001 1 (q + mkRat (m1 : Int) m2).num.natAbs (q + mkRat (m1 : Int) m2).den s1 s2 z1.2.1 z1.2.2 h3 h4 (by omega) (Rat.den_pos _) h40
  rw [self_mk _ z1.1] at a2
  obtain ⟨f1, hf1⟩ := a1.get
  obtain ⟨f2, hf2⟩ := a2.get
  exact fits_calls g b all q (mkRat (m1 : Int) m2) (mkRat (s1 : Int) s2) l x y u v (limbs m1, limbs m2) (limbs s1, limbs s2) f1 f2 w hL ha (sz_mono z1 (by omega)) (sz_mono (mk_sz 1 _ _ h3 h4 h40) (by omega)) hx hu hf1 hf2
set_option maxRecDepth 100000 in
set_option maxHeartbeats 4000000 in
theorem Fits_calls (g b : Nat) (all q : Rat) (l : List (Int × Hd)) (x i : S34) (w : World) (hL : Led w g b all q l) (ha : Sz 3000 all) (hq : Sz 2999 q) :
    Calls Try.prog 22 #[.pointer (some ⟨g, 0, none⟩), .agg #[.int .i64 x.f0, .int .i64 x.f1], .agg #[.int .i64 i.f0, .int .i64 i.f1]] w fun e w' => e = .returned (.bool (fitsW all q x i)) ∧ Below w.heap.size w w' := by
  have mixed : Try.prog.follows Departure.mixedOrders = true := by kernel_rfl
  obtain ⟨W0, hW0⟩ : ∃ W0, W0 = (w.alloc (.cells #[.int .i64 x.f0, .int .i64 x.f1] 34)).alloc (.cells #[.int .i64 i.f0, .int .i64 i.f1] 34) := ⟨_, rfl⟩
  have hz : (w.alloc (.cells #[.int .i64 x.f0, .int .i64 x.f1] 34)).heap.size = w.heap.size + 1 := by simp
  have hb0 : Below w.heap.size w W0 := by rw [hW0]; exact below_alloc (below_alloc (Below.refl _ _) _) _
  have HX0 := Aside0.mk (show MBlk W0 w.heap.size 34 #[.int .i64 x.f0, .int .i64 x.f1] by rw [hW0]; exact mblk_alloc (mblk_new _ _ _) _)
  have HI0 := Aside0.mk (show MBlk W0 (w.heap.size + 1) 34 #[.int .i64 i.f0, .int .i64 i.f1] by rw [hW0, ← hz]; exact mblk_new _ _ _)
  have HB0 := Aside0.mk hb0
  have HL := Aside0.mk (hL.below hb0)
  have HA := Aside0.mk (And.intro ha hq)
  have HC1 := Aside0.mk (wcheck_f x)
  have HC2 := Aside0.mk (wcheck_f i)
  clear hL hz hb0 ha hq
  go_enter Try.func22, Try.ntmps22
  go_upto_region 1 with fail
  rw [← hW0]
  clear hW0
  have x0 : W0.cell? ⟨w.heap.size, 0, none⟩ = some (.int .i64 x.f0) := (mblk_cell HX0.out 0).trans rfl
  have x1 : W0.cell? ⟨w.heap.size, 1, none⟩ = some (.int .i64 x.f1) := (mblk_cell HX0.out 1).trans rfl
  by_cases hmx : mayW x = true
  case neg =>
    have HX := Aside0.mk (show fitsW all q x i = false by unfold fitsW; rw [show mayW x = false by simpa using hmx]; rfl)
    have hmx' : mayW x = false := by simpa using hmx
    go_wp2_with (go_at_call 66; refine (window_Check.calls x.f0 x.f1 _ _ HC1.out).mono ?_; rw [hmx']; rintro e w1 ⟨rfl, hb⟩; have HB1 := Aside0.mk (below_step HB0.out hb); clear hb)
    exact bodyPost_ret (results_tmp rfl _ _ _) rfl ⟨by rw [HX.out]; rfl, HB1.out⟩
  have HMX := Aside0.mk hmx
  go_upto_region 3 with (go_at_call 66; refine (window_Check.calls x.f0 x.f1 _ _ HC1.out).mono ?_; rw [hmx]; rintro e w1 ⟨rfl, hb⟩; have HB1 := Aside0.mk (below_step HB0.out hb); have HX1 := Aside0.mk ((hb.block _ (mblk_lt HX0.out)).trans HX0.out); have HI1 := Aside0.mk ((hb.block _ (mblk_lt HI0.out)).trans HI0.out); have HL1 := Aside0.mk (HL.out.below hb); clear hb)
  clear x0 x1 HX0 HI0 HL HB0 HC1 hmx
  have HW := Aside0.mk (show ratio_Whole.f 0 = some (limbs 0, limbs 1) from whole_n 0 (by omega))
  have hlt1 : w.heap.size + 1 < w1.heap.size := mblk_lt HI1.out
  have i0 : w1.cell? ⟨w.heap.size + 1, 0, none⟩ = some (.int .i64 i.f0) := (mblk_cell HI1.out 0).trans rfl
  have i1 : w1.cell? ⟨w.heap.size + 1, 1, none⟩ = some (.int .i64 i.f1) := (mblk_cell HI1.out 1).trans rfl
  go_upto_region 4 with (go_at_call 64; refine (whole_rv HW.out).mono ?_; rintro e w2 ⟨r1, r2, rfl, hr, hb⟩; obtain ⟨R1, c1, R2, c2, rfl, rfl⟩ := hr.shape; have HR2 := Aside0.mk hr; have HB2 := Aside0.mk hb; clear hr hb)
  obtain ⟨g7, hg7⟩ : ∃ g7, g7 = w2.heap.size := ⟨_, rfl⟩
  obtain ⟨w3, hw3⟩ : ∃ w3, w3 = w2.alloc (.cells #[.slice R1 (limbs 0).length c1, .slice R2 (limbs 1).length c2] 28) := ⟨_, rfl⟩
  have hb3 : Below w1.heap.size w1 w3 := by rw [hw3]; exact below_alloc HB2.out _
  have HG3 := Aside0.mk (show MBlk w3 g7 28 #[.slice R1 (limbs 0).length c1, .slice R2 (limbs 1).length c2] by rw [hw3, hg7]; exact mblk_new _ _ _)
  have HR3 := Aside0.mk (show RV w3 (.slice R1 (limbs 0).length c1) (.slice R2 (limbs 1).length c2) (limbs 0) (limbs 1) by rw [hw3]; exact HR2.out.below (below_alloc (Below.refl _ _) _))
  have HB3 := Aside0.mk (below_step HB1.out hb3)
  have HX3 := Aside0.mk ((hb3.block _ (mblk_lt HX1.out)).trans HX1.out)
  have HI3 := Aside0.mk ((hb3.block _ (mblk_lt HI1.out)).trans HI1.out)
  have HL3 := Aside0.mk (HL1.out.below hb3)
  have HGE := Aside0.mk (show w.heap.size ≤ g7 by rw [hg7]; exact Nat.le_trans HB1.out.size HB2.out.size)
  rw [← hw3, ← hg7]
  clear hw3 hg7 HR2 HB2 HB1 HX1 HI1 HL1 i0 i1 hlt1 hb3 HW
  have i0 : w3.cell? ⟨w.heap.size + 1, 0, none⟩ = some (.int .i64 i.f0) := (mblk_cell HI3.out 0).trans rfl
  have i1 : w3.cell? ⟨w.heap.size + 1, 1, none⟩ = some (.int .i64 i.f1) := (mblk_cell HI3.out 1).trans rfl
  obtain ⟨l0, hl0⟩ : ∃ l0, l0 = limbs 0 := ⟨_, rfl⟩
  obtain ⟨l1, hl1⟩ : ∃ l1, l1 = limbs 1 := ⟨_, rfl⟩
  rw [← hl0, ← hl1] at HG3 HR3 ⊢
  have HLL := Aside0.mk (And.intro hl0 hl1)
  clear hl0 hl1
  go_upto_if 17 with (go_at_call 66; refine (window_Check.calls i.f0 i.f1 _ _ HC2.out).mono ?_; rintro e w4 ⟨rfl, hb⟩; have HB4 := Aside0.mk (below_step HB3.out hb); have HX4 := Aside0.mk ((hb.block _ (mblk_lt HX3.out)).trans HX3.out); have HI4 := Aside0.mk ((hb.block _ (mblk_lt HI3.out)).trans HI3.out); have HL4 := Aside0.mk (HL3.out.below hb); have HG4 := Aside0.mk ((hb.block _ (mblk_lt HG3.out)).trans HG3.out); have HR4 := Aside0.mk (HR3.out.below hb); clear hb)
  have HOX := Aside0.mk (of_w x (may_ok HMX.out))
  go_cut [7] (fun v7 wc => ∃ (u v : Value) (s1 s2 : Nat), v7 = .pointer (some ⟨g7, 0, none⟩) ∧ Aside0 (MBlk wc g7 28 #[u, v]) ∧ Aside0 (RV wc u v (limbs s1) (limbs s2)) ∧ Aside0 (F 1 s1 ∧ F 1 s2 ∧ 0 < s2 ∧ mkRat (s1 : Int) s2 = if mayW i = true then wt i else 0) ∧ Aside0 (Below w.heap.size w wc) ∧ Aside0 (MBlk wc w.heap.size 34 #[.int .i64 x.f0, .int .i64 x.f1]) ∧ Aside0 (Led wc g b all q l))
  case first =>
    by_cases hmi : mayW i = true
    · have hoi := may_ok hmi
      have HOI := Aside0.mk (of_w i hoi)
      have HFI := Aside0.mk (show F 1 i.f0.toNat ∧ F 1 i.f1.toNat ∧ 0 < i.f1.toNat ∧ mkRat (i.f0.toNat : Int) i.f1.toNat = if mayW i = true then wt i else 0 from ⟨(okW_F hoi).1, (okW_F hoi).2, okW_pos hoi, by rw [if_pos hmi]; rfl⟩)
      have j0 : w4.cell? ⟨w.heap.size + 1, 0, none⟩ = some (.int .i64 i.f0) := (mblk_cell HI4.out 0).trans rfl
      have j1 : w4.cell? ⟨w.heap.size + 1, 1, none⟩ = some (.int .i64 i.f1) := (mblk_cell HI4.out 1).trans rfl
      clear hoi i0 i1
      rw [hmi]
      go_wp2_with fail
      refine (of_rv HOI.out).mono ?_
      rintro e w5 ⟨p, p', rfl, hp, hb⟩
      obtain ⟨S1, e1, S2, e2, rfl, rfl⟩ := hp.shape
      have HG5 := Aside0.mk ((hb.block _ (mblk_lt HG4.out)).trans HG4.out)
      have HP5 := Aside0.mk hp
      have HB5 := Aside0.mk (below_step HB4.out hb)
      have HX5 := Aside0.mk ((hb.block _ (mblk_lt HX4.out)).trans HX4.out)
      have HL5 := Aside0.mk (HL4.out.below hb)
      have g0 : w5.cell? ⟨g7, 0, none⟩ = some (.slice R1 l0.length c1) := (mblk_cell HG5.out 0).trans rfl
      have g1 : w5.cell? ⟨g7, 1, none⟩ = some (.slice R2 l1.length c2) := (mblk_cell HG5.out 1).trans rfl
      have h0 : w5.frozen? ⟨g7, 0, none⟩ = false := mblk_frozen HG5.out 0
      have h1 : w5.frozen? ⟨g7, 1, none⟩ = false := mblk_frozen HG5.out 1
      clear hp hb j0 j1
      generalize hl2 : limbs i.f0.toNat = l2 at *
      generalize hl3 : limbs i.f1.toNat = l3 at *
      have HL2 := Aside0.mk hl2
      have HL3' := Aside0.mk hl3
      clear hl2 hl3
      go_wp2_with fail
      go_meet
      case rel =>
        obtain ⟨q1, q2, q3, q4, q5⟩ := box_put HG5.out HP5.out HB5.out HGE.out HL5.out HX5.out
        exact ⟨_, _, i.f0.toNat, i.f1.toNat, rfl, ⟨q1⟩, ⟨by rw [HL2.out, HL3'.out]; exact q2⟩, HFI, ⟨q3⟩, ⟨q4⟩, ⟨q5⟩⟩
    · have hmi' : mayW i = false := by simpa using hmi
      clear i0 i1
      rw [hmi']
      go_wp2_with fail
      go_meet
      case rel => exact ⟨_, _, 0, 1, rfl, HG4, ⟨by rw [← HLL.out.1, ← HLL.out.2]; exact HR4.out⟩, ⟨⟨F.one (by omega), F.one (by omega), by omega, by rw [if_neg hmi]; rfl⟩⟩, HB4, HX4, HL4⟩
  case rest =>
    obtain ⟨u, v, s1, s2, rfl, HG7, HV7, HF7, HB7, HX7, HL7⟩ := hcut
    clear HB3 HX3 HI3 HL3 HG3 HR3 i0 i1 HC2
    obtain ⟨B, hBq⟩ : ∃ B, B = fitsQ all q (mkRat (x.f0.toNat : Int) x.f1.toNat) (mkRat (s1 : Int) s2) := ⟨_, rfl⟩
    have HBQ := Aside0.mk hBq
    clear hBq
    have HX := Aside0.mk (show fitsW all q x i = B by
      rw [HBQ.out]
      unfold fitsW
      rw [HMX.out, Bool.true_and, HF7.out.2.2.2]
      rfl)
    have HOK := Aside0.mk (may_ok HMX.out)
    obtain ⟨U1, d1, U2, d2, rfl, rfl⟩ := HV7.out.shape
    obtain ⟨ls1, h1⟩ : ∃ ls1, ls1 = limbs s1 := ⟨_, rfl⟩
    obtain ⟨ls2, h2⟩ : ∃ ls2, ls2 = limbs s2 := ⟨_, rfl⟩
    obtain ⟨lx1, h3⟩ : ∃ lx1, lx1 = limbs x.f0.toNat := ⟨_, rfl⟩
    obtain ⟨lx2, h4⟩ : ∃ lx2, lx2 = limbs x.f1.toNat := ⟨_, rfl⟩
    rw [← h1, ← h2] at HG7 HV7
    rw [← h3, ← h4] at HOX
    have HEQ := Aside0.mk (And.intro h1 (And.intro h2 (And.intro h3 h4)))
    clear h1 h2 h3 h4
    have x0 : wc.cell? ⟨w.heap.size, 0, none⟩ = some (.int .i64 x.f0) := (mblk_cell HX7.out 0).trans rfl
    have x1 : wc.cell? ⟨w.heap.size, 1, none⟩ = some (.int .i64 x.f1) := (mblk_cell HX7.out 1).trans rfl
    have g0 : wc.cell? ⟨g7, 0, none⟩ = some (.slice U1 ls1.length d1) := (mblk_cell HG7.out 0).trans rfl
    have g1 : wc.cell? ⟨g7, 1, none⟩ = some (.slice U2 ls2.length d2) := (mblk_cell HG7.out 1).trans rfl
    go_wp2_with fail
    go_region_law
      (first
        | (go_simp; go_at_call 71
           refine (of_rv HOX.out).mono ?_
           rintro e w5 ⟨p, p', rfl, hp, hb⟩
           obtain ⟨S1, e1, S2, e2, rfl, rfl⟩ := hp.shape
           have hb5 : Below wc.heap.size wc w5 := below_step (below_drew (Below.refl _ _)) hb
           have HP5 := Aside0.mk hp
           have HB5 := Aside0.mk hb5
           have g0 : w5.cell? ⟨g7, 0, none⟩ = some (.slice U1 ls1.length d1) := (mblk_cell ((hb5.block _ (mblk_lt HG7.out)).trans HG7.out) 0).trans rfl
           have g1 : w5.cell? ⟨g7, 1, none⟩ = some (.slice U2 ls2.length d2) := (mblk_cell ((hb5.block _ (mblk_lt HG7.out)).trans HG7.out) 1).trans rfl
           clear hp hb hb5)
        | (go_simp; go_at_call 72
           refine (fitsW_calls g b all q l (.slice S1 lx1.length e1) (.slice S2 lx2.length e2) (.slice U1 ls1.length d1) (.slice U2 ls2.length d2) x.f0.toNat x.f1.toNat s1 s2 w5 (HL7.out.below HB5.out) HA.out.1 HA.out.2 (okW_F HOK.out).1 (okW_F HOK.out).2 (okW_pos HOK.out) HF7.out.1 HF7.out.2.1 HF7.out.2.2.1 (by rw [← HEQ.out.2.2.1, ← HEQ.out.2.2.2]; exact HP5.out) (by rw [← HEQ.out.1, ← HEQ.out.2.1]; exact HV7.out.below HB5.out)).mono ?_
           rintro e w6 ⟨he, hb⟩
           rw [← HBQ.out] at he
           subst he
           have HB6 := Aside0.mk (below_step (below_step HB7.out HB5.out) hb)
           clear hb))
    all_goals
      go_wp2_with fail
      exact bodyPost_ret (results_tmp rfl _ _ _) rfl ⟨by rw [HX.out]; rfl, HB6.out⟩
end Go.Proofs.Ytfldklimlcnnnaa.XJoin
