/- HoldMax: who asks for more holds the more from then on, who asks for less the old one, until it is settled. The walk of the law. -/
import Derived.Test.YtfldklimlcnnnaaQHold
import Derived.Laws.IdiomStrings
import Derived.Deep.DrawnRows
import Derived.Deep.RegionHeld3

namespace Go.Proofs.Ytfldklimlcnnnaa.PureHoldMax
open Go.RowKit Go.Shelf Go.Proofs.Ytfldklimlcnnnaa.PHq Go.Proofs.YtfldklimlcnnnaaW.PrintWords Go.Proofs.YtfldklimlcnnnaaW.PrintLast Go.Proofs.YtfldklimlcnnnaaW.PrintMore Go.Proofs.Ytfldklimlcnnnaa.MWords
open Go.Proofs.Ytfldklimlcnnnaa.MNat Go.Proofs.Ytfldklimlcnnnaa.QNat Go.Proofs.Ytfldklimlcnnnaa.QText Go.Proofs.Ytfldklimlcnnnaa.QEv Go.Proofs.Ytfldklimlcnnnaa.QRatio Go.Proofs.Ytfldklimlcnnnaa.XRV Go.Proofs.Ytfldklimlcnnnaa.XHold Go.Proofs.Ytfldklimlcnnnaa.XWts Go.Proofs.Ytfldklimlcnnnaa.XLed Go.Proofs.Ytfldklimlcnnnaa.XPuts Go.Proofs.Ytfldklimlcnnnaa.XNew Go.Proofs.Ytfldklimlcnnnaa.XFits Go.Proofs.Ytfldklimlcnnnaa.XJoin Go.Proofs.Ytfldklimlcnnnaa.XMeth Go.Proofs.Ytfldklimlcnnnaa.XAsk Go.Proofs.Ytfldklimlcnnnaa.XEnd Go.Proofs.Ytfldklimlcnnnaa.XAwake Go.Proofs.Ytfldklimlcnnnaa.QHold
set_option linter.unusedVariables false
set_option linter.unusedSimpArgs false
attribute [local go_sem ↓] Go.wp_at_zero Go.wp_at_succ

def m1 (x per : Nat) : List (Int × Hd) := [(3, ⟨x, per, 0, 0, false⟩)]
def m2 (x y per : Nat) : List (Int × Hd) := [(3, ⟨x, per, y, per, true⟩)]
def oneR : Rat := mkRat ((1 : Nat) : Int) 1
theorem mayM {e per : Nat} (h0 : 1 ≤ e) (h1 : e ≤ per) (h2 : per ≤ 64) : mayW ⟨(e : Int), (per : Int)⟩ = true := by
  unfold mayW
  simp
  omega
theorem wt_nat (e per : Nat) : wt ⟨(e : Int), (per : Int)⟩ = mkRat (e : Int) per := rfl
theorem wt_one {e per : Nat} (h1 : e ≤ per) (h0 : 1 ≤ e) : mkRat (e : Int) per ≤ oneR := by
  unfold oneR
  rw [le_whole _ _ _ (by omega)]
  omega
theorem good1 {x per : Nat} (h0 : 1 ≤ x) (h1 : x ≤ per) (h2 : per ≤ 64) : GoodL (m1 x per) := ⟨by simp [m1], fun z hz => by
  obtain rfl := List.mem_singleton.1 hz
  exact ⟨may_ok (mayM h0 h1 h2), fun h => by cases h⟩⟩
theorem good2 {x y per : Nat} (h0 : 1 ≤ x) (h1 : x ≤ per) (h2 : per ≤ 64) (h3 : 1 ≤ y) (h4 : y ≤ per) : GoodL (m2 x y per) := ⟨by simp [m2], fun z hz => by
  obtain rfl := List.mem_singleton.1 hz
  exact ⟨may_ok (mayM h0 h1 h2), fun _ => may_ok (mayM h3 h4 h2)⟩⟩
theorem held1 (x per : Nat) : heldL (m1 x per) = mkRat (x : Int) per := by
  show wt _ + 0 = _
  rw [Rat.add_zero]
  rfl
theorem hv2 (x y per : Nat) (h0 : 0 < per) : wt (hv ⟨x, per, y, per, true⟩) = mkRat ((max x y : Nat) : Int) per := by
  unfold hv
  show wt (if true = true ∧ mkRat (x : Int) per < mkRat (y : Int) per then _ else _) = _
  have hm := mk_lt x per y per h0 h0
  by_cases h : x < y
  · rw [if_pos ⟨rfl, hm.2 (Nat.mul_lt_mul_of_pos_right h h0)⟩, Nat.max_eq_right (by omega)]
    rfl
  · rw [if_neg (fun c => h (Nat.lt_of_mul_lt_mul_right (hm.1 c.2))), Nat.max_eq_left (by omega)]
    rfl
theorem held2 (x y per : Nat) (h0 : 0 < per) : heldL (m2 x y per) = mkRat ((max x y : Nat) : Int) per := by
  show wt (hv _) + 0 = _
  rw [Rat.add_zero, hv2 x y per h0]
section
variable {x y per : Nat} (h0 : 1 ≤ x) (h1 : x ≤ per) (h2 : per ≤ 64) (h3 : 1 ≤ y) (h4 : y ≤ per)
theorem me1 (h0 : 1 ≤ x) (h1 : x ≤ per) (h2 : per ≤ 64) : joinE oneR (heldL []) [] 3 ⟨(x : Int), (per : Int)⟩ = 0 := by
  rw [join_new (held_nonneg _) (mayM h0 h1 h2) rfl]
  refine if_pos ?_
  show 0 + mkRat (x : Int) per ≤ oneR
  rw [Rat.zero_add]
  exact wt_one h1 h0
theorem ml1 (h0 : 1 ≤ x) (h1 : x ≤ per) (h2 : per ≤ 64) : joinL oneR (heldL []) [] 3 ⟨(x : Int), (per : Int)⟩ = m1 x per := by
  unfold joinL
  rw [me1 h0 h1 h2]
  rfl
theorem me2 (h0 : 1 ≤ x) (h1 : x ≤ per) (h2 : per ≤ 64) (h3 : 1 ≤ y) (h4 : y ≤ per) : askE oneR (heldL (m1 x per)) (m1 x per) 3 ⟨(y : Int), (per : Int)⟩ = 0 := by
  unfold askE
  rw [if_neg (by simp [mayM h3 h4 h2]), show getL (m1 x per) 3 = some ⟨x, per, 0, 0, false⟩ from rfl]
  show (if fitsQ oneR (heldL (m1 x per)) (wt (hv ⟨x, per, y, per, true⟩)) (mkRat (x : Int) per) = false then 18 else 0) = (0 : Int)
  rw [held1, hv2 x y per (by omega)]
  refine if_neg ?_
  unfold fitsQ
  have e1 : mkRat (x : Int) per ≤ mkRat (x : Int) per + mkRat ((max x y : Nat) : Int) per := by
    have := mk_nonneg (max x y) per
    generalize mkRat (x : Int) per = a at *
    generalize mkRat ((max x y : Nat) : Int) per = c at *
    grind
  have e2 : mkRat (x : Int) per + mkRat ((max x y : Nat) : Int) per - mkRat (x : Int) per ≤ oneR := by
    have := wt_one (e := max x y) (per := per) (by omega) (by omega)
    generalize mkRat (x : Int) per = a at *
    generalize mkRat ((max x y : Nat) : Int) per = c at *
    grind
  rw [decide_eq_true e1, decide_eq_true e2]
  decide
theorem ml2 (h0 : 1 ≤ x) (h1 : x ≤ per) (h2 : per ≤ 64) (h3 : 1 ≤ y) (h4 : y ≤ per) : askL oneR (heldL (m1 x per)) (m1 x per) 3 ⟨(y : Int), (per : Int)⟩ = m2 x y per := by
  unfold askL
  rw [me2 h0 h1 h2 h3 h4]
  rfl
theorem me3 (q : Rat) : askE oneR q (m2 x y per) 3 ⟨1, 1⟩ = 13 := rfl
theorem ml3 (q : Rat) : askL oneR q (m2 x y per) 3 ⟨1, 1⟩ = m2 x y per := by
  unfold askL
  rw [me3]
  rfl
end
set_option maxHeartbeats 100000000 in
set_option maxRecDepth 100000 in
theorem max_calls (p q r : Int) (w : World) :
    Calls Try.prog 6 #[.int .i64 p, .int .i64 q, .int .i64 r] w fun e w' => e = .returned (.bool true) ∧ Below w.heap.size w w' := by
  have mixed : Try.prog.follows Departure.mixedOrders = true := by kernel_rfl
  obtain ⟨per, hper, per0, per1⟩ := one_any p 64 (by omega) (by omega)
  obtain ⟨x, hx, x0, x1⟩ := one_any q per (by omega) (by omega)
  obtain ⟨y, hy, y0, y1⟩ := one_any r per (by omega) (by omega)
  have HP := Aside0.mk (And.intro hper (And.intro hx hy))
  have per2 : per ≤ 64 := by omega
  have x2 : x ≤ per := by omega
  have y2 : y ≤ per := by omega
  clear hper hx hy per1 x1 y1
  have np : ((per : Int) == 0) = false := beq_eq_false_iff_ne.2 (by omega)
  have np' : ¬ ((per : Int) = 0) := by omega
  have HS := Aside0.mk (show Sz 3000 oneR from mkR_sz (n := 1) (d := 1) (by omega) (by omega) (by omega))
  go_enter Try.func6, Try.ntmps6
  go_upto_region 2 with (go_at_call 15; refine (awake_calls _).mono ?_; rintro e w1 ⟨rfl, hb⟩; have HB1 := Aside0.mk hb; clear hb)
  go_upto_region 3 with fail
  rw [HP.out.1]
  go_upto_region 4 with fail
  rw [HP.out.2.1]
  go_upto_region 5 with fail
  rw [HP.out.2.2]
  go_upto_region 8 with (first
    | (go_at_call 17; refine (one_rv 1 1 (by omega) (by omega) _).mono ?_; rintro e w2 ⟨q, q', rfl, h1, hb⟩; obtain ⟨P1, e1, P2, e2, rfl, rfl⟩ := h1.shape; have HB2 := Aside0.mk (below_step HB1.out hb); have H2 := Aside0.mk h1; clear h1 hb)
    | (go_at_call 16; refine (new_calls _ _ 1 1 2 w2 H2.out (F_u64 (by omega)) (F_u64 (by omega)) (by omega) (by omega)).mono ?_; rintro e w3 ⟨g, b, rfl, hl, hb, hg1, hg2⟩; have HL3 := Aside0.mk (show Led w3 g b oneR (heldL []) [] from hl); have HB3 := Aside0.mk (below_step HB2.out hb); have HG := Aside0.mk (And.intro (Nat.le_trans HB2.out.size hg1) (Nat.le_trans HB2.out.size hg2)); clear hl hb hg1 hg2))
  clear HB1 HB2 H2 np np'
  have W3 := Aside0.mk (wfI_of (x := 3) (by omega) (by omega))
  go_upto_region 9 with (go_at_call 18; refine (join_calls g b oneR [] 3 ⟨(x : Int), (per : Int)⟩ _ HL3.out HS.out good_nil (by simp) W3.out).mono ?_; rintro e w4 ⟨rfl, hl, hk⟩; rw [me1 x0 x2 per2]; rw [ml1 x0 x2 per2] at hl; have HL4 := Aside0.mk hl; have HB4 := Aside0.mk (Kp.below HB3.out HG.out.1 HG.out.2 hk); clear hl hk)
  clear HL3 HB3
  have HG1 := Aside0.mk (good1 x0 x2 per2)
  have HG2 := Aside0.mk (good2 x0 x2 per2 y0 y2)
  have HG3 := Aside0.mk (good1 y0 y2 per2)
  go_upto_region 10 with (go_at_call 28; refine (ask_calls g b oneR (m1 x per) 3 ⟨(y : Int), (per : Int)⟩ _ HL4.out HS.out HG1.out (by simp [m1]) W3.out).mono ?_; rintro e w5 ⟨rfl, hl, hk⟩; rw [me2 x0 x2 per2 y0 y2]; rw [ml2 x0 x2 per2 y0 y2] at hl; have HL5 := Aside0.mk hl; have HB5 := Aside0.mk (Kp.below HB4.out HG.out.1 HG.out.2 hk); clear hl hk)
  clear HL4 HB4
  obtain ⟨M, hM⟩ : ∃ M : List Int × List Int, M = L (mkRat ((max x y : Nat) : Int) per) := ⟨_, rfl⟩
  have HM := Aside0.mk hM
  clear hM
  go_upto_region 11 with (go_at_call 20; refine (held_calls g b oneR (heldL (m2 x y per)) _ _ HL5.out (sz_mono (held_sz HG2.out) (by omega))).mono ?_; rintro e w6 ⟨t, t', rfl, h5, hb⟩; rw [held2 x y per (by omega), ← HM.out] at h5; obtain ⟨T1, e1, T2, e2, rfl, rfl⟩ := h5.shape; have HB6 := Aside0.mk (below_step HB5.out hb); have HL6 := Aside0.mk (HL5.out.below hb); have HT6 := Aside0.mk h5; clear h5 hb)
  clear HB5 HL5
  obtain ⟨gm, hgm⟩ : ∃ gm, gm = w6.heap.size := ⟨_, rfl⟩
  obtain ⟨w7, hw7⟩ : ∃ w7, w7 = w6.alloc (.cells #[.slice T1 M.1.length e1, .slice T2 M.2.length e2] 28) := ⟨_, rfl⟩
  have hb7 : Below w6.heap.size w6 w7 := by rw [hw7]; exact below_alloc (Below.refl _ _) _
  have HL7 := Aside0.mk (HL6.out.below hb7)
  have HB7 := Aside0.mk (below_step HB6.out hb7)
  have HT7 := Aside0.mk (HT6.out.below hb7)
  have HX7 := Aside0.mk (show MBlk w7 gm 28 #[.slice T1 M.1.length e1, .slice T2 M.2.length e2] by rw [hw7, hgm]; exact mblk_new _ _ _)
  rw [← hw7, ← hgm]
  clear hw7 hgm hb7 HL6 HB6 HT6
  go_upto_region 12 with (go_at_call 28; refine (ask_calls g b oneR (m2 x y per) 3 ⟨1, 1⟩ _ HL7.out HS.out HG2.out (by simp [m2]) W3.out).mono ?_; rintro e w8 ⟨rfl, hl, hk⟩; rw [me3]; rw [ml3] at hl; have HL8 := Aside0.mk hl; have HB8 := Aside0.mk (Kp.below HB7.out HG.out.1 HG.out.2 hk); have HT8 := Aside0.mk (RV.kp HT7.out HL7.out hk); have HX8 := Aside0.mk (Led.keep HL7.out hk HX7.out (by decide)); clear hl hk)
  clear HL7 HB7 HT7 HX7
  go_upto_region 13 with (go_at_call 30; refine (settle_calls g b oneR (m2 x y per) 3 _ HL8.out HG2.out (by simp [m2]) W3.out).mono ?_; rintro e w9 ⟨rfl, hl, hk⟩; rw [show settleE (m2 x y per) 3 = 0 from rfl]; rw [show settleL (m2 x y per) 3 = m1 y per from rfl] at hl; have HL9 := Aside0.mk hl; have HB9 := Aside0.mk (Kp.below HB8.out HG.out.1 HG.out.2 hk); have HT9 := Aside0.mk (RV.kp HT8.out HL8.out hk); have HX9 := Aside0.mk (Led.keep HL8.out hk HX8.out (by decide)); clear hl hk)
  clear HL8 HB8 HT8 HX8
  obtain ⟨Y, hY⟩ : ∃ Y : List Int × List Int, Y = L (mkRat (y : Int) per) := ⟨_, rfl⟩
  have HY := Aside0.mk hY
  clear hY
  go_upto_region 14 with (go_at_call 20; refine (held_calls g b oneR (heldL (m1 y per)) _ _ HL9.out (sz_mono (held_sz HG3.out) (by omega))).mono ?_; rintro e w10 ⟨t, t', rfl, h5, hb⟩; rw [held1 y per, ← HY.out] at h5; obtain ⟨U1, d1, U2, d2, rfl, rfl⟩ := h5.shape; have HB10 := Aside0.mk (below_step HB9.out hb); have HL10 := Aside0.mk (HL9.out.below hb); have HU10 := Aside0.mk h5; have HT10 := Aside0.mk (HT9.out.below hb); have HX10 := Aside0.mk ((hb.block _ (mblk_lt HX9.out)).trans HX9.out); clear h5 hb)
  clear HB9 HL9 HT9 HX9
  obtain ⟨ge, hge⟩ : ∃ ge, ge = w10.heap.size := ⟨_, rfl⟩
  obtain ⟨w11, hw11⟩ : ∃ w11, w11 = w10.alloc (.cells #[.slice U1 Y.1.length d1, .slice U2 Y.2.length d2] 28) := ⟨_, rfl⟩
  have hb11 : Below w10.heap.size w10 w11 := by rw [hw11]; exact below_alloc (Below.refl _ _) _
  have HL11 := Aside0.mk (HL10.out.below hb11)
  have HB11 := Aside0.mk (below_step HB10.out hb11)
  have HT11 := Aside0.mk (HT10.out.below hb11)
  have HU11 := Aside0.mk (HU10.out.below hb11)
  have HX11 := Aside0.mk (show MBlk w11 gm 28 #[.slice T1 M.1.length e1, .slice T2 M.2.length e2] from (hb11.block _ (mblk_lt HX10.out)).trans HX10.out)
  have HE11 := Aside0.mk (show MBlk w11 ge 28 #[.slice U1 Y.1.length d1, .slice U2 Y.2.length d2] by rw [hw11, hge]; exact mblk_new _ _ _)
  rw [← hw11, ← hge]
  clear hw11 hge hb11 HL10 HB10 HT10 HU10 HX10
  go_upto_region 15 with (go_at_call 30; refine (settle_calls g b oneR (m1 y per) 3 _ HL11.out HG3.out (by simp [m1]) W3.out).mono ?_; rintro e w12 ⟨rfl, hl, hk⟩; rw [show settleE (m1 y per) 3 = 13 from rfl]; rw [show settleL (m1 y per) 3 = m1 y per from rfl] at hl; have HL12 := Aside0.mk hl; have HB12 := Aside0.mk (Kp.below HB11.out HG.out.1 HG.out.2 hk); have HT12 := Aside0.mk (RV.kp HT11.out HL11.out hk); have HU12 := Aside0.mk (RV.kp HU11.out HL11.out hk); have HX12 := Aside0.mk (Led.keep HL11.out hk HX11.out (by decide)); have HE12 := Aside0.mk (Led.keep HL11.out hk HE11.out (by decide)); clear hl hk)
  clear HL11 HB11 HT11 HU11 HX11 HE11
  go_upto_region 16 with (go_at_call 25; refine (free_calls g b oneR (m1 y per) 3 _ HL12.out HG3.out W3.out).mono ?_; rintro e w13 ⟨rfl, hl, hk⟩; rw [show freeE (m1 y per) 3 = 0 from rfl]; rw [show freeL (m1 y per) 3 = [] from rfl] at hl; have HL13 := Aside0.mk hl; have HB13 := Aside0.mk (Kp.below HB12.out HG.out.1 HG.out.2 hk); have HT13 := Aside0.mk (RV.kp HT12.out HL12.out hk); have HU13 := Aside0.mk (RV.kp HU12.out HL12.out hk); have HX13 := Aside0.mk (Led.keep HL12.out hk HX12.out (by decide)); have HE13 := Aside0.mk (Led.keep HL12.out hk HE12.out (by decide)); clear hl hk)
  clear HL12 HB12 HT12 HU12 HX12 HE12
  go_upto_region 17 with (go_at_call 25; refine (free_calls g b oneR [] 3 _ HL13.out good_nil W3.out).mono ?_; rintro e w14 ⟨rfl, hl, hk⟩; rw [show freeE [] 3 = 12 from rfl]; rw [show freeL [] 3 = [] from rfl] at hl; have HL14 := Aside0.mk hl; have HB14 := Aside0.mk (Kp.below HB13.out HG.out.1 HG.out.2 hk); have HT14 := Aside0.mk (RV.kp HT13.out HL13.out hk); have HU14 := Aside0.mk (RV.kp HU13.out HL13.out hk); have HX14 := Aside0.mk (Led.keep HL13.out hk HX13.out (by decide)); have HE14 := Aside0.mk (Led.keep HL13.out hk HE13.out (by decide)); clear hl hk)
  clear HL13 HB13 HT13 HU13 HX13 HE13
  obtain ⟨mx, hmx⟩ : ∃ mx : Nat, mx = max x y := ⟨_, rfl⟩
  have hme : (if x < y then (y : Int) else (x : Int)) = (mx : Int) := by rw [hmx]; split <;> omega
  have hml : mx ≤ 64 := by rw [hmx]; omega
  have um : IntKind.u64.wrap (mx : Int) = (mx : Int) := by rw [IntKind.wrap_u64]; omega
  have uy : IntKind.u64.wrap (y : Int) = (y : Int) := by rw [IntKind.wrap_u64]; omega
  have up : IntKind.u64.wrap (per : Int) = (per : Int) := by rw [IntKind.wrap_u64]; omega
  obtain ⟨k1, hk1⟩ := cmp_held HG2.out (by simp [m2]) mx per (by omega) (by omega) (by omega)
  obtain ⟨k2, hk2⟩ := cmp_held HG3.out (by simp [m1]) y per (by omega) (by omega) (by omega)
  rw [held2 x y per (by omega), ← hmx, cmpR_self] at hk1
  rw [held1 y per, cmpR_self] at hk2
  rw [← hmx] at HM
  rw [← HM.out] at hk1
  rw [← HY.out] at hk2
  have HK := Aside0.mk (And.intro hk1 hk2)
  clear hk1 hk2 hmx HM HY
  have z0 : w14.cell? ⟨gm, 0, none⟩ = some (.slice T1 M.1.length e1) := (mblk_cell HX14.out 0).trans rfl
  have z1 : w14.cell? ⟨gm, 1, none⟩ = some (.slice T2 M.2.length e2) := (mblk_cell HX14.out 1).trans rfl
  have z2 : w14.cell? ⟨ge, 0, none⟩ = some (.slice U1 Y.1.length d1) := (mblk_cell HE14.out 0).trans rfl
  have z3 : w14.cell? ⟨ge, 1, none⟩ = some (.slice U2 Y.2.length d2) := (mblk_cell HE14.out 1).trans rfl
  go_region_held3 (fun w' => w'.cell? ⟨gm, 0, none⟩ = some (.slice T1 M.1.length e1) ∧ w'.cell? ⟨gm, 1, none⟩ = some (.slice T2 M.2.length e2) ∧ w'.cell? ⟨ge, 0, none⟩ = some (.slice U1 Y.1.length d1) ∧ w'.cell? ⟨ge, 1, none⟩ = some (.slice U2 Y.2.length d2))
    (first | (exact ⟨z0, z1, z2, z3⟩) | go_keep)
    (first
      | (go_at_call 17
         refine (one_rv mx per (by omega) (by omega) _).mono ?_
         rintro e w15 ⟨q1, q2, rfl, h6, hb⟩
         obtain ⟨Q1, n1, Q2, n2, rfl, rfl⟩ := h6.shape
         have hb15 : Below w14.heap.size w14 w15 := below_step (below_drew (Below.refl _ _)) hb
         have HB15 := Aside0.mk hb15
         have HQ15 := Aside0.mk h6
         have z0 : w15.cell? ⟨gm, 0, none⟩ = some (.slice T1 M.1.length e1) := (mblk_cell ((hb15.block _ (mblk_lt HX14.out)).trans HX14.out) 0).trans rfl
         have z1 : w15.cell? ⟨gm, 1, none⟩ = some (.slice T2 M.2.length e2) := (mblk_cell ((hb15.block _ (mblk_lt HX14.out)).trans HX14.out) 1).trans rfl
         have z2 : w15.cell? ⟨ge, 0, none⟩ = some (.slice U1 Y.1.length d1) := (mblk_cell ((hb15.block _ (mblk_lt HE14.out)).trans HE14.out) 0).trans rfl
         have z3 : w15.cell? ⟨ge, 1, none⟩ = some (.slice U2 Y.2.length d2) := (mblk_cell ((hb15.block _ (mblk_lt HE14.out)).trans HE14.out) 1).trans rfl
         clear h6 hb hb15 um hme)
      | (go_at_call 19
         refine (rcmp_rv (HT14.out.below HB15.out) HQ15.out HK.out.1).mono ?_
         rintro e w16 ⟨rfl, hb⟩
         have hb16 : Below w14.heap.size w14 w16 := below_step HB15.out hb
         have HB16 := Aside0.mk hb16
         have z0 : w16.cell? ⟨gm, 0, none⟩ = some (.slice T1 M.1.length e1) := (mblk_cell ((hb16.block _ (mblk_lt HX14.out)).trans HX14.out) 0).trans rfl
         have z1 : w16.cell? ⟨gm, 1, none⟩ = some (.slice T2 M.2.length e2) := (mblk_cell ((hb16.block _ (mblk_lt HX14.out)).trans HX14.out) 1).trans rfl
         have z2 : w16.cell? ⟨ge, 0, none⟩ = some (.slice U1 Y.1.length d1) := (mblk_cell ((hb16.block _ (mblk_lt HE14.out)).trans HE14.out) 0).trans rfl
         have z3 : w16.cell? ⟨ge, 1, none⟩ = some (.slice U2 Y.2.length d2) := (mblk_cell ((hb16.block _ (mblk_lt HE14.out)).trans HE14.out) 1).trans rfl
         clear hb hb16 HT14 HQ15 HB15)
      | (go_at_call 17
         refine (one_rv y per (by omega) (by omega) _).mono ?_
         rintro e w17 ⟨q1, q2, rfl, h6, hb⟩
         obtain ⟨R1, n3, R2, n4, rfl, rfl⟩ := h6.shape
         have hb17 : Below w14.heap.size w14 w17 := below_step HB16.out hb
         have HB17 := Aside0.mk hb17
         have HR17 := Aside0.mk h6
         have z0 : w17.cell? ⟨gm, 0, none⟩ = some (.slice T1 M.1.length e1) := (mblk_cell ((hb17.block _ (mblk_lt HX14.out)).trans HX14.out) 0).trans rfl
         have z1 : w17.cell? ⟨gm, 1, none⟩ = some (.slice T2 M.2.length e2) := (mblk_cell ((hb17.block _ (mblk_lt HX14.out)).trans HX14.out) 1).trans rfl
         have z2 : w17.cell? ⟨ge, 0, none⟩ = some (.slice U1 Y.1.length d1) := (mblk_cell ((hb17.block _ (mblk_lt HE14.out)).trans HE14.out) 0).trans rfl
         have z3 : w17.cell? ⟨ge, 1, none⟩ = some (.slice U2 Y.2.length d2) := (mblk_cell ((hb17.block _ (mblk_lt HE14.out)).trans HE14.out) 1).trans rfl
         clear h6 hb hb17 uy up HB16)
      | (go_at_call 19
         refine (rcmp_rv (HU14.out.below HB17.out) HR17.out HK.out.2).mono ?_
         rintro e w18 ⟨rfl, hb⟩
         have hb18 : Below w14.heap.size w14 w18 := below_step HB17.out hb
         have HB18 := Aside0.mk hb18
         have z0 : w18.cell? ⟨gm, 0, none⟩ = some (.slice T1 M.1.length e1) := (mblk_cell ((hb18.block _ (mblk_lt HX14.out)).trans HX14.out) 0).trans rfl
         have z1 : w18.cell? ⟨gm, 1, none⟩ = some (.slice T2 M.2.length e2) := (mblk_cell ((hb18.block _ (mblk_lt HX14.out)).trans HX14.out) 1).trans rfl
         have z2 : w18.cell? ⟨ge, 0, none⟩ = some (.slice U1 Y.1.length d1) := (mblk_cell ((hb18.block _ (mblk_lt HE14.out)).trans HE14.out) 0).trans rfl
         have z3 : w18.cell? ⟨ge, 1, none⟩ = some (.slice U2 Y.2.length d2) := (mblk_cell ((hb18.block _ (mblk_lt HE14.out)).trans HE14.out) 1).trans rfl
         clear hb hb18 HR17 HU14)
      | (go_at_call 21
         refine (len_calls g b oneR (heldL []) [] _ (HL14.out.below HB18.out) (by simp)).mono ?_
         rintro e w19 ⟨rfl, rfl⟩
         clear HL14))
  all_goals
    go_wp2_with fail
    exact bodyPost_ret (results_tmp rfl _ _ _) rfl ⟨rfl, below_step HB14.out HB18.out⟩
end Go.Proofs.Ytfldklimlcnnnaa.PureHoldMax
