/- RatioStep: what is added to a sum makes it greater by just that. The walk of the law. -/
import Derived.Test.YtcfliceeablckaaQRef3
import Derived.Test.YtcfliceeablckaaXRV
import Derived.Laws.IdiomStrings
import Derived.Deep.DrawnRows
import Derived.Deep.DeepCutAuto
import Derived.Deep.RegionHeld3
import Derived.Test.YtcfliceeablckaaPNrx15
import Derived.Test.YtcfliceeablckaaPNrx19
import Derived.Test.YtcfliceeablckaaPNrx23
import Derived.Test.YtcfliceeablckaaPNrx26
namespace Go.Proofs.Ytcfliceeablckaa.PureRatioStep
open Go.RowKit Go.Proofs.Ytcfliceeablckaa.PNr Go.Proofs.YtcfliceeablckaaW.PrintWords Go.Proofs.YtcfliceeablckaaW.PrintLast Go.Proofs.YtcfliceeablckaaW.PrintMore Go.Proofs.Ytcfliceeablckaa.MWords
open Go.Proofs.Ytcfliceeablckaa.MNat Go.Proofs.Ytcfliceeablckaa.QNat Go.Proofs.Ytcfliceeablckaa.QText Go.Proofs.Ytcfliceeablckaa.QEv Go.Proofs.Ytcfliceeablckaa.QRatio Go.Proofs.Ytcfliceeablckaa.XRV
set_option linter.unusedVariables false
set_option linter.unusedSimpArgs false
attribute [local go_sem ↓] Go.wp_at_zero Go.wp_at_succ
-- regattalaw03_weights.calls regattalaw03_same.calls regattalaw03_awake.calls ratio_Sum.calls ratio_Whole.calls ratio_Of.calls ratio_Add.calls ratio_Sub.calls ratio_Cmp.calls

theorem infoW : (Try.prog.info? 57).map (fun i => (i.zero, i.size, i.bytes)) = some (some (.agg #[.int .i64 0, .int .i64 0]), 2, 16) := by kernel_rfl
theorem R_empty (w : World) (base : Nat) (hb : base ≤ w.heap.size) : Kd.R k57 57 (w.alloc (.cells #[] 57)) base (fun _ => True) (.slice (some ⟨w.heap.size, 0, none⟩) 0 0) [] :=
  ⟨fun _ _ => trivial, [], World.ownsRow_made w #[] 0 hb (by decide) (by simp), Reps.none _ _⟩
theorem rows_M {w : World} {base : Nat} {A : Option Addr} {n : Nat} {xs : List S57} (h : Kd.C k57 w A n xs) : ReadsRow (k57.M w base (fun _ => False)) k57.sz w A n xs :=
  ReadsRow.imp_ h (Below.refl _ _) (fun x cs hp => by obtain rfl := k57_open hp; exact k57_mkM _ _ _ x)
/-- A row of one, that lies in a block. -/
theorem C_lit {w : World} {g : Nat} (x : S57) (h : MBlk w g 57 #[.int .i64 x.f0, .int .i64 x.f1]) : Kd.C k57 w (some ⟨g, 0, none⟩) 1 [x] := by
  refine ⟨rfl, by decide, fun _ => ⟨_, rfl, fun j p hj => ?_⟩⟩
  match j, hj with
  | 0, hj =>
    obtain rfl : x = p := by simpa using hj
    refine ⟨_, rfl, k57_mk w x, fun i u hi => ?_⟩
    have e := mblk_cell h i
    rw [show (⟨g, 0, none⟩ : Addr).add (0 * k57.sz + i) = ⟨g, i, none⟩ by simp [Addr.add] <;> omega]
    rw [e]
    simpa using hi
  | j + 1, hj => simp at hj
theorem C_lit2 {w : World} {g : Nat} (x : S55) (h : MBlk w g 55 #[.int .i64 x.f0, .int .i64 x.f1]) : Kd.C k55 w (some ⟨g, 0, none⟩) 1 [x] := by
  refine ⟨rfl, by decide, fun _ => ⟨_, rfl, fun j p hj => ?_⟩⟩
  match j, hj with
  | 0, hj =>
    obtain rfl : x = p := by simpa using hj
    refine ⟨_, rfl, k55_mk w x, fun i u hi => ?_⟩
    have e := mblk_cell h i
    rw [show (⟨g, 0, none⟩ : Addr).add (0 * k55.sz + i) = ⟨g, i, none⟩ by simp [Addr.add] <;> omega]
    rw [e]
    simpa using hi
  | j + 1, hj => simp at hj
theorem weights_rv (A : Option Addr) (c : Nat) (l : List S55) (W : World) (hr : Kd.C k55 W A l.length l) (hc : l.length ≤ c) (hl : l.length ≤ 9223372036854775807) :
    Calls Try.prog 36 #[.slice A l.length c] W fun e w' => ∃ (A' : Option Addr) (c' : Nat), e = .returned (.slice A' (wsOf l).length c') ∧ ((wsOf l).length ≤ c' ∧ Kd.C k57 w' A' (wsOf l).length (wsOf l)) ∧ Below W.heap.size W w' := by
  obtain ⟨k, hk⟩ := (weights_t l hl).get
  exact (regattalaw03_weights.calls k A c l _ W hr hc hk).mono fun e w' ⟨v, he, h1, hb⟩ => by
    obtain ⟨A', c', rfl⟩ := Kd.R_slice h1
    exact ⟨A', c', he, (Kd.R_reads' h1).2, hb⟩
theorem sumw_rv (A : Option Addr) (c : Nat) (l : List S57) (W : World) (hc : l.length ≤ c) (hr : Kd.C k57 W A l.length l) (hl : l.length ≤ 1000) (ho : ∀ x ∈ l, okW x) :
    Calls Try.prog 42 #[.slice A l.length c] W fun e w' => ∃ p q : Value, e = .returned (.agg #[p, q]) ∧ RV w' p q (L (sumR l)).1 (L (sumR l)).2 ∧ Below W.heap.size W w' := by
  obtain ⟨k, hk⟩ := (sum_t l hl ho).1.get
  exact sum_rv ⟨hc, hr⟩ hk
theorem same_rv {k : Nat} {W : World} {x y u v : Value} {a b c d : List Int} {r : Bool} (h : RV W x y a b) (g : RV W u v c d) (hf : regattalaw03_same.f k a b c d = some r) :
    Calls Try.prog 35 #[.agg #[x, y], .agg #[u, v]] W fun e w' => e = .returned (.bool r) ∧ Below W.heap.size W w' := by
  obtain ⟨⟨A1, c1, rfl, p1, q1⟩, A2, c2, rfl, p2, q2⟩ := h
  obtain ⟨⟨A3, c3, rfl, p3, q3⟩, A4, c4, rfl, p4, q4⟩ := g
  exact regattalaw03_same.calls k A1 c1 a A2 c2 b A3 c3 c A4 c4 d r W q1 p1 q2 p2 q3 p3 q4 p4 hf
theorem wt_nonneg (x : S57) : 0 ≤ wt x := mk_nonneg _ _
theorem sumR_one (l : List S57) (x : S57) : sumR (l ++ [x]) = sumR l + wt x := by
  rw [sumR_append]
  show sumR l + (wt x + 0) = _
  rw [Rat.add_zero]
theorem wt_sz {x : S57} (h : okW x) : Sz 1 (wt x) := mk_sz 1 _ _ (okW_F h).1 (okW_F h).2 (okW_pos h)
theorem wt_pos {x : S57} (h : okW x) : (0 < wt x) ↔ 0 < x.f0 := by
  have e : (0 : Rat) = mkRat ((0 : Nat) : Int) 1 := by show (0 : Rat) = mkRat 0 1; rw [Rat.zero_mkRat]
  unfold wt
  rw [e, mk_lt 0 1 _ _ (by omega) (okW_pos h)]
  have := h.1
  omega
theorem cmp_pos {p q : Rat} : decide (0 < cmpR p q) = decide (q < p) := by
  unfold cmpR
  by_cases h1 : p < q
  · rw [if_pos h1]
    exact (decide_eq_false (by omega)).trans (decide_eq_false (by grind)).symm
  · rw [if_neg h1]
    by_cases h2 : p = q
    · rw [if_pos h2]
      exact (decide_eq_false (by omega)).trans (decide_eq_false (by grind)).symm
    · rw [if_neg h2]
      exact (decide_eq_true (by omega)).trans (decide_eq_true (by grind)).symm
theorem zero_L : L 0 = (limbs 0, limbs 1) := rfl
theorem ws_one (x : S55) : wsOf [x] = [wOf x] := rfl
/-- All that the law asks of the numbers. -/
structure Nums (a : List S57) (x : S57) (s t d : Rat) : Prop where
  sub : ∃ k, ratio_Sub.f k (L t).1 (L t).2 (L s).1 (L s).2 = some ((L d).1, (L d).2, 0)
  of : ratio_Of.f x.f0 x.f1 = some (limbs x.f0.toNat, limbs x.f1.toNat)
  cmp : ∃ k, ratio_Cmp.f k (L d).1 (L d).2 (limbs x.f0.toNat) (limbs x.f1.toNat) = some 0
  whole : ratio_Whole.f 0 = some ((L 0).1, (L 0).2)
  add0 : ∃ k, ratio_Add.f k (L s).1 (L s).2 (L 0).1 (L 0).2 = some ((L s).1, (L s).2)
  same0 : ∃ k, regattalaw03_same.f k (L s).1 (L s).2 (L s).1 (L s).2 = some true
  add1 : ∃ k, ratio_Add.f k (L s).1 (L s).2 (L d).1 (L d).2 = some ((L t).1, (L t).2)
  same1 : ∃ k, regattalaw03_same.f k (L t).1 (L t).2 (L t).1 (L t).2 = some true
  gr : ∃ k C, ratio_Cmp.f k (L t).1 (L t).2 (L s).1 (L s).2 = some C ∧ decide (0 < C) = decide (0 < x.f0)
theorem nums (a : List S57) (x : S57) (ha : a.length ≤ 8) (ho : ∀ y ∈ a, okW y) (hx : okW x) : Nums a x (sumR a) (sumR (a ++ [x])) (wt x) := by
  have hs := (sum_t a (by omega) ho).2
  have hw := wt_sz hx
  have h0 : Sz 1 0 := ⟨Rat.le_refl, F.one (by decide), F.one (by decide)⟩
  have ht := (addL _ 1 _ _ hs hw (by omega)).2
  have e := sumR_one a x
  have hd : sumR (a ++ [x]) - sumR a = wt x := by rw [e]; generalize sumR a = A; generalize wt x = B; grind
  have hle : ¬ sumR (a ++ [x]) < sumR a := by
    have := wt_nonneg x
    rw [e]
    generalize sumR a = A at *
    generalize wt x = B at *
    grind
  rw [← e] at ht
  refine ⟨?_, of_w x hx, ?_, whole_n 0 (by omega), ?_, (sameL _ _ hs (by omega)).get, ?_, (sameL _ _ ht (by omega)).get, ?_⟩
  · have h := (subL _ _ _ _ ht hs (by omega)).get
    rw [if_neg hle, hd] at h
    exact h
  · have h := rcmp_t 1 1 _ _ _ _ hw.2.1 hw.2.2 (okW_F hx).1 (okW_F hx).2 (by omega) (Rat.den_pos _) (okW_pos hx)
    rw [self_mk _ hw.1, show mkRat (x.f0.toNat : Int) x.f1.toNat = wt x from rfl, cmpR_self] at h
    exact h.get
  · have h := (addL _ 1 _ 0 hs h0 (by omega)).1.get
    rw [Rat.add_zero] at h
    exact h
  · have h := (addL _ 1 _ _ hs hw (by omega)).1.get
    rw [← e] at h
    exact h
  · have h := rcmp_t _ _ _ _ _ _ ht.2.1 ht.2.2 hs.2.1 hs.2.2 (by omega) (Rat.den_pos _) (Rat.den_pos _)
    rw [self_mk _ ht.1, self_mk _ hs.1] at h
    obtain ⟨k, hk⟩ := h.get
    refine ⟨k, _, hk, ?_⟩
    rw [cmp_pos]
    refine decide_eq_decide.2 (Iff.trans ?_ (wt_pos hx))
    rw [e]
    generalize sumR a = A
    generalize wt x = B
    constructor <;> intro h <;> grind
theorem noLimb_box {X : World} {g7 : Nat} {o1 o2 : Option Addr} {n1 n2 m1 m2 : Nat} {t : TypeId} (hG : MBlk X g7 t #[.slice o1 n1 m1, .slice o2 n2 m2]) : NoLimb X g7 := by
  intro p hp n hc
  unfold World.cell? at hc
  rw [hp, show X.heap[g7]? = _ from hG] at hc
  simp only at hc
  split at hc
  · cases hc
  · match ho : p.off, hc with
    | 0, hc => simp at hc
    | 1, hc => simp at hc
    | k + 2, hc => simp at hc
/-- Behind the store of a ratio into a box of one's own. -/
theorem box_put1 {X w : World} {g7 : Nat} {p p' : Value} {r1 r2 : List Int} {t : TypeId} {o1 o2 : Option Addr} {n1 n2 m1 m2 : Nat} (hG : MBlk X g7 t #[.slice o1 n1 m1, .slice o2 n2 m2]) (hV : RV X p p' r1 r2) (hB : Below w.heap.size w X) (hg : w.heap.size ≤ g7) :
    MBlk ((X.setCell ⟨g7, 0, none⟩ p).setCell ⟨g7, 1, none⟩ p') g7 t #[p, p'] ∧ RV ((X.setCell ⟨g7, 0, none⟩ p).setCell ⟨g7, 1, none⟩ p') p p' r1 r2 ∧ Below w.heap.size w ((X.setCell ⟨g7, 0, none⟩ p).setCell ⟨g7, 1, none⟩ p') := by
  have hn := noLimb_box hG
  have hs : ∀ k, k ≠ g7 → ((X.setCell ⟨g7, 0, none⟩ p).setCell ⟨g7, 1, none⟩ p').heap[k]? = X.heap[k]? := fun k hk => (Below.heap_setCell _ ⟨g7, 1, none⟩ _ k hk).trans (Below.heap_setCell _ ⟨g7, 0, none⟩ _ k hk)
  exact ⟨mblk_set (mblk_set hG 0 _) 1 _, hV.near (fun k _ h => hs k (fun e => h (by rw [e]; exact hn))), (hB.setCell (p := ⟨g7, 0, none⟩) hg _).setCell (p := ⟨g7, 1, none⟩) hg _⟩
theorem le_alloc (W : World) (o : Obj) : W.heap.size ≤ (W.alloc o).heap.size := by simp
theorem new_lt (W : World) (o : Obj) : W.heap.size < (W.alloc o).heap.size := by simp
theorem own_alloc (W : World) (o : Obj) (n c : Nat) : ∀ k, (Value.slice (some ⟨W.heap.size, 0, none⟩) n c).ownBlock = some k → k < (W.alloc o).heap.size := fun k e => by
  simp [Value.ownBlock] at e
  subst e
  exact new_lt W o
theorem ne_new {W : World} {g : Nat} (h : g < W.heap.size) (n c : Nat) : some g ≠ (Value.slice (some ⟨W.heap.size, 0, none⟩) n c).ownBlock := fun e => by
  simp [Value.ownBlock] at e
  omega
theorem ne_after {W : World} {v v1 : Value} {g : Nat} (h : some g ≠ v.ownBlock) (hlt : g < W.heap.size) (hat : v1.ownBlock = v.ownBlock ∨ ∃ b, v1.ownBlock = some b ∧ W.heap.size ≤ b) : some g ≠ v1.ownBlock := by
  rcases hat with e | ⟨b, e, hle⟩
  · rw [e]; exact h
  · rw [e]
    intro he
    have := Option.some.inj he
    omega
def rstep.T5 : Bool × List (List Nat × List Nat) := (true, [([], []), ([], []), ([0, 1], [0, 1]), ([], []), ([3], [3]), ([2, 4, 2], [2, 4]), ([5, 5], [5]), ([], []), ([7, 6, 6, 0, 1, 2, 3, 4, 5, 6, 7], [6, 7])])
def rstep.B5 : List Nat := [0, 0, 3, 0, 8, 31, 63, 0, 255]
theorem rstep.tab5 : rtab .any (opsOf Try.f12 5) = rstep.T5 := by kernel_rfl
theorem rstep.bits5 : waitsOk rstep.T5.2 rstep.B5 = true := by kernel_rfl
theorem weights_one (p q : Int) (g : Nat) (W : World) (h : MBlk W g 55 #[.int .i64 p, .int .i64 q]) :
    Calls Try.prog 36 #[.slice (some ⟨g, 0, none⟩) 1 1] W fun e w' => ∃ (ad : Addr) (c' : Nat), e = .returned (.slice (some ad) 1 c') ∧ (1 ≤ c' ∧ w'.cell? ad = some (.int .i64 (wOf ⟨p, q⟩).f0) ∧ w'.cell? ⟨ad.block, ad.off + 1, none⟩ = some (.int .i64 (wOf ⟨p, q⟩).f1)) ∧ Below W.heap.size W w' := by
  refine (weights_rv (some ⟨g, 0, none⟩) 1 [⟨p, q⟩] W (C_lit2 ⟨p, q⟩ h) (by simp) (by simp)).mono ?_
  rintro e w' ⟨A', c', rfl, ⟨hc, hC⟩, hb⟩
  obtain ⟨ad, rfl, y0, y1⟩ := at_T57 hC 0 (by simp) (by simp [wsOf])
  refine ⟨ad, c', rfl, ⟨hc, ?_, ?_⟩, hb⟩
  · have e : rd_T57 (wsOf [⟨p, q⟩]) 0 = wOf ⟨p, q⟩ := rfl
    rw [e] at y0
    simpa [Addr.add] using y0
  · have e : rd_T57 (wsOf [⟨p, q⟩]) 0 = wOf ⟨p, q⟩ := rfl
    rw [e] at y1
    simpa [Addr.add] using y1
set_option maxHeartbeats 4000000 in
set_option maxRecDepth 100000 in
theorem step_calls (A : Option Addr) (cp : Nat) (xs : List S55) (p q : Int) (w : World) (hC : Kd.C k55 w A xs.length xs) (hc : xs.length ≤ cp) (hx : xs.length ≤ 9223372036854775807) :
    Calls Try.prog 12 #[.slice A xs.length cp, .agg #[.int .i64 p, .int .i64 q]] w fun e w' => e = .returned (.bool true) ∧ Below w.heap.size w w' := by
  have mixed : Try.prog.follows Departure.mixedOrders = true := by kernel_rfl
  have HC := Aside0.mk (And.intro hC (And.intro hc hx))
  obtain ⟨av, ha⟩ : ∃ av, av = wsOf xs := ⟨_, rfl⟩
  obtain ⟨x, hxx⟩ : ∃ x, x = wOf ⟨p, q⟩ := ⟨_, rfl⟩
  have HAX := Aside0.mk (And.intro ha hxx)
  have hal : av.length ≤ 8 := by rw [ha]; exact ws_len _
  have hao : ∀ y ∈ av, okW y := by rw [ha]; exact ws_ok _
  have hxo : okW x := by rw [hxx]; exact wOf_ok _
  have HN := Aside0.mk (nums av x hal hao hxo)
  have HAO := Aside0.mk (And.intro hal (And.intro hao hxo))
  obtain ⟨ka, hka⟩ := awake03.get
  have HKA := Aside0.mk hka
  clear hC hc hx ha hxx hal hao hxo hka
  go_enter Try.func12, Try.ntmps12
  go_upto_region 1 with fail
  obtain ⟨w0, hw0⟩ : ∃ w0, w0 = w.alloc (.cells #[.int .i64 p, .int .i64 q] 55) := ⟨_, rfl⟩
  have hb0 : Below w.heap.size w w0 := by rw [hw0]; exact below_alloc (Below.refl _ _) _
  have HX0 := Aside0.mk (show MBlk w0 w.heap.size 55 #[.int .i64 p, .int .i64 q] by rw [hw0]; exact mblk_new _ _ _)
  rw [← hw0]
  have HB0 := Aside0.mk hb0
  clear hw0 hb0
  go_upto_region 2 with (go_at_call 28; refine (regattalaw03_awake.calls ka true _ HKA.out).mono ?_; rintro e w1 ⟨rfl, hb⟩; have HB1 := Aside0.mk (below_step HB0.out hb); have HX1 := Aside0.mk ((hb.block _ (mblk_lt HX0.out)).trans HX0.out); clear hb)
  go_upto_region 3 with (go_at_call 36; refine (weights_rv A cp xs _ (Kd.C_below HC.out.1 HB1.out) HC.out.2.1 HC.out.2.2).mono ?_; rw [← HAX.out.1]; rintro e w2 ⟨A1, c1, rfl, h2, hb⟩; have HB2 := Aside0.mk (below_step HB1.out hb); have HX2 := Aside0.mk ((hb.block _ (mblk_lt HX1.out)).trans HX1.out); have HA2 := Aside0.mk h2; clear h2 hb)
  clear HB0 HB1 HX0 HX1 HC HKA
  have x0 : w2.cell? ⟨w.heap.size, 0, none⟩ = some (.int .i64 p) := (mblk_cell HX2.out 0).trans rfl
  have x1 : w2.cell? ⟨w.heap.size, 1, none⟩ = some (.int .i64 q) := (mblk_cell HX2.out 1).trans rfl
  go_upto_region 4 with (go_at_call 36; refine (weights_one p q _ _ (mblk_new _ _ _)).mono ?_; rw [← HAX.out.2]; rintro e w3 ⟨ad, c3, rfl, ⟨h3c, y0, y1⟩, hb⟩; have hb3 := below_step (below_alloc (Below.refl _ _) _) hb; have HB3 := Aside0.mk (below_step HB2.out hb3); have HA3 := Aside0.mk (And.intro HA2.out.1 (Kd.C_below HA2.out.2 hb3)); clear hb hb3)
  clear HB2 HX2 HA2 x0 x1 HAX
  obtain ⟨gx, hgx⟩ : ∃ gx, gx = w3.heap.size := ⟨_, rfl⟩
  obtain ⟨w4, hw4⟩ : ∃ w4, w4 = w3.alloc (.cells #[.int .i64 x.f0, .int .i64 x.f1] 57) := ⟨_, rfl⟩
  have hb4 : Below w3.heap.size w3 w4 := by rw [hw4]; exact below_alloc (Below.refl _ _) _
  have HX4 := Aside0.mk (show MBlk w4 gx 57 #[.int .i64 x.f0, .int .i64 x.f1] by rw [hw4, hgx]; exact mblk_new _ _ _)
  have HA4 := Aside0.mk (And.intro HA3.out.1 (Kd.C_below HA3.out.2 hb4))
  have HB4 := Aside0.mk (below_step HB3.out hb4)
  rw [← hw4, ← hgx]
  clear hw4 hgx hb4 HB3 HA3 y0 y1 h3c
  obtain ⟨s, hs⟩ : ∃ s, s = sumR av := ⟨_, rfl⟩
  have HSS := Aside0.mk hs
  obtain ⟨t, ht⟩ : ∃ t, t = sumR (av ++ [x]) := ⟨_, rfl⟩
  have HTT := Aside0.mk ht
  obtain ⟨d, hd⟩ : ∃ d, d = wt x := ⟨_, rfl⟩
  rw [← hs, ← ht, ← hd] at HN
  obtain ⟨Ls, hLs⟩ : ∃ Ls : List Int × List Int, Ls = L s := ⟨_, rfl⟩
  obtain ⟨Lt, hLt⟩ : ∃ Lt : List Int × List Int, Lt = L t := ⟨_, rfl⟩
  obtain ⟨Ld, hLd⟩ : ∃ Ld : List Int × List Int, Ld = L d := ⟨_, rfl⟩
  obtain ⟨L0, hL0⟩ : ∃ L0 : List Int × List Int, L0 = L 0 := ⟨_, rfl⟩
  have HLs := Aside0.mk hLs
  have HLt := Aside0.mk hLt
  obtain ⟨⟨k1, n1⟩, n2, ⟨k3, n3⟩, n4, ⟨k5, n5⟩, ⟨k6, n6⟩, ⟨k7, n7⟩, ⟨k8, n8⟩, k9, C, n9, n10⟩ := HN.out
  rw [← hLs, ← hLt, ← hLd] at n1
  rw [← hLd] at n3
  rw [← hL0] at n4
  rw [← hLs, ← hL0] at n5
  rw [← hLs] at n6
  rw [← hLs, ← hLd, ← hLt] at n7
  rw [← hLt] at n8
  rw [← hLs, ← hLt] at n9
  generalize limbs x.f0.toNat = X1 at n2 n3
  generalize limbs x.f1.toNat = X2 at n2 n3
  have N1 := Aside0.mk n1
  have N2 := Aside0.mk n2
  have N3 := Aside0.mk n3
  have N4 := Aside0.mk n4
  have N5 := Aside0.mk n5
  have N6 := Aside0.mk n6
  have N7 := Aside0.mk n7
  have N8 := Aside0.mk n8
  have N9 := Aside0.mk n9
  have N10 := Aside0.mk n10
  clear n1 n2 n3 n4 n5 n6 n7 n8 n9 n10 hLs hLt hLd hL0 hs ht hd HN
  go_upto_region 5 with (go_at_call 42; refine (sumw_rv A1 c1 av _ HA4.out.1 HA4.out.2 (by have := HAO.out.1; omega) HAO.out.2.1).mono ?_; rw [← HSS.out, ← HLs.out]; rintro e w5 ⟨u, u', rfl, h5, hb⟩; obtain ⟨S1, e1, S2, e2, rfl, rfl⟩ := h5.shape; have HB5 := Aside0.mk (below_step HB4.out hb); have HX5 := Aside0.mk ((hb.block _ (mblk_lt HX4.out)).trans HX4.out); have HA5 := Aside0.mk (And.intro HA4.out.1 (Kd.C_below HA4.out.2 hb)); have HS5 := Aside0.mk h5; clear h5 hb)
  obtain ⟨gs, hgs⟩ : ∃ gs, gs = w5.heap.size := ⟨_, rfl⟩
  obtain ⟨w6, hw6⟩ : ∃ w6, w6 = w5.alloc (.cells #[.slice S1 Ls.1.length e1, .slice S2 Ls.2.length e2] 45) := ⟨_, rfl⟩
  have hb6 : Below w5.heap.size w5 w6 := by rw [hw6]; exact below_alloc (Below.refl _ _) _
  have HX6 := Aside0.mk (show MBlk w6 gx 57 #[.int .i64 x.f0, .int .i64 x.f1] from (hb6.block _ (mblk_lt HX5.out)).trans HX5.out)
  have HA6 := Aside0.mk (And.intro HA5.out.1 (Kd.C_below HA5.out.2 hb6))
  have HB6 := Aside0.mk (below_step HB5.out hb6)
  have HG6 := Aside0.mk (show MBlk w6 gs 45 #[.slice S1 Ls.1.length e1, .slice S2 Ls.2.length e2] by rw [hw6, hgs]; exact mblk_new _ _ _)
  have HS6 := Aside0.mk (HS5.out.below hb6)
  rw [← hw6, ← hgs]
  clear hw6 hgs hb6 HB4 HX4 HA4 HB5 HX5 HA5 HS5
  have x0 : w6.cell? ⟨gx, 0, none⟩ = some (.int .i64 x.f0) := (mblk_cell HX6.out 0).trans rfl
  have x1 : w6.cell? ⟨gx, 1, none⟩ = some (.int .i64 x.f1) := (mblk_cell HX6.out 1).trans rfl
  have lgx : gx < w6.heap.size := mblk_lt HX6.out
  go_cut [9] (fun v9 wc => ∃ (gt : Nat) (T1 T2 : Option Addr) (t1 t2 : Nat), v9 = .pointer (some ⟨gt, 0, none⟩) ∧ Aside0 (MBlk wc gt 45 #[.slice T1 Lt.1.length t1, .slice T2 Lt.2.length t2]) ∧ Aside0 (RV wc (.slice T1 Lt.1.length t1) (.slice T2 Lt.2.length t2) Lt.1 Lt.2) ∧ Aside0 (Below w6.heap.size w6 wc))
  case first =>
    obtain ⟨bv, hbq⟩ : ∃ bv, bv = av ++ [x] := ⟨_, rfl⟩
    have HJN := Aside0.mk hbq
    have HBO := Aside0.mk (show bv.length ≤ 1000 ∧ ∀ y ∈ bv, okW y by
      rw [hbq]
      refine ⟨by have := HAO.out.1; simp; omega, fun y hy => ?_⟩
      rcases List.mem_append.1 hy with hy | hy
      · exact HAO.out.2.1 y hy
      · obtain rfl := List.mem_singleton.1 hy
        exact HAO.out.2.2)
    have HTB := Aside0.mk (show sumR bv = t by rw [HTT.out, hbq])
    clear hbq
    refine start_ (n := 9) (S := fun w' => True) (ds := []) #[false, false, false, false, false, false, false, false, false] (by kernel_rfl) rfl rfl trivial (fun hHeld => ?_)
    refine with_tabW rstep.tab5 rstep.bits5 (fun HT_ HW_ => ?_)
    have FB := Aside0.mk (below_drew (Below.refl w6.heap.size w6))
    have L4 := Aside0.mk (show gx < w6.drew.heap.size from lgx)
    have B0 := Aside0.mk (show ∀ k, (Value.bool false).ownBlock = some k → k < w6.drew.heap.size from fun k e_ => by cases e_)
    have B2 := Aside0.mk B0.out
    have N0 := Aside0.mk (show some gx ≠ (Value.bool false).ownBlock from fun e_ => by cases e_)
    have N2 := Aside0.mk N0.out
    refine pure_ (i := 1) (N := some 23) (v := ?_) (a' := ?_) #[false, true, false, false, false, false, false, false, false] rfl rfl (any_of HT_.out (by kernel_rfl)) (fun _ _ _ h => h) (Or.inl ⟨by rfl, ?_⟩) ?_ ?_
    rotate_left
    · intro w'
      go_simp
      with_reducible rfl
    rotate_left
    · simp only [Act.put, List.setIfInBounds_toArray, List.set_cons_zero, List.set_cons_succ, i64_w, i32_w]
      rfl
    refine inv_at [0, 2, 3, 4, 5, 6, 7, 8] (fun a0_ b a w' => ∃ (v0 : Value) (v2 : Value) (g4 : Nat) (A5 : Option Addr) (c5 : Nat) (T1 : Option Addr) (t1 : Nat) (T2 : Option Addr) (t2 : Nat) (g7 : Nat) (m4_ : Value) (m5_ : Value) (m6_ : Value) (m7_ : Value), a = putSel a0_ b [(0, 22, v0), (2, 24, v2), (3, 25, .agg #[.int .i64 x.f0, .int .i64 x.f1]), (4, 26, m4_), (5, 27, m5_), (6, 28, m6_), (7, 9, m7_)] ∧ (Below w6.heap.size w6 w') ∧ (b 0 = true → b 2 = false → Kd.R k57 57 w' w6.heap.size (fun _ => True) v0 []) ∧ (b 2 = true → b 5 = false → Kd.R k57 57 w' w6.heap.size (fun _ => True) v2 av) ∧ (b 4 = true → b 5 = false → MBlk w' g4 57 #[.int .i64 x.f0, .int .i64 x.f1]) ∧ (g4 < w'.heap.size) ∧ (∀ k, v0.ownBlock = some k → k < w'.heap.size) ∧ (∀ k, v2.ownBlock = some k → k < w'.heap.size) ∧ (some g4 ≠ v0.ownBlock) ∧ (some g4 ≠ v2.ownBlock) ∧ (b 5 = true → b 6 = false → Kd.R k57 57 w' w6.heap.size (fun _ => True) (.slice A5 bv.length c5) bv) ∧ (b 6 = true → RV w' (.slice T1 Lt.1.length t1) (.slice T2 Lt.2.length t2) Lt.1 Lt.2) ∧ (b 7 = true → w6.heap.size ≤ g7) ∧ (b 7 = true → b 8 = false → MBlk w' g7 45 #[.slice none 0 0, .slice none 0 0]) ∧ (b 8 = true → MBlk w' g7 45 #[.slice T1 Lt.1.length t1, .slice T2 Lt.2.length t2]) ∧ (b 4 = true → (m4_ : Value) = .slice (some ⟨g4, 0, none⟩) 1 1) ∧ (b 5 = true → (m5_ : Value) = .slice A5 bv.length c5) ∧ (b 6 = true → (m6_ : Value) = .agg #[.slice T1 Lt.1.length t1, .slice T2 Lt.2.length t2]) ∧ (b 7 = true → (m7_ : Value) = .pointer (some ⟨g7, 0, none⟩))) HT_.out HW_.out (by kernel_rfl) (by kernel_rfl) ?_ ?_ ?_
    · exact ⟨.bool false, .bool false, gx, none, 0, none, 0, none, 0, 0, .bool false, .bool false, .bool false, .bool false, by simp only [putSel, Bool.false_eq_true, if_false], FB.out, fun h_ => absurd h_ (by decide), fun h_ => absurd h_ (by decide), fun h_ => absurd h_ (by decide), L4.out, B0.out, B2.out, N0.out, N2.out, fun h_ => absurd h_ (by decide), fun h_ => absurd h_ (by decide), fun h_ => absurd h_ (by decide), fun h_ => absurd h_ (by decide), fun h_ => absurd h_ (by decide), fun h_ => absurd h_ (by decide), fun h_ => absurd h_ (by decide), fun h_ => absurd h_ (by decide), fun h_ => absurd h_ (by decide)⟩
    · skip
      clear B0 B2 FB L4 N0 N2
      refine steps_cons ?_ ?_
      · rintro b a w' ⟨v0, v2, g4, A5, c5, T1, t1, T2, t2, g7, m4_, m5_, m6_, m7_, ha, Q_FB, Q_F0, Q_F2, Q_F4, Q_L4, Q_B0, Q_B2, Q_N0, Q_N2, Q_F5, Q_F6, Q_G7, Q_F7, Q_F8, Q_X4_, Q_X5_, Q_X6_, Q_X7_⟩ hb_ hon hoff
        refine ⟨_, rfl, fun K hK => ?_⟩
        replace ha := Aside0.mk ha
        have FB := Aside0.mk Q_FB
        have L4 := Aside0.mk Q_L4
        have B0 := Aside0.mk Q_B0
        have B2 := Aside0.mk Q_B2
        have N0 := Aside0.mk Q_N0
        have N2 := Aside0.mk Q_N2
        refine value_ (w1 := w'.alloc (.cells #[] 57)) (v := .slice (some ⟨w'.heap.size, 0, none⟩) 0 0) (by rfl) rfl ?_ ?_
        · go_simp
        refine hK.out _ _ ⟨(.slice (some ⟨w'.heap.size, 0, none⟩) 0 0), v2, g4, A5, c5, T1, t1, T2, t2, g7, m4_, m5_, m6_, m7_, (by rw [ha.out]; exact putSel_upk 0 hb_ rfl rfl rfl), below_alloc FB.out _, fun _ _ => R_empty w' _ FB.out.size, fun h0_ _ => absurd ((hoff 2 (by kernel_rfl)).symm.trans h0_) (by decide), fun h0_ h1_ => mblk_alloc (Q_F4 h0_ h1_) _, Nat.lt_of_lt_of_le L4.out (le_alloc _ _), own_alloc _ _ _ _, (fun k e_ => Nat.lt_of_lt_of_le (B2.out k e_) (le_alloc _ _)), ne_new L4.out _ _, Q_N2, fun h0_ _ => absurd ((hoff 5 (by kernel_rfl)).symm.trans h0_) (by decide), fun h0_ => absurd ((hoff 6 (by kernel_rfl)).symm.trans h0_) (by decide), Q_G7, fun h0_ h1_ => mblk_alloc (Q_F7 h0_ h1_) _, fun h0_ => absurd ((hoff 8 (by kernel_rfl)).symm.trans h0_) (by decide), Q_X4_, fun h0_ => absurd ((hoff 5 (by kernel_rfl)).symm.trans h0_) (by decide), fun h0_ => absurd ((hoff 6 (by kernel_rfl)).symm.trans h0_) (by decide), Q_X7_⟩
      refine steps_cons ?_ ?_
      · rintro b a w' ⟨v0, v2, g4, A5, c5, T1, t1, T2, t2, g7, m4_, m5_, m6_, m7_, ha, Q_FB, Q_F0, Q_F2, Q_F4, Q_L4, Q_B0, Q_B2, Q_N0, Q_N2, Q_F5, Q_F6, Q_G7, Q_F7, Q_F8, Q_X4_, Q_X5_, Q_X6_, Q_X7_⟩ hb_ hon hoff
        refine ⟨_, rfl, fun K hK => ?_⟩
        have e22 : a.tmps[22]? = some (v0) := by rw [ha]; exact putSel_on (e := (0, 22, v0)) 0 rfl rfl (hon 0 (by kernel_rfl)) rfl
        have e23 : a.tmps[23]? = some (.slice A1 av.length c1) := by rw [ha]; exact (putSel_off rfl).trans rfl
        replace ha := Aside0.mk ha
        have FB := Aside0.mk Q_FB
        have F0 := Aside0.mk (Q_F0 (hon 0 (by kernel_rfl)) hb_)
        have L4 := Aside0.mk Q_L4
        have B0 := Aside0.mk Q_B0
        have B2 := Aside0.mk Q_B2
        have N0 := Aside0.mk Q_N0
        have N2 := Aside0.mk Q_N2
        refine Kd.R_append_rows_step k57 (w0 := w6) w6.heap.size (by rfl) (.tmp 22) (.tmp 23) 58 57 (.agg #[.int .i64 0, .int .i64 0]) 16 (by rfl) Try.underlying58 infoW rfl (by decide) (by omega) v0 [] av A1 av.length c1 (fun _ => True) (fun _ => False) (by simp only [Act.eval, Array.getD_eq_getD_getElem?, e22, Option.getD_some]) (by simp only [Act.eval, Array.getD_eq_getD_getElem?, e23, Option.getD_some]) F0.out (rows_M (Kd.C_below HA6.out.2 FB.out)) (fun _ _ h => h) (fun _ h => h.elim) (fun _ _ => trivial) FB.out FB.out.size (by have := HAO.out.1; simp; omega) ?_
        intro v1 w1 hR hbb hg hat
        rw [List.nil_append] at hR
        refine hK.out _ _ ⟨v0, v1, g4, A5, c5, T1, t1, T2, t2, g7, m4_, m5_, m6_, m7_, (by rw [ha.out]; exact putSel_upk 1 hb_ rfl rfl rfl), hbb, fun _ h1_ => absurd ((up_self b 2).symm.trans h1_) (by decide), fun _ _ => hR, fun h0_ h1_ => (hg.block _ (mblk_lt (Q_F4 h0_ h1_)) N0.out).trans (Q_F4 h0_ h1_), Nat.lt_of_lt_of_le L4.out hg.size, (fun k e_ => Nat.lt_of_lt_of_le (B0.out k e_) hg.size), (fun k e_ => Kd.R_lt hR k e_), Q_N0, ne_after N0.out L4.out hat, fun h0_ _ => absurd ((hoff 5 (by kernel_rfl)).symm.trans h0_) (by decide), fun h0_ => absurd ((hoff 6 (by kernel_rfl)).symm.trans h0_) (by decide), Q_G7, fun h0_ h1_ => (hg.block _ (mblk_lt (Q_F7 h0_ h1_)) (Kd.R_ne F0.out (Q_F7 h0_ h1_) (by decide))).trans (Q_F7 h0_ h1_), fun h0_ => absurd ((hoff 8 (by kernel_rfl)).symm.trans h0_) (by decide), Q_X4_, fun h0_ => absurd ((hoff 5 (by kernel_rfl)).symm.trans h0_) (by decide), fun h0_ => absurd ((hoff 6 (by kernel_rfl)).symm.trans h0_) (by decide), Q_X7_⟩
      refine steps_cons ?_ ?_
      · rintro b a w' ⟨v0, v2, g4, A5, c5, T1, t1, T2, t2, g7, m4_, m5_, m6_, m7_, ha, Q_FB, Q_F0, Q_F2, Q_F4, Q_L4, Q_B0, Q_B2, Q_N0, Q_N2, Q_F5, Q_F6, Q_G7, Q_F7, Q_F8, Q_X4_, Q_X5_, Q_X6_, Q_X7_⟩ hb_ hon hoff
        refine ⟨_, rfl, fun K hK => ?_⟩
        have e7 : a.tmps[7]? = some (.pointer (some ⟨gx, 0, none⟩)) := by rw [ha]; exact (putSel_off rfl).trans rfl
        replace ha := Aside0.mk ha
        have FB := Aside0.mk Q_FB
        have L4 := Aside0.mk Q_L4
        have B0 := Aside0.mk Q_B0
        have B2 := Aside0.mk Q_B2
        have N0 := Aside0.mk Q_N0
        have N2 := Aside0.mk Q_N2
        have hx0 : w'.cell? ⟨gx, 0, none⟩ = some (.int .i64 x.f0) := (mblk_cell ((FB.out.block _ (mblk_lt HX6.out)).trans HX6.out) 0).trans rfl
        have hx1 : w'.cell? ⟨gx, 1, none⟩ = some (.int .i64 x.f1) := (mblk_cell ((FB.out.block _ (mblk_lt HX6.out)).trans HX6.out) 1).trans rfl
        refine value_ (w1 := w') (v := .agg #[.int .i64 x.f0, .int .i64 x.f1]) (by rfl) rfl ?_ ?_
        · go_simp
          (try simp only [i64_w])
          try rfl
        refine hK.out _ _ ⟨v0, v2, g4, A5, c5, T1, t1, T2, t2, g7, m4_, m5_, m6_, m7_, (by rw [ha.out]; exact putSel_upk 2 hb_ rfl rfl rfl), Q_FB, Q_F0, Q_F2, fun h0_ _ => absurd ((hoff 4 (by kernel_rfl)).symm.trans h0_) (by decide), Q_L4, Q_B0, Q_B2, Q_N0, Q_N2, fun h0_ _ => absurd ((hoff 5 (by kernel_rfl)).symm.trans h0_) (by decide), fun h0_ => absurd ((hoff 6 (by kernel_rfl)).symm.trans h0_) (by decide), Q_G7, Q_F7, fun h0_ => absurd ((hoff 8 (by kernel_rfl)).symm.trans h0_) (by decide), fun h0_ => absurd ((hoff 4 (by kernel_rfl)).symm.trans h0_) (by decide), fun h0_ => absurd ((hoff 5 (by kernel_rfl)).symm.trans h0_) (by decide), fun h0_ => absurd ((hoff 6 (by kernel_rfl)).symm.trans h0_) (by decide), Q_X7_⟩
      refine steps_cons ?_ ?_
      · rintro b a w' ⟨v0, v2, g4, A5, c5, T1, t1, T2, t2, g7, m4_, m5_, m6_, m7_, ha, Q_FB, Q_F0, Q_F2, Q_F4, Q_L4, Q_B0, Q_B2, Q_N0, Q_N2, Q_F5, Q_F6, Q_G7, Q_F7, Q_F8, Q_X4_, Q_X5_, Q_X6_, Q_X7_⟩ hb_ hon hoff
        refine ⟨_, rfl, fun K hK => ?_⟩
        have e25 : a.tmps[25]? = some (.agg #[.int .i64 x.f0, .int .i64 x.f1]) := by rw [ha]; exact putSel_on (e := (3, 25, .agg #[.int .i64 x.f0, .int .i64 x.f1])) 2 rfl rfl (hon 3 (by kernel_rfl)) rfl
        replace ha := Aside0.mk ha
        have FB := Aside0.mk Q_FB
        have L4 := Aside0.mk Q_L4
        have B0 := Aside0.mk Q_B0
        have B2 := Aside0.mk Q_B2
        have N0 := Aside0.mk Q_N0
        have N2 := Aside0.mk Q_N2
        refine value_ (w1 := w'.alloc (.cells #[.int .i64 x.f0, .int .i64 x.f1] 57)) (v := .slice (some ⟨w'.heap.size, 0, none⟩) 1 1) (by rfl) rfl ?_ ?_
        · go_simp
        refine hK.out _ _ ⟨v0, v2, w'.heap.size, A5, c5, T1, t1, T2, t2, g7, (.slice (some ⟨w'.heap.size, 0, none⟩) 1 1), m5_, m6_, m7_, (by rw [ha.out]; exact putSel_upk 3 hb_ rfl rfl rfl), below_alloc FB.out _, fun h0_ h1_ => Kd.R_alloc (Q_F0 h0_ h1_) _, fun h0_ h1_ => Kd.R_alloc (Q_F2 h0_ h1_) _, fun _ _ => mblk_new _ _ _, new_lt _ _, (fun k e_ => Nat.lt_of_lt_of_le (B0.out k e_) (le_alloc _ _)), (fun k e_ => Nat.lt_of_lt_of_le (B2.out k e_) (le_alloc _ _)), (fun e_ => Nat.lt_irrefl _ (B0.out _ e_.symm)), (fun e_ => Nat.lt_irrefl _ (B2.out _ e_.symm)), fun h0_ _ => absurd ((hoff 5 (by kernel_rfl)).symm.trans h0_) (by decide), fun h0_ => absurd ((hoff 6 (by kernel_rfl)).symm.trans h0_) (by decide), Q_G7, fun h0_ h1_ => mblk_alloc (Q_F7 h0_ h1_) _, fun h0_ => absurd ((hoff 8 (by kernel_rfl)).symm.trans h0_) (by decide), fun _ => rfl, fun h0_ => absurd ((hoff 5 (by kernel_rfl)).symm.trans h0_) (by decide), fun h0_ => absurd ((hoff 6 (by kernel_rfl)).symm.trans h0_) (by decide), Q_X7_⟩
      refine steps_cons ?_ ?_
      · rintro b a w' ⟨v0, v2, g4, A5, c5, T1, t1, T2, t2, g7, m4_, m5_, m6_, m7_, ha, Q_FB, Q_F0, Q_F2, Q_F4, Q_L4, Q_B0, Q_B2, Q_N0, Q_N2, Q_F5, Q_F6, Q_G7, Q_F7, Q_F8, Q_X4_, Q_X5_, Q_X6_, Q_X7_⟩ hb_ hon hoff
        refine ⟨_, rfl, fun K hK => ?_⟩
        have e24 : a.tmps[24]? = some (v2) := by rw [ha]; exact putSel_on (e := (2, 24, v2)) 1 rfl rfl (hon 2 (by kernel_rfl)) rfl
        have e26 : a.tmps[26]? = some (m4_) := by rw [ha]; exact putSel_on (e := (4, 26, m4_)) 3 rfl rfl (hon 4 (by kernel_rfl)) rfl
        rw [Q_X4_ (hon 4 (by kernel_rfl))] at e26
        replace ha := Aside0.mk ha
        have FB := Aside0.mk Q_FB
        have F2 := Aside0.mk (Q_F2 (hon 2 (by kernel_rfl)) hb_)
        have F4 := Aside0.mk (Q_F4 (hon 4 (by kernel_rfl)) hb_)
        have L4 := Aside0.mk Q_L4
        have B0 := Aside0.mk Q_B0
        have B2 := Aside0.mk Q_B2
        have N0 := Aside0.mk Q_N0
        have N2 := Aside0.mk Q_N2
        refine Kd.R_append_rows_step k57 (w0 := w6) w6.heap.size (by rfl) (.tmp 24) (.tmp 26) 58 57 (.agg #[.int .i64 0, .int .i64 0]) 16 (by rfl) Try.underlying58 infoW rfl (by decide) (by omega) v2 av [x] (some ⟨g4, 0, none⟩) 1 1 (fun _ => True) (fun _ => False) (by simp only [Act.eval, Array.getD_eq_getD_getElem?, e24, Option.getD_some]) (by simp only [Act.eval, Array.getD_eq_getD_getElem?, e26, Option.getD_some]) F2.out (rows_M (C_lit x F4.out)) (fun _ _ h => h) (fun _ h => h.elim) (fun _ _ => trivial) FB.out FB.out.size (by have := HAO.out.1; simp; omega) ?_
        intro v1 w1 hR hbb hg hat
        rw [← HJN.out] at hR
        obtain ⟨A5_, c5_, he5⟩ := Kd.R_slice hR
        subst he5
        refine hK.out _ _ ⟨v0, v2, g4, A5_, c5_, T1, t1, T2, t2, g7, m4_, (.slice A5_ bv.length c5_), m6_, m7_, (by rw [ha.out]; exact putSel_upk 4 hb_ rfl rfl rfl), hbb, fun _ h1_ => absurd ((hon 2 (by kernel_rfl)).symm.trans h1_) (by decide), fun _ h1_ => absurd ((up_self b 5).symm.trans h1_) (by decide), fun _ h1_ => absurd ((up_self b 5).symm.trans h1_) (by decide), Nat.lt_of_lt_of_le L4.out hg.size, (fun k e_ => Nat.lt_of_lt_of_le (B0.out k e_) hg.size), (fun k e_ => Nat.lt_of_lt_of_le (B2.out k e_) hg.size), Q_N0, Q_N2, fun _ _ => hR, fun h0_ => absurd ((hoff 6 (by kernel_rfl)).symm.trans h0_) (by decide), Q_G7, fun h0_ h1_ => (hg.block _ (mblk_lt (Q_F7 h0_ h1_)) (Kd.R_ne F2.out (Q_F7 h0_ h1_) (by decide))).trans (Q_F7 h0_ h1_), fun h0_ => absurd ((hoff 8 (by kernel_rfl)).symm.trans h0_) (by decide), Q_X4_, fun _ => rfl, fun h0_ => absurd ((hoff 6 (by kernel_rfl)).symm.trans h0_) (by decide), Q_X7_⟩
      refine steps_cons ?_ ?_
      · rintro b a w' ⟨v0, v2, g4, A5, c5, T1, t1, T2, t2, g7, m4_, m5_, m6_, m7_, ha, Q_FB, Q_F0, Q_F2, Q_F4, Q_L4, Q_B0, Q_B2, Q_N0, Q_N2, Q_F5, Q_F6, Q_G7, Q_F7, Q_F8, Q_X4_, Q_X5_, Q_X6_, Q_X7_⟩ hb_ hon hoff
        refine ⟨_, rfl, fun K hK => ?_⟩
        have e27 : a.tmps[27]? = some (m5_) := by rw [ha]; exact putSel_on (e := (5, 27, m5_)) 4 rfl rfl (hon 5 (by kernel_rfl)) rfl
        rw [Q_X5_ (hon 5 (by kernel_rfl))] at e27
        replace ha := Aside0.mk ha
        have FB := Aside0.mk Q_FB
        have L4 := Aside0.mk Q_L4
        have B0 := Aside0.mk Q_B0
        have B2 := Aside0.mk Q_B2
        have N0 := Aside0.mk Q_N0
        have N2 := Aside0.mk Q_N2
        have F5 := Aside0.mk (Q_F5 (hon 5 (by kernel_rfl)) hb_)
        refine goes_ Try.func42 (by kernel_rfl) rfl #[.slice A5 bv.length c5] (by rfl) rfl rfl (by simp only [List.map_toArray, List.map_cons, List.map_nil, Act.eval, Array.getD_eq_getD_getElem?, e27, Option.getD_some]) ?_
        refine (sumw_rv A5 c5 bv _ (Kd.R_reads' F5.out).2.1 (Kd.R_reads' F5.out).2.2 HBO.out.1 HBO.out.2).mono ?_
        rw [HTB.out, ← HLt.out]
        rintro e1_ w1 ⟨u, u', rfl, h7, hb⟩
        obtain ⟨U1, u1, U2, u2, rfl, rfl⟩ := h7.shape
        refine ⟨_, rfl, ?_⟩
        refine hK.out _ _ ⟨v0, v2, g4, A5, c5, U1, u1, U2, u2, g7, m4_, m5_, (.agg #[.slice U1 Lt.1.length u1, .slice U2 Lt.2.length u2]), m7_, (by rw [ha.out]; exact putSel_upk 5 hb_ rfl rfl rfl), below_step FB.out hb, fun _ h1_ => absurd ((hon 2 (by kernel_rfl)).symm.trans h1_) (by decide), fun _ h1_ => absurd ((hon 5 (by kernel_rfl)).symm.trans h1_) (by decide), fun _ h1_ => absurd ((hon 5 (by kernel_rfl)).symm.trans h1_) (by decide), Nat.lt_of_lt_of_le L4.out hb.size, (fun k e_ => Nat.lt_of_lt_of_le (B0.out k e_) hb.size), (fun k e_ => Nat.lt_of_lt_of_le (B2.out k e_) hb.size), Q_N0, Q_N2, fun _ h1_ => absurd ((up_self b 6).symm.trans h1_) (by decide), fun _ => h7, Q_G7, fun h0_ h1_ => (hb.block _ (mblk_lt (Q_F7 h0_ h1_))).trans (Q_F7 h0_ h1_), fun h0_ => absurd ((hoff 8 (by kernel_rfl)).symm.trans h0_) (by decide), Q_X4_, Q_X5_, fun _ => rfl, Q_X7_⟩
      refine steps_cons ?_ ?_
      · rintro b a w' ⟨v0, v2, g4, A5, c5, T1, t1, T2, t2, g7, m4_, m5_, m6_, m7_, ha, Q_FB, Q_F0, Q_F2, Q_F4, Q_L4, Q_B0, Q_B2, Q_N0, Q_N2, Q_F5, Q_F6, Q_G7, Q_F7, Q_F8, Q_X4_, Q_X5_, Q_X6_, Q_X7_⟩ hb_ hon hoff
        refine ⟨_, rfl, fun K hK => ?_⟩
        replace ha := Aside0.mk ha
        have FB := Aside0.mk Q_FB
        have L4 := Aside0.mk Q_L4
        have B0 := Aside0.mk Q_B0
        have B2 := Aside0.mk Q_B2
        have N0 := Aside0.mk Q_N0
        have N2 := Aside0.mk Q_N2
        refine value_ (w1 := w'.alloc (.cells #[.slice none 0 0, .slice none 0 0] 45)) (v := .pointer (some ⟨w'.heap.size, 0, none⟩)) (by rfl) rfl ?_ ?_
        · go_simp
        refine hK.out _ _ ⟨v0, v2, g4, A5, c5, T1, t1, T2, t2, w'.heap.size, m4_, m5_, m6_, (.pointer (some ⟨w'.heap.size, 0, none⟩)), (by rw [ha.out]; exact putSel_upk 6 hb_ rfl rfl rfl), below_alloc FB.out _, fun h0_ h1_ => Kd.R_alloc (Q_F0 h0_ h1_) _, fun h0_ h1_ => Kd.R_alloc (Q_F2 h0_ h1_) _, fun h0_ h1_ => mblk_alloc (Q_F4 h0_ h1_) _, Nat.lt_of_lt_of_le L4.out (le_alloc _ _), (fun k e_ => Nat.lt_of_lt_of_le (B0.out k e_) (le_alloc _ _)), (fun k e_ => Nat.lt_of_lt_of_le (B2.out k e_) (le_alloc _ _)), Q_N0, Q_N2, fun h0_ h1_ => Kd.R_alloc (Q_F5 h0_ h1_) _, fun h0_ => (Q_F6 h0_).below (below_alloc (Below.refl _ _) _), fun _ => FB.out.size, fun _ _ => mblk_new _ _ _, fun h0_ => absurd ((hoff 8 (by kernel_rfl)).symm.trans h0_) (by decide), Q_X4_, Q_X5_, Q_X6_, fun _ => rfl⟩
      refine steps_cons ?_ ?_
      · rintro b a w' ⟨v0, v2, g4, A5, c5, T1, t1, T2, t2, g7, m4_, m5_, m6_, m7_, ha, Q_FB, Q_F0, Q_F2, Q_F4, Q_L4, Q_B0, Q_B2, Q_N0, Q_N2, Q_F5, Q_F6, Q_G7, Q_F7, Q_F8, Q_X4_, Q_X5_, Q_X6_, Q_X7_⟩ hb_ hon hoff
        refine ⟨_, rfl, fun K hK => ?_⟩
        have e9 : a.tmps[9]? = some (m7_) := by rw [ha]; exact putSel_on (e := (7, 9, m7_)) 6 rfl rfl (hon 7 (by kernel_rfl)) rfl
        rw [Q_X7_ (hon 7 (by kernel_rfl))] at e9
        have e28 : a.tmps[28]? = some (m6_) := by rw [ha]; exact putSel_on (e := (6, 28, m6_)) 5 rfl rfl (hon 6 (by kernel_rfl)) rfl
        rw [Q_X6_ (hon 6 (by kernel_rfl))] at e28
        replace ha := Aside0.mk ha
        have FB := Aside0.mk Q_FB
        have L4 := Aside0.mk Q_L4
        have B0 := Aside0.mk Q_B0
        have B2 := Aside0.mk Q_B2
        have N0 := Aside0.mk Q_N0
        have N2 := Aside0.mk Q_N2
        have F6 := Aside0.mk (Q_F6 (hon 6 (by kernel_rfl)))
        have G7 := Aside0.mk (Q_G7 (hon 7 (by kernel_rfl)))
        have F7 := Aside0.mk (Q_F7 (hon 7 (by kernel_rfl)) hb_)
        have z0 := (mblk_cell F7.out 0).trans rfl
        have z1 := (mblk_cell F7.out 1).trans rfl
        have r0 := mblk_frozen F7.out 0
        have r1 := mblk_frozen F7.out 1
        have HQ := Aside0.mk (box_put1 F7.out F6.out FB.out G7.out)
        refine skip_ (w1 := (w'.setCell ⟨g7, 0, none⟩ (.slice T1 Lt.1.length t1)).setCell ⟨g7, 1, none⟩ (.slice T2 Lt.2.length t2)) (by rfl) rfl ?_ ?_
        · go_simp
        refine hK.out _ _ ⟨v0, v2, g4, A5, c5, T1, t1, T2, t2, g7, m4_, m5_, m6_, m7_, (by rw [ha.out]; exact putSel_none (v := undef) rfl), HQ.out.2.2, fun _ h1_ => absurd ((hon 2 (by kernel_rfl)).symm.trans h1_) (by decide), fun _ h1_ => absurd ((hon 5 (by kernel_rfl)).symm.trans h1_) (by decide), fun _ h1_ => absurd ((hon 5 (by kernel_rfl)).symm.trans h1_) (by decide), Nat.lt_of_lt_of_le L4.out (by simp [World.setCell]), (fun k e_ => Nat.lt_of_lt_of_le (B0.out k e_) (by simp [World.setCell])), (fun k e_ => Nat.lt_of_lt_of_le (B2.out k e_) (by simp [World.setCell])), Q_N0, Q_N2, fun _ h1_ => absurd ((hon 6 (by kernel_rfl)).symm.trans h1_) (by decide), fun _ => HQ.out.2.1, fun _ => G7.out, fun _ h1_ => absurd ((up_self b 8).symm.trans h1_) (by decide), fun _ => HQ.out.1, Q_X4_, Q_X5_, Q_X6_, Q_X7_⟩
      exact steps_nil
    rintro b a wz hall ⟨v0, v2, g4, A5, c5, T1, t1, T2, t2, g7, m4_, m5_, m6_, m7_, ha, Q_FB, Q_F0, Q_F2, Q_F4, Q_L4, Q_B0, Q_B2, Q_N0, Q_N2, Q_F5, Q_F6, Q_G7, Q_F7, Q_F8, Q_X4_, Q_X5_, Q_X6_, Q_X7_⟩
    clear B0 B2 FB L4 N0 N2
    have hb0_ := hall 0 (by kernel_rfl)
    have hb2_ := hall 2 (by kernel_rfl)
    have hb3_ := hall 3 (by kernel_rfl)
    have hb4_ := hall 4 (by kernel_rfl)
    have hb5_ := hall 5 (by kernel_rfl)
    have hb6_ := hall 6 (by kernel_rfl)
    have hb7_ := hall 7 (by kernel_rfl)
    have hb8_ := hall 8 (by kernel_rfl)
    subst ha
    obtain rfl := Q_X4_ hb4_
    obtain rfl := Q_X5_ hb5_
    obtain rfl := Q_X6_ hb6_
    obtain rfl := Q_X7_ hb7_
    simp only [putSel, hb0_, hb2_, hb3_, hb4_, hb5_, hb6_, hb7_, hb8_, if_true, Act.put, List.setIfInBounds_toArray, List.set_cons_zero, List.set_cons_succ]
    have FB := Aside0.mk Q_FB
    clear Q_FB
    clear Q_F0
    clear Q_F2
    clear Q_F4
    have L4 := Aside0.mk Q_L4
    clear Q_L4
    have B0 := Aside0.mk Q_B0
    clear Q_B0
    have B2 := Aside0.mk Q_B2
    clear Q_B2
    have N0 := Aside0.mk Q_N0
    clear Q_N0
    have N2 := Aside0.mk Q_N2
    clear Q_N2
    clear Q_F5
    have F6 := Aside0.mk (Q_F6 hb6_)
    clear Q_F6
    have G7 := Aside0.mk (Q_G7 hb7_)
    clear Q_G7
    clear Q_F7
    have F8 := Aside0.mk (Q_F8 hb8_)
    clear Q_F8
    clear hall hb0_ hb2_ hb3_ hb4_ hb5_ hb6_ hb7_ hb8_
    go_wp2_with fail
    go_meet
    case rel =>
      exact ⟨g7, T1, T2, t1, t2, rfl, F8, F6, FB⟩
  case rest =>
    obtain ⟨gt, T1, T2, t1, t2, rfl, HG9, HT9, HB9⟩ := hcut
    have HX9 := Aside0.mk (show MBlk wc gx 57 _ from (HB9.out.block _ (mblk_lt HX6.out)).trans HX6.out)
    have HC9 := Aside0.mk (show MBlk wc gs 45 _ from (HB9.out.block _ (mblk_lt HG6.out)).trans HG6.out)
    have HS9 := Aside0.mk (HS6.out.below HB9.out)
    have HD9 := Aside0.mk (below_step HB6.out HB9.out)
    clear HX6 HA6 HB6 HG6 HS6 HB9 x0 x1 lgx HSS HTT HLs HLt
    have s0 : wc.cell? ⟨gs, 0, none⟩ = some (.slice S1 Ls.1.length e1) := (mblk_cell HC9.out 0).trans rfl
    have s1 : wc.cell? ⟨gs, 1, none⟩ = some (.slice S2 Ls.2.length e2) := (mblk_cell HC9.out 1).trans rfl
    have q0 : wc.cell? ⟨gt, 0, none⟩ = some (.slice T1 Lt.1.length t1) := (mblk_cell HG9.out 0).trans rfl
    have q1 : wc.cell? ⟨gt, 1, none⟩ = some (.slice T2 Lt.2.length t2) := (mblk_cell HG9.out 1).trans rfl
    go_upto_region 7 with (go_at_call 47; refine (sub_rv HT9.out HS9.out N1.out).mono ?_; rintro e w10 ⟨u, u', rfl, h, hb⟩; obtain ⟨D1, e3, D2, e4, rfl, rfl⟩ := h.shape; have HD10 := Aside0.mk h; have HB10 := Aside0.mk hb; clear h hb N1)
    obtain ⟨gd, hgd⟩ : ∃ gd, gd = w10.heap.size := ⟨_, rfl⟩
    obtain ⟨w11, hw11⟩ : ∃ w11, w11 = w10.alloc (.cells #[.slice D1 Ld.1.length e3, .slice D2 Ld.2.length e4] 45) := ⟨_, rfl⟩
    have hb11 : Below w10.heap.size w10 w11 := by rw [hw11]; exact below_alloc (Below.refl _ _) _
    have hc11 := below_step HB10.out hb11
    have HGd := Aside0.mk (show MBlk w11 gd 45 #[.slice D1 Ld.1.length e3, .slice D2 Ld.2.length e4] by rw [hw11, hgd]; exact mblk_new _ _ _)
    have HGx := Aside0.mk (show MBlk w11 gx 57 #[.int .i64 x.f0, .int .i64 x.f1] from (hc11.block _ (mblk_lt HX9.out)).trans HX9.out)
    have HGs := Aside0.mk (show MBlk w11 gs 45 #[.slice S1 Ls.1.length e1, .slice S2 Ls.2.length e2] from (hc11.block _ (mblk_lt HC9.out)).trans HC9.out)
    have HGt := Aside0.mk (show MBlk w11 gt 45 #[.slice T1 Lt.1.length t1, .slice T2 Lt.2.length t2] from (hc11.block _ (mblk_lt HG9.out)).trans HG9.out)
    have HDd := Aside0.mk (HD10.out.below hb11)
    have HSs := Aside0.mk (HS9.out.below hc11)
    have HTt := Aside0.mk (HT9.out.below hc11)
    have HB11 := Aside0.mk (below_step HD9.out hc11)
    rw [← hw11, ← hgd]
    clear hw11 hgd hb11 hc11 HX9 HC9 HS9 HD9 HG9 HT9 HD10 HB10 s0 s1 q0 q1
    have d0 : w11.cell? ⟨gd, 0, none⟩ = some (.slice D1 Ld.1.length e3) := (mblk_cell HGd.out 0).trans rfl
    have d1 : w11.cell? ⟨gd, 1, none⟩ = some (.slice D2 Ld.2.length e4) := (mblk_cell HGd.out 1).trans rfl
    have x0 : w11.cell? ⟨gx, 0, none⟩ = some (.int .i64 x.f0) := (mblk_cell HGx.out 0).trans rfl
    have x1 : w11.cell? ⟨gx, 1, none⟩ = some (.int .i64 x.f1) := (mblk_cell HGx.out 1).trans rfl
    have s0 : w11.cell? ⟨gs, 0, none⟩ = some (.slice S1 Ls.1.length e1) := (mblk_cell HGs.out 0).trans rfl
    have s1 : w11.cell? ⟨gs, 1, none⟩ = some (.slice S2 Ls.2.length e2) := (mblk_cell HGs.out 1).trans rfl
    have q0 : w11.cell? ⟨gt, 0, none⟩ = some (.slice T1 Lt.1.length t1) := (mblk_cell HGt.out 0).trans rfl
    have q1 : w11.cell? ⟨gt, 1, none⟩ = some (.slice T2 Lt.2.length t2) := (mblk_cell HGt.out 1).trans rfl
    obtain ⟨B, hB⟩ : ∃ B, B = decide (0 < x.f0) := ⟨_, rfl⟩
    have b1 : decide (0 < C) = B := by rw [hB]; exact N10.out
    have b2 : decide (0 < x.f0) = B := hB.symm
    have b3 : (B == B) = true := beq_self_eq_true _
    clear hB N10
    go_region_held3 (fun w' => w'.cell? ⟨gd, 0, none⟩ = some (.slice D1 Ld.1.length e3) ∧ w'.cell? ⟨gd, 1, none⟩ = some (.slice D2 Ld.2.length e4) ∧ w'.cell? ⟨gx, 0, none⟩ = some (.int .i64 x.f0) ∧ w'.cell? ⟨gx, 1, none⟩ = some (.int .i64 x.f1) ∧ w'.cell? ⟨gs, 0, none⟩ = some (.slice S1 Ls.1.length e1) ∧ w'.cell? ⟨gs, 1, none⟩ = some (.slice S2 Ls.2.length e2) ∧ w'.cell? ⟨gt, 0, none⟩ = some (.slice T1 Lt.1.length t1) ∧ w'.cell? ⟨gt, 1, none⟩ = some (.slice T2 Lt.2.length t2))
      (first | (exact ⟨d0, d1, x0, x1, s0, s1, q0, q1⟩) | go_keep)
      (first
        | (go_at_call 40; refine (of_rv N2.out).mono ?_; rintro e w12 ⟨u, u', rfl, h, hb⟩; have hbb : Below w11.heap.size w11 w12 := below_step (below_drew (Below.refl _ _)) hb; have HB12 := Aside0.mk hbb; obtain ⟨O1, o1, O2, o2, rfl, rfl⟩ := h.shape; have HO12 := Aside0.mk h; clear h; have d0 : w12.cell? ⟨gd, 0, none⟩ = some (.slice D1 Ld.1.length e3) := (mblk_cell ((hbb.block _ (mblk_lt HGd.out)).trans HGd.out) 0).trans rfl; have d1 : w12.cell? ⟨gd, 1, none⟩ = some (.slice D2 Ld.2.length e4) := (mblk_cell ((hbb.block _ (mblk_lt HGd.out)).trans HGd.out) 1).trans rfl; have x0 : w12.cell? ⟨gx, 0, none⟩ = some (.int .i64 x.f0) := (mblk_cell ((hbb.block _ (mblk_lt HGx.out)).trans HGx.out) 0).trans rfl; have x1 : w12.cell? ⟨gx, 1, none⟩ = some (.int .i64 x.f1) := (mblk_cell ((hbb.block _ (mblk_lt HGx.out)).trans HGx.out) 1).trans rfl; have s0 : w12.cell? ⟨gs, 0, none⟩ = some (.slice S1 Ls.1.length e1) := (mblk_cell ((hbb.block _ (mblk_lt HGs.out)).trans HGs.out) 0).trans rfl; have s1 : w12.cell? ⟨gs, 1, none⟩ = some (.slice S2 Ls.2.length e2) := (mblk_cell ((hbb.block _ (mblk_lt HGs.out)).trans HGs.out) 1).trans rfl; have q0 : w12.cell? ⟨gt, 0, none⟩ = some (.slice T1 Lt.1.length t1) := (mblk_cell ((hbb.block _ (mblk_lt HGt.out)).trans HGt.out) 0).trans rfl; have q1 : w12.cell? ⟨gt, 1, none⟩ = some (.slice T2 Lt.2.length t2) := (mblk_cell ((hbb.block _ (mblk_lt HGt.out)).trans HGt.out) 1).trans rfl; clear hb hbb N2)
        | (go_at_call 44; refine (cmp_rv (HDd.out.below HB12.out) HO12.out N3.out).mono ?_; rintro e w13 ⟨rfl, hb⟩; have hbb : Below w11.heap.size w11 w13 := below_step HB12.out hb; have HB13 := Aside0.mk hbb; have d0 : w13.cell? ⟨gd, 0, none⟩ = some (.slice D1 Ld.1.length e3) := (mblk_cell ((hbb.block _ (mblk_lt HGd.out)).trans HGd.out) 0).trans rfl; have d1 : w13.cell? ⟨gd, 1, none⟩ = some (.slice D2 Ld.2.length e4) := (mblk_cell ((hbb.block _ (mblk_lt HGd.out)).trans HGd.out) 1).trans rfl; have x0 : w13.cell? ⟨gx, 0, none⟩ = some (.int .i64 x.f0) := (mblk_cell ((hbb.block _ (mblk_lt HGx.out)).trans HGx.out) 0).trans rfl; have x1 : w13.cell? ⟨gx, 1, none⟩ = some (.int .i64 x.f1) := (mblk_cell ((hbb.block _ (mblk_lt HGx.out)).trans HGx.out) 1).trans rfl; have s0 : w13.cell? ⟨gs, 0, none⟩ = some (.slice S1 Ls.1.length e1) := (mblk_cell ((hbb.block _ (mblk_lt HGs.out)).trans HGs.out) 0).trans rfl; have s1 : w13.cell? ⟨gs, 1, none⟩ = some (.slice S2 Ls.2.length e2) := (mblk_cell ((hbb.block _ (mblk_lt HGs.out)).trans HGs.out) 1).trans rfl; have q0 : w13.cell? ⟨gt, 0, none⟩ = some (.slice T1 Lt.1.length t1) := (mblk_cell ((hbb.block _ (mblk_lt HGt.out)).trans HGt.out) 0).trans rfl; have q1 : w13.cell? ⟨gt, 1, none⟩ = some (.slice T2 Lt.2.length t2) := (mblk_cell ((hbb.block _ (mblk_lt HGt.out)).trans HGt.out) 1).trans rfl; clear hb hbb N3 HO12 HB12)
        | (go_at_call 43; refine (whole_rv N4.out).mono ?_; rintro e w14 ⟨u, u', rfl, h, hb⟩; have hbb : Below w11.heap.size w11 w14 := below_step HB13.out hb; have HB14 := Aside0.mk hbb; obtain ⟨W1, w1_, W2, w2_, rfl, rfl⟩ := h.shape; have HW14 := Aside0.mk h; clear h; have d0 : w14.cell? ⟨gd, 0, none⟩ = some (.slice D1 Ld.1.length e3) := (mblk_cell ((hbb.block _ (mblk_lt HGd.out)).trans HGd.out) 0).trans rfl; have d1 : w14.cell? ⟨gd, 1, none⟩ = some (.slice D2 Ld.2.length e4) := (mblk_cell ((hbb.block _ (mblk_lt HGd.out)).trans HGd.out) 1).trans rfl; have x0 : w14.cell? ⟨gx, 0, none⟩ = some (.int .i64 x.f0) := (mblk_cell ((hbb.block _ (mblk_lt HGx.out)).trans HGx.out) 0).trans rfl; have x1 : w14.cell? ⟨gx, 1, none⟩ = some (.int .i64 x.f1) := (mblk_cell ((hbb.block _ (mblk_lt HGx.out)).trans HGx.out) 1).trans rfl; have s0 : w14.cell? ⟨gs, 0, none⟩ = some (.slice S1 Ls.1.length e1) := (mblk_cell ((hbb.block _ (mblk_lt HGs.out)).trans HGs.out) 0).trans rfl; have s1 : w14.cell? ⟨gs, 1, none⟩ = some (.slice S2 Ls.2.length e2) := (mblk_cell ((hbb.block _ (mblk_lt HGs.out)).trans HGs.out) 1).trans rfl; have q0 : w14.cell? ⟨gt, 0, none⟩ = some (.slice T1 Lt.1.length t1) := (mblk_cell ((hbb.block _ (mblk_lt HGt.out)).trans HGt.out) 0).trans rfl; have q1 : w14.cell? ⟨gt, 1, none⟩ = some (.slice T2 Lt.2.length t2) := (mblk_cell ((hbb.block _ (mblk_lt HGt.out)).trans HGt.out) 1).trans rfl; clear hb hbb N4 HB13)
        | (go_at_call 45; refine (add_rv (HSs.out.below HB14.out) HW14.out N5.out).mono ?_; rintro e w15 ⟨u, u', rfl, h, hb⟩; have hbb : Below w11.heap.size w11 w15 := below_step HB14.out hb; have HB15 := Aside0.mk hbb; obtain ⟨P1, p1, P2, p2, rfl, rfl⟩ := h.shape; have HP15 := Aside0.mk h; clear h; have d0 : w15.cell? ⟨gd, 0, none⟩ = some (.slice D1 Ld.1.length e3) := (mblk_cell ((hbb.block _ (mblk_lt HGd.out)).trans HGd.out) 0).trans rfl; have d1 : w15.cell? ⟨gd, 1, none⟩ = some (.slice D2 Ld.2.length e4) := (mblk_cell ((hbb.block _ (mblk_lt HGd.out)).trans HGd.out) 1).trans rfl; have x0 : w15.cell? ⟨gx, 0, none⟩ = some (.int .i64 x.f0) := (mblk_cell ((hbb.block _ (mblk_lt HGx.out)).trans HGx.out) 0).trans rfl; have x1 : w15.cell? ⟨gx, 1, none⟩ = some (.int .i64 x.f1) := (mblk_cell ((hbb.block _ (mblk_lt HGx.out)).trans HGx.out) 1).trans rfl; have s0 : w15.cell? ⟨gs, 0, none⟩ = some (.slice S1 Ls.1.length e1) := (mblk_cell ((hbb.block _ (mblk_lt HGs.out)).trans HGs.out) 0).trans rfl; have s1 : w15.cell? ⟨gs, 1, none⟩ = some (.slice S2 Ls.2.length e2) := (mblk_cell ((hbb.block _ (mblk_lt HGs.out)).trans HGs.out) 1).trans rfl; have q0 : w15.cell? ⟨gt, 0, none⟩ = some (.slice T1 Lt.1.length t1) := (mblk_cell ((hbb.block _ (mblk_lt HGt.out)).trans HGt.out) 0).trans rfl; have q1 : w15.cell? ⟨gt, 1, none⟩ = some (.slice T2 Lt.2.length t2) := (mblk_cell ((hbb.block _ (mblk_lt HGt.out)).trans HGt.out) 1).trans rfl; clear hb hbb N5 HB14 HW14)
        | (go_at_call 35; refine (same_rv HP15.out (HSs.out.below HB15.out) N6.out).mono ?_; rintro e w16 ⟨rfl, hb⟩; have hbb : Below w11.heap.size w11 w16 := below_step HB15.out hb; have HB16 := Aside0.mk hbb; have d0 : w16.cell? ⟨gd, 0, none⟩ = some (.slice D1 Ld.1.length e3) := (mblk_cell ((hbb.block _ (mblk_lt HGd.out)).trans HGd.out) 0).trans rfl; have d1 : w16.cell? ⟨gd, 1, none⟩ = some (.slice D2 Ld.2.length e4) := (mblk_cell ((hbb.block _ (mblk_lt HGd.out)).trans HGd.out) 1).trans rfl; have x0 : w16.cell? ⟨gx, 0, none⟩ = some (.int .i64 x.f0) := (mblk_cell ((hbb.block _ (mblk_lt HGx.out)).trans HGx.out) 0).trans rfl; have x1 : w16.cell? ⟨gx, 1, none⟩ = some (.int .i64 x.f1) := (mblk_cell ((hbb.block _ (mblk_lt HGx.out)).trans HGx.out) 1).trans rfl; have s0 : w16.cell? ⟨gs, 0, none⟩ = some (.slice S1 Ls.1.length e1) := (mblk_cell ((hbb.block _ (mblk_lt HGs.out)).trans HGs.out) 0).trans rfl; have s1 : w16.cell? ⟨gs, 1, none⟩ = some (.slice S2 Ls.2.length e2) := (mblk_cell ((hbb.block _ (mblk_lt HGs.out)).trans HGs.out) 1).trans rfl; have q0 : w16.cell? ⟨gt, 0, none⟩ = some (.slice T1 Lt.1.length t1) := (mblk_cell ((hbb.block _ (mblk_lt HGt.out)).trans HGt.out) 0).trans rfl; have q1 : w16.cell? ⟨gt, 1, none⟩ = some (.slice T2 Lt.2.length t2) := (mblk_cell ((hbb.block _ (mblk_lt HGt.out)).trans HGt.out) 1).trans rfl; clear hb hbb N6 HB15 HP15)
        | (go_at_call 45; refine (add_rv (HSs.out.below HB16.out) (HDd.out.below HB16.out) N7.out).mono ?_; rintro e w17 ⟨u, u', rfl, h, hb⟩; have hbb : Below w11.heap.size w11 w17 := below_step HB16.out hb; have HB17 := Aside0.mk hbb; obtain ⟨R1, r1, R2, r2, rfl, rfl⟩ := h.shape; have HR17 := Aside0.mk h; clear h; have d0 : w17.cell? ⟨gd, 0, none⟩ = some (.slice D1 Ld.1.length e3) := (mblk_cell ((hbb.block _ (mblk_lt HGd.out)).trans HGd.out) 0).trans rfl; have d1 : w17.cell? ⟨gd, 1, none⟩ = some (.slice D2 Ld.2.length e4) := (mblk_cell ((hbb.block _ (mblk_lt HGd.out)).trans HGd.out) 1).trans rfl; have x0 : w17.cell? ⟨gx, 0, none⟩ = some (.int .i64 x.f0) := (mblk_cell ((hbb.block _ (mblk_lt HGx.out)).trans HGx.out) 0).trans rfl; have x1 : w17.cell? ⟨gx, 1, none⟩ = some (.int .i64 x.f1) := (mblk_cell ((hbb.block _ (mblk_lt HGx.out)).trans HGx.out) 1).trans rfl; have s0 : w17.cell? ⟨gs, 0, none⟩ = some (.slice S1 Ls.1.length e1) := (mblk_cell ((hbb.block _ (mblk_lt HGs.out)).trans HGs.out) 0).trans rfl; have s1 : w17.cell? ⟨gs, 1, none⟩ = some (.slice S2 Ls.2.length e2) := (mblk_cell ((hbb.block _ (mblk_lt HGs.out)).trans HGs.out) 1).trans rfl; have q0 : w17.cell? ⟨gt, 0, none⟩ = some (.slice T1 Lt.1.length t1) := (mblk_cell ((hbb.block _ (mblk_lt HGt.out)).trans HGt.out) 0).trans rfl; have q1 : w17.cell? ⟨gt, 1, none⟩ = some (.slice T2 Lt.2.length t2) := (mblk_cell ((hbb.block _ (mblk_lt HGt.out)).trans HGt.out) 1).trans rfl; clear hb hbb N7 HB16)
        | (go_at_call 35; refine (same_rv HR17.out (HTt.out.below HB17.out) N8.out).mono ?_; rintro e w18 ⟨rfl, hb⟩; have hbb : Below w11.heap.size w11 w18 := below_step HB17.out hb; have HB18 := Aside0.mk hbb; have d0 : w18.cell? ⟨gd, 0, none⟩ = some (.slice D1 Ld.1.length e3) := (mblk_cell ((hbb.block _ (mblk_lt HGd.out)).trans HGd.out) 0).trans rfl; have d1 : w18.cell? ⟨gd, 1, none⟩ = some (.slice D2 Ld.2.length e4) := (mblk_cell ((hbb.block _ (mblk_lt HGd.out)).trans HGd.out) 1).trans rfl; have x0 : w18.cell? ⟨gx, 0, none⟩ = some (.int .i64 x.f0) := (mblk_cell ((hbb.block _ (mblk_lt HGx.out)).trans HGx.out) 0).trans rfl; have x1 : w18.cell? ⟨gx, 1, none⟩ = some (.int .i64 x.f1) := (mblk_cell ((hbb.block _ (mblk_lt HGx.out)).trans HGx.out) 1).trans rfl; have s0 : w18.cell? ⟨gs, 0, none⟩ = some (.slice S1 Ls.1.length e1) := (mblk_cell ((hbb.block _ (mblk_lt HGs.out)).trans HGs.out) 0).trans rfl; have s1 : w18.cell? ⟨gs, 1, none⟩ = some (.slice S2 Ls.2.length e2) := (mblk_cell ((hbb.block _ (mblk_lt HGs.out)).trans HGs.out) 1).trans rfl; have q0 : w18.cell? ⟨gt, 0, none⟩ = some (.slice T1 Lt.1.length t1) := (mblk_cell ((hbb.block _ (mblk_lt HGt.out)).trans HGt.out) 0).trans rfl; have q1 : w18.cell? ⟨gt, 1, none⟩ = some (.slice T2 Lt.2.length t2) := (mblk_cell ((hbb.block _ (mblk_lt HGt.out)).trans HGt.out) 1).trans rfl; clear hb hbb N8 HB17 HR17)
        | (go_at_call 44; refine (cmp_rv (HTt.out.below HB18.out) (HSs.out.below HB18.out) N9.out).mono ?_; rintro e w19 ⟨rfl, hb⟩; have hbb : Below w11.heap.size w11 w19 := below_step HB18.out hb; have HB19 := Aside0.mk hbb; have d0 : w19.cell? ⟨gd, 0, none⟩ = some (.slice D1 Ld.1.length e3) := (mblk_cell ((hbb.block _ (mblk_lt HGd.out)).trans HGd.out) 0).trans rfl; have d1 : w19.cell? ⟨gd, 1, none⟩ = some (.slice D2 Ld.2.length e4) := (mblk_cell ((hbb.block _ (mblk_lt HGd.out)).trans HGd.out) 1).trans rfl; have x0 : w19.cell? ⟨gx, 0, none⟩ = some (.int .i64 x.f0) := (mblk_cell ((hbb.block _ (mblk_lt HGx.out)).trans HGx.out) 0).trans rfl; have x1 : w19.cell? ⟨gx, 1, none⟩ = some (.int .i64 x.f1) := (mblk_cell ((hbb.block _ (mblk_lt HGx.out)).trans HGx.out) 1).trans rfl; have s0 : w19.cell? ⟨gs, 0, none⟩ = some (.slice S1 Ls.1.length e1) := (mblk_cell ((hbb.block _ (mblk_lt HGs.out)).trans HGs.out) 0).trans rfl; have s1 : w19.cell? ⟨gs, 1, none⟩ = some (.slice S2 Ls.2.length e2) := (mblk_cell ((hbb.block _ (mblk_lt HGs.out)).trans HGs.out) 1).trans rfl; have q0 : w19.cell? ⟨gt, 0, none⟩ = some (.slice T1 Lt.1.length t1) := (mblk_cell ((hbb.block _ (mblk_lt HGt.out)).trans HGt.out) 0).trans rfl; have q1 : w19.cell? ⟨gt, 1, none⟩ = some (.slice T2 Lt.2.length t2) := (mblk_cell ((hbb.block _ (mblk_lt HGt.out)).trans HGt.out) 1).trans rfl; clear hb hbb N9 HB18))
    all_goals
      go_wp2_with fail
      exact bodyPost_ret (results_tmp rfl _ _ _) rfl ⟨rfl, below_step HB11.out HB19.out⟩
end Go.Proofs.Ytcfliceeablckaa.PureRatioStep
