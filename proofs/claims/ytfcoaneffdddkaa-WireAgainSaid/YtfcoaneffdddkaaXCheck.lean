/- The walk of wire.Check. -/
import Derived.Test.YtfcoaneffdddkaaQWire
import Derived.Deep.RegionHeld3
import Derived.RangeFuncFrom
import Derived.Test.YtfcoaneffdddkaaPWtx6
import Derived.Test.YtfcoaneffdddkaaPWtx7
namespace Go.Proofs.Ytfcoaneffdddkaa.XCheck
open Go.RowKit Go.Shelf Go.Proofs.Ytfcoaneffdddkaa.PWt Go.Proofs.YtfcoaneffdddkaaW.PrintWords Go.Proofs.YtfcoaneffdddkaaW.PrintLast Go.Proofs.YtfcoaneffdddkaaW.PrintMore Go.Proofs.Ytfcoaneffdddkaa.MWords Go.Proofs.Ytfcoaneffdddkaa.XVal Go.Proofs.Ytfcoaneffdddkaa.XFields Go.Proofs.Ytfcoaneffdddkaa.QWire Go.Proofs.Ytfcoaneffdddkaa.QEv
set_option linter.unusedVariables false
set_option linter.unusedSimpArgs false
attribute [local go_sem] Oper.semAt_some

theorem partsF {W : World} {A : Option Addr} {n : Nat} {xs : List S67} (h : Kd.C k67 W A n xs) : Kd.F k67 W (fun _ => True) A n xs := fun W' hW =>
  ⟨h.1, h.2.1, fun hp => by
    obtain ⟨ad, e, hc⟩ := h.2.2 hp
    refine ⟨ad, e, fun j p hj => ?_⟩
    obtain ⟨c, hl, hK, hcell⟩ := hc j p hj
    refine ⟨c, hl, by rw [k67_open hK]; exact k67_mk _ _, fun i u hi => ?_⟩
    have h1 := hcell i u hi
    exact (cell_of_block (hW _ trivial (World.block_lt_of_cell? W _ h1))).trans h1⟩
theorem bare_calls (c : S31) (A8 : Option Addr) (c8 : Nat) (w : World) (hC : Kd.C k67 w A8 c.f7.length c.f7) (hc8 : c.f7.length ≤ c8) :
    Calls Try.prog 22 #[cmdV c A8 c8] w fun e w' => ∃ A9 c9, e = .returned (cmdV (bareC c) A9 c9) ∧ (bareC c).f7.length ≤ c9 ∧ Kd.C k67 w' A9 (bareC c).f7.length (bareC c).f7 ∧ Below w.heap.size w w' := by
  obtain ⟨k, hk⟩ := (bare_t c).get
  refine (wire_bare.calls k _ _ _ _ _ _ _ _ (fun _ => True) A8 c8 c.f7 _ _ _ _ _ _ _ _ _ w (Kd.V_mk hc8 (partsF hC)) hk).mono ?_
  rintro e w' ⟨v, rfl, ⟨A, cp, rfl, hl, hf⟩, hb⟩
  exact ⟨A, cp, rfl, hl, Kd.F_now hf, hb⟩
theorem same_calls (a b : S31) (A8 B8 : Option Addr) (c8 d8 : Nat) (w : World) (hC : Kd.C k67 w A8 a.f7.length a.f7) (hc8 : a.f7.length ≤ c8) (hD : Kd.C k67 w B8 b.f7.length b.f7) (hd8 : b.f7.length ≤ d8) (hs : a.f7.length ≤ 1000000000) :
    Calls Try.prog 21 #[cmdV a A8 c8, cmdV b B8 d8] w fun e w' => e = .returned (.bool (decide (a = b))) ∧ Below w.heap.size w w' := by
  obtain ⟨k, hk⟩ := (same_t a b hs).get
  exact (wire_Same.calls k _ _ _ _ _ _ _ _ A8 c8 a.f7 _ _ _ _ _ _ _ _ B8 d8 b.f7 _ w hC hc8 hD hd8 hk)
def okF (l : List (Int × Int)) : Bool := l.all fun x => decide (0 ≤ x.1 ∧ x.1 ≤ x.2)
theorem flds_len (c : S31) (h : c.f7.length ≤ 100000) : (flds c).length ≤ 1000000 := by
  have hp := partF_len c.f7
  unfold flds
  split
  · simp
  split
  · simp
  split
  · simp
  split
  · simp
  split
  · simp
  · rw [List.length_append]
    show 3 + (partF c.f7).length ≤ 1000000
    omega
theorem mblk_own {W W' : World} {row : Option Nat} {g : Nat} {t : TypeId} {cs : Array Value} (h : MBlk W g t cs) (hg : W.grownBy W' row) (hr : ∀ r, row = some r → ∃ o : Obj, W.heap[r]? = some o ∧ o.isCells = false) : MBlk W' g t cs :=
  (hg.block g (mblk_lt h) (fun e => by
    obtain ⟨o, ho, hc⟩ := hr g e.symm
    unfold MBlk at h
    rw [h] at ho
    obtain rfl := Option.some.inj ho
    simp [Obj.isCells] at hc)).trans h
set_option maxHeartbeats 4000000 in
set_option maxRecDepth 100000 in
theorem check_calls (c : S31) (A8 : Option Addr) (c8 : Nat) (w : World) (hC : Kd.C k67 w A8 c.f7.length c.f7) (hc8 : c.f7.length ≤ c8) (hl : c.f7.length ≤ 100000) :
    Calls Try.prog 13 #[cmdV c A8 c8] w fun e w' => e = .returned (.bool (chkW c)) ∧ Below w.heap.size w w' := by
  have mixed : Try.prog.follows Departure.mixedOrders = true := by kernel_rfl
  obtain ⟨cV, hcV⟩ : ∃ cV : Value, cV = cmdV c A8 c8 := ⟨_, rfl⟩
  have HC := Aside0.mk hC
  have HC8 := Aside0.mk hc8
  have HL := Aside0.mk hl
  clear hC hc8 hl
  have hlen : (w.alloc (.cells #[.int .i64 c.f0, .int .i64 c.f1, .int .i64 c.f2, .int .i64 c.f3, .int .i64 c.f4, .int .i64 c.f5.f0, .int .i64 c.f5.f1, .bool c.f6, .slice A8 c.f7.length c8] 31)).heap.size = w.heap.size + 1 := by simp
  obtain ⟨W0, hW0⟩ : ∃ W0, W0 = (w.alloc (.cells #[.int .i64 c.f0, .int .i64 c.f1, .int .i64 c.f2, .int .i64 c.f3, .int .i64 c.f4, .int .i64 c.f5.f0, .int .i64 c.f5.f1, .bool c.f6, .slice A8 c.f7.length c8] 31)).alloc (.cells #[.bool false] 4) := ⟨_, rfl⟩
  have HM := Aside0.mk (show MBlk W0 w.heap.size 31 #[.int .i64 c.f0, .int .i64 c.f1, .int .i64 c.f2, .int .i64 c.f3, .int .i64 c.f4, .int .i64 c.f5.f0, .int .i64 c.f5.f1, .bool c.f6, .slice A8 c.f7.length c8] by rw [hW0]; exact mblk_alloc (mblk_new _ _ _) _)
  have HR := Aside0.mk (show MBlk W0 (w.heap.size + 1) 4 #[.bool false] by rw [hW0, ← hlen]; exact mblk_new _ _ _)
  have HB := Aside0.mk (show Below w.heap.size w W0 by rw [hW0]; exact below_alloc (below_alloc (Below.refl _ _) _) _)
  clear hlen
  refine (callsIn_wide (n := 6)).1 (callsIn_of_wp_marks Try.func13 rfl trivial (wpIn_wide.2 ?_) rfl)
  simp only [Try.ntmps13, cmdV, List.size_toArray, List.length_cons, List.length_nil, Nat.reduceAdd, Nat.reduceSub, Array.replicate_succ, Array.replicate_zero, List.push_toArray, List.append_toArray, List.nil_append, List.cons_append]
  go_upto_region 1 with fail
  rw [← hW0]
  clear hW0
  have hlt0 := mblk_lt HM.out
  go_cut [18] from 4 to 31 (fun v18 wc => v18 = .bool (!(decide (1 ≤ c.f0 ∧ c.f0 ≤ 7) && decide (c = bareC c))) ∧ Aside0 (Below w.heap.size w wc) ∧ Aside0 (MBlk wc w.heap.size 31 #[.int .i64 c.f0, .int .i64 c.f1, .int .i64 c.f2, .int .i64 c.f3, .int .i64 c.f4, .int .i64 c.f5.f0, .int .i64 c.f5.f1, .bool c.f6, .slice A8 c.f7.length c8]) ∧ Aside0 (MBlk wc (w.heap.size + 1) 4 #[.bool false]))
  case first =>
    have hk0 : W0.cell? ⟨w.heap.size, 0, none⟩ = some (.int .i64 c.f0) := (mblk_cell HM.out 0).trans rfl
    by_cases h1 : c.f0 < 1
    · have d1 : decide (c.f0 < 1) = true := decide_eq_true h1
      have hx : (!(decide (1 ≤ c.f0 ∧ c.f0 ≤ 7) && decide (c = bareC c))) = true := by rw [decide_eq_false (by omega)]; rfl
      have HX := Aside0.mk hx
      clear hx h1
      go_region
      go_wp2_with fail
      go_meet
      case rel => exact ⟨by rw [HX.out], ⟨below_drew HB.out⟩, HM, HR⟩
    have d1 : decide (c.f0 < 1) = false := decide_eq_false h1
    by_cases h7 : 7 < c.f0
    · have d7 : decide (7 < c.f0) = true := decide_eq_true h7
      have hx : (!(decide (1 ≤ c.f0 ∧ c.f0 ≤ 7) && decide (c = bareC c))) = true := by rw [decide_eq_false (by omega)]; rfl
      have HX := Aside0.mk hx
      clear hx h1 h7
      go_region
      go_wp2_with fail
      go_meet
      case rel => exact ⟨by rw [HX.out], ⟨below_drew HB.out⟩, HM, HR⟩
    have d7 : decide (7 < c.f0) = false := decide_eq_false h7
    have hx : (!(decide (1 ≤ c.f0 ∧ c.f0 ≤ 7) && decide (c = bareC c))) = !(decide (c = bareC c)) := by rw [decide_eq_true (by omega)]; rfl
    have HX := Aside0.mk hx
    clear hx h1 h7
    have hkp : ∀ W', MBlk W' w.heap.size 31 #[.int .i64 c.f0, .int .i64 c.f1, .int .i64 c.f2, .int .i64 c.f3, .int .i64 c.f4, .int .i64 c.f5.f0, .int .i64 c.f5.f1, .bool c.f6, .slice A8 c.f7.length c8] → W'.cell? ⟨w.heap.size, 0, none⟩ = some (.int .i64 c.f0) ∧ W'.cell? ⟨w.heap.size, 1, none⟩ = some (.int .i64 c.f1) ∧ W'.cell? ⟨w.heap.size, 2, none⟩ = some (.int .i64 c.f2) ∧ W'.cell? ⟨w.heap.size, 3, none⟩ = some (.int .i64 c.f3) ∧ W'.cell? ⟨w.heap.size, 4, none⟩ = some (.int .i64 c.f4) ∧ W'.cell? ⟨w.heap.size, 5, none⟩ = some (.int .i64 c.f5.f0) ∧ W'.cell? ⟨w.heap.size, 6, none⟩ = some (.int .i64 c.f5.f1) ∧ W'.cell? ⟨w.heap.size, 7, none⟩ = some (.bool c.f6) ∧ W'.cell? ⟨w.heap.size, 8, none⟩ = some (.slice A8 c.f7.length c8) := fun W' h => ⟨(mblk_cell h 0).trans rfl, (mblk_cell h 1).trans rfl, (mblk_cell h 2).trans rfl, (mblk_cell h 3).trans rfl, (mblk_cell h 4).trans rfl, (mblk_cell h 5).trans rfl, (mblk_cell h 6).trans rfl, (mblk_cell h 7).trans rfl, (mblk_cell h 8).trans rfl⟩
    have HKP := Aside0.mk hkp
    clear hkp hk0
    obtain ⟨k0, k1, k2, k3, k4, k5, k6, k7, k8⟩ := HKP.out _ HM.out
    go_region_held3 (fun W' => W'.cell? ⟨w.heap.size, 0, none⟩ = some (.int .i64 c.f0) ∧ W'.cell? ⟨w.heap.size, 1, none⟩ = some (.int .i64 c.f1) ∧ W'.cell? ⟨w.heap.size, 2, none⟩ = some (.int .i64 c.f2) ∧ W'.cell? ⟨w.heap.size, 3, none⟩ = some (.int .i64 c.f3) ∧ W'.cell? ⟨w.heap.size, 4, none⟩ = some (.int .i64 c.f4) ∧ W'.cell? ⟨w.heap.size, 5, none⟩ = some (.int .i64 c.f5.f0) ∧ W'.cell? ⟨w.heap.size, 6, none⟩ = some (.int .i64 c.f5.f1) ∧ W'.cell? ⟨w.heap.size, 7, none⟩ = some (.bool c.f6) ∧ W'.cell? ⟨w.heap.size, 8, none⟩ = some (.slice A8 c.f7.length c8))
      (first
        | go_keep
        | exact HKP.out _ HM2.out
        | exact HKP.out _ HM1.out)
      (first
        | (go_at_call 22
           refine (bare_calls c A8 c8 _ (Kd.C_below HC.out (below_drew HB.out)) HC8.out).mono ?_
           rintro e w1 ⟨A9, c9, rfl, hl9, hC9, hb⟩
           have HM1 := Aside0.mk ((hb.block _ (mblk_lt HM.out)).trans HM.out)
           have HR1 := Aside0.mk ((hb.block _ (mblk_lt HR.out)).trans HR.out)
           have HC9 := Aside0.mk (And.intro hl9 hC9)
           have HB1 := Aside0.mk (below_step (below_drew HB.out) hb)
           clear hl9 hC9 hb)
        | (go_at_call 21
           refine (same_calls c (bareC c) A8 A9 c8 c9 _ (Kd.C_below HC.out HB1.out) HC8.out HC9.out.2 HC9.out.1 (by have := HL.out; omega)).mono ?_
           rintro e w2 ⟨rfl, hb⟩
           have HM2 := Aside0.mk ((hb.block _ (mblk_lt HM1.out)).trans HM1.out)
           have HR2 := Aside0.mk ((hb.block _ (mblk_lt HR1.out)).trans HR1.out)
           have HB2 := Aside0.mk (below_step HB1.out hb)
           clear hb))
    go_wp2_with fail
    go_meet
    case rel => exact ⟨by rw [HX.out], HB2, HM2, HR2⟩
  case rest =>
    obtain ⟨rfl, HB3, HM3, HR3⟩ := hcut
    clear HM HR HB hlt0
    have hlt := mblk_lt HM3.out
    have hlt3 := mblk_lt HR3.out
    have hr0 : wc.cell? ⟨w.heap.size + 1, 0, none⟩ = some (.bool false) := (mblk_cell HR3.out 0).trans rfl
    have hf0 : wc.frozen? ⟨w.heap.size + 1, 0, none⟩ = false := mblk_frozen HR3.out 0
    by_cases hok : (decide (1 ≤ c.f0 ∧ c.f0 ≤ 7) && decide (c = bareC c)) = true
    case neg =>
      have hok' : (decide (1 ≤ c.f0 ∧ c.f0 ≤ 7) && decide (c = bareC c)) = false := by simpa using hok
      have hx : chkW c = false := by
        unfold chkW
        rw [← Bool.and_assoc, hok']
        rfl
      have HX := Aside0.mk hx
      rw [hok']
      clear hok hok' hx
      go_wp2_with fail
      have hc5 : (wc.setCell ⟨w.heap.size + 1, 0, none⟩ (.bool false)).cell? ⟨w.heap.size + 1, 0, none⟩ = some (.bool false) := World.cell?_setCell_same' _ _ _ (by rw [hr0]; rfl)
      exact ⟨.bool false, by simp [results, Try.results13, go_sem, hc5], by rw [HX.out], HB3.out.setCell (p := ⟨w.heap.size + 1, 0, none⟩) (by simp) _⟩
    rw [hok]
    have HOK := Aside0.mk hok
    clear hok
    obtain ⟨hk0, hk1⟩ := of_decide_eq_true (Bool.and_eq_true_iff.1 HOK.out).1
    obtain ⟨k0, k1, k2, k3, k4, k5, k6, k7, k8⟩ := (show wc.cell? ⟨w.heap.size, 0, none⟩ = some (.int .i64 c.f0) ∧ wc.cell? ⟨w.heap.size, 1, none⟩ = some (.int .i64 c.f1) ∧ wc.cell? ⟨w.heap.size, 2, none⟩ = some (.int .i64 c.f2) ∧ wc.cell? ⟨w.heap.size, 3, none⟩ = some (.int .i64 c.f3) ∧ wc.cell? ⟨w.heap.size, 4, none⟩ = some (.int .i64 c.f4) ∧ wc.cell? ⟨w.heap.size, 5, none⟩ = some (.int .i64 c.f5.f0) ∧ wc.cell? ⟨w.heap.size, 6, none⟩ = some (.int .i64 c.f5.f1) ∧ wc.cell? ⟨w.heap.size, 7, none⟩ = some (.bool c.f6) ∧ wc.cell? ⟨w.heap.size, 8, none⟩ = some (.slice A8 c.f7.length c8) from ⟨(mblk_cell HM3.out 0).trans rfl, (mblk_cell HM3.out 1).trans rfl, (mblk_cell HM3.out 2).trans rfl, (mblk_cell HM3.out 3).trans rfl, (mblk_cell HM3.out 4).trans rfl, (mblk_cell HM3.out 5).trans rfl, (mblk_cell HM3.out 6).trans rfl, (mblk_cell HM3.out 7).trans rfl, (mblk_cell HM3.out 8).trans rfl⟩)
    go_wp2_with fail
    refine (fields_calls c A8 c8 _ (Kd.C_below HC.out HB3.out) HC8.out hk0 hk1 HL.out).mono ?_
    rintro e w4 ⟨B, rfl, hF⟩
    have HF := Aside0.mk hF
    clear hF hr0 hf0
    go_wp2_with fail
    obtain ⟨A, cap, hbox, hcap, hCF, hAd⟩ := HF.out.box
    have hB4 := HF.out.k
    have hge := HF.out.ge
    have hBlt := mblk_lt hbox
    have hlenF : (flds c).length ≤ 1000000 := flds_len c HL.out
    have HB4 := Aside0.mk (below_step HB3.out hB4)
    have HR4 := Aside0.mk ((hB4.block _ hlt3).trans HR3.out)
    have hsz4 := hB4.size
    refine (wpIn_wide (n := 6)).1 ?_
    refine wpIn_rangeFunc_ownH (F := Fence.wide) (n := 6) rfl (by omega) (gf := 33) (lb := #[.pointer (some ⟨B, 0, none⟩)]) rfl trivial (enters_of Try.func33 (by kernel_rfl) rfl)
      (values_stops (fun x : Int × Int => x) Fence.wide 5 trivial rfl (by omega) B cap A (flds c) (fun k => wc.heap.size ≤ k ∧ k < w4.heap.size) (fun ad e => ⟨(hAd ad e).1, by obtain ⟨cs, hcs⟩ := (hAd ad e).2; exact (Array.getElem?_eq_some_iff.1 hcs).1⟩) w4 (fun k hk => hk.2) hBlt ((mblk_cell hbox 0).trans rfl) (by rw [List.map_id']; exact hCF) hcap hlenF)
      (fun h k => h.trans k) (KpG.putObj (fun k hk => hk.2)) (Below.refl _ _) (fun _ => rfl)
      (fun pre W => (MBlk W (w.heap.size + 1) 4 #[.bool false] ∧ okF pre = true) ∧ Below w.heap.size w W ∧ w4.heap.size ≤ W.heap.size)
      (fun d pre W => (d = .ret ∧ MBlk W (w.heap.size + 1) 4 #[.bool false] ∧ okF pre = false) ∧ Below w.heap.size w W)
      (OwnFrom.and (Own.from (fun s X Y row hs hg hr => ⟨mblk_own hs.1 hg hr, hs.2⟩) _) (OwnFrom.and (ownFrom_below (Nat.le_refl _) (by omega)) (fun s X Y row hs hg _ => Nat.le_trans hs hg.size)))
      (fun d => OwnFrom.and (Own.from (fun s X Y row hs hg hr => ⟨hs.1, mblk_own hs.2.1 hg hr, hs.2.2⟩) _) (ownFrom_below (Nat.le_refl _) (by omega)))
      ⟨⟨HR4.out, rfl⟩, HB4.out, Nat.le_refl _⟩
      (fun x a' W => ∃ Bx, w4.heap.size ≤ Bx ∧ MBlk W Bx 50 #[.int .i64 x.1, .int .i64 x.2] ∧ a' = { tmps := #[(.agg #[.int .i64 c.f0, .int .i64 c.f1, .int .i64 c.f2, .int .i64 c.f3, .int .i64 c.f4, .int .i64 c.f5.f0, .int .i64 c.f5.f1, .bool c.f6, .slice A8 c.f7.length c8]), .pointer (some ⟨w.heap.size, 0, none⟩), .pointer (some ⟨w.heap.size + 1, 0, none⟩), .pointer (some ⟨Bx, 0, none⟩), u4, u5, u6, u7, u8, u9, u10, u11, u12, u13, u14, u15, u16, u17, .bool false, (.agg #[.int .i64 c.f0, .int .i64 c.f1, .int .i64 c.f2, .int .i64 c.f3, .int .i64 c.f4, .int .i64 c.f5.f0, .int .i64 c.f5.f1, .bool c.f6, .slice A8 c.f7.length c8]), .func (.func 33) #[] #[.pointer (some ⟨B, 0, none⟩)], .agg #[.int .i64 x.1, .int .i64 x.2], u22, u23, u24, u25, u26, u27, u28, u29, u30, u31], defers := [] })
      (fun x a' _ X Y row hs hg hr => by obtain ⟨Bx, h1, h2, h3⟩ := hs; exact ⟨Bx, h1, mblk_own h2 hg (fun r e => (hr r e).2), h3⟩)
      ?assign ?body ?done ?stop
    case assign =>
      rintro l pre x W K ⟨⟨hm, hp⟩, hb, hs⟩ hK
      gi_wp2
      exact hK _ _ ((KeepsOthers.alloc _ _).from _) ⟨by simp, fun k hk => Below.heap_alloc W _ k (Nat.lt_of_lt_of_le hk.2 hs)⟩ ⟨⟨mblk_alloc hm _, hp⟩, below_alloc hb _, by simp; omega⟩ ⟨W.heap.size, hs, mblk_new _ _ _, rfl⟩
    case body =>
      rintro l pre x a' W hll ⟨r, hrr⟩ ⟨⟨hm, hp⟩, hb, hs⟩ ⟨Bx, hBx, bX, rfl⟩ hlen
      have HP := Aside0.mk hp
      have HMm := Aside0.mk hm
      have HBb := Aside0.mk hb
      have x0 : W.cell? ⟨Bx, 0, none⟩ = some (.int .i64 x.1) := (mblk_cell bX 0).trans rfl
      have x1 : W.cell? ⟨Bx, 1, none⟩ = some (.int .i64 x.2) := (mblk_cell bX 1).trans rfl
      have r0 : W.cell? ⟨w.heap.size + 1, 0, none⟩ = some (.bool false) := (mblk_cell hm 0).trans rfl
      have rf : W.frozen? ⟨w.heap.size + 1, 0, none⟩ = false := mblk_frozen hm 0
      clear hp hm hb hrr bX
      by_cases h0 : x.1 < 0
      · have d0 : decide (x.1 < 0) = true := decide_eq_true h0
        have HA := Aside0.mk (show okF (pre ++ [x]) = false by unfold okF; rw [List.all_append]; simp; intros; omega)
        gi_wp2
        exact ⟨(KeepsOthers.setCell _ _ _).from _, ⟨rfl, mblk_set HMm.out 0 _, HA.out⟩, HBb.out.setCell (p := ⟨w.heap.size + 1, 0, none⟩) (by simp) _⟩
      have d0 : decide (x.1 < 0) = false := decide_eq_false h0
      by_cases h1 : x.2 < x.1
      · have d1 : decide (x.2 < x.1) = true := decide_eq_true h1
        have HA := Aside0.mk (show okF (pre ++ [x]) = false by unfold okF; rw [List.all_append]; simp; intros; omega)
        gi_wp2
        exact ⟨(KeepsOthers.setCell _ _ _).from _, ⟨rfl, mblk_set HMm.out 0 _, HA.out⟩, HBb.out.setCell (p := ⟨w.heap.size + 1, 0, none⟩) (by simp) _⟩
      have d1 : decide (x.2 < x.1) = false := decide_eq_false h1
      have HA := Aside0.mk (show okF (pre ++ [x]) = true by have hp := HP.out; unfold okF at hp ⊢; rw [List.all_append, hp]; simp; omega)
      gi_wp2
      exact ⟨KeepsFrom.refl _ _, KpG.refl _ _, ⟨HMm.out, HA.out⟩, HBb.out, hs⟩
    case done =>
      rintro D xs W hD rfl ⟨⟨hm, hp⟩, hb, hs⟩ hK
      have r0 : W.cell? ⟨w.heap.size + 1, 0, none⟩ = some (.bool false) := (mblk_cell hm 0).trans rfl
      have rf : W.frozen? ⟨w.heap.size + 1, 0, none⟩ = false := mblk_frozen hm 0
      have HK := Aside0.mk hK
      have HX := Aside0.mk (show chkW c = true by unfold okF at hp; unfold chkW; rw [← Bool.and_assoc, HOK.out, hp]; rfl)
      have HBb := Aside0.mk hb
      clear hm hp hK hb
      go_wp2_with fail
      have hK' := (KeepsOthers.setCell W ⟨w.heap.size + 1, 0, none⟩ (.bool true)).same D _ HK.out rfl
      refine ⟨by simp, .inl ⟨_, _, rfl, run_takeDeferred hK', ?_⟩⟩
      have hc5 := cell_kept (World.cell?_setCell_same' W ⟨w.heap.size + 1, 0, none⟩ (.bool true) (by rw [r0]; rfl)) (grownBy_putObj' _ D (.deferred none)) (fun r e => by cases e; exact ⟨_, hK', rfl⟩)
      refine ⟨.bool true, ?_, by rw [HX.out], (HBb.out.setCell (p := ⟨w.heap.size + 1, 0, none⟩) (by simp) _).trans (belowK_b (w := w) (Nat.le_refl _) _ D _ _ (by omega) hK' rfl rfl)⟩
      simp [results, Try.results13, go_sem, hc5]
    case stop =>
      rintro D d pre W hD hpre ⟨⟨rfl, hm, hp⟩, hb⟩ hK
      have r0 : W.cell? ⟨w.heap.size + 1, 0, none⟩ = some (.bool false) := (mblk_cell hm 0).trans rfl
      have HX := Aside0.mk (show chkW c = false by
        unfold okF at hp
        unfold chkW
        rw [← Bool.and_assoc]
        have : ((flds c).all fun x => decide (0 ≤ x.1 ∧ x.1 ≤ x.2)) = false := by
          obtain ⟨t, ht⟩ := hpre
          rw [← ht, List.all_append, hp]
          rfl
        rw [this, Bool.and_false])
      have HK := Aside0.mk hK
      have HBb := Aside0.mk hb
      clear hm hp hb hK
      gi_wp2
      refine ⟨by simp, .inl ⟨_, _, rfl, run_takeDeferred HK.out, ?_⟩⟩
      have hc5 := cell_kept r0 (grownBy_putObj' _ D (.deferred none)) (fun r e => by cases e; exact ⟨_, HK.out, rfl⟩)
      refine ⟨.bool false, ?_, by rw [HX.out], HBb.out.trans (belowK_b (w := w) (Nat.le_refl _) W D _ _ (by omega) HK.out rfl rfl)⟩
      simp [results, Try.results13, go_sem, hc5]
end Go.Proofs.Ytfcoaneffdddkaa.XCheck
