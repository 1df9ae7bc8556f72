-- Written by wip/rprint.py of this session's repo (the kit's printer with patches), out of the translation. Not trusted: Lean checks it.
import Derived.Test.YtcfliceeablckaaPNrx0
import Derived.Test.YtcfliceeablckaaPNrx8
import Derived.Test.YtcfliceeablckaaPNrx17
import Derived.Test.YtcfliceeablckaaPNrx36
import Derived.Test.YtcfliceeablckaaPNrx41
namespace Go.Proofs.Ytcfliceeablckaa.PNr
open Go.RowKit Go.Proofs.YtcfliceeablckaaW.PrintWords Go.Proofs.YtcfliceeablckaaW.PrintLast Go.Proofs.YtcfliceeablckaaW.PrintMore Go.Proofs.Ytcfliceeablckaa.MWords
attribute [local go_sem] max2_int min2_int max_two min_two max_three min_three max_four min_four   -- for this text's walks alone
set_option linter.unusedVariables false
set_option linter.unusedSimpArgs false

/-! ### ratio_Text: function 34 -/
def ratio_Text.f (k : Nat) (l0_0 : List Int) (l0_1 : List Int) : Option (ByteArray) := (ratio_Least.f k l0_0 l0_1).bind fun bt557 => ((nat_Text.f k bt557.1).bind fun t563 => ((nat_Of.f 1).bind fun t564 => ((nat_Cmp.f k bt557.2 t564).bind fun t567 => (if t567 = 0 then (some t563) else (if t563.size + 1 ≤ 9223372036854775807 then ((nat_Text.f k bt557.2).bind fun t568 => (if t563.size + 1 + t568.size ≤ 9223372036854775807 then (some ((t563 ++ (⟨#[47]⟩ : ByteArray)) ++ t568)) else (none))) else (none))))))
theorem ratio_Text.mono : ∀ a0 a1 k, LeO (ratio_Text.f k a0 a1) (ratio_Text.f (k + 1) a0 a1) := by
  intro a0 a1 k
  unfold ratio_Text.f
  repeat' first
      | (with_reducible exact nat_Cmp.mono _ _ _)
      | (with_reducible exact nat_Text.mono _ _)
      | (with_reducible exact ratio_Least.mono _ _ _)
      | (with_reducible exact LeO.refl _)
      | (with_reducible exact LeO.none _)
      | (with_reducible refine LeO.ite ?_ ?_)
      | (with_reducible refine LeO.bind ?_ (fun _ => ?_))
      | exact nat_Cmp.mono _ _ _
      | exact nat_Text.mono _ _
      | exact ratio_Least.mono _ _ _
      | exact LeO.none _
      | refine LeO.ite ?_ ?_
      | refine LeO.bind ?_ (fun _ => ?_)
set_option maxHeartbeats 8000000 in
set_option maxRecDepth 100000 in
theorem ratio_Text.calls (k : Nat) (A0_0 : Option Addr) (c0_0 : Nat) (l0_0 : List Int) (A0_1 : Option Addr) (c0_1 : Nat) (l0_1 : List Int) (r : ByteArray) (w : World) (hr0_0 : Kd.C (Kd.int .u32) w A0_0 l0_0.length l0_0) (hc0_0 : l0_0.length ≤ c0_0) (hr0_1 : Kd.C (Kd.int .u32) w A0_1 l0_1.length l0_1) (hc0_1 : l0_1.length ≤ c0_1) (h : ratio_Text.f k l0_0 l0_1 = some r) :
    Calls Try.prog 34 #[.agg #[.slice A0_0 l0_0.length c0_0, .slice A0_1 l0_1.length c0_1]] w fun e w' => e = .returned (.string r) ∧ Below w.heap.size w w' := by
  have hu45 := Try.underlying45
  have HR0_0 := Aside0.mk hr0_0
  have HC0_0 := Aside0.mk hc0_0
  clear hr0_0 hc0_0
  have HR0_1 := Aside0.mk hr0_1
  have HC0_1 := Aside0.mk hc0_1
  clear hr0_1 hc0_1
  have HB := Aside0.mk (Below.refl w.heap.size w)
  have H : ((ratio_Least.f k l0_0 l0_1).bind fun bt557 => ((nat_Text.f k bt557.1).bind fun t563 => ((nat_Of.f 1).bind fun t564 => ((nat_Cmp.f k bt557.2 t564).bind fun t567 => (if t567 = 0 then (some t563) else (if t563.size + 1 ≤ 9223372036854775807 then ((nat_Text.f k bt557.2).bind fun t568 => (if t563.size + 1 + t568.size ≤ 9223372036854775807 then (some ((t563 ++ (⟨#[47]⟩ : ByteArray)) ++ t568)) else (none))) else (none))))))) = some r := h
  clear h
  replace H := Option.bind_eq_some_iff.mp H
  obtain ⟨⟨t557, t560⟩, A20, H⟩ := H
  replace H : ((nat_Text.f k t557).bind fun t563 => ((nat_Of.f 1).bind fun t564 => ((nat_Cmp.f k t560 t564).bind fun t567 => (if t567 = 0 then (some t563) else (if t563.size + 1 ≤ 9223372036854775807 then ((nat_Text.f k t560).bind fun t568 => (if t563.size + 1 + t568.size ≤ 9223372036854775807 then (some ((t563 ++ (⟨#[47]⟩ : ByteArray)) ++ t568)) else (none))) else (none)))))) = some r := H
  have A2 := Aside0.mk A20
  clear A20
  replace H := Option.bind_eq_some_iff.mp H
  obtain ⟨t563, A30, H⟩ := H
  replace H : ((nat_Of.f 1).bind fun t564 => ((nat_Cmp.f k t560 t564).bind fun t567 => (if t567 = 0 then (some t563) else (if t563.size + 1 ≤ 9223372036854775807 then ((nat_Text.f k t560).bind fun t568 => (if t563.size + 1 + t568.size ≤ 9223372036854775807 then (some ((t563 ++ (⟨#[47]⟩ : ByteArray)) ++ t568)) else (none))) else (none))))) = some r := H
  have A3 := Aside0.mk A30
  clear A30
  replace H := Option.bind_eq_some_iff.mp H
  obtain ⟨t564, A40, H⟩ := H
  replace H : ((nat_Cmp.f k t560 t564).bind fun t567 => (if t567 = 0 then (some t563) else (if t563.size + 1 ≤ 9223372036854775807 then ((nat_Text.f k t560).bind fun t568 => (if t563.size + 1 + t568.size ≤ 9223372036854775807 then (some ((t563 ++ (⟨#[47]⟩ : ByteArray)) ++ t568)) else (none))) else (none)))) = some r := H
  have A4 := Aside0.mk A40
  clear A40
  replace H := Option.bind_eq_some_iff.mp H
  obtain ⟨t567, A50, H⟩ := H
  replace H : (if t567 = 0 then (some t563) else (if t563.size + 1 ≤ 9223372036854775807 then ((nat_Text.f k t560).bind fun t568 => (if t563.size + 1 + t568.size ≤ 9223372036854775807 then (some ((t563 ++ (⟨#[47]⟩ : ByteArray)) ++ t568)) else (none))) else (none))) = some r := H
  have A5 := Aside0.mk A50
  clear A50
  by_cases c6 : t567 = 0
  · rw [if_pos c6] at H
    have c6b0 : (t567 == 0) = true := beq_iff_eq.mpr c6
    have c6b1 : (t567 != 0) = false := bne_eq_false_iff_eq.mpr c6
    clear c6
    obtain rfl := Option.some.inj H
    go_enter Try.func34, Try.ntmps34
    try go_wp2_with (first | ((with_reducible refine gate_dst (N := 1) rfl ?_); refine box_event ?hg (N := 1) ?hd (cs := #[.slice A0_0 l0_0.length c0_0, .slice A0_1 l0_1.length c0_1]) (t := 45) ?hr ?_; (case hd => rfl); (case hg => rfl); (case hr => first | (go_simp; done) | (go_simp; rfl)); intro gb556 hg w7 hbox hb; have n0_ := Aside0.mk (below_step (by repeat (first | (with_reducible first | exact HB.out | apply below_alloc | apply pw_below_drewN | apply below_drew1) | exact HB.out)) hb); have n1_ := Aside0.mk (hbox); have n2_ := Aside0.mk ((by rw [hg]; exact (below_size (by repeat (first | (with_reducible first | exact HB.out | apply below_alloc | apply pw_below_drewN | apply below_drew1) | exact HB.out))) : w.heap.size ≤ gb556)); have n3_ := Aside0.mk ((by rw [hg]; exact (below_size (by repeat (first | (with_reducible first | exact HB.out | apply below_alloc | apply pw_below_drewN | apply below_drew1) | exact HB.out))) : w.heap.size ≤ gb556)); clear HB; have HB := n0_; have BK556 := n1_; have GW556 := n2_; have GE556 := n3_; clear n0_ n1_ n2_ n3_; clear hb hbox hg; have hcz8_0 : w7.cell? ⟨gb556, 0, none⟩ = some (.slice A0_0 l0_0.length c0_0) := (blk_cell BK556.out 0).trans rfl; have hcz8_1 : w7.cell? ⟨gb556, 1, none⟩ = some (.slice A0_1 l0_1.length c0_1) := (blk_cell BK556.out 1).trans rfl; have hfz8_0 := blk_frozen BK556.out 0; have hfz8_1 := blk_frozen BK556.out 1) | ((with_reducible refine gate_callee (f := 30) rfl ?_); refine goesL_ (some 5) rfl rfl Try.func30 (by kernel_rfl) rfl #[.agg #[.slice A0_0 l0_0.length c0_0, .slice A0_1 l0_1.length c0_1]] rfl (by (try simp only [List.map_toArray, List.map_cons, List.map_nil]); first | done | rfl | (simp only [List.length_drop, List.length_take]; rfl)) ?_; (with_reducible refine (ratio_Least.calls k (fun k_ => k_ < w.heap.size) _ _ l0_0 (fun k_ => k_ < w.heap.size) _ _ l0_1 t557 t560 _ ?side1 ?side2 A2.out).mono ?_); (case side1 => exact Kd.V_mk HC0_0.out (Kd.F_below (Kd.C_F (Kd.heap_int .u32) HR0_0.out) (by repeat (first | (with_reducible first | exact HB.out | apply below_alloc | apply pw_below_drewN | apply below_drew1 | refine below_set ?_ GE556.out) | exact HB.out)))); (case side2 => exact Kd.V_mk HC0_1.out (Kd.F_below (Kd.C_F (Kd.heap_int .u32) HR0_1.out) (by repeat (first | (with_reducible first | exact HB.out | apply below_alloc | apply pw_below_drewN | apply below_drew1 | refine below_set ?_ GE556.out) | exact HB.out)))); rintro e w9 ⟨v558, v561, rfl, ho0, ho1, hb⟩; refine ⟨_, rfl, ?_⟩; have n0_ := Aside0.mk (Kd.V_lower (Kd.V_mono (ok' := fun k_ => k_ ≠ gb556) ho0 (fun k_ hk_ => Or.elim hk_ (fun hs_ => Or.elim hs_ (fun hs_ => fun e_ => Nat.not_le.2 hs_ (by rw [e_]; exact GW556.out)) (fun hs_ => fun e_ => Nat.not_le.2 hs_ (by rw [e_]; exact GW556.out))) (fun hn_ => (Kd.freshB (g := gb556) (o := .cells #[.slice A0_0 l0_0.length c0_0, .slice A0_1 l0_1.length c0_1] 45 (0, 0)) (by (with_reducible repeat (first | refine blk_drewN ?_ _ | refine blk_drew ?_ | refine blk_alloc ?_ _)); exact BK556.out) k_ hn_)))) (below_size (by repeat (first | (with_reducible first | exact HB.out | apply below_alloc | apply pw_below_drewN | apply below_drew1 | refine below_set ?_ GE556.out) | exact HB.out)))); have n1_ := Aside0.mk (Kd.V_lower (Kd.V_mono (ok' := fun k_ => k_ ≠ gb556) ho1 (fun k_ hk_ => Or.elim hk_ (fun hs_ => Or.elim hs_ (fun hs_ => fun e_ => Nat.not_le.2 hs_ (by rw [e_]; exact GW556.out)) (fun hs_ => fun e_ => Nat.not_le.2 hs_ (by rw [e_]; exact GW556.out))) (fun hn_ => (Kd.freshB (g := gb556) (o := .cells #[.slice A0_0 l0_0.length c0_0, .slice A0_1 l0_1.length c0_1] 45 (0, 0)) (by (with_reducible repeat (first | refine blk_drewN ?_ _ | refine blk_drew ?_ | refine blk_alloc ?_ _)); exact BK556.out) k_ hn_)))) (below_size (by repeat (first | (with_reducible first | exact HB.out | apply below_alloc | apply pw_below_drewN | apply below_drew1 | refine below_set ?_ GE556.out) | exact HB.out)))); have n2_ := Aside0.mk (blk_below (g := gb556) (o := .cells #[.slice A0_0 l0_0.length c0_0, .slice A0_1 l0_1.length c0_1] 45 (0, 0)) (by (with_reducible repeat (first | refine blk_drewN ?_ _ | refine blk_drew ?_ | refine blk_alloc ?_ _)); exact BK556.out) hb); have n3_ := Aside0.mk (below_step (by repeat (first | (with_reducible first | exact HB.out | apply below_alloc | apply pw_below_drewN | apply below_drew1 | refine below_set ?_ GE556.out) | exact HB.out)) hb); clear BK556; clear HB; have HO559 := n0_; have HO562 := n1_; have BK556 := n2_; have HB := n3_; clear n0_ n1_ n2_ n3_; (try clear hb); (try clear hb2); (try clear hk); (try clear hi); (try clear ho0); (try clear ho1); obtain ⟨Ao10, co10, eo10⟩ := Kd.V_slice HO559.out; subst eo10; have hcz11_0 : w9.cell? ⟨gb556, 0, none⟩ = some (.slice A0_0 l0_0.length c0_0) := (blk_cell BK556.out 0).trans rfl; have hcz11_1 : w9.cell? ⟨gb556, 1, none⟩ = some (.slice A0_1 l0_1.length c0_1) := (blk_cell BK556.out 1).trans rfl; have hfz11_0 := blk_frozen BK556.out 0; have hfz11_1 := blk_frozen BK556.out 1; obtain ⟨Ao12, co12, eo12⟩ := Kd.V_slice HO562.out; subst eo12) | ((with_reducible refine gate_store (t := 45) (p := 1) rfl ?_); refine store_event (t := 45) (p := 1) (v := ?vo_w13) (w1 := ((w9.setCell ⟨gb556, 0, none⟩ (.slice Ao10 t557.length co10)).setCell ⟨gb556, 1, none⟩ (.slice Ao12 t560.length co12))) ?hg ?ho ?hn ?hr ?_; (case ho => rfl); (case hg => rfl); (case hn => rfl); (case hr => first | (go_simp; done) | (go_simp; rfl)); intro w13 hw; have n0_ : Aside0 (Kd.V (Kd.int .u32) 30 w13 w.heap.size (fun k_ => k_ ≠ gb556) (.slice Ao10 t557.length co10) t557) := ⟨(by rw [hw]; exact (by (with_reducible repeat (first | apply Kd.V_alloc | apply Kd.V_drewN | apply Kd.V_drew)); exact Kd.V_mono (Kd.V_far (p := ⟨gb556, 1, none⟩) (Kd.V_far (p := ⟨gb556, 0, none⟩) (Kd.V_mono HO559.out (fun k_ hk => (⟨hk, hk⟩ : _ ∧ k_ ≠ gb556))) (fun _ hk => hk.2) (.slice Ao10 t557.length co10)) (fun _ hk => hk.2) (.slice Ao12 t560.length co12)) (fun _ hk => hk.1)))⟩; have n1_ : Aside0 (Kd.V (Kd.int .u32) 30 w13 w.heap.size (fun k_ => k_ ≠ gb556) (.slice Ao12 t560.length co12) t560) := ⟨(by rw [hw]; exact (by (with_reducible repeat (first | apply Kd.V_alloc | apply Kd.V_drewN | apply Kd.V_drew)); exact Kd.V_mono (Kd.V_far (p := ⟨gb556, 1, none⟩) (Kd.V_far (p := ⟨gb556, 0, none⟩) (Kd.V_mono HO562.out (fun k_ hk => (⟨hk, hk⟩ : _ ∧ k_ ≠ gb556))) (fun _ hk => hk.2) (.slice Ao10 t557.length co10)) (fun _ hk => hk.2) (.slice Ao12 t560.length co12)) (fun _ hk => hk.1)))⟩; have n2_ : Aside0 (w13.heap[gb556]? = some (.cells #[.slice Ao10 t557.length co10, .slice Ao12 t560.length co12] 45 (0, 0))) := ⟨(by rw [hw]; exact (by (with_reducible repeat (first | refine blk_drewN ?_ _ | refine blk_drew ?_ | refine blk_alloc ?_ _)); refine blk_put (cs := #[.slice Ao10 t557.length co10, .slice A0_1 l0_1.length c0_1]) ?_ 1 _ rfl; (with_reducible repeat (first | refine blk_drewN ?_ _ | refine blk_drew ?_ | refine blk_alloc ?_ _)); refine blk_put (cs := #[.slice A0_0 l0_0.length c0_0, .slice A0_1 l0_1.length c0_1]) ?_ 0 _ rfl; (with_reducible repeat (first | refine blk_drewN ?_ _ | refine blk_drew ?_ | refine blk_alloc ?_ _)); exact BK556.out))⟩; have n3_ : Aside0 (Below w.heap.size w w13) := ⟨(by rw [hw]; exact (by repeat (first | (with_reducible first | exact HB.out | apply below_alloc | apply pw_below_drewN | apply below_drew1 | refine below_set ?_ GE556.out) | exact HB.out)))⟩; clear hw; clear HO559; clear HO562; clear BK556; clear HB; have HO559 := n0_; have HO562 := n1_; have BK556 := n2_; have HB := n3_; clear n0_ n1_ n2_ n3_; have hcz14_0 : w13.cell? ⟨gb556, 0, none⟩ = some (.slice Ao10 t557.length co10) := (blk_cell BK556.out 0).trans rfl; have hcz14_1 : w13.cell? ⟨gb556, 1, none⟩ = some (.slice Ao12 t560.length co12) := (blk_cell BK556.out 1).trans rfl; have hfz14_0 := blk_frozen BK556.out 0; have hfz14_1 := blk_frozen BK556.out 1) | ((with_reducible refine gate_callee (f := 49) rfl ?_); refine goesL_ (some 8) rfl rfl Try.func49 (by kernel_rfl) rfl #[.slice Ao10 t557.length co10] rfl (by (try simp only [List.map_toArray, List.map_cons, List.map_nil]); first | done | rfl | (simp only [List.length_drop, List.length_take]; rfl)) ?_; (with_reducible refine (nat_Text.calls k (fun k_ => k_ ≠ gb556) _ _ t557 t563 _ ?side1 A3.out).mono ?_); (case side1 => exact HO559.out); rintro e w15 ⟨rfl, hb⟩; refine ⟨_, rfl, ?_⟩; have n0_ := Aside0.mk (Kd.V_below (by (with_reducible repeat (first | apply Kd.V_alloc | apply Kd.V_drewN | apply Kd.V_drew)); exact HO559.out) hb); have n1_ := Aside0.mk (Kd.V_below (by (with_reducible repeat (first | apply Kd.V_alloc | apply Kd.V_drewN | apply Kd.V_drew)); exact HO562.out) hb); have n2_ := Aside0.mk (blk_below (g := gb556) (o := .cells #[.slice Ao10 t557.length co10, .slice Ao12 t560.length co12] 45 (0, 0)) (by (with_reducible repeat (first | refine blk_drewN ?_ _ | refine blk_drew ?_ | refine blk_alloc ?_ _)); exact BK556.out) hb); have n3_ := Aside0.mk (below_step (by repeat (first | (with_reducible first | exact HB.out | apply below_alloc | apply pw_below_drewN | apply below_drew1 | refine below_set ?_ GE556.out) | exact HB.out)) hb); clear HO559; clear HO562; clear BK556; clear HB; have HO559 := n0_; have HO562 := n1_; have BK556 := n2_; have HB := n3_; clear n0_ n1_ n2_ n3_; (try clear hb); (try clear hb2); (try clear hk); (try clear hi)))
    have n0_ := Aside0.mk (Kd.V_drew HO559.out)
    have n1_ := Aside0.mk (Kd.V_drew HO562.out)
    have n2_ := Aside0.mk (blk_drew BK556.out)
    have n3_ := Aside0.mk (below_drew1 HB.out)
    clear HO559
    clear HO562
    clear BK556
    clear HB
    have HO559 := n0_
    have HO562 := n1_
    have BK556 := n2_
    have HB := n3_
    clear n0_ n1_ n2_ n3_
    refine start_ (n := 5) (S := fun w' => w'.cell? ⟨gb556, 0, none⟩ = some (.slice Ao10 t557.length co10) ∧ w'.cell? ⟨gb556, 1, none⟩ = some (.slice Ao12 t560.length co12)) (ds := []) #[false, false, false, false, false] (by kernel_rfl) rfl rfl ⟨(blk_cell BK556.out 0).trans rfl, (blk_cell BK556.out 1).trans rfl⟩ (fun hHeld => ?_)
    generalize w15.drew = w16 at HO559 HO562 BK556 HB hHeld ⊢
    refine pure_ (i := 0) (N := some 9) (v := ?_) (a' := ?_) #[true, false, false, false, false] rfl rfl (by kernel_rfl) (fun _ _ _ h => h) (Or.inl ⟨by rfl, ?_⟩) ?_ ?_
    rotate_left
    · intro w'
      go_simp
      with_reducible rfl
    rotate_left
    · simp only [Act.put, List.setIfInBounds_toArray, List.set_cons_zero, List.set_cons_succ, i64_w, i32_w]
      rfl
    refine take_ (i := 1) (N := some 10) (v := ?_) (a' := ?_) #[true, true, false, false, false] rfl rfl (by kernel_rfl) (fun _ _ _ h => h) (Or.inl ⟨by rfl, ?_⟩) hHeld ?_ ?_
    rotate_left
    · rintro w' ⟨s0, s1⟩
      go_simp
      with_reducible rfl
    rotate_left
    · simp only [Act.put, List.setIfInBounds_toArray, List.set_cons_zero, List.set_cons_succ, i64_w, i32_w]
      rfl
    refine one_ (i := 2) (N := some 11) #[true, true, true, false, false] rfl rfl (by kernel_rfl) (by decide) (fun K hK => ?_)
    refine goes_ Try.func27 (by kernel_rfl) rfl #[.int .u64 1] (by rfl) rfl rfl (by (try simp only [List.map_toArray, List.map_cons, List.map_nil]); first | done | rfl | (simp only [List.length_drop, List.length_take]; rfl)) ?_
    with_reducible refine (nat_Of.calls 1 t564 _ A4.out).mono ?_
    rintro e w17 ⟨v565, rfl, ho0, hb⟩
    refine ⟨_, rfl, ?_⟩
    have n0_ := Aside0.mk (Kd.V_below (by (with_reducible repeat (first | apply Kd.V_alloc | apply Kd.V_drewN | apply Kd.V_drew)); exact HO559.out) hb)
    have n1_ := Aside0.mk (Kd.V_below (by (with_reducible repeat (first | apply Kd.V_alloc | apply Kd.V_drewN | apply Kd.V_drew)); exact HO562.out) hb)
    have n2_ := Aside0.mk (Kd.V_lower (Kd.V_mono (ok' := fun k_ => k_ ≠ gb556) ho0 (fun k_ hk_ => (Kd.freshB (g := gb556) (o := .cells #[.slice Ao10 t557.length co10, .slice Ao12 t560.length co12] 45 (0, 0)) (by (with_reducible repeat (first | refine blk_drewN ?_ _ | refine blk_drew ?_ | refine blk_alloc ?_ _)); exact BK556.out) k_ hk_))) (below_size (by repeat (first | (with_reducible first | exact HB.out | apply below_alloc | apply pw_below_drewN | apply below_drew1 | refine below_set ?_ GE556.out) | exact HB.out))))
    have n3_ := Aside0.mk (blk_below (g := gb556) (o := .cells #[.slice Ao10 t557.length co10, .slice Ao12 t560.length co12] 45 (0, 0)) (by (with_reducible repeat (first | refine blk_drewN ?_ _ | refine blk_drew ?_ | refine blk_alloc ?_ _)); exact BK556.out) hb)
    have n4_ := Aside0.mk (below_step (by repeat (first | (with_reducible first | exact HB.out | apply below_alloc | apply pw_below_drewN | apply below_drew1 | refine below_set ?_ GE556.out) | exact HB.out)) hb)
    clear HO559
    clear HO562
    clear BK556
    clear HB
    have HO559 := n0_
    have HO562 := n1_
    have HO566 := n2_
    have BK556 := n3_
    have HB := n4_
    clear n0_ n1_ n2_ n3_ n4_
    (try clear hb)
    (try clear hb2)
    (try clear hk)
    (try clear hi)
    (try clear ho0)
    obtain ⟨Ao18, co18, eo18⟩ := Kd.V_slice HO566.out
    (first | subst eo18 | (injection eo18 with f1_ f2_ f3_; have f4_ := f1_.symm; have f5_ := f3_.symm; clear f1_ f2_ f3_; subst f4_; subst f5_))
    refine hK.out _ _ ⟨(blk_cell BK556.out 0).trans rfl, (blk_cell BK556.out 1).trans rfl⟩ (fun hHeld => ?_)
    clear hK K
    refine norm_ (a' := ?_) ?_ ?_
    rotate_left
    · show Act.put _ (some 11) _ = _
      simp only [Act.put, List.setIfInBounds_toArray, List.set_cons_zero, List.set_cons_succ, i64_w, i32_w]
      rfl
    refine one_ (i := 3) (N := some 12) #[true, true, true, true, false] rfl rfl (by kernel_rfl) (by decide) (fun K hK => ?_)
    refine goes_ Try.func19 (by kernel_rfl) rfl #[.slice Ao12 t560.length co12, .slice Ao18 t564.length co18] (by rfl) rfl rfl (by (try simp only [List.map_toArray, List.map_cons, List.map_nil]); first | done | rfl | (simp only [List.length_drop, List.length_take]; rfl)) ?_
    with_reducible refine (nat_Cmp.calls k _ _ t560 _ _ t564 t567 _ ?side1 ?side2 ?side3 ?side4 A5.out).mono ?_
    (case side1 => repeat (first | exact (Kd.V_reads' HO562.out).2.2 | (with_reducible refine Kd.C_alloc ?_ _) | (with_reducible refine Kd.C_drewN ?_ _) | (with_reducible refine Kd.C_drew ?_)))
    (case side2 => exact (Kd.V_reads' HO562.out).2.1)
    (case side3 => repeat (first | exact (Kd.V_reads' HO566.out).2.2 | (with_reducible refine Kd.C_alloc ?_ _) | (with_reducible refine Kd.C_drewN ?_ _) | (with_reducible refine Kd.C_drew ?_)))
    (case side4 => exact (Kd.V_reads' HO566.out).2.1)
    rintro e w' ⟨rfl, ⟨nd, rfl⟩⟩
    refine ⟨_, rfl, ?_⟩
    refine hK.out _ _ ⟨(blk_cell BK556.out 0).trans rfl, (blk_cell BK556.out 1).trans rfl⟩ (fun hHeld => ?_)
    clear hK K
    refine norm_ (a' := ?_) ?_ ?_
    rotate_left
    · show Act.put _ (some 12) _ = _
      simp only [Act.put, List.setIfInBounds_toArray, List.set_cons_zero, List.set_cons_succ, i64_w, i32_w]
      rfl
    refine pure_ (i := 4) (N := some 13) (v := ?_) (a' := ?_) #[true, true, true, true, true] rfl rfl (by kernel_rfl) (fun _ _ _ h => h) (Or.inl ⟨by rfl, ?_⟩) ?_ ?_
    rotate_left
    · intro w'
      go_simp
      with_reducible rfl
    rotate_left
    · simp only [Act.put, List.setIfInBounds_toArray, List.set_cons_zero, List.set_cons_succ, i64_w, i32_w]
      rfl
    refine done_ (by kernel_rfl) ?_
    try go_wp2
    go_ret
    exact ⟨by first | rfl | (simp [errW_none, errW_some] <;> rfl) | (simp [*, errW_none, errW_some] <;> rfl), by repeat (first | (with_reducible first | exact HB.out | apply below_alloc | apply pw_below_drewN | apply below_drew1 | refine below_set ?_ GE556.out) | exact HB.out)⟩
  · rw [if_neg c6] at H
    have c6b0 : (t567 == 0) = false := beq_eq_false_iff_ne.mpr c6
    have c6b1 : (t567 != 0) = true := bne_iff_ne.mpr c6
    by_cases c19 : t563.size + 1 ≤ 9223372036854775807
    · rw [if_pos c19] at H
      have c19b0 := eq_true c19
      have c19b1 : decide (t563.size + 1 ≤ 9223372036854775807) = true := decide_eq_true c19
      try have c19b2 : (9223372036854775807 < t563.size + 1) = False := eq_false (Nat.not_lt.2 c19)
      replace H := Option.bind_eq_some_iff.mp H
      obtain ⟨t568, A200, H⟩ := H
      replace H : (if t563.size + 1 + t568.size ≤ 9223372036854775807 then (some ((t563 ++ (⟨#[47]⟩ : ByteArray)) ++ t568)) else (none)) = some r := H
      have A20 := Aside0.mk A200
      clear A200
      by_cases c21 : t563.size + 1 + t568.size ≤ 9223372036854775807
      · rw [if_pos c21] at H
        have c21b0 := eq_true c21
        have c21b1 : decide (t563.size + 1 + t568.size ≤ 9223372036854775807) = true := decide_eq_true c21
        try have c21b2 : (9223372036854775807 < t563.size + 1 + t568.size) = False := eq_false (Nat.not_lt.2 c21)
        obtain rfl := Option.some.inj H
        go_enter Try.func34, Try.ntmps34
        try go_wp2_with (first | ((with_reducible refine gate_dst (N := 1) rfl ?_); refine box_event ?hg (N := 1) ?hd (cs := #[.slice A0_0 l0_0.length c0_0, .slice A0_1 l0_1.length c0_1]) (t := 45) ?hr ?_; (case hd => rfl); (case hg => rfl); (case hr => first | (go_simp; done) | (go_simp; rfl)); intro gb556 hg w22 hbox hb; have n0_ := Aside0.mk (below_step (by repeat (first | (with_reducible first | exact HB.out | apply below_alloc | apply pw_below_drewN | apply below_drew1) | exact HB.out)) hb); have n1_ := Aside0.mk (hbox); have n2_ := Aside0.mk ((by rw [hg]; exact (below_size (by repeat (first | (with_reducible first | exact HB.out | apply below_alloc | apply pw_below_drewN | apply below_drew1) | exact HB.out))) : w.heap.size ≤ gb556)); have n3_ := Aside0.mk ((by rw [hg]; exact (below_size (by repeat (first | (with_reducible first | exact HB.out | apply below_alloc | apply pw_below_drewN | apply below_drew1) | exact HB.out))) : w.heap.size ≤ gb556)); clear HB; have HB := n0_; have BK556 := n1_; have GW556 := n2_; have GE556 := n3_; clear n0_ n1_ n2_ n3_; clear hb hbox hg; have hcz23_0 : w22.cell? ⟨gb556, 0, none⟩ = some (.slice A0_0 l0_0.length c0_0) := (blk_cell BK556.out 0).trans rfl; have hcz23_1 : w22.cell? ⟨gb556, 1, none⟩ = some (.slice A0_1 l0_1.length c0_1) := (blk_cell BK556.out 1).trans rfl; have hfz23_0 := blk_frozen BK556.out 0; have hfz23_1 := blk_frozen BK556.out 1) | ((with_reducible refine gate_callee (f := 30) rfl ?_); refine goesL_ (some 5) rfl rfl Try.func30 (by kernel_rfl) rfl #[.agg #[.slice A0_0 l0_0.length c0_0, .slice A0_1 l0_1.length c0_1]] rfl (by (try simp only [List.map_toArray, List.map_cons, List.map_nil]); first | done | rfl | (simp only [List.length_drop, List.length_take]; rfl)) ?_; (with_reducible refine (ratio_Least.calls k (fun k_ => k_ < w.heap.size) _ _ l0_0 (fun k_ => k_ < w.heap.size) _ _ l0_1 t557 t560 _ ?side1 ?side2 A2.out).mono ?_); (case side1 => exact Kd.V_mk HC0_0.out (Kd.F_below (Kd.C_F (Kd.heap_int .u32) HR0_0.out) (by repeat (first | (with_reducible first | exact HB.out | apply below_alloc | apply pw_below_drewN | apply below_drew1 | refine below_set ?_ GE556.out) | exact HB.out)))); (case side2 => exact Kd.V_mk HC0_1.out (Kd.F_below (Kd.C_F (Kd.heap_int .u32) HR0_1.out) (by repeat (first | (with_reducible first | exact HB.out | apply below_alloc | apply pw_below_drewN | apply below_drew1 | refine below_set ?_ GE556.out) | exact HB.out)))); rintro e w24 ⟨v558, v561, rfl, ho0, ho1, hb⟩; refine ⟨_, rfl, ?_⟩; have n0_ := Aside0.mk (Kd.V_lower (Kd.V_mono (ok' := fun k_ => k_ ≠ gb556) ho0 (fun k_ hk_ => Or.elim hk_ (fun hs_ => Or.elim hs_ (fun hs_ => fun e_ => Nat.not_le.2 hs_ (by rw [e_]; exact GW556.out)) (fun hs_ => fun e_ => Nat.not_le.2 hs_ (by rw [e_]; exact GW556.out))) (fun hn_ => (Kd.freshB (g := gb556) (o := .cells #[.slice A0_0 l0_0.length c0_0, .slice A0_1 l0_1.length c0_1] 45 (0, 0)) (by (with_reducible repeat (first | refine blk_drewN ?_ _ | refine blk_drew ?_ | refine blk_alloc ?_ _)); exact BK556.out) k_ hn_)))) (below_size (by repeat (first | (with_reducible first | exact HB.out | apply below_alloc | apply pw_below_drewN | apply below_drew1 | refine below_set ?_ GE556.out) | exact HB.out)))); have n1_ := Aside0.mk (Kd.V_lower (Kd.V_mono (ok' := fun k_ => k_ ≠ gb556) ho1 (fun k_ hk_ => Or.elim hk_ (fun hs_ => Or.elim hs_ (fun hs_ => fun e_ => Nat.not_le.2 hs_ (by rw [e_]; exact GW556.out)) (fun hs_ => fun e_ => Nat.not_le.2 hs_ (by rw [e_]; exact GW556.out))) (fun hn_ => (Kd.freshB (g := gb556) (o := .cells #[.slice A0_0 l0_0.length c0_0, .slice A0_1 l0_1.length c0_1] 45 (0, 0)) (by (with_reducible repeat (first | refine blk_drewN ?_ _ | refine blk_drew ?_ | refine blk_alloc ?_ _)); exact BK556.out) k_ hn_)))) (below_size (by repeat (first | (with_reducible first | exact HB.out | apply below_alloc | apply pw_below_drewN | apply below_drew1 | refine below_set ?_ GE556.out) | exact HB.out)))); have n2_ := Aside0.mk (blk_below (g := gb556) (o := .cells #[.slice A0_0 l0_0.length c0_0, .slice A0_1 l0_1.length c0_1] 45 (0, 0)) (by (with_reducible repeat (first | refine blk_drewN ?_ _ | refine blk_drew ?_ | refine blk_alloc ?_ _)); exact BK556.out) hb); have n3_ := Aside0.mk (below_step (by repeat (first | (with_reducible first | exact HB.out | apply below_alloc | apply pw_below_drewN | apply below_drew1 | refine below_set ?_ GE556.out) | exact HB.out)) hb); clear BK556; clear HB; have HO559 := n0_; have HO562 := n1_; have BK556 := n2_; have HB := n3_; clear n0_ n1_ n2_ n3_; (try clear hb); (try clear hb2); (try clear hk); (try clear hi); (try clear ho0); (try clear ho1); obtain ⟨Ao25, co25, eo25⟩ := Kd.V_slice HO559.out; subst eo25; have hcz26_0 : w24.cell? ⟨gb556, 0, none⟩ = some (.slice A0_0 l0_0.length c0_0) := (blk_cell BK556.out 0).trans rfl; have hcz26_1 : w24.cell? ⟨gb556, 1, none⟩ = some (.slice A0_1 l0_1.length c0_1) := (blk_cell BK556.out 1).trans rfl; have hfz26_0 := blk_frozen BK556.out 0; have hfz26_1 := blk_frozen BK556.out 1; obtain ⟨Ao27, co27, eo27⟩ := Kd.V_slice HO562.out; subst eo27) | ((with_reducible refine gate_store (t := 45) (p := 1) rfl ?_); refine store_event (t := 45) (p := 1) (v := ?vo_w28) (w1 := ((w24.setCell ⟨gb556, 0, none⟩ (.slice Ao25 t557.length co25)).setCell ⟨gb556, 1, none⟩ (.slice Ao27 t560.length co27))) ?hg ?ho ?hn ?hr ?_; (case ho => rfl); (case hg => rfl); (case hn => rfl); (case hr => first | (go_simp; done) | (go_simp; rfl)); intro w28 hw; have n0_ : Aside0 (Kd.V (Kd.int .u32) 30 w28 w.heap.size (fun k_ => k_ ≠ gb556) (.slice Ao25 t557.length co25) t557) := ⟨(by rw [hw]; exact (by (with_reducible repeat (first | apply Kd.V_alloc | apply Kd.V_drewN | apply Kd.V_drew)); exact Kd.V_mono (Kd.V_far (p := ⟨gb556, 1, none⟩) (Kd.V_far (p := ⟨gb556, 0, none⟩) (Kd.V_mono HO559.out (fun k_ hk => (⟨hk, hk⟩ : _ ∧ k_ ≠ gb556))) (fun _ hk => hk.2) (.slice Ao25 t557.length co25)) (fun _ hk => hk.2) (.slice Ao27 t560.length co27)) (fun _ hk => hk.1)))⟩; have n1_ : Aside0 (Kd.V (Kd.int .u32) 30 w28 w.heap.size (fun k_ => k_ ≠ gb556) (.slice Ao27 t560.length co27) t560) := ⟨(by rw [hw]; exact (by (with_reducible repeat (first | apply Kd.V_alloc | apply Kd.V_drewN | apply Kd.V_drew)); exact Kd.V_mono (Kd.V_far (p := ⟨gb556, 1, none⟩) (Kd.V_far (p := ⟨gb556, 0, none⟩) (Kd.V_mono HO562.out (fun k_ hk => (⟨hk, hk⟩ : _ ∧ k_ ≠ gb556))) (fun _ hk => hk.2) (.slice Ao25 t557.length co25)) (fun _ hk => hk.2) (.slice Ao27 t560.length co27)) (fun _ hk => hk.1)))⟩; have n2_ : Aside0 (w28.heap[gb556]? = some (.cells #[.slice Ao25 t557.length co25, .slice Ao27 t560.length co27] 45 (0, 0))) := ⟨(by rw [hw]; exact (by (with_reducible repeat (first | refine blk_drewN ?_ _ | refine blk_drew ?_ | refine blk_alloc ?_ _)); refine blk_put (cs := #[.slice Ao25 t557.length co25, .slice A0_1 l0_1.length c0_1]) ?_ 1 _ rfl; (with_reducible repeat (first | refine blk_drewN ?_ _ | refine blk_drew ?_ | refine blk_alloc ?_ _)); refine blk_put (cs := #[.slice A0_0 l0_0.length c0_0, .slice A0_1 l0_1.length c0_1]) ?_ 0 _ rfl; (with_reducible repeat (first | refine blk_drewN ?_ _ | refine blk_drew ?_ | refine blk_alloc ?_ _)); exact BK556.out))⟩; have n3_ : Aside0 (Below w.heap.size w w28) := ⟨(by rw [hw]; exact (by repeat (first | (with_reducible first | exact HB.out | apply below_alloc | apply pw_below_drewN | apply below_drew1 | refine below_set ?_ GE556.out) | exact HB.out)))⟩; clear hw; clear HO559; clear HO562; clear BK556; clear HB; have HO559 := n0_; have HO562 := n1_; have BK556 := n2_; have HB := n3_; clear n0_ n1_ n2_ n3_; have hcz29_0 : w28.cell? ⟨gb556, 0, none⟩ = some (.slice Ao25 t557.length co25) := (blk_cell BK556.out 0).trans rfl; have hcz29_1 : w28.cell? ⟨gb556, 1, none⟩ = some (.slice Ao27 t560.length co27) := (blk_cell BK556.out 1).trans rfl; have hfz29_0 := blk_frozen BK556.out 0; have hfz29_1 := blk_frozen BK556.out 1) | ((with_reducible refine gate_callee (f := 49) rfl ?_); refine goesL_ (some 8) rfl rfl Try.func49 (by kernel_rfl) rfl #[.slice Ao25 t557.length co25] rfl (by (try simp only [List.map_toArray, List.map_cons, List.map_nil]); first | done | rfl | (simp only [List.length_drop, List.length_take]; rfl)) ?_; (with_reducible refine (nat_Text.calls k (fun k_ => k_ ≠ gb556) _ _ t557 t563 _ ?side1 A3.out).mono ?_); (case side1 => exact HO559.out); rintro e w30 ⟨rfl, hb⟩; refine ⟨_, rfl, ?_⟩; have n0_ := Aside0.mk (Kd.V_below (by (with_reducible repeat (first | apply Kd.V_alloc | apply Kd.V_drewN | apply Kd.V_drew)); exact HO559.out) hb); have n1_ := Aside0.mk (Kd.V_below (by (with_reducible repeat (first | apply Kd.V_alloc | apply Kd.V_drewN | apply Kd.V_drew)); exact HO562.out) hb); have n2_ := Aside0.mk (blk_below (g := gb556) (o := .cells #[.slice Ao25 t557.length co25, .slice Ao27 t560.length co27] 45 (0, 0)) (by (with_reducible repeat (first | refine blk_drewN ?_ _ | refine blk_drew ?_ | refine blk_alloc ?_ _)); exact BK556.out) hb); have n3_ := Aside0.mk (below_step (by repeat (first | (with_reducible first | exact HB.out | apply below_alloc | apply pw_below_drewN | apply below_drew1 | refine below_set ?_ GE556.out) | exact HB.out)) hb); clear HO559; clear HO562; clear BK556; clear HB; have HO559 := n0_; have HO562 := n1_; have BK556 := n2_; have HB := n3_; clear n0_ n1_ n2_ n3_; (try clear hb); (try clear hb2); (try clear hk); (try clear hi)))
        have n0_ := Aside0.mk (Kd.V_drew HO559.out)
        have n1_ := Aside0.mk (Kd.V_drew HO562.out)
        have n2_ := Aside0.mk (blk_drew BK556.out)
        have n3_ := Aside0.mk (below_drew1 HB.out)
        clear HO559
        clear HO562
        clear BK556
        clear HB
        have HO559 := n0_
        have HO562 := n1_
        have BK556 := n2_
        have HB := n3_
        clear n0_ n1_ n2_ n3_
        refine start_ (n := 5) (S := fun w' => w'.cell? ⟨gb556, 0, none⟩ = some (.slice Ao25 t557.length co25) ∧ w'.cell? ⟨gb556, 1, none⟩ = some (.slice Ao27 t560.length co27)) (ds := []) #[false, false, false, false, false] (by kernel_rfl) rfl rfl ⟨(blk_cell BK556.out 0).trans rfl, (blk_cell BK556.out 1).trans rfl⟩ (fun hHeld => ?_)
        generalize w30.drew = w31 at HO559 HO562 BK556 HB hHeld ⊢
        refine pure_ (i := 0) (N := some 9) (v := ?_) (a' := ?_) #[true, false, false, false, false] rfl rfl (by kernel_rfl) (fun _ _ _ h => h) (Or.inl ⟨by rfl, ?_⟩) ?_ ?_
        rotate_left
        · intro w'
          go_simp
          with_reducible rfl
        rotate_left
        · simp only [Act.put, List.setIfInBounds_toArray, List.set_cons_zero, List.set_cons_succ, i64_w, i32_w]
          rfl
        refine take_ (i := 1) (N := some 10) (v := ?_) (a' := ?_) #[true, true, false, false, false] rfl rfl (by kernel_rfl) (fun _ _ _ h => h) (Or.inl ⟨by rfl, ?_⟩) hHeld ?_ ?_
        rotate_left
        · rintro w' ⟨s0, s1⟩
          go_simp
          with_reducible rfl
        rotate_left
        · simp only [Act.put, List.setIfInBounds_toArray, List.set_cons_zero, List.set_cons_succ, i64_w, i32_w]
          rfl
        refine one_ (i := 2) (N := some 11) #[true, true, true, false, false] rfl rfl (by kernel_rfl) (by decide) (fun K hK => ?_)
        refine goes_ Try.func27 (by kernel_rfl) rfl #[.int .u64 1] (by rfl) rfl rfl (by (try simp only [List.map_toArray, List.map_cons, List.map_nil]); first | done | rfl | (simp only [List.length_drop, List.length_take]; rfl)) ?_
        with_reducible refine (nat_Of.calls 1 t564 _ A4.out).mono ?_
        rintro e w32 ⟨v565, rfl, ho0, hb⟩
        refine ⟨_, rfl, ?_⟩
        have n0_ := Aside0.mk (Kd.V_below (by (with_reducible repeat (first | apply Kd.V_alloc | apply Kd.V_drewN | apply Kd.V_drew)); exact HO559.out) hb)
        have n1_ := Aside0.mk (Kd.V_below (by (with_reducible repeat (first | apply Kd.V_alloc | apply Kd.V_drewN | apply Kd.V_drew)); exact HO562.out) hb)
        have n2_ := Aside0.mk (Kd.V_lower (Kd.V_mono (ok' := fun k_ => k_ ≠ gb556) ho0 (fun k_ hk_ => (Kd.freshB (g := gb556) (o := .cells #[.slice Ao25 t557.length co25, .slice Ao27 t560.length co27] 45 (0, 0)) (by (with_reducible repeat (first | refine blk_drewN ?_ _ | refine blk_drew ?_ | refine blk_alloc ?_ _)); exact BK556.out) k_ hk_))) (below_size (by repeat (first | (with_reducible first | exact HB.out | apply below_alloc | apply pw_below_drewN | apply below_drew1 | refine below_set ?_ GE556.out) | exact HB.out))))
        have n3_ := Aside0.mk (blk_below (g := gb556) (o := .cells #[.slice Ao25 t557.length co25, .slice Ao27 t560.length co27] 45 (0, 0)) (by (with_reducible repeat (first | refine blk_drewN ?_ _ | refine blk_drew ?_ | refine blk_alloc ?_ _)); exact BK556.out) hb)
        have n4_ := Aside0.mk (below_step (by repeat (first | (with_reducible first | exact HB.out | apply below_alloc | apply pw_below_drewN | apply below_drew1 | refine below_set ?_ GE556.out) | exact HB.out)) hb)
        clear HO559
        clear HO562
        clear BK556
        clear HB
        have HO559 := n0_
        have HO562 := n1_
        have HO566 := n2_
        have BK556 := n3_
        have HB := n4_
        clear n0_ n1_ n2_ n3_ n4_
        (try clear hb)
        (try clear hb2)
        (try clear hk)
        (try clear hi)
        (try clear ho0)
        obtain ⟨Ao33, co33, eo33⟩ := Kd.V_slice HO566.out
        (first | subst eo33 | (injection eo33 with f1_ f2_ f3_; have f4_ := f1_.symm; have f5_ := f3_.symm; clear f1_ f2_ f3_; subst f4_; subst f5_))
        refine hK.out _ _ ⟨(blk_cell BK556.out 0).trans rfl, (blk_cell BK556.out 1).trans rfl⟩ (fun hHeld => ?_)
        clear hK K
        refine norm_ (a' := ?_) ?_ ?_
        rotate_left
        · show Act.put _ (some 11) _ = _
          simp only [Act.put, List.setIfInBounds_toArray, List.set_cons_zero, List.set_cons_succ, i64_w, i32_w]
          rfl
        refine one_ (i := 3) (N := some 12) #[true, true, true, true, false] rfl rfl (by kernel_rfl) (by decide) (fun K hK => ?_)
        refine goes_ Try.func19 (by kernel_rfl) rfl #[.slice Ao27 t560.length co27, .slice Ao33 t564.length co33] (by rfl) rfl rfl (by (try simp only [List.map_toArray, List.map_cons, List.map_nil]); first | done | rfl | (simp only [List.length_drop, List.length_take]; rfl)) ?_
        with_reducible refine (nat_Cmp.calls k _ _ t560 _ _ t564 t567 _ ?side1 ?side2 ?side3 ?side4 A5.out).mono ?_
        (case side1 => repeat (first | exact (Kd.V_reads' HO562.out).2.2 | (with_reducible refine Kd.C_alloc ?_ _) | (with_reducible refine Kd.C_drewN ?_ _) | (with_reducible refine Kd.C_drew ?_)))
        (case side2 => exact (Kd.V_reads' HO562.out).2.1)
        (case side3 => repeat (first | exact (Kd.V_reads' HO566.out).2.2 | (with_reducible refine Kd.C_alloc ?_ _) | (with_reducible refine Kd.C_drewN ?_ _) | (with_reducible refine Kd.C_drew ?_)))
        (case side4 => exact (Kd.V_reads' HO566.out).2.1)
        rintro e w' ⟨rfl, ⟨nd, rfl⟩⟩
        refine ⟨_, rfl, ?_⟩
        refine hK.out _ _ ⟨(blk_cell BK556.out 0).trans rfl, (blk_cell BK556.out 1).trans rfl⟩ (fun hHeld => ?_)
        clear hK K
        refine norm_ (a' := ?_) ?_ ?_
        rotate_left
        · show Act.put _ (some 12) _ = _
          simp only [Act.put, List.setIfInBounds_toArray, List.set_cons_zero, List.set_cons_succ, i64_w, i32_w]
          rfl
        refine pure_ (i := 4) (N := some 13) (v := ?_) (a' := ?_) #[true, true, true, true, true] rfl rfl (by kernel_rfl) (fun _ _ _ h => h) (Or.inl ⟨by rfl, ?_⟩) ?_ ?_
        rotate_left
        · intro w'
          go_simp
          with_reducible rfl
        rotate_left
        · simp only [Act.put, List.setIfInBounds_toArray, List.set_cons_zero, List.set_cons_succ, i64_w, i32_w]
          rfl
        refine done_ (by kernel_rfl) ?_
        have hcz34_0 : w32.cell? ⟨gb556, 0, none⟩ = some (.slice Ao25 t557.length co25) := (blk_cell BK556.out 0).trans rfl
        have hcz34_1 : w32.cell? ⟨gb556, 1, none⟩ = some (.slice Ao27 t560.length co27) := (blk_cell BK556.out 1).trans rfl
        have hfz34_0 := blk_frozen BK556.out 0
        have hfz34_1 := blk_frozen BK556.out 1
        try go_wp2_with (first | ((with_reducible refine gate_callee (f := 49) rfl ?_); refine goesL_ (some 19) rfl rfl Try.func49 (by kernel_rfl) rfl #[.slice Ao27 t560.length co27] rfl (by (try simp only [List.map_toArray, List.map_cons, List.map_nil]); first | done | rfl | (simp only [List.length_drop, List.length_take]; rfl)) ?_; (with_reducible refine (nat_Text.calls k (fun k_ => k_ ≠ gb556) _ _ t560 t568 _ ?side1 A20.out).mono ?_); (case side1 => exact HO562.out); rintro e w35 ⟨rfl, hb⟩; refine ⟨_, rfl, ?_⟩; have n0_ := Aside0.mk (Kd.V_below (by (with_reducible repeat (first | apply Kd.V_alloc | apply Kd.V_drewN | apply Kd.V_drew)); exact HO559.out) hb); have n1_ := Aside0.mk (Kd.V_below (by (with_reducible repeat (first | apply Kd.V_alloc | apply Kd.V_drewN | apply Kd.V_drew)); exact HO562.out) hb); have n2_ := Aside0.mk (Kd.V_below (by (with_reducible repeat (first | apply Kd.V_alloc | apply Kd.V_drewN | apply Kd.V_drew)); exact HO566.out) hb); have n3_ := Aside0.mk (blk_below (g := gb556) (o := .cells #[.slice Ao25 t557.length co25, .slice Ao27 t560.length co27] 45 (0, 0)) (by (with_reducible repeat (first | refine blk_drewN ?_ _ | refine blk_drew ?_ | refine blk_alloc ?_ _)); exact BK556.out) hb); have n4_ := Aside0.mk (below_step (by repeat (first | (with_reducible first | exact HB.out | apply below_alloc | apply pw_below_drewN | apply below_drew1 | refine below_set ?_ GE556.out) | exact HB.out)) hb); clear HO559; clear HO562; clear HO566; clear BK556; clear HB; have HO559 := n0_; have HO562 := n1_; have HO566 := n2_; have BK556 := n3_; have HB := n4_; clear n0_ n1_ n2_ n3_ n4_; (try clear hb); (try clear hb2); (try clear hk); (try clear hi)))
        go_ret
        exact ⟨by first | rfl | (simp [errW_none, errW_some] <;> rfl) | (simp [*, errW_none, errW_some] <;> rfl), by repeat (first | (with_reducible first | exact HB.out | apply below_alloc | apply pw_below_drewN | apply below_drew1 | refine below_set ?_ GE556.out) | exact HB.out)⟩
      · rw [if_neg c21] at H
        exact absurd H (by simp)
    · rw [if_neg c19] at H
      exact absurd H (by simp)

end Go.Proofs.Ytcfliceeablckaa.PNr
