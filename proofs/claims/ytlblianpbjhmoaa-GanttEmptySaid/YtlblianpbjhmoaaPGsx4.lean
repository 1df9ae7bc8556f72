-- Written by wip/rprint.py of this session's repo (the kit's printer with patches), out of the translation. Not trusted: Lean checks it.
import Derived.Test.YtlblianpbjhmoaaPGsx0
import Derived.Test.YtlblianpbjhmoaaPGsx2
import Derived.Test.YtlblianpbjhmoaaPGsx3
namespace Go.Proofs.Ytlblianpbjhmoaa.PGs
open Go.RowKit Go.Proofs.YtlblianpbjhmoaaW.PrintWords Go.Proofs.YtlblianpbjhmoaaW.PrintLast Go.Proofs.YtlblianpbjhmoaaW.PrintMore Go.Proofs.Ytlblianpbjhmoaa.MWords
attribute [local go_sem] max2_int min2_int max_two min_two max_three min_three max_four min_four   -- for this text's walks alone
set_option linter.unusedVariables false
set_option linter.unusedSimpArgs false

/-! ### gantt_Check: function 39 -/
section
open Go.Proofs.Ytlblianpbjhmoaa.MWords Go.Proofs.Ytlblianpbjhmoaa.MBuild
theorem take_getD {α : Type} (l : List α) (d : α) (i : Nat) (h : i < l.length) : l.take (i + 1) = l.take i ++ [l.getD i d] := by
  rw [List.take_add_one, List.getElem?_eq_getElem h]
  simp [List.getD, List.getElem?_eq_getElem h]
def ganttWideRun (l : List S59) : Bool := l.any (fun r => decide (r.f0 ≥ 64))
def ganttWide (l : List S57) : Bool := l.any (fun s => ganttWideRun s.f1)

theorem gantt_wide0 (a b c : Int) (w : World) :
    Calls Try.prog 64 #[.agg #[.int .i64 a, .int .i64 b, .int .i64 c]] w fun e w' => e = .returned (.bool (decide (a ≥ 64))) ∧ Below w.heap.size w w' := by
  go_enter Try.func64, Try.ntmps64
  go_wp2_with fail
  go_ret
  exact ⟨rfl, (Below.refl _ _).alloc (Nat.le_refl _) _⟩

set_option maxHeartbeats 400000 in
theorem gantt_index0 (A : Option Addr) (c : Nat) (l : List S59) (w : World) (hr : Kd.C k59 w A l.length l) (hc : l.length ≤ c) :
    Calls Try.prog 73 #[.slice A l.length c, .func (.func 64) #[] #[]] w fun e w' => (∃ k : Int, e = .returned (.int .i64 k) ∧ decide (k ≥ 0) = ganttWideRun l) ∧ Below w.heap.size w w' := by
  have HR := Aside0.mk hr
  clear hr
  have hl : l.length ≤ 9223372036854775807 := HR.out.2.1
  go_enter Try.func73, Try.ntmps73
  go_wp2_with fail
  go_loopw [8] (fun v wr => ∃ i : Nat, v = .int .i64 i ∧ i ≤ l.length ∧ Aside0 (ganttWideRun (l.take i) = false) ∧ Aside0 (Below w.heap.size w wr)) (fun v _ => l.length - (intOf v).toNat)
  case atStart => exact ⟨0, rfl, by omega, ⟨rfl⟩, ⟨Below.refl _ _⟩⟩
  case round =>
    obtain ⟨i, rfl, hi, HH, HB⟩ := hrel
    by_cases hlt : i < l.length
    · obtain ⟨ad, e, hx0, hx1, hx2⟩ := at_T59 (Kd.C_below HR.out HB.out) (i : Int) (by omega) (by omega)
      subst e
      simp only [Int.toNat_natCast] at hx0 hx1 hx2
      have ht := Aside0.mk (take_getD l z59 i hlt)
      have hX : l.getD i z59 = rd_T59 l (i : Int) := by simp [rd_T59]
      rw [hX] at ht
      clear hX
      go_wp2_with fail
      refine (gantt_wide0 _ _ _ _).mono ?_
      rintro e w1 ⟨rfl, hb⟩
      have HB1 := Aside0.mk (below_step HB.out hb)
      clear hb
      dsimp only
      by_cases hx : (rd_T59 l (i : Int)).f0 ≥ 64
      · simp only [hx, decide_true]
        go_wp2_with fail
        go_ret
        refine ⟨⟨i, rfl, ?_⟩, HB1.out⟩
        have h1 : ganttWideRun (l.take (i + 1)) = true := by
          rw [ht.out]
          simp [ganttWideRun, hx]
        have h2 : ganttWideRun l = true := by
          unfold ganttWideRun at h1 ⊢
          rw [List.any_eq_true] at h1 ⊢
          obtain ⟨x, hx, hy⟩ := h1
          exact ⟨x, List.mem_of_mem_take hx, hy⟩
        rw [h2]
        exact decide_eq_true (by omega)
      · simp only [hx, decide_false]
        go_wp2_with fail
        go_round
        case rel =>
          refine ⟨i + 1, by go_num, by omega, ⟨?_⟩, HB1⟩
          rw [ht.out]
          have h0 := HH.out
          unfold ganttWideRun at h0 ⊢
          rw [List.any_append, h0]
          simpa using hx
        case measure => simp [intOf]; omega
    · have hie : i = l.length := by omega
      subst hie
      go_wp2_with fail
      go_ret
      refine ⟨⟨-1, rfl, ?_⟩, HB.out⟩
      have h0 := HH.out
      rw [List.take_length] at h0
      rw [h0]
      rfl

theorem gantt_contains0 (A : Option Addr) (c : Nat) (l : List S59) (w : World) (hr : Kd.C k59 w A l.length l) (hc : l.length ≤ c) :
    Calls Try.prog 63 #[.slice A l.length c, .func (.func 64) #[] #[]] w fun e w' => e = .returned (.bool (ganttWideRun l)) ∧ Below w.heap.size w w' := by
  go_enter Try.func63, Try.ntmps63
  go_wp2_with fail
  refine (gantt_index0 A c l w hr hc).mono ?_
  rintro e w1 ⟨⟨k, rfl, hk⟩, hb⟩
  go_wp2_with fail
  go_ret
  exact ⟨rfl, hb⟩

theorem gantt_wide1 (a : Int) (A : Option Addr) (c : Nat) (l : List S59) (w : World) (hr : Kd.C k59 w A l.length l) (hc : l.length ≤ c) :
    Calls Try.prog 62 #[.agg #[.int .i64 a, .slice A l.length c]] w fun e w' => e = .returned (.bool (ganttWideRun l)) ∧ Below w.heap.size w w' := by
  have HR := Aside0.mk hr
  clear hr
  go_enter Try.func62, Try.ntmps62
  go_wp2_with fail
  refine (gantt_contains0 A c l _ (Kd.C_below HR.out ((Below.refl w.heap.size w).alloc (Nat.le_refl _) _)) hc).mono ?_
  rintro e w1 ⟨rfl, hb⟩
  have HB := Aside0.mk (below_step ((Below.refl w.heap.size w).alloc (Nat.le_refl _) _) hb)
  clear hb
  go_wp2_with fail
  go_ret
  exact ⟨rfl, HB.out⟩

set_option maxHeartbeats 400000 in
theorem gantt_index1 (A : Option Addr) (c : Nat) (l : List S57) (w : World) (hr : Kd.C k57 w A l.length l) (hc : l.length ≤ c) :
    Calls Try.prog 74 #[.slice A l.length c, .func (.func 62) #[] #[]] w fun e w' => (∃ k : Int, e = .returned (.int .i64 k) ∧ decide (k ≥ 0) = ganttWide l) ∧ Below w.heap.size w w' := by
  have HR := Aside0.mk hr
  clear hr
  have hl : l.length ≤ 9223372036854775807 := HR.out.2.1
  go_enter Try.func74, Try.ntmps74
  go_wp2_with fail
  go_loopw [8] (fun v wr => ∃ i : Nat, v = .int .i64 i ∧ i ≤ l.length ∧ Aside0 (ganttWide (l.take i) = false) ∧ Aside0 (Below w.heap.size w wr)) (fun v _ => l.length - (intOf v).toNat)
  case atStart => exact ⟨0, rfl, by omega, ⟨rfl⟩, ⟨Below.refl _ _⟩⟩
  case round =>
    obtain ⟨i, rfl, hi, HH, HB⟩ := hrel
    by_cases hlt : i < l.length
    · obtain ⟨ad, A1, c1, e, hx0, hx1, hl1, hr1⟩ := at_T57 (Kd.C_below HR.out HB.out) (i : Int) (by omega) (by omega)
      subst e
      simp only [Int.toNat_natCast] at hx0 hx1
      have ht := Aside0.mk (take_getD l z57 i hlt)
      have hX : l.getD i z57 = rd_T57 l (i : Int) := by simp [rd_T57]
      rw [hX] at ht
      clear hX
      have HR1 := Aside0.mk hr1
      clear hr1
      go_wp2_with fail
      refine (gantt_wide1 _ _ _ _ _ HR1.out hl1).mono ?_
      rintro e w1 ⟨rfl, hb⟩
      have HB1 := Aside0.mk (below_step HB.out hb)
      clear hb
      dsimp only
      by_cases hx : ganttWideRun (rd_T57 l (i : Int)).f1 = true
      · rw [hx]
        go_wp2_with fail
        go_ret
        refine ⟨⟨i, rfl, ?_⟩, HB1.out⟩
        have h1 : ganttWide (l.take (i + 1)) = true := by
          rw [ht.out]
          simp [ganttWide, hx]
        have h2 : ganttWide l = true := by
          unfold ganttWide at h1 ⊢
          rw [List.any_eq_true] at h1 ⊢
          obtain ⟨x, hx, hy⟩ := h1
          exact ⟨x, List.mem_of_mem_take hx, hy⟩
        rw [h2]
        exact decide_eq_true (by omega)
      · have hx' : ganttWideRun (rd_T57 l (i : Int)).f1 = false := by simpa using hx
        rw [hx']
        go_wp2_with fail
        go_round
        case rel =>
          refine ⟨i + 1, by go_num, by omega, ⟨?_⟩, HB1⟩
          rw [ht.out]
          have h0 := HH.out
          unfold ganttWide at h0 ⊢
          rw [List.any_append, h0]
          simpa using hx'
        case measure => simp [intOf]; omega
    · have hie : i = l.length := by omega
      subst hie
      go_wp2_with fail
      go_ret
      refine ⟨⟨-1, rfl, ?_⟩, HB.out⟩
      have h0 := HH.out
      rw [List.take_length] at h0
      rw [h0]
      rfl

theorem gantt_contains1 (A : Option Addr) (c : Nat) (l : List S57) (w : World) (hr : Kd.C k57 w A l.length l) (hc : l.length ≤ c) :
    Calls Try.prog 65 #[.slice A l.length c, .func (.func 62) #[] #[]] w fun e w' => e = .returned (.bool (ganttWide l)) ∧ Below w.heap.size w w' := by
  go_enter Try.func65, Try.ntmps65
  go_wp2_with fail
  refine (gantt_index1 A c l w hr hc).mono ?_
  rintro e w1 ⟨⟨k, rfl, hk⟩, hb⟩
  go_wp2_with fail
  go_ret
  exact ⟨rfl, hb⟩

def gantt_Check.f (k : Nat) (l0 : List S57) (a1 : Int) : Option Bool :=
  if a1 > 0 ∧ a1 ≤ 64 ∧ (l0.length : Int) ≤ 1000 then (slot_Row.f k l0 a1).bind fun b => some (b && !ganttWide l0) else some false
set_option maxHeartbeats 400000 in
theorem gantt_Check.calls (k : Nat) (A0 : Option Addr) (c0 : Nat) (l0 : List S57) (a1 : Int) (r : Bool) (w : World) (hr0 : Kd.C k57 w A0 l0.length l0) (hc0 : l0.length ≤ c0) (h : gantt_Check.f k l0 a1 = some r) :
    Calls Try.prog 39 #[.slice A0 l0.length c0, .int .i64 a1] w fun e w' => e = .returned (.bool r) ∧ Below w.heap.size w w' := by
  have HR := Aside0.mk hr0
  clear hr0
  unfold gantt_Check.f at h
  by_cases c1 : a1 > 0
  · by_cases c2 : a1 ≤ 64
    · by_cases c3 : (l0.length : Int) ≤ 1000
      · rw [if_pos ⟨c1, c2, c3⟩] at h
        cases hrow : slot_Row.f k l0 a1 with
        | none => rw [hrow] at h; cases h
        | some b =>
          rw [hrow] at h
          have h := Option.some.inj h
          have HW := Aside0.mk hrow
          clear hrow
          cases b with
          | false =>
            simp only [Bool.false_and] at h
            subst h
            go_enter Try.func39, Try.ntmps39
            go_wp2_with fail
            refine (slot_Row.calls k A0 c0 l0 a1 false _ HR.out hc0 HW.out).mono ?_
            rintro e w1 ⟨rfl, hb⟩
            have HB := Aside0.mk hb
            clear hb
            go_wp2_with fail
            go_ret
            exact ⟨rfl, HB.out⟩
          | true =>
            simp only [Bool.true_and] at h
            subst h
            go_enter Try.func39, Try.ntmps39
            go_wp2_with fail
            refine (slot_Row.calls k A0 c0 l0 a1 true _ HR.out hc0 HW.out).mono ?_
            rintro e w1 ⟨rfl, hb⟩
            have HB := Aside0.mk hb
            clear hb
            go_wp2_with fail
            refine (gantt_contains1 A0 c0 l0 _ (Kd.C_below HR.out HB.out) hc0).mono ?_
            rintro e w2 ⟨rfl, hb2⟩
            have HB2 := Aside0.mk (below_step HB.out hb2)
            clear hb2
            go_wp2_with fail
            go_ret
            exact ⟨rfl, HB2.out⟩
      · rw [if_neg (fun h => c3 h.2.2)] at h
        obtain rfl := Option.some.inj h
        clear h
        go_enter Try.func39, Try.ntmps39
        go_wp2_with fail
        go_ret
        exact ⟨rfl, Below.refl _ _⟩
    · rw [if_neg (fun h => c2 h.2.1)] at h
      obtain rfl := Option.some.inj h
      clear h
      go_enter Try.func39, Try.ntmps39
      go_wp2_with fail
      go_ret
      exact ⟨rfl, Below.refl _ _⟩
  · rw [if_neg (fun h => c1 h.1)] at h
    obtain rfl := Option.some.inj h
    clear h
    go_enter Try.func39, Try.ntmps39
    go_wp2_with fail
    go_ret
    exact ⟨rfl, Below.refl _ _⟩

theorem gantt_Check.mono : ∀ a0 a1 k, LeO (gantt_Check.f k a0 a1) (gantt_Check.f (k + 1) a0 a1) := fun _ _ _ => LeO.ite (LeO.bind (slot_Row.mono _ _ _) (fun _ => LeO.refl _)) (LeO.refl _)
end

/-! ### gantt_runs: function 67 -/
def gantt_runs.l0 : Nat → Int → Int → List (S59) → Int → Int → Option (Int)
  | 0, _, _, _, _, _ => none
  | k + 1, x1, x5, x9, x10, x11 => if x11 < x10 then (if 0 ≤ x11 then (if x11 < (x9.length : Int) then (if ((rd_T59 x9 x11).f1) = x1 then (some ((rd_T59 x9 x11).f0)) else (gantt_runs.l0 k x1 x5 x9 x10 (wrap64 (x11 + 1)))) else (none)) else (none)) else (some x5)
def gantt_runs.f (k : Nat) (a0_0 : Int) (l0_1 : List (S59)) (a1 : Int) : Option (Int) := gantt_runs.l0 k a1 (-1) l0_1 (l0_1.length : Int) 0
theorem gantt_runs.mono_l : ∀ k, (∀ y0 y1 y2 y3 y4, LeO (gantt_runs.l0 k y0 y1 y2 y3 y4) (gantt_runs.l0 (k + 1) y0 y1 y2 y3 y4))
  | 0 => fun _ _ _ _ _ r h => by simp [gantt_runs.l0] at h
  | k + 1 => by
    have ih0 := gantt_runs.mono_l k
    · intro y0 y1 y2 y3 y4
      unfold gantt_runs.l0
      repeat' first
      | (with_reducible exact ih0 _ _ _ _ _)
      | (with_reducible exact LeO.refl _)
      | (with_reducible exact LeO.none _)
      | (with_reducible refine LeO.ite ?_ ?_)
      | (with_reducible refine LeO.bind ?_ (fun _ => ?_))
      | exact ih0 _ _ _ _ _
      | exact LeO.none _
      | refine LeO.ite ?_ ?_
      | refine LeO.bind ?_ (fun _ => ?_)
theorem gantt_runs.mono : ∀ a0 a1 a2 k, LeO (gantt_runs.f k a0 a1 a2) (gantt_runs.f (k + 1) a0 a1 a2) := by
  intro a0 a1 a2 k
  have ih0 := gantt_runs.mono_l k
  unfold gantt_runs.f
  repeat' first
      | (with_reducible exact ih0 _ _ _ _ _)
      | (with_reducible exact LeO.refl _)
      | (with_reducible exact LeO.none _)
      | (with_reducible refine LeO.ite ?_ ?_)
      | (with_reducible refine LeO.bind ?_ (fun _ => ?_))
      | exact ih0 _ _ _ _ _
      | exact LeO.none _
      | refine LeO.ite ?_ ?_
      | refine LeO.bind ?_ (fun _ => ?_)
set_option maxHeartbeats 8000000 in
set_option maxRecDepth 100000 in
theorem gantt_runs.calls (k : Nat) (a0_0 : Int) (A0_1 : Option Addr) (c0_1 : Nat) (l0_1 : List (S59)) (a1 : Int) (r : Int) (w : World) (hr0_1 : Kd.C k59 w A0_1 l0_1.length l0_1) (hc0_1 : l0_1.length ≤ c0_1) (h : gantt_runs.f k a0_0 l0_1 a1 = some r) :
    Calls Try.prog 67 #[.agg #[.int .i64 a0_0, .slice A0_1 l0_1.length c0_1], .int .i64 a1] w fun e w' => e = .returned (.int .i64 r) ∧ Below w.heap.size w w' := by
  have hu57 := Try.underlying57
  have hu59 := Try.underlying59
  have HR0_1 := Aside0.mk hr0_1
  have HC0_1 := Aside0.mk hc0_1
  clear hr0_1 hc0_1
  have HB := Aside0.mk (Below.refl w.heap.size w)
  have H : (gantt_runs.l0 k a1 (-1) l0_1 (l0_1.length : Int) 0) = some r := h
  clear h
  have H' := Aside0.mk H
  clear H
  go_enter Try.func67, Try.ntmps67
  go_wp2_with (first | go_step3 | ((with_reducible refine gate_dst (N := 2) rfl ?_); refine box_event ?hg (N := 2) ?hd (cs := #[.int .i64 a0_0, .slice A0_1 l0_1.length c0_1]) (t := 57) ?hr ?_; (case hd => rfl); (case hg => rfl); (case hr => first | (go_simp; done) | (go_simp; rfl)); intro gb105 hg w3 hbox hb; have n0_ := Aside0.mk (below_step (by repeat (first | (with_reducible first | exact HB.out | apply below_alloc | apply pw_below_drewN | apply below_drew1) | exact HB.out)) hb); have n1_ := Aside0.mk (hbox); have n2_ := Aside0.mk ((by rw [hg]; exact (below_size (by repeat (first | (with_reducible first | exact HB.out | apply below_alloc | apply pw_below_drewN | apply below_drew1) | exact HB.out))) : w.heap.size ≤ gb105)); have n3_ := Aside0.mk ((by rw [hg]; exact (below_size (by repeat (first | (with_reducible first | exact HB.out | apply below_alloc | apply pw_below_drewN | apply below_drew1) | exact HB.out))) : w.heap.size ≤ gb105)); clear HB; have HB := n0_; have BK105 := n1_; have GW105 := n2_; have GE105 := n3_; clear n0_ n1_ n2_ n3_; clear hb hbox hg; have hcz4_0 : w3.cell? ⟨gb105, 0, none⟩ = some (.int .i64 a0_0) := (blk_cell BK105.out 0).trans rfl; have hcz4_1 : w3.cell? ⟨gb105, 1, none⟩ = some (.slice A0_1 l0_1.length c0_1) := (blk_cell BK105.out 1).trans rfl; have hfz4_0 := blk_frozen BK105.out 0; have hfz4_1 := blk_frozen BK105.out 1))
  go_loopg [5, 11] k (fun kq v5 v11 w' => ∃ (x5_1 : Int) (x11_1 : Int), v5 = .int .i64 x5_1 ∧ v11 = .int .i64 x11_1 ∧ Aside0 (gantt_runs.l0 kq a1 x5_1 l0_1 (l0_1.length : Int) x11_1 = some r) ∧ Aside0 (kq ≤ k) ∧ Aside0 (w'.heap[gb105]? = some (.cells #[.int .i64 a0_0, (.slice A0_1 l0_1.length c0_1)] 57 (0, 0))) ∧ Aside0 (Below w.heap.size w w'))
  case atStart => exact ⟨((-1)), (0), (by first | rfl | (simp; done) | (simp [*]; done)), (by first | rfl | (simp; done) | (simp [*]; done)), H', ⟨Nat.le_refl _⟩, ⟨by (with_reducible repeat (first | refine blk_drewN ?_ _ | refine blk_drew ?_ | refine blk_alloc ?_ _)); exact BK105.out⟩, ⟨by repeat (first | (with_reducible first | exact HB.out | apply below_alloc | apply pw_below_drewN | apply below_drew1 | refine below_set ?_ GE105.out) | exact HB.out)⟩⟩
  case round =>
    clear H'
    try clear p2
    try clear hcz4_0
    try clear hcz4_1
    try clear hfz4_0
    try clear hfz4_1
    obtain ⟨x5_1, x11_1, rfl, rfl, HA, HK1, BK105, HB⟩ := hrel
    cases gk with
    | zero => exact absurd HA.out (by simp [gantt_runs.l0])
    | succ k1 =>
      have H := HA.out
      clear HA
      simp only [gantt_runs.l0] at H
      by_cases c5 : x11_1 < (l0_1.length : Int)
      · rw [if_pos c5] at H
        have c5b0 : decide (x11_1 < (l0_1.length : Int)) = true := decide_eq_true c5
        clear c5
        by_cases c6 : 0 ≤ x11_1
        · rw [if_pos c6] at H
          have c6b0 : decide (0 ≤ x11_1) = true := decide_eq_true c6
          clear c6
          by_cases c7 : x11_1 < (l0_1.length : Int)
          · rw [if_pos c7] at H
            have c7b0 : decide (x11_1 < (l0_1.length : Int)) = true := decide_eq_true c7
            clear c7
            by_cases c8 : ((rd_T59 l0_1 x11_1).f1) = a1
            · rw [if_pos c8] at H
              have c8b0 : (((rd_T59 l0_1 x11_1).f1) == a1) = true := beq_iff_eq.mpr c8
              have c8b1 : (((rd_T59 l0_1 x11_1).f1) != a1) = false := bne_eq_false_iff_eq.mpr c8
              clear c8
              obtain rfl := Option.some.inj H
              have p106 : 0 ≤ (x11_1 : Int) := of_decide_eq_true (by first | (with_reducible assumption) | assumption)
              have q106 : x11_1 < (l0_1.length : Int) := of_decide_eq_true (by first | (with_reducible assumption) | assumption)
              obtain ⟨ad106, e106, hx106_0, hx106_1, hx106_2⟩ := at_T59 HR0_1.out x11_1 p106 q106
              cases e106
              replace hx106_0 := (HB.out.cell (World.block_lt_of_cell? w _ hx106_0)).trans hx106_0
              replace hx106_1 := (HB.out.cell (World.block_lt_of_cell? w _ hx106_1)).trans hx106_1
              replace hx106_2 := (HB.out.cell (World.block_lt_of_cell? w _ hx106_2)).trans hx106_2
              replace p106 := eq_true p106
              replace q106 := eq_true q106
              go_wp2_with (first | go_step3 | ((with_reducible refine gate_dst (N := 7) rfl ?_); refine box_event ?hg (N := 7) ?hd (cs := #[.int .i64 0, .int .i64 0, .int .i64 0]) (t := 59) ?hr ?_; (case hd => rfl); (case hg => rfl); (case hr => first | (go_simp; done) | (go_simp; rfl)); intro gb107 hg w9 hbox hb; have n0_ := Aside0.mk (blk_below (g := gb105) (o := .cells #[.int .i64 a0_0, .slice (some ad106) l0_1.length c0_1] 57 (0, 0)) (by (with_reducible repeat (first | refine blk_drewN ?_ _ | refine blk_drew ?_ | refine blk_alloc ?_ _)); exact BK105.out) hb); have n1_ := Aside0.mk (below_step (by repeat (first | (with_reducible first | exact HB.out | apply below_alloc | apply pw_below_drewN | apply below_drew1 | refine below_set ?_ GE105.out) | exact HB.out)) hb); have n2_ := Aside0.mk (hbox); have n3_ := Aside0.mk ((by rw [hg]; exact (below_size (by repeat (first | (with_reducible first | exact HB.out | apply below_alloc | apply pw_below_drewN | apply below_drew1 | refine below_set ?_ GE105.out) | exact HB.out))) : w.heap.size ≤ gb107)); have n4_ := Aside0.mk ((by rw [hg]; exact (below_size (by repeat (first | (with_reducible first | exact HB.out | apply below_alloc | apply pw_below_drewN | apply below_drew1 | refine below_set ?_ GE105.out) | exact HB.out))) : w.heap.size ≤ gb107)); have n5_ := Aside0.mk ((by rw [hg]; exact Nat.ne_of_lt (blk_lt (g := gb105) (o := .cells #[.int .i64 a0_0, .slice (some ad106) l0_1.length c0_1] 57 (0, 0)) (by (with_reducible repeat (first | refine blk_drewN ?_ _ | refine blk_drew ?_ | refine blk_alloc ?_ _)); exact BK105.out)) : gb105 ≠ gb107)); have n6_ := Aside0.mk ((by rw [hg]; exact Nat.ne_of_gt (blk_lt (g := gb105) (o := .cells #[.int .i64 a0_0, .slice (some ad106) l0_1.length c0_1] 57 (0, 0)) (by (with_reducible repeat (first | refine blk_drewN ?_ _ | refine blk_drew ?_ | refine blk_alloc ?_ _)); exact BK105.out)) : gb107 ≠ gb105)); clear BK105; clear HB; have BK105 := n0_; have HB := n1_; have BK107 := n2_; have GW107 := n3_; have GE107 := n4_; have NB105_107 := n5_; have NB107_105 := n6_; clear n0_ n1_ n2_ n3_ n4_ n5_ n6_; clear hb hbox hg; have hnb10 := NB107_105.out; have hnc10 := NB105_107.out; have hcz11_0 : w9.cell? ⟨gb107, 0, none⟩ = some (.int .i64 0) := (blk_cell BK107.out 0).trans rfl; have hcz11_1 : w9.cell? ⟨gb107, 1, none⟩ = some (.int .i64 0) := (blk_cell BK107.out 1).trans rfl; have hcz11_2 : w9.cell? ⟨gb107, 2, none⟩ = some (.int .i64 0) := (blk_cell BK107.out 2).trans rfl; have hfz11_0 := blk_frozen BK107.out 0; have hfz11_1 := blk_frozen BK107.out 1; have hfz11_2 := blk_frozen BK107.out 2))
              (try simp only [Exit.inBlock, Exit.then, Exit.noGoto_ret, Exit.noGoto_normal]); go_ret
              exact ⟨by first | rfl | (simp [errW_none, errW_some] <;> rfl) | (simp [*, errW_none, errW_some] <;> rfl), by repeat (first | (with_reducible first | exact HB.out | apply below_alloc | apply pw_below_drewN | apply below_drew1 | refine below_set ?_ GE105.out | refine below_set ?_ GE107.out) | exact HB.out)⟩
            · rw [if_neg c8] at H
              have c8b0 : (((rd_T59 l0_1 x11_1).f1) == a1) = false := beq_eq_false_iff_ne.mpr c8
              have c8b1 : (((rd_T59 l0_1 x11_1).f1) != a1) = true := bne_iff_ne.mpr c8
              have H' := Aside0.mk H
              clear H
              have p106 : 0 ≤ (x11_1 : Int) := of_decide_eq_true (by first | (with_reducible assumption) | assumption)
              have q106 : x11_1 < (l0_1.length : Int) := of_decide_eq_true (by first | (with_reducible assumption) | assumption)
              obtain ⟨ad106, e106, hx106_0, hx106_1, hx106_2⟩ := at_T59 HR0_1.out x11_1 p106 q106
              cases e106
              replace hx106_0 := (HB.out.cell (World.block_lt_of_cell? w _ hx106_0)).trans hx106_0
              replace hx106_1 := (HB.out.cell (World.block_lt_of_cell? w _ hx106_1)).trans hx106_1
              replace hx106_2 := (HB.out.cell (World.block_lt_of_cell? w _ hx106_2)).trans hx106_2
              replace p106 := eq_true p106
              replace q106 := eq_true q106
              go_wp2_with (first | go_step3 | ((with_reducible refine gate_dst (N := 7) rfl ?_); refine box_event ?hg (N := 7) ?hd (cs := #[.int .i64 0, .int .i64 0, .int .i64 0]) (t := 59) ?hr ?_; (case hd => rfl); (case hg => rfl); (case hr => first | (go_simp; done) | (go_simp; rfl)); intro gb107 hg w12 hbox hb; have n0_ := Aside0.mk (blk_below (g := gb105) (o := .cells #[.int .i64 a0_0, .slice (some ad106) l0_1.length c0_1] 57 (0, 0)) (by (with_reducible repeat (first | refine blk_drewN ?_ _ | refine blk_drew ?_ | refine blk_alloc ?_ _)); exact BK105.out) hb); have n1_ := Aside0.mk (below_step (by repeat (first | (with_reducible first | exact HB.out | apply below_alloc | apply pw_below_drewN | apply below_drew1 | refine below_set ?_ GE105.out) | exact HB.out)) hb); have n2_ := Aside0.mk (hbox); have n3_ := Aside0.mk ((by rw [hg]; exact (below_size (by repeat (first | (with_reducible first | exact HB.out | apply below_alloc | apply pw_below_drewN | apply below_drew1 | refine below_set ?_ GE105.out) | exact HB.out))) : w.heap.size ≤ gb107)); have n4_ := Aside0.mk ((by rw [hg]; exact (below_size (by repeat (first | (with_reducible first | exact HB.out | apply below_alloc | apply pw_below_drewN | apply below_drew1 | refine below_set ?_ GE105.out) | exact HB.out))) : w.heap.size ≤ gb107)); have n5_ := Aside0.mk ((by rw [hg]; exact Nat.ne_of_lt (blk_lt (g := gb105) (o := .cells #[.int .i64 a0_0, .slice (some ad106) l0_1.length c0_1] 57 (0, 0)) (by (with_reducible repeat (first | refine blk_drewN ?_ _ | refine blk_drew ?_ | refine blk_alloc ?_ _)); exact BK105.out)) : gb105 ≠ gb107)); have n6_ := Aside0.mk ((by rw [hg]; exact Nat.ne_of_gt (blk_lt (g := gb105) (o := .cells #[.int .i64 a0_0, .slice (some ad106) l0_1.length c0_1] 57 (0, 0)) (by (with_reducible repeat (first | refine blk_drewN ?_ _ | refine blk_drew ?_ | refine blk_alloc ?_ _)); exact BK105.out)) : gb107 ≠ gb105)); clear BK105; clear HB; have BK105 := n0_; have HB := n1_; have BK107 := n2_; have GW107 := n3_; have GE107 := n4_; have NB105_107 := n5_; have NB107_105 := n6_; clear n0_ n1_ n2_ n3_ n4_ n5_ n6_; clear hb hbox hg; have hnb13 := NB107_105.out; have hnc13 := NB105_107.out; have hcz14_0 : w12.cell? ⟨gb107, 0, none⟩ = some (.int .i64 0) := (blk_cell BK107.out 0).trans rfl; have hcz14_1 : w12.cell? ⟨gb107, 1, none⟩ = some (.int .i64 0) := (blk_cell BK107.out 1).trans rfl; have hcz14_2 : w12.cell? ⟨gb107, 2, none⟩ = some (.int .i64 0) := (blk_cell BK107.out 2).trans rfl; have hfz14_0 := blk_frozen BK107.out 0; have hfz14_1 := blk_frozen BK107.out 1; have hfz14_2 := blk_frozen BK107.out 2))
              go_roundg k1
              case measure => have := HK1.out; omega
              case rel => exact ⟨(x5_1), (wrap64 (x11_1 + 1)), (by first | rfl | (simp; done) | (simp [*]; done)), (by first | rfl | (simp; done) | (simp [*]; done)), H', ⟨by have := HK1.out; omega⟩, ⟨by (with_reducible repeat (first | refine blk_drewN ?_ _ | refine blk_drew ?_ | refine blk_alloc ?_ _)); refine blk_far ?_ NB105_107.out _; (with_reducible repeat (first | refine blk_drewN ?_ _ | refine blk_drew ?_ | refine blk_alloc ?_ _)); refine blk_far ?_ NB105_107.out _; (with_reducible repeat (first | refine blk_drewN ?_ _ | refine blk_drew ?_ | refine blk_alloc ?_ _)); refine blk_far ?_ NB105_107.out _; (with_reducible repeat (first | refine blk_drewN ?_ _ | refine blk_drew ?_ | refine blk_alloc ?_ _)); exact BK105.out⟩, ⟨by repeat (first | (with_reducible first | exact HB.out | apply below_alloc | apply pw_below_drewN | apply below_drew1 | refine below_set ?_ GE105.out | refine below_set ?_ GE107.out) | exact HB.out)⟩⟩
          · rw [if_neg c7] at H
            exact absurd H (by simp)
        · rw [if_neg c6] at H
          exact absurd H (by simp)
      · rw [if_neg c5] at H
        have c5b0 : decide (x11_1 < (l0_1.length : Int)) = false := decide_eq_false c5
        clear c5
        obtain rfl := Option.some.inj H
        go_wp2_with (first | go_step3 | (with_reducible refine noGoto_normal_i ?_) | go_in)
        (try simp only [Exit.inBlock, Exit.then, Exit.noGoto_ret, Exit.noGoto_normal]); go_ret
        exact ⟨by first | rfl | (simp [errW_none, errW_some] <;> rfl) | (simp [*, errW_none, errW_some] <;> rfl), by repeat (first | (with_reducible first | exact HB.out | apply below_alloc | apply pw_below_drewN | apply below_drew1 | refine below_set ?_ GE105.out) | exact HB.out)⟩

/-! ### gantt_Letter: function 17 -/
def gantt_Letter.f (a0 : Int) : Option (Int) := if a0 < 0 then (some 46) else (if a0 ≥ 64 then (some 46) else (if 0 ≤ a0 then (if a0 < 64 then (some (bt (⟨#[97, 98, 99, 100, 101, 102, 103, 104, 105, 106, 107, 108, 109, 110, 111, 112, 113, 114, 115, 116, 117, 118, 119, 120, 121, 122, 65, 66, 67, 68, 69, 70, 71, 72, 73, 74, 75, 76, 77, 78, 79, 80, 81, 82, 83, 84, 85, 86, 87, 88, 89, 90, 48, 49, 50, 51, 52, 53, 54, 55, 56, 57, 43, 45]⟩ : ByteArray) a0)) else (none)) else (none)))
set_option maxHeartbeats 8000000 in
set_option maxRecDepth 100000 in
theorem gantt_Letter.calls (a0 : Int) (r : Int) (w : World) (h : gantt_Letter.f a0 = some r) :
    Calls Try.prog 17 #[.int .i64 a0] w fun e w' => e = .returned (.int .u8 r) ∧ Drawn0 w w' := by
  have H : (if a0 < 0 then (some 46) else (if a0 ≥ 64 then (some 46) else (if 0 ≤ a0 then (if a0 < 64 then (some (bt (⟨#[97, 98, 99, 100, 101, 102, 103, 104, 105, 106, 107, 108, 109, 110, 111, 112, 113, 114, 115, 116, 117, 118, 119, 120, 121, 122, 65, 66, 67, 68, 69, 70, 71, 72, 73, 74, 75, 76, 77, 78, 79, 80, 81, 82, 83, 84, 85, 86, 87, 88, 89, 90, 48, 49, 50, 51, 52, 53, 54, 55, 56, 57, 43, 45]⟩ : ByteArray) a0)) else (none)) else (none)))) = some r := h
  clear h
  by_cases c2 : a0 < 0
  · rw [if_pos c2] at H
    have c2b0 : decide (a0 < 0) = true := decide_eq_true c2
    clear c2
    obtain rfl := Option.some.inj H
    go_enter Try.func17, Try.ntmps17
    go_wp2
    go_ret
    exact ⟨by first | rfl | (simp; done) | (simp [*]; done), by repeat (first | exact Drawn0.refl _ | apply Drawn0.step)⟩
  · rw [if_neg c2] at H
    have c2b0 : decide (a0 < 0) = false := decide_eq_false c2
    clear c2
    by_cases c3 : a0 ≥ 64
    · rw [if_pos c3] at H
      have c3b0 : decide (64 ≤ a0) = true := decide_eq_true c3
      clear c3
      obtain rfl := Option.some.inj H
      go_enter Try.func17, Try.ntmps17
      go_wp2
      go_ret
      exact ⟨by first | rfl | (simp; done) | (simp [*]; done), by repeat (first | exact Drawn0.refl _ | apply Drawn0.step)⟩
    · rw [if_neg c3] at H
      have c3b0 : decide (64 ≤ a0) = false := decide_eq_false c3
      clear c3
      by_cases c4 : 0 ≤ a0
      · rw [if_pos c4] at H
        have c4b0 : decide (0 ≤ a0) = true := decide_eq_true c4
        clear c4
        by_cases c5 : a0 < 64
        · rw [if_pos c5] at H
          have c5b0 : decide (a0 < 64) = true := decide_eq_true c5
          clear c5
          obtain rfl := Option.some.inj H
          have p6 : 0 ≤ (a0 : Int) := of_decide_eq_true (by first | (with_reducible assumption) | assumption)
          have q6 : a0 < (64 : Int) := of_decide_eq_true (by first | (with_reducible assumption) | assumption)
          have hx6 := bt_at (⟨#[97, 98, 99, 100, 101, 102, 103, 104, 105, 106, 107, 108, 109, 110, 111, 112, 113, 114, 115, 116, 117, 118, 119, 120, 121, 122, 65, 66, 67, 68, 69, 70, 71, 72, 73, 74, 75, 76, 77, 78, 79, 80, 81, 82, 83, 84, 85, 86, 87, 88, 89, 90, 48, 49, 50, 51, 52, 53, 54, 55, 56, 57, 43, 45]⟩ : ByteArray) a0
          replace p6 := eq_true p6
          replace q6 := eq_true q6
          go_enter Try.func17, Try.ntmps17
          go_wp2
          go_ret
          exact ⟨by first | rfl | (simp; done) | (simp [*]; done), by repeat (first | exact Drawn0.refl _ | apply Drawn0.step)⟩
        · rw [if_neg c5] at H
          exact absurd H (by simp)
      · rw [if_neg c4] at H
        exact absurd H (by simp)

/-! ### gantt_Core: function 42 -/
section
open Go.Proofs.Ytlblianpbjhmoaa.MWords Go.Proofs.Ytlblianpbjhmoaa.MBuild
theorem strOf_one (u : UInt8) : strOfNums [(u.toNat : Int)] = ⟨#[u]⟩ := by
  simp [strOfNums]
def gantt_Core.go (k : Nat) (a1 : Int) : ByteArray → List S57 → Option ByteArray
  | s, [] => some s
  | s, x :: xs => (gantt_runs.f k x.f0 x.f1 a1).bind fun id => (gantt_Letter.f id).bind fun c => if 0 ≤ c ∧ c < 256 then gantt_Core.go k a1 (s ++ strOfNums [c]) xs else none
def gantt_Core.f (k : Nat) (l0 : List S57) (a1 : Int) : Option ByteArray := if l0.length ≤ 1000000 then gantt_Core.go k a1 ⟨#[]⟩ l0 else none

set_option maxHeartbeats 400000 in
theorem gantt_Core.calls (k : Nat) (A0 : Option Addr) (c0 : Nat) (l0 : List S57) (a1 : Int) (r : ByteArray) (w : World) (hr0 : Kd.C k57 w A0 l0.length l0) (hc0 : l0.length ≤ c0) (h : gantt_Core.f k l0 a1 = some r) :
    Calls Try.prog 42 #[.slice A0 l0.length c0, .int .i64 a1] w fun e w' => e = .returned (.string r) ∧ Below w.heap.size w w' := by
  have HR := Aside0.mk hr0
  clear hr0
  unfold gantt_Core.f at h
  split at h
  case isFalse => cases h
  rename_i hlen
  have H := Aside0.mk h
  clear h
  go_enter Try.func42, Try.ntmps42
  go_wp2_with fail
  go_loopw [10] (fun v wr => ∃ (i : Nat) (s : ByteArray), v = .int .i64 i ∧ i ≤ l0.length ∧ s.size = i ∧ Aside0 (gantt_Core.go k a1 s (l0.drop i) = some r) ∧ Aside0 (Bld w.heap.size w.heap.size s wr) ∧ Aside0 (Below w.heap.size w wr)) (fun v _ => l0.length - (intOf v).toNat)
  case atStart => exact ⟨0, ⟨#[]⟩, rfl, by omega, rfl, H, ⟨Bld.new w⟩, ⟨(Below.refl _ _).alloc (Nat.le_refl _) _⟩⟩
  case round =>
    obtain ⟨i, s, rfl, hi, hsz, HH, HS, HB⟩ := hrel
    clear H
    by_cases hlt : i < l0.length
    · obtain ⟨ad, A1, c1, e, hx0, hx1, hl1, hr1⟩ := at_T57 (Kd.C_below HR.out HB.out) (i : Int) (by omega) (by omega)
      subst e
      simp only [Int.toNat_natCast] at hx0 hx1
      have hd : l0.drop i = rd_T57 l0 i :: l0.drop (i + 1) := by
        rw [List.drop_eq_getElem_cons hlt]
        simp [rd_T57, List.getD, List.getElem?_eq_getElem hlt]
      have HH := HH.out
      rw [hd] at HH
      clear hd
      unfold gantt_Core.go at HH
      obtain ⟨id, h1, HH⟩ := Option.bind_eq_some_iff.1 HH
      obtain ⟨c, h2, HH⟩ := Option.bind_eq_some_iff.1 HH
      split at HH
      case isFalse => cases HH
      rename_i hc
      obtain ⟨u, rfl⟩ : ∃ u : UInt8, c = (u.toNat : Int) := ⟨UInt8.ofNat c.toNat, by simp; omega⟩
      have H1 := Aside0.mk h1
      have H2 := Aside0.mk h2
      have HH := Aside0.mk HH
      have HR1 := Aside0.mk hr1
      clear hr1 h1 h2 hc
      go_wp2_with fail
      refine (gantt_runs.calls k _ _ _ _ a1 id _ (Kd.C_below HR1.out ((Below.refl wr.heap.size wr).alloc (Nat.le_refl _) _)) hl1 H1.out).mono ?_
      rintro e w1 ⟨rfl, hb⟩
      have HB1 := Aside0.mk (hb)
      clear hb
      go_wp2_with fail
      refine (gantt_Letter.calls id _ _ H2.out).mono ?_
      rintro e w2 ⟨rfl, hd⟩
      obtain ⟨n1, rfl⟩ := hd
      go_wp2_with fail
      refine (write_byte w.heap.size w.heap.size s u _ (((HS.out.alloc _).below (Nat.le_refl _) HB1.out).drewN _) (by omega) ?_).mono ?_
      · exact (pw_below_drewN (below_step (HB.out.alloc HB.out.size _) HB1.out) n1).size
      rintro e w3 ⟨rfl, h3, h4, h5⟩
      have H3 := Aside0.mk h3
      have H4 := Aside0.mk ((pw_below_drewN (below_step (HB.out.alloc HB.out.size _) HB1.out) n1).trans h4)
      clear h3 h4 h5
      go_wp2_with fail
      go_round
      case rel =>
        refine ⟨i + 1, s ++ strOfNums [(u.toNat : Int)], by go_num, by omega, ?_, HH, ?_, H4⟩
        · rw [strOf_one, ByteArray.size_append, hsz]; rfl
        · rw [strOf_one]; exact H3
      case measure => simp [intOf]; omega
    · have hie : i = l0.length := by omega
      have HH := HH.out
      rw [hie, List.drop_length] at HH
      unfold gantt_Core.go at HH
      obtain rfl := Option.some.inj HH
      clear HH
      go_wp2_with fail
      refine (text_any w.heap.size w.heap.size s _ HS.out HB.out.size).mono ?_
      rintro e w1 ⟨rfl, hb⟩
      have HB1 := Aside0.mk (HB.out.trans hb)
      clear hb
      go_wp2_with fail
      go_ret
      exact ⟨rfl, HB1.out⟩

theorem gantt_Core.mono_go : ∀ a1 s xs k, LeO (gantt_Core.go k a1 s xs) (gantt_Core.go (k + 1) a1 s xs) := by
  intro a1 s xs
  induction xs generalizing s with
  | nil => intro k; exact LeO.refl _
  | cons x xs ih =>
    intro k
    unfold gantt_Core.go
    exact LeO.bind (gantt_runs.mono _ _ _ _) (fun _ => LeO.bind (LeO.refl _) (fun _ => LeO.ite (ih _ _) (LeO.refl _)))
theorem gantt_Core.mono : ∀ a0 a1 k, LeO (gantt_Core.f k a0 a1) (gantt_Core.f (k + 1) a0 a1) := fun _ _ _ => LeO.ite (gantt_Core.mono_go _ _ _ _) (LeO.refl _)
end

/-! ### gantt_Draw: function 21 -/
section
open Go.Proofs.Ytlblianpbjhmoaa.MWords Go.Proofs.Ytlblianpbjhmoaa.MBuild
def gantt_Draw.go (k : Nat) (l0 : List S57) : Nat → Int → ByteArray → Option ByteArray
  | 0, _, s => some s
  | n + 1, c, s => (gantt_Core.f k l0 c).bind fun t => if s.size + t.size + 1 ≤ 100000000 then gantt_Draw.go k l0 n (c + 1) (s ++ (t ++ ⟨#[10]⟩)) else none
def gantt_Draw.f (k : Nat) (l0 : List S57) (a1 : Int) : Option ByteArray :=
  (gantt_Check.f k l0 a1).bind fun b => if b = true then (if a1 ≤ 64 then gantt_Draw.go k l0 a1.toNat 0 ⟨#[]⟩ else none) else some ⟨#[]⟩

set_option maxHeartbeats 400000 in
theorem gantt_Draw.calls (k : Nat) (A0 : Option Addr) (c0 : Nat) (l0 : List S57) (a1 : Int) (r : ByteArray) (w : World) (hr0 : Kd.C k57 w A0 l0.length l0) (hc0 : l0.length ≤ c0) (h : gantt_Draw.f k l0 a1 = some r) :
    Calls Try.prog 21 #[.slice A0 l0.length c0, .int .i64 a1] w fun e w' => e = .returned (.string r) ∧ Below w.heap.size w w' := by
  have HR := Aside0.mk hr0
  clear hr0
  unfold gantt_Draw.f at h
  obtain ⟨b, hb, h⟩ := Option.bind_eq_some_iff.1 h
  have HC := Aside0.mk hb
  clear hb
  cases b with
  | false =>
    rw [if_neg (by simp)] at h
    obtain rfl := Option.some.inj h
    clear h
    go_enter Try.func21, Try.ntmps21
    go_wp2_with fail
    refine (gantt_Check.calls k A0 c0 l0 a1 false _ HR.out hc0 HC.out).mono ?_
    rintro e w1 ⟨rfl, hb⟩
    have HB := Aside0.mk hb
    clear hb
    go_wp2_with fail
    go_ret
    exact ⟨rfl, HB.out⟩
  | true =>
    rw [if_pos rfl] at h
    split at h
    case isFalse => cases h
    rename_i hm
    have H := Aside0.mk h
    clear h
    go_enter Try.func21, Try.ntmps21
    go_wp2_with fail
    refine (gantt_Check.calls k A0 c0 l0 a1 true _ HR.out hc0 HC.out).mono ?_
    rintro e w1 ⟨rfl, hb⟩
    have HB1 := Aside0.mk hb
    clear hb
    go_wp2_with fail
    go_loopw [12] (fun v wr => ∃ (i : Nat) (s : ByteArray), v = .int .i64 i ∧ (i ≤ a1.toNat) ∧ s.size ≤ 100000000 ∧ Aside0 (gantt_Draw.go k l0 (a1.toNat - i) i s = some r) ∧ Aside0 (Bld w1.heap.size w1.heap.size s wr) ∧ Aside0 (Below w1.heap.size w1 wr)) (fun v _ => a1.toNat - (intOf v).toNat)
    case atStart => exact ⟨0, ⟨#[]⟩, rfl, by omega, by simp [ByteArray.size], H, ⟨Bld.new w1⟩, ⟨(Below.refl _ _).alloc (Nat.le_refl _) _⟩⟩
    case round =>
      obtain ⟨i, s, rfl, hi, hsz, HH, HS, HB⟩ := hrel
      clear H
      by_cases hlt : (i : Int) < a1
      · have HH := HH.out
        rw [show a1.toNat - i = (a1.toNat - (i + 1)) + 1 by omega] at HH
        unfold gantt_Draw.go at HH
        obtain ⟨t, h1, HH⟩ := Option.bind_eq_some_iff.1 HH
        split at HH
        case isFalse => cases HH
        rename_i hts
        have h10 : (⟨#[10]⟩ : ByteArray).size = 1 := rfl
        have hlen := Aside0.mk (show s.size + (t ++ (⟨#[10]⟩ : ByteArray)).size ≤ 140737488355328 by rw [ByteArray.size_append, h10]; omega)
        have hlen2 := Aside0.mk (show (s ++ (t ++ (⟨#[10]⟩ : ByteArray))).size ≤ 100000000 by rw [ByteArray.size_append, ByteArray.size_append, h10]; omega)
        have H1 := Aside0.mk h1
        have HH := Aside0.mk HH
        clear h1 h10
        go_wp2_with fail
        refine (gantt_Core.calls k A0 c0 l0 i t _ (Kd.C_below HR.out (below_step HB1.out HB.out)) hc0 H1.out).mono ?_
        rintro e w2 ⟨rfl, hb⟩
        have HB2 := Aside0.mk (below_step HB.out hb)
        have HS2 := Aside0.mk (HS.out.below (Nat.le_refl _) hb)
        clear hb
        go_wp2_with fail
        have HW := write_string w1.heap.size w1.heap.size s (t ++ ⟨#[10]⟩) w2 HS2.out hlen.out HB2.out.size
        refine HW.mono ?_
        clear HW
        rintro e w3 ⟨rfl, h3, h4, h5⟩
        have H3 := Aside0.mk h3
        have H4 := Aside0.mk (HB2.out.trans h4)
        clear h3 h4 h5
        go_wp2_with fail
        go_round
        case rel =>
          exact ⟨i + 1, _, by go_num, by omega, hlen2.out, HH, H3, H4⟩
        case measure => simp [intOf]; omega
      · have HH := HH.out
        rw [show a1.toNat - i = 0 by omega] at HH
        unfold gantt_Draw.go at HH
        obtain rfl := Option.some.inj HH
        clear HH
        go_wp2_with fail
        refine (text_any w1.heap.size w1.heap.size s _ HS.out HB.out.size).mono ?_
        rintro e w2 ⟨rfl, hb⟩
        have HB2 := Aside0.mk (below_step HB1.out (HB.out.trans hb))
        clear hb
        go_wp2_with fail
        go_ret
        exact ⟨rfl, HB2.out⟩
theorem gantt_Draw.mono_go : ∀ l0 n c s k, LeO (gantt_Draw.go k l0 n c s) (gantt_Draw.go (k + 1) l0 n c s) := by
  intro l0 n
  induction n with
  | zero => intro c s k; exact LeO.refl _
  | succ n ih =>
    intro c s k
    unfold gantt_Draw.go
    exact LeO.bind (gantt_Core.mono _ _ _) (fun _ => LeO.ite (ih _ _ _) (LeO.refl _))
theorem gantt_Draw.mono : ∀ a0 a1 k, LeO (gantt_Draw.f k a0 a1) (gantt_Draw.f (k + 1) a0 a1) := fun _ _ _ => LeO.bind (gantt_Check.mono _ _ _) (fun _ => LeO.ite (LeO.ite (gantt_Draw.mono_go _ _ _ _ _) (LeO.refl _)) (LeO.refl _))
end

/-! ### regattalaw25_awake: function 13 -/
def regattalaw25_awake.f (k : Nat)  : Option (Bool) := (some (([(⟨3, (([(⟨0, 0, 1⟩ : S59), (⟨1, 1, 1⟩ : S59)] : List (S59)))⟩ : S57), (⟨4, (([(⟨2, 1, 1⟩ : S59)] : List (S59)))⟩ : S57)] : List (S57)) : List (S57))).bind fun y114 => ((gantt_Draw.f k y114 2).bind fun t117 => (if t117.toList = ([97, 46, 10, 98, 99, 10] : List UInt8) then ((gantt_Check.f k y114 2).bind fun t118 => (if t118 = true then ((gantt_ID.f 99).bind fun t119 => (some (t119 == 2))) else (some false))) else (some false)))
theorem regattalaw25_awake.mono : ∀ k, LeO (regattalaw25_awake.f k ) (regattalaw25_awake.f (k + 1) ) := by
  intro  k
  unfold regattalaw25_awake.f
  repeat' first
      | (with_reducible exact gantt_Check.mono _ _ _)
      | (with_reducible exact gantt_Draw.mono _ _ _)
      | (with_reducible exact LeO.refl _)
      | (with_reducible exact LeO.none _)
      | (with_reducible refine LeO.ite ?_ ?_)
      | (with_reducible refine LeO.bind ?_ (fun _ => ?_))
      | exact gantt_Check.mono _ _ _
      | exact gantt_Draw.mono _ _ _
      | exact LeO.none _
      | refine LeO.ite ?_ ?_
      | refine LeO.bind ?_ (fun _ => ?_)
set_option maxHeartbeats 8000000 in
set_option maxRecDepth 100000 in
theorem regattalaw25_awake.calls (k : Nat)  (r : Bool) (w : World) (h : regattalaw25_awake.f k  = some r) :
    Calls Try.prog 13 #[] w fun e w' => e = .returned (.bool r) ∧ Below w.heap.size w w' := by
  have hu59 := Try.underlying59
  have hu57 := Try.underlying57
  have HB := Aside0.mk (Below.refl w.heap.size w)
  have H : ((some (([(⟨3, (([(⟨0, 0, 1⟩ : S59), (⟨1, 1, 1⟩ : S59)] : List (S59)))⟩ : S57), (⟨4, (([(⟨2, 1, 1⟩ : S59)] : List (S59)))⟩ : S57)] : List (S57)) : List (S57))).bind fun y114 => ((gantt_Draw.f k y114 2).bind fun t117 => (if t117.toList = ([97, 46, 10, 98, 99, 10] : List UInt8) then ((gantt_Check.f k y114 2).bind fun t118 => (if t118 = true then ((gantt_ID.f 99).bind fun t119 => (some (t119 == 2))) else (some false))) else (some false)))) = some r := h
  clear h
  obtain ⟨y108, hy108⟩ : ∃ y_ : List (S59), y_ = (([(⟨0, 0, 1⟩ : S59), (⟨1, 1, 1⟩ : S59)] : List (S59))) := ⟨_, rfl⟩
  replace H : ((some (([(⟨3, y108⟩ : S57), (⟨4, (([(⟨2, 1, 1⟩ : S59)] : List (S59)))⟩ : S57)] : List (S57)) : List (S57))).bind fun y114 => ((gantt_Draw.f k y114 2).bind fun t117 => (if t117.toList = ([97, 46, 10, 98, 99, 10] : List UInt8) then ((gantt_Check.f k y114 2).bind fun t118 => (if t118 = true then ((gantt_ID.f 99).bind fun t119 => (some (t119 == 2))) else (some false))) else (some false)))) = some r := by first | (rw [hy108]; with_reducible exact H) | (have H2_ := (Option.bind_some _ _).symm.trans H; rw [hy108]; with_reducible exact H2_) | (have H2_ := (Option.bind_some _ _).symm.trans H; with_reducible exact H2_) | with_reducible exact H | (rw [hy108]; exact H) | exact H
  have Ny108 := Aside0.mk hy108
  clear hy108
  obtain ⟨y111, hy111⟩ : ∃ y_ : List (S59), y_ = (([(⟨2, 1, 1⟩ : S59)] : List (S59))) := ⟨_, rfl⟩
  replace H : ((some (([(⟨3, y108⟩ : S57), (⟨4, y111⟩ : S57)] : List (S57)) : List (S57))).bind fun y114 => ((gantt_Draw.f k y114 2).bind fun t117 => (if t117.toList = ([97, 46, 10, 98, 99, 10] : List UInt8) then ((gantt_Check.f k y114 2).bind fun t118 => (if t118 = true then ((gantt_ID.f 99).bind fun t119 => (some (t119 == 2))) else (some false))) else (some false)))) = some r := by first | (rw [hy111]; with_reducible exact H) | (have H2_ := (Option.bind_some _ _).symm.trans H; rw [hy111]; with_reducible exact H2_) | (have H2_ := (Option.bind_some _ _).symm.trans H; with_reducible exact H2_) | with_reducible exact H | (rw [hy111]; exact H) | exact H
  have Ny111 := Aside0.mk hy111
  clear hy111
  obtain ⟨y114, hy114⟩ : ∃ y_ : List (S57), y_ = (([(⟨3, y108⟩ : S57), (⟨4, y111⟩ : S57)] : List (S57))) := ⟨_, rfl⟩
  replace H : ((gantt_Draw.f k y114 2).bind fun t117 => (if t117.toList = ([97, 46, 10, 98, 99, 10] : List UInt8) then ((gantt_Check.f k y114 2).bind fun t118 => (if t118 = true then ((gantt_ID.f 99).bind fun t119 => (some (t119 == 2))) else (some false))) else (some false))) = some r := by first | (rw [hy114]; with_reducible exact H) | (have H2_ := (Option.bind_some _ _).symm.trans H; rw [hy114]; with_reducible exact H2_) | (have H2_ := (Option.bind_some _ _).symm.trans H; with_reducible exact H2_) | with_reducible exact H | (rw [hy114]; exact H) | exact H
  have Ny114 := Aside0.mk hy114
  clear hy114
  replace H := Option.bind_eq_some_iff.mp H
  obtain ⟨t117, A10, H⟩ := H
  replace H : (if t117.toList = ([97, 46, 10, 98, 99, 10] : List UInt8) then ((gantt_Check.f k y114 2).bind fun t118 => (if t118 = true then ((gantt_ID.f 99).bind fun t119 => (some (t119 == 2))) else (some false))) else (some false)) = some r := H
  have A1 := Aside0.mk A10
  clear A10
  by_cases c2 : t117.toList = ([97, 46, 10, 98, 99, 10] : List UInt8)
  · rw [if_pos c2] at H
    have c2b0 : (t117.toList == ([97, 46, 10, 98, 99, 10] : List UInt8)) = true := beq_iff_eq.mpr c2
    have c2b1 : (t117.toList != ([97, 46, 10, 98, 99, 10] : List UInt8)) = false := bne_eq_false_iff_eq.mpr c2
    clear c2
    replace H := Option.bind_eq_some_iff.mp H
    obtain ⟨t118, A30, H⟩ := H
    replace H : (if t118 = true then ((gantt_ID.f 99).bind fun t119 => (some (t119 == 2))) else (some false)) = some r := H
    have A3 := Aside0.mk A30
    clear A30
    by_cases c4 : t118 = true
    · subst c4
      have H1 : ((gantt_ID.f 99).bind fun t119 => (some (t119 == 2))) = some r := by rw [if_pos rfl] at H; exact H
      clear H
      have H := H1
      clear H1
      replace H := Option.bind_eq_some_iff.mp H
      obtain ⟨t119, A50, H⟩ := H
      replace H : (some (t119 == 2)) = some r := H
      have A5 := Aside0.mk A50
      clear A50
      obtain rfl := Option.some.inj H
      go_enter Try.func13, Try.ntmps13
      go_wp2_with (first | ((with_reducible refine gate_dst (N := 4) rfl ?_); refine Kd.R_lit k59 _ 59 ?hg (N := 4) ?hd (xs := ([(⟨0, 0, 1⟩ : S59), (⟨1, 1, 1⟩ : S59)] : List (S59))) (inner := [.int .i64 0, .int .i64 0, .int .i64 1, .int .i64 1, .int .i64 1, .int .i64 1]) (ok := fun _ => True) (okp := fun _ => True) ?hr ?hp (fun _ hk => hk) trivial (Below.refl _ _) (Nat.le_refl _) (by simp) ?_; (case hd => rfl); (case hg => rfl); (case hr => first | (go_simp; done) | (go_simp; rfl)); (case hp => exact (Reps.c3 (show Kd.M k59 _ _ _ (⟨0, 0, 1⟩ : S59) [.int .i64 0, .int .i64 0, .int .i64 1] from (k59_mkM _ _ _ (⟨0, 0, 1⟩ : S59) )) (Reps.c3 (show Kd.M k59 _ _ _ (⟨1, 1, 1⟩ : S59) [.int .i64 1, .int .i64 1, .int .i64 1] from (k59_mkM _ _ _ (⟨1, 1, 1⟩ : S59) )) (Reps.none _ _)))); intro v109 w6 ho7 hb hg_ hnew_; clear hg_ hnew_; (first | rw [← Ny108.out] at ho7 | (simp only [Int.reduceToNat] at ho7; rw [← Ny108.out] at ho7)); have n0_ := Aside0.mk (Kd.R_lower ho7 (below_size (by repeat (first | (with_reducible first | exact HB.out | apply below_alloc | apply pw_below_drewN | apply below_drew1) | exact HB.out)))); have n1_ := Aside0.mk (below_step (by repeat (first | (with_reducible first | exact HB.out | apply below_alloc | apply pw_below_drewN | apply below_drew1) | exact HB.out)) hb); clear HB; have HO110 := n0_; have HB := n1_; clear n0_ n1_; clear hb ho7; obtain ⟨Ao8, co8, eo8⟩ := Kd.R_slice HO110.out; subst eo8) | ((with_reducible refine gate_dst (N := 7) rfl ?_); refine Kd.R_lit k59 _ 59 ?hg (N := 7) ?hd (xs := ([(⟨2, 1, 1⟩ : S59)] : List (S59))) (inner := [.int .i64 2, .int .i64 1, .int .i64 1]) (ok := fun _ => True) (okp := fun _ => True) ?hr ?hp (fun _ hk => hk) trivial (Below.refl _ _) (Nat.le_refl _) (by simp) ?_; (case hd => rfl); (case hg => rfl); (case hr => first | (go_simp; done) | (go_simp; rfl)); (case hp => exact (Reps.c3 (show Kd.M k59 _ _ _ (⟨2, 1, 1⟩ : S59) [.int .i64 2, .int .i64 1, .int .i64 1] from (k59_mkM _ _ _ (⟨2, 1, 1⟩ : S59) )) (Reps.none _ _))); intro v112 w9 ho10 hb hg_ hnew_; clear hg_ hnew_; (first | rw [← Ny111.out] at ho10 | (simp only [Int.reduceToNat] at ho10; rw [← Ny111.out] at ho10)); have n0_ := Aside0.mk (Kd.R_elder' (by (with_reducible repeat (first | apply Kd.R_alloc | apply Kd.R_drewN | apply Kd.R_drew)); exact HO110.out) (Kd.R_base ho10) hb); have n1_ := Aside0.mk (Kd.R_lower (Kd.R_new' ho10 (Kd.R_lt (by (with_reducible repeat (first | apply Kd.R_alloc | apply Kd.R_drewN | apply Kd.R_drew)); exact HO110.out))) (below_size (by repeat (first | (with_reducible first | exact HB.out | apply below_alloc | apply pw_below_drewN | apply below_drew1) | exact HB.out)))); have n2_ := Aside0.mk (below_step (by repeat (first | (with_reducible first | exact HB.out | apply below_alloc | apply pw_below_drewN | apply below_drew1) | exact HB.out)) hb); clear HO110; clear HB; have HO110 := n0_; have HO113 := n1_; have HB := n2_; clear n0_ n1_ n2_; clear hb ho10; obtain ⟨Ao11, co11, eo11⟩ := Kd.R_slice HO113.out; subst eo11) | ((with_reducible refine gate_dst (N := 9) rfl ?_); refine Kd.N_lit k57 _ 57 ?hg (N' := 9) ?hd (xs := ([(⟨3, y108⟩ : S57), (⟨4, y111⟩ : S57)] : List (S57))) (inner := [.int .i64 3, .slice Ao8 y108.length co8, .int .i64 4, .slice Ao11 y111.length co11]) (ok := (fun _ => True)) (okp := (fun _ => True)) ?hr ?hp (fun _ hk => hk) ((show ∀ k_, w9.heap.size ≤ k_ → (fun _ => True) k_ from fun k_ hk => trivial) _ (Nat.le_refl _)) (Below.refl _ _) (Nat.le_refl _) (by simp) ?_; (case hd => rfl); (case hg => rfl); (case hr => first | (go_simp; done) | (go_simp; rfl)); (case hp => exact (Reps.c2 (show Kd.FK k57 _ _ (⟨3, y108⟩ : S57) [.int .i64 3, .slice Ao8 y108.length co8] from (k57_mkF _ _ (⟨3, y108⟩ : S57) (Kd.R_reads' (Kd.R_mono (ok' := (fun _ => True)) (HO110.out) (fun k_ hk => trivial))).2.1 (Kd.R_F (Kd.R_mono (ok' := (fun _ => True)) (HO110.out) (fun k_ hk => trivial))))) (Reps.c2 (show Kd.FK k57 _ _ (⟨4, y111⟩ : S57) [.int .i64 4, .slice Ao11 y111.length co11] from (k57_mkF _ _ (⟨4, y111⟩ : S57) (Kd.R_reads' (Kd.R_mono (ok' := (fun _ => True)) (HO113.out) (fun k_ hk => trivial))).2.1 (Kd.R_F (Kd.R_mono (ok' := (fun _ => True)) (HO113.out) (fun k_ hk => trivial))))) (Reps.none _ _)))); intro v115 w12 ho13 hb hg_ hnew_; clear hg_ hnew_; (first | rw [← Ny114.out] at ho13 | (simp only [Int.reduceToNat] at ho13; rw [← Ny114.out] at ho13)); have n0_ := Aside0.mk (Kd.N_lower ho13 (below_size (by repeat (first | (with_reducible first | exact HB.out | apply below_alloc | apply pw_below_drewN | apply below_drew1) | exact HB.out)))); have n1_ := Aside0.mk (below_step (by repeat (first | (with_reducible first | exact HB.out | apply below_alloc | apply pw_below_drewN | apply below_drew1) | exact HB.out)) hb); clear HB; clear HO110; clear HO113; have HO116 := n0_; have HB := n1_; clear n0_ n1_; clear hb ho13; obtain ⟨Ao14, co14, eo14⟩ := Kd.N_slice HO116.out; subst eo14) | ((with_reducible refine gate_callee (f := 21) rfl ?_); refine goesL_ (some 11) rfl rfl Try.func21 (by kernel_rfl) rfl #[.slice Ao14 y114.length co14, .int .i64 2] rfl (by (try simp only [List.map_toArray, List.map_cons, List.map_nil]); first | done | rfl | (simp only [List.length_drop, List.length_take]; rfl)) ?_; (with_reducible refine (gantt_Draw.calls k _ _ y114 2 t117 _ ?side1 ?side2 A1.out).mono ?_); (case side1 => repeat (first | exact (Kd.N_reads' HO116.out).2.2 | (with_reducible refine Kd.C_alloc ?_ _) | (with_reducible refine Kd.C_drewN ?_ _) | (with_reducible refine Kd.C_drew ?_))); (case side2 => exact (Kd.N_reads' HO116.out).2.1); rintro e w15 ⟨rfl, hb⟩; refine ⟨_, rfl, ?_⟩; have n0_ := Aside0.mk (Kd.N_below (by (with_reducible repeat (first | apply Kd.N_alloc | apply Kd.N_drewN | apply Kd.N_drew)); exact HO116.out) hb); have n1_ := Aside0.mk (below_step (by repeat (first | (with_reducible first | exact HB.out | apply below_alloc | apply pw_below_drewN | apply below_drew1) | exact HB.out)) hb); clear HO116; clear HB; have HO116 := n0_; have HB := n1_; clear n0_ n1_; (try clear hb); (try clear hb2); (try clear hk); (try clear hi)) | (go_at_call 39; (with_reducible refine (gantt_Check.calls k _ _ y114 2 true _ ?side1 ?side2 A3.out).mono ?_); (case side1 => repeat (first | exact (Kd.N_reads' HO116.out).2.2 | (with_reducible refine Kd.C_alloc ?_ _) | (with_reducible refine Kd.C_drewN ?_ _) | (with_reducible refine Kd.C_drew ?_))); (case side2 => exact (Kd.N_reads' HO116.out).2.1); rintro e w16 ⟨rfl, hb⟩; have n0_ := Aside0.mk (Kd.N_below (by (with_reducible repeat (first | apply Kd.N_alloc | apply Kd.N_drewN | apply Kd.N_drew)); exact HO116.out) hb); have n1_ := Aside0.mk (below_step (by repeat (first | (with_reducible first | exact HB.out | apply below_alloc | apply pw_below_drewN | apply below_drew1) | exact HB.out)) hb); clear HO116; clear HB; have HO116 := n0_; have HB := n1_; clear n0_ n1_; (try clear hb); (try clear hb2); (try clear hk); (try clear hi)) | (go_at_call 19; (with_reducible refine (gantt_ID.calls 99 t119 _ A5.out).mono ?_); rintro e w' ⟨rfl, ⟨nd, rfl⟩⟩))
      go_ret
      exact ⟨by first | rfl | (simp [errW_none, errW_some] <;> rfl) | (simp [*, errW_none, errW_some] <;> rfl), by repeat (first | (with_reducible first | exact HB.out | apply below_alloc | apply pw_below_drewN | apply below_drew1) | exact HB.out)⟩
    · replace c4 := Bool.eq_false_iff.mpr c4
      subst c4
      have H1 : (some false) = some r := by rw [if_neg (show ¬ (false = true) by decide)] at H; exact H
      clear H
      have H := H1
      clear H1
      obtain rfl := Option.some.inj H
      go_enter Try.func13, Try.ntmps13
      go_wp2_with (first | ((with_reducible refine gate_dst (N := 4) rfl ?_); refine Kd.R_lit k59 _ 59 ?hg (N := 4) ?hd (xs := ([(⟨0, 0, 1⟩ : S59), (⟨1, 1, 1⟩ : S59)] : List (S59))) (inner := [.int .i64 0, .int .i64 0, .int .i64 1, .int .i64 1, .int .i64 1, .int .i64 1]) (ok := fun _ => True) (okp := fun _ => True) ?hr ?hp (fun _ hk => hk) trivial (Below.refl _ _) (Nat.le_refl _) (by simp) ?_; (case hd => rfl); (case hg => rfl); (case hr => first | (go_simp; done) | (go_simp; rfl)); (case hp => exact (Reps.c3 (show Kd.M k59 _ _ _ (⟨0, 0, 1⟩ : S59) [.int .i64 0, .int .i64 0, .int .i64 1] from (k59_mkM _ _ _ (⟨0, 0, 1⟩ : S59) )) (Reps.c3 (show Kd.M k59 _ _ _ (⟨1, 1, 1⟩ : S59) [.int .i64 1, .int .i64 1, .int .i64 1] from (k59_mkM _ _ _ (⟨1, 1, 1⟩ : S59) )) (Reps.none _ _)))); intro v109 w17 ho18 hb hg_ hnew_; clear hg_ hnew_; (first | rw [← Ny108.out] at ho18 | (simp only [Int.reduceToNat] at ho18; rw [← Ny108.out] at ho18)); have n0_ := Aside0.mk (Kd.R_lower ho18 (below_size (by repeat (first | (with_reducible first | exact HB.out | apply below_alloc | apply pw_below_drewN | apply below_drew1) | exact HB.out)))); have n1_ := Aside0.mk (below_step (by repeat (first | (with_reducible first | exact HB.out | apply below_alloc | apply pw_below_drewN | apply below_drew1) | exact HB.out)) hb); clear HB; have HO110 := n0_; have HB := n1_; clear n0_ n1_; clear hb ho18; obtain ⟨Ao19, co19, eo19⟩ := Kd.R_slice HO110.out; subst eo19) | ((with_reducible refine gate_dst (N := 7) rfl ?_); refine Kd.R_lit k59 _ 59 ?hg (N := 7) ?hd (xs := ([(⟨2, 1, 1⟩ : S59)] : List (S59))) (inner := [.int .i64 2, .int .i64 1, .int .i64 1]) (ok := fun _ => True) (okp := fun _ => True) ?hr ?hp (fun _ hk => hk) trivial (Below.refl _ _) (Nat.le_refl _) (by simp) ?_; (case hd => rfl); (case hg => rfl); (case hr => first | (go_simp; done) | (go_simp; rfl)); (case hp => exact (Reps.c3 (show Kd.M k59 _ _ _ (⟨2, 1, 1⟩ : S59) [.int .i64 2, .int .i64 1, .int .i64 1] from (k59_mkM _ _ _ (⟨2, 1, 1⟩ : S59) )) (Reps.none _ _))); intro v112 w20 ho21 hb hg_ hnew_; clear hg_ hnew_; (first | rw [← Ny111.out] at ho21 | (simp only [Int.reduceToNat] at ho21; rw [← Ny111.out] at ho21)); have n0_ := Aside0.mk (Kd.R_elder' (by (with_reducible repeat (first | apply Kd.R_alloc | apply Kd.R_drewN | apply Kd.R_drew)); exact HO110.out) (Kd.R_base ho21) hb); have n1_ := Aside0.mk (Kd.R_lower (Kd.R_new' ho21 (Kd.R_lt (by (with_reducible repeat (first | apply Kd.R_alloc | apply Kd.R_drewN | apply Kd.R_drew)); exact HO110.out))) (below_size (by repeat (first | (with_reducible first | exact HB.out | apply below_alloc | apply pw_below_drewN | apply below_drew1) | exact HB.out)))); have n2_ := Aside0.mk (below_step (by repeat (first | (with_reducible first | exact HB.out | apply below_alloc | apply pw_below_drewN | apply below_drew1) | exact HB.out)) hb); clear HO110; clear HB; have HO110 := n0_; have HO113 := n1_; have HB := n2_; clear n0_ n1_ n2_; clear hb ho21; obtain ⟨Ao22, co22, eo22⟩ := Kd.R_slice HO113.out; subst eo22) | ((with_reducible refine gate_dst (N := 9) rfl ?_); refine Kd.N_lit k57 _ 57 ?hg (N' := 9) ?hd (xs := ([(⟨3, y108⟩ : S57), (⟨4, y111⟩ : S57)] : List (S57))) (inner := [.int .i64 3, .slice Ao19 y108.length co19, .int .i64 4, .slice Ao22 y111.length co22]) (ok := (fun _ => True)) (okp := (fun _ => True)) ?hr ?hp (fun _ hk => hk) ((show ∀ k_, w20.heap.size ≤ k_ → (fun _ => True) k_ from fun k_ hk => trivial) _ (Nat.le_refl _)) (Below.refl _ _) (Nat.le_refl _) (by simp) ?_; (case hd => rfl); (case hg => rfl); (case hr => first | (go_simp; done) | (go_simp; rfl)); (case hp => exact (Reps.c2 (show Kd.FK k57 _ _ (⟨3, y108⟩ : S57) [.int .i64 3, .slice Ao19 y108.length co19] from (k57_mkF _ _ (⟨3, y108⟩ : S57) (Kd.R_reads' (Kd.R_mono (ok' := (fun _ => True)) (HO110.out) (fun k_ hk => trivial))).2.1 (Kd.R_F (Kd.R_mono (ok' := (fun _ => True)) (HO110.out) (fun k_ hk => trivial))))) (Reps.c2 (show Kd.FK k57 _ _ (⟨4, y111⟩ : S57) [.int .i64 4, .slice Ao22 y111.length co22] from (k57_mkF _ _ (⟨4, y111⟩ : S57) (Kd.R_reads' (Kd.R_mono (ok' := (fun _ => True)) (HO113.out) (fun k_ hk => trivial))).2.1 (Kd.R_F (Kd.R_mono (ok' := (fun _ => True)) (HO113.out) (fun k_ hk => trivial))))) (Reps.none _ _)))); intro v115 w23 ho24 hb hg_ hnew_; clear hg_ hnew_; (first | rw [← Ny114.out] at ho24 | (simp only [Int.reduceToNat] at ho24; rw [← Ny114.out] at ho24)); have n0_ := Aside0.mk (Kd.N_lower ho24 (below_size (by repeat (first | (with_reducible first | exact HB.out | apply below_alloc | apply pw_below_drewN | apply below_drew1) | exact HB.out)))); have n1_ := Aside0.mk (below_step (by repeat (first | (with_reducible first | exact HB.out | apply below_alloc | apply pw_below_drewN | apply below_drew1) | exact HB.out)) hb); clear HB; clear HO110; clear HO113; have HO116 := n0_; have HB := n1_; clear n0_ n1_; clear hb ho24; obtain ⟨Ao25, co25, eo25⟩ := Kd.N_slice HO116.out; subst eo25) | ((with_reducible refine gate_callee (f := 21) rfl ?_); refine goesL_ (some 11) rfl rfl Try.func21 (by kernel_rfl) rfl #[.slice Ao25 y114.length co25, .int .i64 2] rfl (by (try simp only [List.map_toArray, List.map_cons, List.map_nil]); first | done | rfl | (simp only [List.length_drop, List.length_take]; rfl)) ?_; (with_reducible refine (gantt_Draw.calls k _ _ y114 2 t117 _ ?side1 ?side2 A1.out).mono ?_); (case side1 => repeat (first | exact (Kd.N_reads' HO116.out).2.2 | (with_reducible refine Kd.C_alloc ?_ _) | (with_reducible refine Kd.C_drewN ?_ _) | (with_reducible refine Kd.C_drew ?_))); (case side2 => exact (Kd.N_reads' HO116.out).2.1); rintro e w26 ⟨rfl, hb⟩; refine ⟨_, rfl, ?_⟩; have n0_ := Aside0.mk (Kd.N_below (by (with_reducible repeat (first | apply Kd.N_alloc | apply Kd.N_drewN | apply Kd.N_drew)); exact HO116.out) hb); have n1_ := Aside0.mk (below_step (by repeat (first | (with_reducible first | exact HB.out | apply below_alloc | apply pw_below_drewN | apply below_drew1) | exact HB.out)) hb); clear HO116; clear HB; have HO116 := n0_; have HB := n1_; clear n0_ n1_; (try clear hb); (try clear hb2); (try clear hk); (try clear hi)) | (go_at_call 39; (with_reducible refine (gantt_Check.calls k _ _ y114 2 false _ ?side1 ?side2 A3.out).mono ?_); (case side1 => repeat (first | exact (Kd.N_reads' HO116.out).2.2 | (with_reducible refine Kd.C_alloc ?_ _) | (with_reducible refine Kd.C_drewN ?_ _) | (with_reducible refine Kd.C_drew ?_))); (case side2 => exact (Kd.N_reads' HO116.out).2.1); rintro e w27 ⟨rfl, hb⟩; have n0_ := Aside0.mk (Kd.N_below (by (with_reducible repeat (first | apply Kd.N_alloc | apply Kd.N_drewN | apply Kd.N_drew)); exact HO116.out) hb); have n1_ := Aside0.mk (below_step (by repeat (first | (with_reducible first | exact HB.out | apply below_alloc | apply pw_below_drewN | apply below_drew1) | exact HB.out)) hb); clear HO116; clear HB; have HO116 := n0_; have HB := n1_; clear n0_ n1_; (try clear hb); (try clear hb2); (try clear hk); (try clear hi)))
      go_ret
      exact ⟨by first | rfl | (simp [errW_none, errW_some] <;> rfl) | (simp [*, errW_none, errW_some] <;> rfl), by repeat (first | (with_reducible first | exact HB.out | apply below_alloc | apply pw_below_drewN | apply below_drew1) | exact HB.out)⟩
  · rw [if_neg c2] at H
    have c2b0 : (t117.toList == ([97, 46, 10, 98, 99, 10] : List UInt8)) = false := beq_eq_false_iff_ne.mpr c2
    have c2b1 : (t117.toList != ([97, 46, 10, 98, 99, 10] : List UInt8)) = true := bne_iff_ne.mpr c2
    obtain rfl := Option.some.inj H
    go_enter Try.func13, Try.ntmps13
    go_wp2_with (first | ((with_reducible refine gate_dst (N := 4) rfl ?_); refine Kd.R_lit k59 _ 59 ?hg (N := 4) ?hd (xs := ([(⟨0, 0, 1⟩ : S59), (⟨1, 1, 1⟩ : S59)] : List (S59))) (inner := [.int .i64 0, .int .i64 0, .int .i64 1, .int .i64 1, .int .i64 1, .int .i64 1]) (ok := fun _ => True) (okp := fun _ => True) ?hr ?hp (fun _ hk => hk) trivial (Below.refl _ _) (Nat.le_refl _) (by simp) ?_; (case hd => rfl); (case hg => rfl); (case hr => first | (go_simp; done) | (go_simp; rfl)); (case hp => exact (Reps.c3 (show Kd.M k59 _ _ _ (⟨0, 0, 1⟩ : S59) [.int .i64 0, .int .i64 0, .int .i64 1] from (k59_mkM _ _ _ (⟨0, 0, 1⟩ : S59) )) (Reps.c3 (show Kd.M k59 _ _ _ (⟨1, 1, 1⟩ : S59) [.int .i64 1, .int .i64 1, .int .i64 1] from (k59_mkM _ _ _ (⟨1, 1, 1⟩ : S59) )) (Reps.none _ _)))); intro v109 w28 ho29 hb hg_ hnew_; clear hg_ hnew_; (first | rw [← Ny108.out] at ho29 | (simp only [Int.reduceToNat] at ho29; rw [← Ny108.out] at ho29)); have n0_ := Aside0.mk (Kd.R_lower ho29 (below_size (by repeat (first | (with_reducible first | exact HB.out | apply below_alloc | apply pw_below_drewN | apply below_drew1) | exact HB.out)))); have n1_ := Aside0.mk (below_step (by repeat (first | (with_reducible first | exact HB.out | apply below_alloc | apply pw_below_drewN | apply below_drew1) | exact HB.out)) hb); clear HB; have HO110 := n0_; have HB := n1_; clear n0_ n1_; clear hb ho29; obtain ⟨Ao30, co30, eo30⟩ := Kd.R_slice HO110.out; subst eo30) | ((with_reducible refine gate_dst (N := 7) rfl ?_); refine Kd.R_lit k59 _ 59 ?hg (N := 7) ?hd (xs := ([(⟨2, 1, 1⟩ : S59)] : List (S59))) (inner := [.int .i64 2, .int .i64 1, .int .i64 1]) (ok := fun _ => True) (okp := fun _ => True) ?hr ?hp (fun _ hk => hk) trivial (Below.refl _ _) (Nat.le_refl _) (by simp) ?_; (case hd => rfl); (case hg => rfl); (case hr => first | (go_simp; done) | (go_simp; rfl)); (case hp => exact (Reps.c3 (show Kd.M k59 _ _ _ (⟨2, 1, 1⟩ : S59) [.int .i64 2, .int .i64 1, .int .i64 1] from (k59_mkM _ _ _ (⟨2, 1, 1⟩ : S59) )) (Reps.none _ _))); intro v112 w31 ho32 hb hg_ hnew_; clear hg_ hnew_; (first | rw [← Ny111.out] at ho32 | (simp only [Int.reduceToNat] at ho32; rw [← Ny111.out] at ho32)); have n0_ := Aside0.mk (Kd.R_elder' (by (with_reducible repeat (first | apply Kd.R_alloc | apply Kd.R_drewN | apply Kd.R_drew)); exact HO110.out) (Kd.R_base ho32) hb); have n1_ := Aside0.mk (Kd.R_lower (Kd.R_new' ho32 (Kd.R_lt (by (with_reducible repeat (first | apply Kd.R_alloc | apply Kd.R_drewN | apply Kd.R_drew)); exact HO110.out))) (below_size (by repeat (first | (with_reducible first | exact HB.out | apply below_alloc | apply pw_below_drewN | apply below_drew1) | exact HB.out)))); have n2_ := Aside0.mk (below_step (by repeat (first | (with_reducible first | exact HB.out | apply below_alloc | apply pw_below_drewN | apply below_drew1) | exact HB.out)) hb); clear HO110; clear HB; have HO110 := n0_; have HO113 := n1_; have HB := n2_; clear n0_ n1_ n2_; clear hb ho32; obtain ⟨Ao33, co33, eo33⟩ := Kd.R_slice HO113.out; subst eo33) | ((with_reducible refine gate_dst (N := 9) rfl ?_); refine Kd.N_lit k57 _ 57 ?hg (N' := 9) ?hd (xs := ([(⟨3, y108⟩ : S57), (⟨4, y111⟩ : S57)] : List (S57))) (inner := [.int .i64 3, .slice Ao30 y108.length co30, .int .i64 4, .slice Ao33 y111.length co33]) (ok := (fun _ => True)) (okp := (fun _ => True)) ?hr ?hp (fun _ hk => hk) ((show ∀ k_, w31.heap.size ≤ k_ → (fun _ => True) k_ from fun k_ hk => trivial) _ (Nat.le_refl _)) (Below.refl _ _) (Nat.le_refl _) (by simp) ?_; (case hd => rfl); (case hg => rfl); (case hr => first | (go_simp; done) | (go_simp; rfl)); (case hp => exact (Reps.c2 (show Kd.FK k57 _ _ (⟨3, y108⟩ : S57) [.int .i64 3, .slice Ao30 y108.length co30] from (k57_mkF _ _ (⟨3, y108⟩ : S57) (Kd.R_reads' (Kd.R_mono (ok' := (fun _ => True)) (HO110.out) (fun k_ hk => trivial))).2.1 (Kd.R_F (Kd.R_mono (ok' := (fun _ => True)) (HO110.out) (fun k_ hk => trivial))))) (Reps.c2 (show Kd.FK k57 _ _ (⟨4, y111⟩ : S57) [.int .i64 4, .slice Ao33 y111.length co33] from (k57_mkF _ _ (⟨4, y111⟩ : S57) (Kd.R_reads' (Kd.R_mono (ok' := (fun _ => True)) (HO113.out) (fun k_ hk => trivial))).2.1 (Kd.R_F (Kd.R_mono (ok' := (fun _ => True)) (HO113.out) (fun k_ hk => trivial))))) (Reps.none _ _)))); intro v115 w34 ho35 hb hg_ hnew_; clear hg_ hnew_; (first | rw [← Ny114.out] at ho35 | (simp only [Int.reduceToNat] at ho35; rw [← Ny114.out] at ho35)); have n0_ := Aside0.mk (Kd.N_lower ho35 (below_size (by repeat (first | (with_reducible first | exact HB.out | apply below_alloc | apply pw_below_drewN | apply below_drew1) | exact HB.out)))); have n1_ := Aside0.mk (below_step (by repeat (first | (with_reducible first | exact HB.out | apply below_alloc | apply pw_below_drewN | apply below_drew1) | exact HB.out)) hb); clear HB; clear HO110; clear HO113; have HO116 := n0_; have HB := n1_; clear n0_ n1_; clear hb ho35; obtain ⟨Ao36, co36, eo36⟩ := Kd.N_slice HO116.out; subst eo36) | ((with_reducible refine gate_callee (f := 21) rfl ?_); refine goesL_ (some 11) rfl rfl Try.func21 (by kernel_rfl) rfl #[.slice Ao36 y114.length co36, .int .i64 2] rfl (by (try simp only [List.map_toArray, List.map_cons, List.map_nil]); first | done | rfl | (simp only [List.length_drop, List.length_take]; rfl)) ?_; (with_reducible refine (gantt_Draw.calls k _ _ y114 2 t117 _ ?side1 ?side2 A1.out).mono ?_); (case side1 => repeat (first | exact (Kd.N_reads' HO116.out).2.2 | (with_reducible refine Kd.C_alloc ?_ _) | (with_reducible refine Kd.C_drewN ?_ _) | (with_reducible refine Kd.C_drew ?_))); (case side2 => exact (Kd.N_reads' HO116.out).2.1); rintro e w37 ⟨rfl, hb⟩; refine ⟨_, rfl, ?_⟩; have n0_ := Aside0.mk (Kd.N_below (by (with_reducible repeat (first | apply Kd.N_alloc | apply Kd.N_drewN | apply Kd.N_drew)); exact HO116.out) hb); have n1_ := Aside0.mk (below_step (by repeat (first | (with_reducible first | exact HB.out | apply below_alloc | apply pw_below_drewN | apply below_drew1) | exact HB.out)) hb); clear HO116; clear HB; have HO116 := n0_; have HB := n1_; clear n0_ n1_; (try clear hb); (try clear hb2); (try clear hk); (try clear hi)))
    go_ret
    exact ⟨by first | rfl | (simp [errW_none, errW_some] <;> rfl) | (simp [*, errW_none, errW_some] <;> rfl), by repeat (first | (with_reducible first | exact HB.out | apply below_alloc | apply pw_below_drewN | apply below_drew1) | exact HB.out)⟩

end Go.Proofs.Ytlblianpbjhmoaa.PGs
