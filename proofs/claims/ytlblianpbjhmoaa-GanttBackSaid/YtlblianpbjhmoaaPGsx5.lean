-- Written by wip/rprint.py of this session's repo (the kit's printer with patches), out of the translation. Not trusted: Lean checks it.
import Derived.Test.YtlblianpbjhmoaaPGsx0
import Derived.Test.YtlblianpbjhmoaaPGsx4
namespace Go.Proofs.Ytlblianpbjhmoaa.PGs
open Go.RowKit Go.Proofs.YtlblianpbjhmoaaW.PrintWords Go.Proofs.YtlblianpbjhmoaaW.PrintLast Go.Proofs.YtlblianpbjhmoaaW.PrintMore Go.Proofs.Ytlblianpbjhmoaa.MWords
attribute [local go_sem] max2_int min2_int max_two min_two max_three min_three max_four min_four   -- for this text's walks alone
set_option linter.unusedVariables false
set_option linter.unusedSimpArgs false

/-! ### gantt_Check: function 39 -/
section
open Go.Proofs.Ytlblianpbjhmoaa.MWords Go.Proofs.Ytlblianpbjhmoaa.MBuild
theorem take_getD {α : Type} (l : List α) (d : α) (i : Nat) (h : i < l.length) : l.take (i + 1) = l.take i ++ [l.getD i d] := by
  rw [List.take_add_one, List.getElem?_eq_getElem h]
  simp [List.getD, List.getElem?_eq_getElem h]
def ganttWideRun (l : List S59) : Bool := l.any (fun r => decide (r.f0 ≥ 64))
def ganttWide (l : List S57) : Bool := l.any (fun s => ganttWideRun s.f1)

theorem gantt_wide0 (a b c : Int) (w : World) :
    Calls Try.prog 64 #[.agg #[.int .i64 a, .int .i64 b, .int .i64 c]] w fun e w' => e = .returned (.bool (decide (a ≥ 64))) ∧ Below w.heap.size w w' := by
  go_enter Try.func64, Try.ntmps64
  go_wp2_with fail
  go_ret
  exact ⟨rfl, (Below.refl _ _).alloc (Nat.le_refl _) _⟩

set_option maxHeartbeats 400000 in
theorem gantt_index0 (A : Option Addr) (c : Nat) (l : List S59) (w : World) (hr : Kd.C k59 w A l.length l) (hc : l.length ≤ c) :
    Calls Try.prog 73 #[.slice A l.length c, .func (.func 64) #[] #[]] w fun e w' => (∃ k : Int, e = .returned (.int .i64 k) ∧ decide (k ≥ 0) = ganttWideRun l) ∧ Below w.heap.size w w' := by
  have HR := Aside0.mk hr
  clear hr
  have hl : l.length ≤ 9223372036854775807 := HR.out.2.1
  go_enter Try.func73, Try.ntmps73
  go_wp2_with fail
  go_loopw [8] (fun v wr => ∃ i : Nat, v = .int .i64 i ∧ i ≤ l.length ∧ Aside0 (ganttWideRun (l.take i) = false) ∧ Aside0 (Below w.heap.size w wr)) (fun v _ => l.length - (intOf v).toNat)
  case atStart => exact ⟨0, rfl, by omega, ⟨rfl⟩, ⟨Below.refl _ _⟩⟩
  case round =>
    obtain ⟨i, rfl, hi, HH, HB⟩ := hrel
    by_cases hlt : i < l.length
    · obtain ⟨ad, e, hx0, hx1, hx2⟩ := at_T59 (Kd.C_below HR.out HB.out) (i : Int) (by omega) (by omega)
      subst e
      simp only [Int.toNat_natCast] at hx0 hx1 hx2
      have ht := Aside0.mk (take_getD l z59 i hlt)
      have hX : l.getD i z59 = rd_T59 l (i : Int) := by simp [rd_T59]
      rw [hX] at ht
      clear hX
      go_wp2_with fail
      refine (gantt_wide0 _ _ _ _).mono ?_
      rintro e w1 ⟨rfl, hb⟩
      have HB1 := Aside0.mk (below_step HB.out hb)
      clear hb
      dsimp only
      by_cases hx : (rd_T59 l (i : Int)).f0 ≥ 64
      · simp only [hx, decide_true]
        go_wp2_with fail
        go_ret
        refine ⟨⟨i, rfl, ?_⟩, HB1.out⟩
        have h1 : ganttWideRun (l.take (i + 1)) = true := by
          rw [ht.out]
          simp [ganttWideRun, hx]
        have h2 : ganttWideRun l = true := by
          unfold ganttWideRun at h1 ⊢
          rw [List.any_eq_true] at h1 ⊢
          obtain ⟨x, hx, hy⟩ := h1
          exact ⟨x, List.mem_of_mem_take hx, hy⟩
        rw [h2]
        exact decide_eq_true (by omega)
      · simp only [hx, decide_false]
        go_wp2_with fail
        go_round
        case rel =>
          refine ⟨i + 1, by go_num, by omega, ⟨?_⟩, HB1⟩
          rw [ht.out]
          have h0 := HH.out
          unfold ganttWideRun at h0 ⊢
          rw [List.any_append, h0]
          simpa using hx
        case measure => simp [intOf]; omega
    · have hie : i = l.length := by omega
      subst hie
      go_wp2_with fail
      go_ret
      refine ⟨⟨-1, rfl, ?_⟩, HB.out⟩
      have h0 := HH.out
      rw [List.take_length] at h0
      rw [h0]
      rfl

theorem gantt_contains0 (A : Option Addr) (c : Nat) (l : List S59) (w : World) (hr : Kd.C k59 w A l.length l) (hc : l.length ≤ c) :
    Calls Try.prog 63 #[.slice A l.length c, .func (.func 64) #[] #[]] w fun e w' => e = .returned (.bool (ganttWideRun l)) ∧ Below w.heap.size w w' := by
  go_enter Try.func63, Try.ntmps63
  go_wp2_with fail
  refine (gantt_index0 A c l w hr hc).mono ?_
  rintro e w1 ⟨⟨k, rfl, hk⟩, hb⟩
  go_wp2_with fail
  go_ret
  exact ⟨rfl, hb⟩

theorem gantt_wide1 (a : Int) (A : Option Addr) (c : Nat) (l : List S59) (w : World) (hr : Kd.C k59 w A l.length l) (hc : l.length ≤ c) :
    Calls Try.prog 62 #[.agg #[.int .i64 a, .slice A l.length c]] w fun e w' => e = .returned (.bool (ganttWideRun l)) ∧ Below w.heap.size w w' := by
  have HR := Aside0.mk hr
  clear hr
  go_enter Try.func62, Try.ntmps62
  go_wp2_with fail
  refine (gantt_contains0 A c l _ (Kd.C_below HR.out ((Below.refl w.heap.size w).alloc (Nat.le_refl _) _)) hc).mono ?_
  rintro e w1 ⟨rfl, hb⟩
  have HB := Aside0.mk (below_step ((Below.refl w.heap.size w).alloc (Nat.le_refl _) _) hb)
  clear hb
  go_wp2_with fail
  go_ret
  exact ⟨rfl, HB.out⟩

set_option maxHeartbeats 400000 in
theorem gantt_index1 (A : Option Addr) (c : Nat) (l : List S57) (w : World) (hr : Kd.C k57 w A l.length l) (hc : l.length ≤ c) :
    Calls Try.prog 74 #[.slice A l.length c, .func (.func 62) #[] #[]] w fun e w' => (∃ k : Int, e = .returned (.int .i64 k) ∧ decide (k ≥ 0) = ganttWide l) ∧ Below w.heap.size w w' := by
  have HR := Aside0.mk hr
  clear hr
  have hl : l.length ≤ 9223372036854775807 := HR.out.2.1
  go_enter Try.func74, Try.ntmps74
  go_wp2_with fail
  go_loopw [8] (fun v wr => ∃ i : Nat, v = .int .i64 i ∧ i ≤ l.length ∧ Aside0 (ganttWide (l.take i) = false) ∧ Aside0 (Below w.heap.size w wr)) (fun v _ => l.length - (intOf v).toNat)
  case atStart => exact ⟨0, rfl, by omega, ⟨rfl⟩, ⟨Below.refl _ _⟩⟩
  case round =>
    obtain ⟨i, rfl, hi, HH, HB⟩ := hrel
    by_cases hlt : i < l.length
    · obtain ⟨ad, A1, c1, e, hx0, hx1, hl1, hr1⟩ := at_T57 (Kd.C_below HR.out HB.out) (i : Int) (by omega) (by omega)
      subst e
      simp only [Int.toNat_natCast] at hx0 hx1
      have ht := Aside0.mk (take_getD l z57 i hlt)
      have hX : l.getD i z57 = rd_T57 l (i : Int) := by simp [rd_T57]
      rw [hX] at ht
      clear hX
      have HR1 := Aside0.mk hr1
      clear hr1
      go_wp2_with fail
      refine (gantt_wide1 _ _ _ _ _ HR1.out hl1).mono ?_
      rintro e w1 ⟨rfl, hb⟩
      have HB1 := Aside0.mk (below_step HB.out hb)
      clear hb
      dsimp only
      by_cases hx : ganttWideRun (rd_T57 l (i : Int)).f1 = true
      · rw [hx]
        go_wp2_with fail
        go_ret
        refine ⟨⟨i, rfl, ?_⟩, HB1.out⟩
        have h1 : ganttWide (l.take (i + 1)) = true := by
          rw [ht.out]
          simp [ganttWide, hx]
        have h2 : ganttWide l = true := by
          unfold ganttWide at h1 ⊢
          rw [List.any_eq_true] at h1 ⊢
          obtain ⟨x, hx, hy⟩ := h1
          exact ⟨x, List.mem_of_mem_take hx, hy⟩
        rw [h2]
        exact decide_eq_true (by omega)
      · have hx' : ganttWideRun (rd_T57 l (i : Int)).f1 = false := by simpa using hx
        rw [hx']
        go_wp2_with fail
        go_round
        case rel =>
          refine ⟨i + 1, by go_num, by omega, ⟨?_⟩, HB1⟩
          rw [ht.out]
          have h0 := HH.out
          unfold ganttWide at h0 ⊢
          rw [List.any_append, h0]
          simpa using hx'
        case measure => simp [intOf]; omega
    · have hie : i = l.length := by omega
      subst hie
      go_wp2_with fail
      go_ret
      refine ⟨⟨-1, rfl, ?_⟩, HB.out⟩
      have h0 := HH.out
      rw [List.take_length] at h0
      rw [h0]
      rfl

theorem gantt_contains1 (A : Option Addr) (c : Nat) (l : List S57) (w : World) (hr : Kd.C k57 w A l.length l) (hc : l.length ≤ c) :
    Calls Try.prog 65 #[.slice A l.length c, .func (.func 62) #[] #[]] w fun e w' => e = .returned (.bool (ganttWide l)) ∧ Below w.heap.size w w' := by
  go_enter Try.func65, Try.ntmps65
  go_wp2_with fail
  refine (gantt_index1 A c l w hr hc).mono ?_
  rintro e w1 ⟨⟨k, rfl, hk⟩, hb⟩
  go_wp2_with fail
  go_ret
  exact ⟨rfl, hb⟩

def gantt_Check.f (k : Nat) (l0 : List S57) (a1 : Int) : Option Bool :=
  if a1 > 0 ∧ a1 ≤ 64 ∧ (l0.length : Int) ≤ 1000 then (slot_Row.f k l0 a1).bind fun b => some (b && !ganttWide l0) else some false
set_option maxHeartbeats 400000 in
theorem gantt_Check.calls (k : Nat) (A0 : Option Addr) (c0 : Nat) (l0 : List S57) (a1 : Int) (r : Bool) (w : World) (hr0 : Kd.C k57 w A0 l0.length l0) (hc0 : l0.length ≤ c0) (h : gantt_Check.f k l0 a1 = some r) :
    Calls Try.prog 39 #[.slice A0 l0.length c0, .int .i64 a1] w fun e w' => e = .returned (.bool r) ∧ Below w.heap.size w w' := by
  have HR := Aside0.mk hr0
  clear hr0
  unfold gantt_Check.f at h
  by_cases c1 : a1 > 0
  · by_cases c2 : a1 ≤ 64
    · by_cases c3 : (l0.length : Int) ≤ 1000
      · rw [if_pos ⟨c1, c2, c3⟩] at h
        cases hrow : slot_Row.f k l0 a1 with
        | none => rw [hrow] at h; cases h
        | some b =>
          rw [hrow] at h
          have h := Option.some.inj h
          have HW := Aside0.mk hrow
          clear hrow
          cases b with
          | false =>
            simp only [Bool.false_and] at h
            subst h
            go_enter Try.func39, Try.ntmps39
            go_wp2_with fail
            refine (slot_Row.calls k A0 c0 l0 a1 false _ HR.out hc0 HW.out).mono ?_
            rintro e w1 ⟨rfl, hb⟩
            have HB := Aside0.mk hb
            clear hb
            go_wp2_with fail
            go_ret
            exact ⟨rfl, HB.out⟩
          | true =>
            simp only [Bool.true_and] at h
            subst h
            go_enter Try.func39, Try.ntmps39
            go_wp2_with fail
            refine (slot_Row.calls k A0 c0 l0 a1 true _ HR.out hc0 HW.out).mono ?_
            rintro e w1 ⟨rfl, hb⟩
            have HB := Aside0.mk hb
            clear hb
            go_wp2_with fail
            refine (gantt_contains1 A0 c0 l0 _ (Kd.C_below HR.out HB.out) hc0).mono ?_
            rintro e w2 ⟨rfl, hb2⟩
            have HB2 := Aside0.mk (below_step HB.out hb2)
            clear hb2
            go_wp2_with fail
            go_ret
            exact ⟨rfl, HB2.out⟩
      · rw [if_neg (fun h => c3 h.2.2)] at h
        obtain rfl := Option.some.inj h
        clear h
        go_enter Try.func39, Try.ntmps39
        go_wp2_with fail
        go_ret
        exact ⟨rfl, Below.refl _ _⟩
    · rw [if_neg (fun h => c2 h.2.1)] at h
      obtain rfl := Option.some.inj h
      clear h
      go_enter Try.func39, Try.ntmps39
      go_wp2_with fail
      go_ret
      exact ⟨rfl, Below.refl _ _⟩
  · rw [if_neg (fun h => c1 h.1)] at h
    obtain rfl := Option.some.inj h
    clear h
    go_enter Try.func39, Try.ntmps39
    go_wp2_with fail
    go_ret
    exact ⟨rfl, Below.refl _ _⟩

theorem gantt_Check.mono : ∀ a0 a1 k, LeO (gantt_Check.f k a0 a1) (gantt_Check.f (k + 1) a0 a1) := fun _ _ _ => LeO.ite (LeO.bind (slot_Row.mono _ _ _) (fun _ => LeO.refl _)) (LeO.refl _)
end

end Go.Proofs.Ytlblianpbjhmoaa.PGs
