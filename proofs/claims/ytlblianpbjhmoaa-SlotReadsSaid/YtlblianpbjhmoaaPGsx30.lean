-- Written by wip/rprint.py of this session's repo (the kit's printer with patches), out of the translation. Not trusted: Lean checks it.
import Derived.Test.YtlblianpbjhmoaaPGsx0
import Derived.Test.YtlblianpbjhmoaaPGsx28
namespace Go.Proofs.Ytlblianpbjhmoaa.PGs
open Go.RowKit Go.Proofs.YtlblianpbjhmoaaW.PrintWords Go.Proofs.YtlblianpbjhmoaaW.PrintLast Go.Proofs.YtlblianpbjhmoaaW.PrintMore Go.Proofs.Ytlblianpbjhmoaa.MWords
attribute [local go_sem] max2_int min2_int max_two min_two max_three min_three max_four min_four   -- for this text's walks alone
set_option linter.unusedVariables false
set_option linter.unusedSimpArgs false

/-! ### slot_Moves: function 29 -/
section
open Go.Proofs.Ytlblianpbjhmoaa.MWords
def slot_Moves.f (k : Nat) (l0 : List S57) (a1 : Int) : Option Int := (slot_cores.f k l0 a1).bind fun t => if (Lib.compact t).length ≤ 1000000000 then some (mx (((Lib.compact t).length : Int) - 1) 0) else none
theorem slot_Moves.mono : ∀ a0 a1 k, LeO (slot_Moves.f k a0 a1) (slot_Moves.f (k + 1) a0 a1) := fun _ _ _ => LeO.bind (slot_cores.mono _ _ _) (fun _ => LeO.refl _)
set_option maxHeartbeats 400000 in
theorem slot_Moves.calls (k : Nat) (A0 : Option Addr) (c0 : Nat) (l0 : List S57) (a1 : Int) (r : Int) (w : World) (hr0 : Kd.C k57 w A0 l0.length l0) (hc0 : l0.length ≤ c0) (h : slot_Moves.f k l0 a1 = some r) :
    Calls Try.prog 29 #[.slice A0 l0.length c0, .int .i64 a1] w fun e w' => e = .returned (.int .i64 r) ∧ Below w.heap.size w w' := by
  have HR := Aside0.mk hr0
  clear hr0
  unfold slot_Moves.f at h
  obtain ⟨t, ht, h⟩ := Option.bind_eq_some_iff.1 h
  have HT := Aside0.mk ht
  clear ht
  split at h
  case isFalse => cases h
  rename_i hl
  have H := Aside0.mk (Option.some.inj h)
  clear h
  have hm : Builtin.max2 (.int .i64 (((Lib.compact t).length : Int) - 1)) (.int .i64 0) = pure (.int .i64 (mx (((Lib.compact t).length : Int) - 1) 0)) := by
    rw [max2_int]
    unfold mx
    by_cases c : ((Lib.compact t).length : Int) - 1 < 0
    · rw [if_pos c]
    · rw [if_neg c]
  generalize hn : (Lib.compact t).length = n at hl hm H
  go_enter Try.func29, Try.ntmps29
  go_wp2_with fail
  refine (slot_cores.calls k A0 c0 l0 a1 t _ HR.out hc0 HT.out).mono ?_
  rintro e w1 ⟨v, rfl, hv, hb⟩
  have HV := Aside0.mk hv
  have HB := Aside0.mk hb
  clear hv hb
  go_wp2_with fail
  refine (MCompact.compact_own w _ _ v t HV.out HB.out).mono ?_
  rintro e w2 ⟨⟨A, c, rfl⟩, hb⟩
  have HB2 := Aside0.mk hb
  clear hb
  rw [hn]
  go_wp2
  go_ret
  exact ⟨by rw [H.out] <;> rfl, HB2.out⟩
end

end Go.Proofs.Ytlblianpbjhmoaa.PGs
