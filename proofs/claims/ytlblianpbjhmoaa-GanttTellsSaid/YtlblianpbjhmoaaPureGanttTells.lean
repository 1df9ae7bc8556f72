import Derived.Test.YtlblianpbjhmoaaQDraw
import Derived.Test.YtlblianpbjhmoaaPGsx4
import Derived.Test.YtlblianpbjhmoaaPGsx9
namespace Go.Proofs.Ytlblianpbjhmoaa.Pure
open Go.RowKit Go.Proofs.Ytlblianpbjhmoaa.PGs Go.Proofs.YtlblianpbjhmoaaW.PrintWords Go.Proofs.YtlblianpbjhmoaaW.PrintLast
open Go.Proofs.Ytlblianpbjhmoaa.QEv Go.Proofs.Ytlblianpbjhmoaa.QBits Go.Proofs.Ytlblianpbjhmoaa.QSlot Go.Proofs.Ytlblianpbjhmoaa.GLetters Go.Proofs.Ytlblianpbjhmoaa.QGantt Go.Proofs.Ytlblianpbjhmoaa.QDraw

theorem wf_le {x : Int} (h : (Lit.int .i64 x).wf = true) : -9223372036854775808 ≤ x ∧ x ≤ 9223372036854775807 := by
  have h' : (decide (IntKind.i64.min ≤ x) && decide (x ≤ IntKind.i64.max)) = true := h
  have e1 : IntKind.i64.min = -9223372036854775808 := by decide
  have e2 : IntKind.i64.max = 9223372036854775807 := by decide
  rw [e1, e2] at h'
  simpa using h'
theorem GanttTells : regattalaw25_GanttTells.Pure := by
  intro x0 x1 x2 h0 h1 h2
  have hraw : ∀ s ∈ x0, ∀ r ∈ s.f1, r.f0 ≤ 9223372036854775807 := fun s hs r hr => (wf_le ((h0.2 s hs).2.2 r hr).1).2
  have hfew := few_f x0 h0.1 (fun s hs => (h0.2 s hs).2.1)
  have hmade := made_f x1 h1.1 (fun s hs => (h1.2 s hs).1)
  have hb := wf_le h2.2
  have hz0 := Int.emod_nonneg x2.f0 (show (64 : Int) ≠ 0 by decide)
  have hz1 := Int.emod_lt_of_pos x2.f0 (show (0 : Int) < 64 by decide)
  have hc0 := Int.emod_nonneg x2.f1 (show (256 : Int) ≠ 0 by decide)
  have hc1 := Int.emod_lt_of_pos x2.f1 (show (0 : Int) < 256 by decide)
  have hend : Tell (fun k => regattalaw25_GanttTells.j1 k true true x2.f0 x2.f1) true := by
    refine Tell.step (fun k => by rw [regattalaw25_GanttTells.j1, if_pos rfl, if_pos rfl, letter_f, id_f, and63, letter_f]) ?_
    simp only [Option.bind_some]
    refine Tell.bind (refletter_f x2.f1 hb.2) ?_
    simp only [if_true]
    refine Tell.bind (refid_f _ hc0 hc1) ?_
    simp only [if_true]
    refine Tell.bind (refletter_f _ (by omega)) ?_
    simp only [beq_self_eq_true]
    exact Tell.const _
  have hj : ∀ m, Tell (fun k => regattalaw25_GanttTells.j0 k x0 x1 true m x2.f0 x2.f1) true := by
    intro m
    refine Tell.step (fun k => by rw [regattalaw25_GanttTells.j0]) ?_
    refine Tell.bind hfew (Tell.bind (tells_f m _ (few_small x0) (few_sized x0 hraw)) ?_)
    simp only [if_true]
    refine Tell.bind hmade (Tell.bind (tells_f m _ (made_small x1) (made_sized x1)) ?_)
    simp only [if_true]
    refine Tell.bind hmade (Tell.bind (tells_f 64 _ (made_small x1) (made_sized x1)) ?_)
    simp only [if_true]
    refine Tell.bind hfew (Tell.bind (tells_f 4 _ (few_small x0) (few_sized x0 hraw)) ?_)
    simp only [if_true]
    refine Tell.bind (tells_f _ [] ⟨by simp [Small], by simp⟩ (by intro s hs; simp at hs)) ?_
    exact hend
  have hall : Tell (fun k => regattalaw25_GanttTells.f k x0 x1 x2.f0 x2.f1) true := by
    unfold regattalaw25_GanttTells.f
    refine Tell.bind (⟨20, fun k hk => awake25 k hk⟩ : Tell (fun k => regattalaw25_awake.f k) true) ?_
    by_cases h : Go.bits .and .i64 x2.f0 127 > 70
    · simp only [h, if_true]; exact hj _
    · simp only [h, if_false]; exact hj _
  exact hall.get
end Go.Proofs.Ytlblianpbjhmoaa.Pure
