/- SlotBack: a row that was written is read; with a byte more it is none. -/
import Derived.Test.YtlblianpbjhmoaaQBack
import Derived.Test.YtlblianpbjhmoaaPGsx47
namespace Go.Proofs.Ytlblianpbjhmoaa.Pure
open Go.RowKit Go.Proofs.Ytlblianpbjhmoaa.PGs Go.Proofs.YtlblianpbjhmoaaW.PrintWords Go.Proofs.YtlblianpbjhmoaaW.PrintLast
open Go.Proofs.Ytlblianpbjhmoaa.QEv Go.Proofs.Ytlblianpbjhmoaa.QBits Go.Proofs.Ytlblianpbjhmoaa.QSlot Go.Proofs.Ytlblianpbjhmoaa.QCount Go.Proofs.Ytlblianpbjhmoaa.QMade16 Go.Proofs.Ytlblianpbjhmoaa.QBytes Go.Proofs.Ytlblianpbjhmoaa.QBack Go.Proofs.Ytlblianpbjhmoaa.MPut
set_option linter.unusedVariables false

theorem back_t (x0 : Int) (x1 : List (List Int)) (x2 : Int) (hl : x1.length ≤ 9223372036854775807) (hr : ∀ s ∈ x1, s.length ≤ 9223372036854775807) : Tell (fun k => regattalaw16_SlotBack.f k x0 x1 x2) true := by
  have hT := made_tiny x0 x1
  have hR := made_row 1024 (by omega) (by omega) x0 x1
  have hb := bytes_t (madeRow x0 x1) hT
  have hs := nums_size (madeRow x0 x1) [] (by simp) hT hR
  unfold QBytes.bytesRow at hb
  rw [if_pos hR] at hb
  rw [List.append_nil] at hs
  have h1 := read_t _ hT hR
  have h2 := read_more _ x2 hT hR
  have h3 := same_self _ hT
  have h4 := row_f 1024 _ hT.small
  rw [hR] at h4
  unfold regattalaw16_SlotBack.f
  refine Tell.bind awake16 (Tell.bind (made_t x0 x1 hl hr) (Tell.bind hb (Tell.bind h1 ?_)))
  have e1 : ∀ (c : Prop) [Decidable c] (h : c) {α : Type} (a b : Option α), (if c then a else b) = a := fun c _ h _ a b => if_pos h
  refine Tell.of (fun k => by
    rw [Option.bind_some, if_pos (by rw [strOfNums_size [x2]]; simp only [List.length_singleton]; omega), ← strOf_append]) (Tell.bind h2 (Tell.bind h3 ?_))
  refine Tell.of (fun k => by rw [if_pos rfl, if_pos rfl, if_pos rfl, if_neg (by decide)]) (Tell.bind h4 (Tell.const _))
theorem SlotBack : regattalaw16_SlotBack.Pure := by
  intro x0 x1 x2 _ h1 _
  exact (back_t x0 x1 x2 h1.1 (fun s hs => (h1.2 s hs).1)).get
end Go.Proofs.Ytlblianpbjhmoaa.Pure
