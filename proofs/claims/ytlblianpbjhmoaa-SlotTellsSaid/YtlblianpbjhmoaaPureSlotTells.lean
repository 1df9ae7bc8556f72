/- SlotTells: rows are told as P16.1 says, and written as P16.2 does. -/
import Derived.Test.YtlblianpbjhmoaaQBytes
import Derived.Test.YtlblianpbjhmoaaPGsx35
import Derived.Test.YtlblianpbjhmoaaPGsx36
import Derived.Test.YtlblianpbjhmoaaPGsx38
namespace Go.Proofs.Ytlblianpbjhmoaa.Pure
open Go.RowKit Go.Proofs.Ytlblianpbjhmoaa.PGs Go.Proofs.YtlblianpbjhmoaaW.PrintWords Go.Proofs.YtlblianpbjhmoaaW.PrintLast
open Go.Proofs.Ytlblianpbjhmoaa.QEv Go.Proofs.Ytlblianpbjhmoaa.QBits Go.Proofs.Ytlblianpbjhmoaa.QSlot Go.Proofs.Ytlblianpbjhmoaa.QCount Go.Proofs.Ytlblianpbjhmoaa.QMade16 Go.Proofs.Ytlblianpbjhmoaa.QBytes
set_option linter.unusedVariables false

theorem tells_l0 (m id : Int) (l : List S57) (hT : Tiny l) (d : Nat) : ∀ i, i + d = l.length → Tell (fun k => regattalaw16_tells.l0 k l m id (i : Int)) true := by
  have hl := hT.1
  induction d with
  | zero =>
    intro i hi
    refine Tell.step (fun k => by rw [regattalaw16_tells.l0, if_neg (by omega)]) ?_
    refine Tell.bind (row_f m l hT.small) (Tell.bind (refrow_f m l hT.small) ?_)
    refine Tell.of (fun k => by rw [beq_self_eq_true, if_pos rfl]) ?_
    refine Tell.bind (quanta_t id l hT.small) (Tell.bind (rquanta_t id l hT) ?_)
    refine Tell.of (fun k => by rw [if_pos rfl]) ?_
    refine Tell.bind (moves_t id l hT.small (by have := hT.total; omega)) (Tell.bind (rmoves_t id l hT) ?_)
    refine Tell.of (fun k => by rw [if_pos rfl]) ?_
    refine Tell.bind (empty_t m l hT.small) (Tell.bind (rempty_t m l hT) ?_)
    refine Tell.of (fun k => by rw [if_pos rfl]) ?_
    refine Tell.bind (bytes_t l hT) (Tell.bind (rbytes_t l hT) ?_)
    exact Tell.of (fun k => by rw [beq_self_eq_true]) (Tell.const true)
  | succ d ih =>
    intro i hi
    have hlt : i < l.length := by omega
    have hs : Small l[i].f1 := hT.small.2 _ (List.getElem_mem hlt)
    have hck := refcheck_f l[i] m hs
    rw [chk_ref] at hck
    refine Tell.step (fun k => by rw [regattalaw16_tells.l0, if_pos (by omega), if_pos (by omega), rd57 l i hlt, check_f _ _ hs, Option.bind_some]) ?_
    refine Tell.bind hck ?_
    refine Tell.of (fun k => ?_) (ih (i + 1) (by omega))
    rw [bne_self_eq_false, if_neg (by simp), w64 (by omega) (by omega)]
    rfl
theorem tells_t (m id : Int) (l : List S57) (hT : Tiny l) : Tell (fun k => regattalaw16_tells.f k l m id) true := tells_l0 m id l hT l.length 0 (by omega)

def fewOf (l : List S57) : List S57 := (l.take 6).map (fun s => ⟨s.f0, s.f1.take 6⟩)
theorem few_l0 (l : List S57) (hl : l.length ≤ 9223372036854775807) (hr : ∀ s ∈ l, s.f1.length ≤ 9223372036854775807) (d : Nat) : ∀ (i : Nat) (acc : List S57), i + d = 6 → acc.length = min i l.length → Tell (fun k => regattalaw16_few.l0 k l acc (i : Int)) (acc ++ ((l.drop i).take d).map (fun s => ⟨s.f0, s.f1.take 6⟩)) := by
  induction d with
  | zero =>
    intro i acc hi ha
    simp only [List.take_zero, List.map_nil, List.append_nil]
    have hj : Tell (fun k => regattalaw16_few.j1 k l acc (i : Int) false) acc := Tell.step (g := fun _ => some acc) (fun k => by rw [regattalaw16_few.j1, if_neg (by simp)]) (Tell.const _)
    refine Tell.step (fun k => ?_) hj
    rw [regattalaw16_few.l0, decide_eq_false (by omega)]
    simp
  | succ d ih =>
    intro i acc hi ha
    by_cases hlt : i < l.length
    · have hs := hr l[i] (List.getElem_mem hlt)
      have h := ih (i + 1) (acc ++ [⟨l[i].f0, l[i].f1.take 6⟩]) (by omega) (by rw [List.length_append, List.length_singleton]; omega)
      rw [List.drop_eq_getElem_cons hlt, List.take_succ_cons, List.map_cons]
      rw [List.append_assoc, List.singleton_append] at h
      have e1 : wrap64 ((i : Int) + 1) = ((i + 1 : Nat) : Int) := by rw [w64 (by omega) (by omega)]; omega
      have hj : Tell (fun k => regattalaw16_few.j1 k l acc (i : Int) true) (acc ++ ⟨l[i].f0, l[i].f1.take 6⟩ :: ((l.drop (i + 1)).take d).map (fun s => ⟨s.f0, s.f1.take 6⟩)) := by
        refine Tell.step (fun k => ?_) h
        rw [regattalaw16_few.j1, if_pos rfl, if_pos (by omega), if_pos (by omega), rd57 l i hlt, e1]
        by_cases h6 : (l[i].f1.length : Int) > 6
        · rw [if_pos h6, if_pos (by omega), if_pos (by omega)]
        · rw [if_neg h6, if_pos (by omega), List.take_of_length_le (l := l[i].f1) (by omega)]
      refine Tell.step (fun k => ?_) hj
      rw [regattalaw16_few.l0, if_pos (by omega), decide_eq_true (by omega)]
    · rw [List.drop_of_length_le (by omega)]
      simp only [List.take_nil, List.map_nil, List.append_nil]
      have hj : Tell (fun k => regattalaw16_few.j1 k l acc (i : Int) false) acc := Tell.step (g := fun _ => some acc) (fun k => by rw [regattalaw16_few.j1, if_neg (by simp)]) (Tell.const _)
      refine Tell.step (fun k => ?_) hj
      rw [regattalaw16_few.l0, if_neg (by omega)]
theorem few_t (l : List S57) (hl : l.length ≤ 9223372036854775807) (hr : ∀ s ∈ l, s.f1.length ≤ 9223372036854775807) : Tell (fun k => regattalaw16_few.f k l) (fewOf l) := by
  have h := few_l0 l hl hr 6 0 [] (by omega) (by simp)
  exact h
theorem few_tiny (l : List S57) : Tiny (fewOf l) := by
  unfold Tiny fewOf
  refine ⟨by rw [List.length_map, List.length_take]; omega, ?_⟩
  intro s hs
  obtain ⟨x, _, rfl⟩ := List.mem_map.1 hs
  show (x.f1.take 6).length ≤ 8
  rw [List.length_take]; omega
theorem SlotTells : regattalaw16_SlotTells.Pure := by
  intro x0 x1 x2 h0 h1 h2
  have hfew := few_t x0 h0.1 (fun s hs => (h0.2 s hs).2.1)
  have hmade := made_t x1 x2 h2.1 (fun s hs => (h2.2 s hs).1)
  have hall : Tell (fun k => regattalaw16_SlotTells.f k x0 x1 x2) true := by
    unfold regattalaw16_SlotTells.f
    refine Tell.bind awake16 ?_
    refine Tell.of (fun k => by rw [if_pos rfl]) (Tell.bind hfew (Tell.bind (tells_t _ 3 _ (few_tiny x0)) ?_))
    refine Tell.of (fun k => by rw [if_pos rfl]) (Tell.bind hfew (Tell.bind (tells_t 4 0 _ (few_tiny x0)) ?_))
    refine Tell.of (fun k => by rw [if_pos rfl]) (Tell.bind hmade (Tell.bind (tells_t _ 8 _ (made_tiny x1 x2)) ?_))
    refine Tell.of (fun k => by rw [if_pos rfl]) (Tell.bind hmade (Tell.bind (tells_t 64 _ _ (made_tiny x1 x2)) ?_))
    refine Tell.of (fun k => by rw [if_pos rfl]) (Tell.bind hfew (Tell.bind (tells_t x1 x1 _ (few_tiny x0)) ?_))
    exact Tell.const true
  exact hall.get
end Go.Proofs.Ytlblianpbjhmoaa.Pure
