/- SlotParts: a row's counts are those of its parts; what is empty in a part and in the rest is empty in all. -/
import Derived.Test.YtlblianpbjhmoaaQMade16
import Derived.Test.YtlblianpbjhmoaaPGsx40
namespace Go.Proofs.Ytlblianpbjhmoaa.Pure
open Go.RowKit Go.Proofs.Ytlblianpbjhmoaa.PGs Go.Proofs.YtlblianpbjhmoaaW.PrintWords Go.Proofs.YtlblianpbjhmoaaW.PrintLast
open Go.Proofs.Ytlblianpbjhmoaa.QEv Go.Proofs.Ytlblianpbjhmoaa.QBits Go.Proofs.Ytlblianpbjhmoaa.QSlot Go.Proofs.Ytlblianpbjhmoaa.QCount Go.Proofs.Ytlblianpbjhmoaa.QMade16
set_option linter.unusedVariables false

theorem chg_pos {l : List Int} (h : l ≠ []) : 1 ≤ chg none l := by
  cases l with
  | nil => exact absurd rfl h
  | cons x l => unfold chg; simp <;> omega
theorem parts_moves (id : Int) (a b : List S57) (ht : total (a ++ b) ≤ 96) : movesOf id (a ++ b) - movesOf id a - movesOf id b ≤ 1 ∧ movesOf id a ≤ movesOf id (a ++ b) ∧ 0 ≤ movesOf id a ∧ 0 ≤ movesOf id b ∧ movesOf id (a ++ b) ≤ 96 ∧ movesOf id b ≤ 96 := by
  have hl := coresOf_len id (a ++ b)
  have hc := chg_le (coresOf id (a ++ b)) none
  have hcb := chg_le (coresOf id b) none
  unfold movesOf
  rw [coresOf_append] at hl hc ⊢
  rw [List.length_append] at hl hc
  rw [chg_append] at hc ⊢
  generalize coresOf id a = A at *
  generalize coresOf id b = B at *
  have h1 := chg_from B (lastOf none A)
  by_cases hA : A = []
  · subst hA
    have e : lastOf none ([] : List Int) = none := rfl
    have e2 : chg none ([] : List Int) = 0 := rfl
    rw [e] at hc ⊢
    rw [e2] at hc ⊢
    unfold mx
    refine ⟨?_, ?_, ?_, ?_, ?_, ?_⟩ <;> (repeat' split) <;> omega
  · have h2 := chg_pos hA
    by_cases hB : B = []
    · subst hB
      have e2 : ∀ p, chg p ([] : List Int) = 0 := fun p => by cases p <;> rfl
      rw [e2] at hc h1 ⊢
      rw [e2]
      unfold mx
      refine ⟨?_, ?_, ?_, ?_, ?_, ?_⟩ <;> (repeat' split) <;> omega
    · have h3 := chg_pos hB
      unfold mx
      refine ⟨?_, ?_, ?_, ?_, ?_, ?_⟩ <;> (repeat' split) <;> omega
theorem parts_j (x0 : Int) (x1 : List (List Int)) (kk : Nat) (hk : kk ≤ (madeRow x0 x1).length) (a b : Int) : Tell (fun k => regattalaw16_SlotParts.j0 k true (madeRow x0 x1) (kk : Int) a b) true := by
  have hT := made_tiny x0 x1
  have hR := made_row 64 (by omega) (by omega) x0 x1
  generalize madeRow x0 x1 = l at *
  have hab := List.take_append_drop kk l
  have hla : (l.take kk).length = kk := by rw [List.length_take]; omega
  have hlb : (l.drop kk).length = l.length - kk := List.length_drop
  generalize hA : l.take kk = A at *
  generalize hB : l.drop kk = B at *
  subst hab
  obtain ⟨tA, tB⟩ := hT.part
  obtain ⟨rA, rB⟩ := rowGo_parts hR
  have ht := hT.total
  have hlen := hT.1
  generalize hid : Go.bits .and .i64 b 255 = id
  have hm := parts_moves id A B ht
  have q1 := quanta_t id (A ++ B) hT.small
  have q2 := quanta_t id A tA.small
  have q3 := quanta_t id B tB.small
  have e1 := empty_t 64 (A ++ B) hT.small
  have e2 := empty_t 64 A tA.small
  have e3 := empty_t 64 B tB.small
  have m1 := moves_t id (A ++ B) hT.small (by omega)
  have m2 := moves_t id A tA.small (by have := total_append A B; omega)
  have m3 := moves_t id B tB.small (by have := total_append A B; omega)
  have r3 := row_f 64 B tB.small
  unfold emptyOf at e1 e2 e3
  rw [if_pos hR] at e1
  rw [if_pos (show rowOk 64 A = true from rA)] at e2
  rw [if_pos (show rowOk 64 B = true from rB)] at e3
  rw [show rowOk 64 B = true from rB] at r3
  have lq := coresOf_len id (A ++ B)
  rw [coresOf_append, List.length_append] at q1 lq
  rw [List.length_append] at e1 hlen hk
  have htt := total_append A B
  rw [htt] at e1 ht lq
  generalize (coresOf id A).length = cA at *
  generalize (coresOf id B).length = cB at *
  generalize movesOf id (A ++ B) = mAB at *
  generalize movesOf id A = mA at *
  generalize movesOf id B = mB at *
  refine Tell.step (fun k => by rw [regattalaw16_SlotParts.j0, if_pos rfl, hid, Int.toNat_natCast, hA, hB]) ?_
  refine Tell.bind q1 ?_
  refine Tell.of (fun k => by rw [if_pos (by omega), if_pos (by rw [List.length_append]; omega)]) ?_
  refine Tell.bind q2 (Tell.bind q3 ?_)
  refine Tell.of (fun k => by rw [if_pos (by rw [w64 (by omega) (by omega)]; omega)]) ?_
  refine Tell.bind e1 (Tell.bind e2 (Tell.bind e3 ?_))
  refine Tell.of (fun k => by rw [if_pos (by rw [w64 (by omega) (by omega)]; omega)]) ?_
  refine Tell.bind m1 (Tell.bind m2 (Tell.bind m3 ?_))
  refine Tell.of (fun k => by rw [if_pos (by rw [w64 (x := mAB - mA) (by omega) (by omega), w64 (by omega) (by omega)]; omega)]) ?_
  refine Tell.bind r3 ?_
  refine Tell.of (fun k => by rw [if_pos rfl]) ?_
  refine Tell.bind m1 (Tell.bind m2 ?_)
  exact Tell.of (fun k => by rw [decide_eq_true hm.2.1]) (Tell.const true)
theorem SlotParts : regattalaw16_SlotParts.Pure := by
  intro x0 x1 x2 h0 h1 h2
  have hall : Tell (fun k => regattalaw16_SlotParts.f k x0 x1 x2.f0 x2.f1) true := by
    unfold regattalaw16_SlotParts.f
    refine Tell.bind awake16 (Tell.bind (made_t x0 x1 h1.1 (fun s hs => (h1.2 s hs).1)) ?_)
    have hlen := (made_tiny x0 x1).1
    by_cases hp : ((madeRow x0 x1).length : Int) > 0
    · refine Tell.of (fun k => by rw [if_pos hp, if_neg (by omega)]) ?_
      have g0 := Int.tmod_lt_of_pos x2.f0 (show (0 : Int) < ((madeRow x0 x1).length : Int) by omega)
      have g1 := Int.lt_tmod_of_pos x2.f0 (show (0 : Int) < ((madeRow x0 x1).length : Int) by omega)
      rw [w64 (by omega) (by omega), Int.tmod_eq_emod_of_nonneg (by omega)]
      generalize Int.tmod x2.f0 ((madeRow x0 x1).length : Int) + ((madeRow x0 x1).length : Int) = y at *
      have g2 := Int.emod_nonneg y (show ((madeRow x0 x1).length : Int) ≠ 0 by omega)
      have g3 := Int.emod_lt_of_pos y (show (0 : Int) < ((madeRow x0 x1).length : Int) by omega)
      have h := parts_j x0 x1 (y % ((madeRow x0 x1).length : Int)).toNat (by omega) x2.f0 x2.f1
      rw [Int.toNat_of_nonneg g2] at h
      exact h
    · refine Tell.of (fun k => by rw [if_neg hp]) ?_
      exact parts_j x0 x1 0 (by omega) x2.f0 x2.f1
  exact hall.get
end Go.Proofs.Ytlblianpbjhmoaa.Pure
