/- SlotCounts: all quanta and all that is empty are all cores of all slots; who moves, runs more often than it moves. -/
import Derived.Test.YtlblianpbjhmoaaQMade16
import Derived.Test.YtlblianpbjhmoaaPGsx39
namespace Go.Proofs.Ytlblianpbjhmoaa.Pure
open Go.RowKit Go.Proofs.Ytlblianpbjhmoaa.PGs Go.Proofs.YtlblianpbjhmoaaW.PrintWords Go.Proofs.YtlblianpbjhmoaaW.PrintLast
open Go.Proofs.Ytlblianpbjhmoaa.QEv Go.Proofs.Ytlblianpbjhmoaa.QBits Go.Proofs.Ytlblianpbjhmoaa.QSlot Go.Proofs.Ytlblianpbjhmoaa.QCount Go.Proofs.Ytlblianpbjhmoaa.QMade16
set_option linter.unusedVariables false

def sumTo (f : Nat → Nat) : Nat → Nat
  | 0 => 0
  | n + 1 => sumTo f n + f n
theorem sumTo_add (f g : Nat → Nat) (n : Nat) : sumTo (fun i => f i + g i) n = sumTo f n + sumTo g n := by
  induction n with
  | zero => rfl
  | succ n ih => unfold sumTo; rw [ih]; omega
theorem sumTo_zero (n : Nat) : sumTo (fun _ => 0) n = 0 := by
  induction n with
  | zero => rfl
  | succ n ih => unfold sumTo; rw [ih]
theorem sumTo_one (v : Int) (n : Nat) : sumTo (fun i => if v = (i : Int) then 1 else 0) n = if 0 ≤ v ∧ v < (n : Int) then 1 else 0 := by
  induction n with
  | zero => unfold sumTo; rw [if_neg (by omega)]
  | succ n ih =>
    unfold sumTo
    rw [ih]
    by_cases h : v = (n : Int)
    · rw [if_neg (by omega), if_pos h, if_pos (by omega)]
    · rw [if_neg h]
      by_cases h2 : 0 ≤ v ∧ v < (n : Int)
      · rw [if_pos h2, if_pos (by omega)]
      · rw [if_neg h2, if_neg (by omega)]
theorem sum_run (rs : List S59) (h : ∀ r ∈ rs, 0 ≤ r.f0 ∧ r.f0 < 256) : sumTo (fun i => (coresRun (i : Int) rs).length) 256 = rs.length := by
  induction rs with
  | nil => exact sumTo_zero 256
  | cons r rs ih =>
    have e : (fun i : Nat => (coresRun (i : Int) (r :: rs)).length) = fun i : Nat => (if r.f0 = (i : Int) then 1 else 0) + (coresRun (i : Int) rs).length := by
      funext i
      rw [coresRun_cons, List.length_append]
      congr 1
      split <;> rfl
    rw [e, sumTo_add, sumTo_one, ih (fun x hx => h x (List.mem_cons_of_mem _ hx)), if_pos (show 0 ≤ r.f0 ∧ r.f0 < ((256 : Nat) : Int) from h r (by simp)), List.length_cons]
    omega
theorem sum_of (l : List S57) (h : ∀ s ∈ l, ∀ r ∈ s.f1, 0 ≤ r.f0 ∧ r.f0 < 256) : sumTo (fun i => (coresOf (i : Int) l).length) 256 = total l := by
  induction l with
  | nil => exact sumTo_zero 256
  | cons s l ih =>
    have e : (fun i : Nat => (coresOf (i : Int) (s :: l)).length) = fun i : Nat => (coresRun (i : Int) s.f1).length + (coresOf (i : Int) l).length := by
      funext i
      rw [coresOf_cons, List.length_append]
    rw [e, sumTo_add, sum_run s.f1 (h s (by simp)), ih (fun x hx => h x (List.mem_cons_of_mem _ hx)), total_cons]
theorem sumTo_mono (f : Nat → Nat) (n d : Nat) : sumTo f n ≤ sumTo f (n + d) := by
  induction d with
  | zero => exact Nat.le_refl _
  | succ d ih => show sumTo f n ≤ sumTo f (n + d) + f (n + d); omega
theorem counts_l (m : Int) (hm0 : 64 ≤ m) (hm1 : m ≤ 80) (l : List S57) (hl : Tiny l) (hid : ∀ s ∈ l, ∀ r ∈ s.f1, 0 ≤ r.f0 ∧ r.f0 < 256) (d : Nat) : ∀ i : Nat, i + d = 256 →
    Tell (fun k => regattalaw16_SlotCounts.l0 k true l m ((l.length : Int) * m - total l + (sumTo (fun i => (coresOf (i : Int) l).length) i : Nat)) (i : Int)) true := by
  have hlen := hl.1
  have ht := hl.total
  have hq : 0 ≤ (l.length : Int) * m ∧ (l.length : Int) * m ≤ 960 := by
    constructor
    · exact Int.mul_nonneg (by omega) (by omega)
    · have h1 : (l.length : Int) * m ≤ (l.length : Int) * 80 := Int.mul_le_mul_of_nonneg_left hm1 (by omega)
      omega
  have hall := sum_of l hid
  induction d with
  | zero =>
    intro i hi
    obtain rfl : i = 256 := by omega
    rw [hall, Int.sub_add_cancel, Int.mul_comm]
    rw [Int.mul_comm] at hq
    refine Tell.step (g := fun _ => some true) (fun k => ?_) (Tell.const _)
    rw [regattalaw16_SlotCounts.l0, if_neg (by omega), if_pos rfl, w64 (by omega) (by omega), beq_self_eq_true]
  | succ d ih =>
    intro i hi
    have hnext := ih (i + 1) (by omega)
    have hb := sumTo_mono (fun i => (coresOf (i : Int) l).length) (i + 1) d
    rw [show i + 1 + d = 256 by omega, hall] at hb
    have hstep : sumTo (fun i => (coresOf (i : Int) l).length) (i + 1) = sumTo (fun i => (coresOf (i : Int) l).length) i + (coresOf (i : Int) l).length := rfl
    rw [hstep] at hnext hb
    generalize sumTo (fun i => (coresOf (i : Int) l).length) i = S at *
    have hmv := moves_t (i : Int) l hl.small (by omega)
    have hc := chg_le (coresOf (i : Int) l) none
    have hc0 : (coresOf (i : Int) l).length = 0 → chg none (coresOf (i : Int) l) = 0 := fun h => by omega
    refine Tell.step (fun k => by rw [regattalaw16_SlotCounts.l0, if_pos (by omega)]) ?_
    refine Tell.bind (quanta_t (i : Int) l hl.small) (Tell.bind hmv ?_)
    unfold movesOf mx
    generalize (coresOf (i : Int) l).length = q at *
    generalize chg none (coresOf (i : Int) l) = c at *
    generalize (l.length : Int) * m = z at *
    have e1 : wrap64 (z - (total l : Int) + (S : Int) + (q : Int)) = z - (total l : Int) + ((S + q : Nat) : Int) := by rw [w64 (by omega) (by omega)]; omega
    have e2 : wrap64 ((i : Int) + 1) = ((i + 1 : Nat) : Int) := by rw [w64 (by omega) (by omega)]; omega
    refine Tell.of (fun k => ?_) hnext
    rw [e1, e2, if_neg (by split <;> omega)]
    by_cases h0 : q = 0
    · have h1 := hc0 h0
      rw [if_pos (by omega), if_pos (by split <;> omega), if_neg (by omega)]
    · rw [if_neg (by omega), if_pos (by omega), if_neg (by rw [w64 (by omega) (by omega)]; split <;> omega)]
theorem SlotCounts : regattalaw16_SlotCounts.Pure := by
  intro x0 x1 x2 h0 h1 h2
  have hall : Tell (fun k => regattalaw16_SlotCounts.f k x0 x1 x2) true := by
    unfold regattalaw16_SlotCounts.f
    refine Tell.bind awake16 (Tell.bind (made_t x0 x1 h1.1 (fun s hs => (h1.2 s hs).1)) ?_)
    have b0 := Int.emod_nonneg x2 (show (16 : Int) ≠ 0 by decide)
    have b1 := Int.emod_lt_of_pos x2 (show (0 : Int) < 16 by decide)
    rw [and15, w64 (by omega) (by omega)]
    have he := empty_t (64 + x2 % 16) (madeRow x0 x1) (made_tiny x0 x1).small
    unfold emptyOf at he
    rw [if_pos (made_row _ (by omega) (by omega) x0 x1)] at he
    refine Tell.bind he ?_
    have h := counts_l (64 + x2 % 16) (by omega) (by omega) (madeRow x0 x1) (made_tiny x0 x1) (made_ids x0 x1) 256 0 (by omega)
    have e : ((madeRow x0 x1).length : Int) * (64 + x2 % 16) - total (madeRow x0 x1) + (sumTo (fun i => (coresOf (i : Int) (madeRow x0 x1)).length) 0 : Nat) = ((madeRow x0 x1).length : Int) * (64 + x2 % 16) - total (madeRow x0 x1) := by
      unfold sumTo; omega
    rw [e] at h
    exact h
  exact hall.get
end Go.Proofs.Ytlblianpbjhmoaa.Pure
