/- Plain Lean: how often an ID runs and moves, how many cores are empty. -/
import Derived.Test.YtlblianpbjhmoaaQSlot
import Derived.Lib.SlicesCompact
import Derived.Test.YtlblianpbjhmoaaPGsx25
import Derived.Test.YtlblianpbjhmoaaPGsx28
import Derived.Test.YtlblianpbjhmoaaPGsx29
import Derived.Test.YtlblianpbjhmoaaPGsx30
namespace Go.Proofs.Ytlblianpbjhmoaa.QCount
open Go.RowKit Go.Proofs.Ytlblianpbjhmoaa.PGs Go.Proofs.YtlblianpbjhmoaaW.PrintWords Go.Proofs.YtlblianpbjhmoaaW.PrintLast
open Go.Proofs.Ytlblianpbjhmoaa.QEv Go.Proofs.Ytlblianpbjhmoaa.QBits Go.Proofs.Ytlblianpbjhmoaa.QSlot
set_option linter.unusedVariables false
set_option linter.unusedSimpArgs false

/-! ### The cores of an ID -/
def coresRun (id : Int) (rs : List S59) : List Int := (rs.filter (fun r => decide (r.f0 = id))).map (·.f1)
def coresOf (id : Int) (l : List S57) : List Int := (l.map (fun s => coresRun id s.f1)).flatten
theorem coresRun_cons (id : Int) (r : S59) (rs : List S59) : coresRun id (r :: rs) = (if r.f0 = id then [r.f1] else []) ++ coresRun id rs := by
  unfold coresRun
  by_cases h : r.f0 = id <;> simp [h]
theorem coresRun_len (id : Int) (rs : List S59) : (coresRun id rs).length ≤ rs.length := by
  unfold coresRun
  rw [List.length_map]
  exact List.length_filter_le _ _
theorem coresOf_cons (id : Int) (s : S57) (l : List S57) : coresOf id (s :: l) = coresRun id s.f1 ++ coresOf id l := rfl
theorem coresOf_append (id : Int) (a b : List S57) : coresOf id (a ++ b) = coresOf id a ++ coresOf id b := by simp [coresOf]
def total (l : List S57) : Nat := (l.map (fun s => s.f1.length)).sum
theorem total_cons (s : S57) (l : List S57) : total (s :: l) = s.f1.length + total l := by simp [total]
theorem total_append (a b : List S57) : total (a ++ b) = total a + total b := by simp [total]
theorem total_small {l : List S57} (hl : SmallRow l) : total l ≤ 100000 * l.length := by
  have h2 : ∀ s ∈ l, s.f1.length ≤ 100000 := hl.2
  clear hl
  induction l with
  | nil => simp [total]
  | cons s l ih =>
    have h1 := h2 s (by simp)
    have := ih (fun x hx => h2 x (List.mem_cons_of_mem _ hx))
    rw [total_cons, List.length_cons]; omega
theorem total_small' {l : List S57} (hl : SmallRow l) : total l ≤ 10000000000 := by
  have := total_small hl
  have : l.length ≤ 100000 := hl.1
  omega
theorem total_mem {l : List S57} {s : S57} (h : s ∈ l) : s.f1.length ≤ total l := by
  induction l with
  | nil => cases h
  | cons x l ih =>
    rw [total_cons]
    rcases List.mem_cons.1 h with rfl | h
    · omega
    · have := ih h; omega
theorem coresOf_len (id : Int) (l : List S57) : (coresOf id l).length ≤ total l := by
  induction l with
  | nil => simp [coresOf]
  | cons s l ih =>
    rw [coresOf_cons, List.length_append, total_cons]
    have := coresRun_len id s.f1
    omega
theorem cores_l1 (id : Int) (l : List S57) (xs : List S59) (hx : xs.length ≤ 100000) (r : List Int) (i : Int) (d : Nat) : ∀ (j : Nat) (acc : List Int), j + d = xs.length → acc.length + d ≤ 10000000000 →
    Tell (fun k => slot_cores.l0 k id (acc ++ coresRun id (xs.drop j)) l (l.length : Int) (wrap64 (i + 1))) r → Tell (fun k => slot_cores.l1 k id acc l (l.length : Int) i xs (xs.length : Int) (j : Int)) r := by
  induction d with
  | zero =>
    intro j acc hj _ h
    rw [List.drop_of_length_le (by omega)] at h
    have e : acc ++ coresRun id [] = acc := by simp [coresRun]
    rw [e] at h
    exact Tell.step (fun k => by rw [slot_cores.l1, if_neg (by omega)]) h
  | succ d ih =>
    intro j acc hj ha h
    have hlt : j < xs.length := by omega
    rw [List.drop_eq_getElem_cons hlt, coresRun_cons] at h
    by_cases hid : xs[j].f0 = id
    · rw [if_pos hid] at h
      have h2 := ih (j + 1) (acc ++ [xs[j].f1]) (by omega) (by rw [List.length_append, List.length_singleton]; omega) (by rw [List.append_assoc]; exact h)
      refine Tell.step (fun k => ?_) h2
      rw [slot_cores.l1, if_pos (by omega), if_pos (by omega), if_pos (by omega), rd59 xs j hlt, if_pos hid, if_pos (by omega), w64 (by omega) (by omega)]
      rfl
    · rw [if_neg hid, List.nil_append] at h
      have h2 := ih (j + 1) acc (by omega) (by omega) h
      refine Tell.step (fun k => ?_) h2
      rw [slot_cores.l1, if_pos (by omega), if_pos (by omega), if_pos (by omega), rd59 xs j hlt, if_neg hid, w64 (by omega) (by omega)]
      rfl
theorem cores_l0 (id : Int) (l : List S57) (hl : SmallRow l) (d : Nat) : ∀ (i : Nat) (acc : List Int), i + d = l.length → acc.length + total (l.drop i) ≤ 10000000000 →
    Tell (fun k => slot_cores.l0 k id acc l (l.length : Int) (i : Int)) (acc ++ coresOf id (l.drop i)) := by
  have hl' : l.length ≤ 100000 := hl.1
  induction d with
  | zero =>
    intro i acc hi _
    rw [List.drop_of_length_le (by omega)]
    have e : acc ++ coresOf id [] = acc := by simp [coresOf]
    rw [e]
    exact Tell.step (g := fun _ => some acc) (fun k => by rw [slot_cores.l0, if_neg (by omega)]) (Tell.const _)
  | succ d ih =>
    intro i acc hi ha
    have hlt : i < l.length := by omega
    have hs : l[i].f1.length ≤ 100000 := hl.2 l[i] (List.getElem_mem hlt)
    rw [List.drop_eq_getElem_cons hlt] at ha ⊢
    rw [total_cons] at ha
    rw [coresOf_cons, ← List.append_assoc]
    have hc := coresRun_len id l[i].f1
    have h := ih (i + 1) (acc ++ coresRun id l[i].f1) (by omega) (by rw [List.length_append]; omega)
    have e : wrap64 ((i : Int) + 1) = ((i + 1 : Nat) : Int) := by rw [w64 (by omega) (by omega)]; omega
    have h2 := cores_l1 id l l[i].f1 hs _ (i : Int) l[i].f1.length 0 acc (by omega) (by omega) (by rw [e]; exact h)
    refine Tell.step (fun k => ?_) h2
    rw [slot_cores.l0, if_pos (by omega), if_pos (by omega), if_pos (by omega), rd57 l i hlt]
    rfl
theorem cores_t (id : Int) (l : List S57) (hl : SmallRow l) : Tell (fun k => slot_cores.f k l id) (coresOf id l) := by
  have h := cores_l0 id l hl l.length 0 [] (by omega) (by have := total_small' hl; simpa using this)
  exact h
theorem quanta_t (id : Int) (l : List S57) (hl : SmallRow l) : Tell (fun k => slot_Quanta.f k l id) ((coresOf id l).length : Int) := by
  unfold slot_Quanta.f
  exact Tell.bind (cores_t id l hl) (Tell.const _)

/-! ### How often it moves -/
def chg : Option Int → List Int → Nat
  | _, [] => 0
  | p, y :: r => (if p = some y then 0 else 1) + chg (some y) r
def lastOf (p : Option Int) (l : List Int) : Option Int := match l.getLast? with | none => p | some y => some y
theorem chg_append (a b : List Int) : ∀ p, chg p (a ++ b) = chg p a + chg (lastOf p a) b := by
  induction a with
  | nil => intro p; simp [chg, lastOf]
  | cons x a ih =>
    intro p
    have e : lastOf p (x :: a) = lastOf (some x) a := by
      unfold lastOf
      rw [List.getLast?_cons]
      cases a.getLast? <;> rfl
    rw [List.cons_append]
    show (if p = some x then 0 else 1) + chg (some x) (a ++ b) = (if p = some x then 0 else 1) + chg (some x) a + chg (lastOf p (x :: a)) b
    rw [ih, e, Nat.add_assoc]
theorem chg_le (l : List Int) : ∀ p, chg p l ≤ l.length := by
  induction l with
  | nil => intro p; simp [chg]
  | cons x l ih =>
    intro p
    have := ih (some x)
    unfold chg
    rw [List.length_cons]
    split <;> omega
theorem chg_from (l : List Int) : ∀ p, chg p l ≤ chg none l ∧ chg none l ≤ chg p l + 1 := by
  intro p
  cases l with
  | nil => simp [chg]
  | cons x l =>
    unfold chg
    simp only [reduceCtorEq, if_false]
    split <;> omega
theorem compact_upto (zs : List Int) (m : Nat) (hm : m ≤ zs.length) : (Lib.compactUpTo zs.toArray m).length = chg none (zs.take m) := by
  induction m with
  | zero => simp [Lib.compactUpTo, chg]
  | succ m ih =>
    have hlt : m < zs.length := by omega
    rw [Lib.compactUpTo_succ, List.length_append, ih (by omega), List.take_succ_eq_append_getElem hlt, chg_append]
    congr 1
    have hg : zs.toArray[m]! = zs[m] := by simp [hlt]
    by_cases h0 : m = 0
    · subst h0
      simp [Lib.keeps, lastOf, chg]
    · have hp : zs.toArray[m - 1]! = zs[m - 1] := by
        have : m - 1 < zs.length := by omega
        simp [this]
      have hla : lastOf none (zs.take m) = some zs[m - 1] := by
        unfold lastOf
        rw [List.getLast?_take, if_neg h0, List.getElem?_eq_getElem (by omega)]
        rfl
      rw [hla]
      unfold Lib.keeps
      rw [hg, hp]
      by_cases he : zs[m] = zs[m - 1]
      · have : ¬ (m = 0 ∨ zs[m] ≠ zs[m - 1]) := by rintro (h | h); exact h0 h; exact h he
        rw [decide_eq_false this]
        simp [chg, he]
      · rw [decide_eq_true (Or.inr he)]
        have he' : ¬ zs[m - 1] = zs[m] := fun h => he h.symm
        simp [chg, he']
theorem compact_len (zs : List Int) : (Lib.compact zs).length = chg none zs := by
  have := compact_upto zs zs.length (Nat.le_refl _)
  rw [List.take_length] at this
  exact this
def movesOf (id : Int) (l : List S57) : Int := mx ((chg none (coresOf id l) : Int) - 1) 0
theorem moves_t (id : Int) (l : List S57) (hl : SmallRow l) (hs : total l ≤ 1000000000) : Tell (fun k => slot_Moves.f k l id) (movesOf id l) := by
  unfold slot_Moves.f
  refine Tell.bind (cores_t id l hl) ?_
  have h1 := chg_le (coresOf id l) none
  have h2 := coresOf_len id l
  refine Tell.of (fun k => ?_) (Tell.const _)
  rw [compact_len, if_pos (by omega)]
  rfl

/-! ### What is empty -/
theorem rowGo_chk {m : Int} {l : List S57} : ∀ {p : Option Int}, rowGo m p l = true → ∀ s ∈ l, chk m s = true := by
  induction l with
  | nil => intro p _ s hs; cases hs
  | cons x l ih =>
    intro p h s hs
    unfold rowGo at h
    rw [Bool.and_eq_true, Bool.and_eq_true] at h
    rcases List.mem_cons.1 hs with rfl | hs
    · exact h.1.1
    · exact ih h.2 s hs
theorem chk_m {m : Int} {s : S57} (h : chk m s = true) : 1 ≤ m ∧ m ≤ 1024 := by
  unfold chk at h
  split at h
  · cases h
  · omega
theorem empty_l0 (l : List S57) (hl : SmallRow l) (d : Nat) : ∀ (i : Nat) (n : Int), i + d = l.length → -1000000000000000 ≤ n - total (l.drop i) → n ≤ 1000000000000000 →
    Tell (fun k => slot_Empty.l0 k n l (l.length : Int) (i : Int)) (n - total (l.drop i)) := by
  have hl' : l.length ≤ 100000 := hl.1
  induction d with
  | zero =>
    intro i n hi _ _
    rw [List.drop_of_length_le (by omega)]
    have e : n - ((total [] : Nat) : Int) = n := by simp [total]
    rw [e]
    exact Tell.step (g := fun _ => some n) (fun k => by rw [slot_Empty.l0, if_neg (by omega)]) (Tell.const _)
  | succ d ih =>
    intro i n hi h0 h1
    have hlt : i < l.length := by omega
    rw [List.drop_eq_getElem_cons hlt, total_cons] at h0 ⊢
    have h := ih (i + 1) (n - (l[i].f1.length : Int)) (by omega) (by omega) (by omega)
    rw [show n - ((l[i].f1.length + total (l.drop (i + 1)) : Nat) : Int) = n - (l[i].f1.length : Int) - (total (l.drop (i + 1)) : Nat) by omega]
    refine Tell.step (fun k => ?_) h
    have b1 : -9223372036854775808 ≤ n - (l[i].f1.length : Int) := by omega
    have b2 : n - (l[i].f1.length : Int) ≤ 9223372036854775807 := by omega
    rw [slot_Empty.l0, if_pos (by omega), if_pos (by omega), if_pos (by omega), rd57 l i hlt, w64 b1 b2, w64 (x := (i : Int) + 1) (by omega) (by omega)]
    rfl
def emptyOf (m : Int) (l : List S57) : Int := if rowOk m l = true then (l.length : Int) * m - total l else 0
theorem empty_t (m : Int) (l : List S57) (hl : SmallRow l) : Tell (fun k => slot_Empty.f k l m) (emptyOf m l) := by
  have hl' : l.length ≤ 100000 := hl.1
  have ht := total_small hl
  unfold slot_Empty.f emptyOf
  refine Tell.bind (row_f m l hl) ?_
  by_cases h : rowOk m l = true
  · rw [if_pos h, h]
    have hm : 0 ≤ (l.length : Int) * m ∧ (l.length : Int) * m ≤ 102400000 := by
      cases l with
      | nil => simp
      | cons s r =>
        have := chk_m (rowGo_chk h s (by simp))
        constructor
        · exact Int.mul_nonneg (by omega) (by omega)
        · have h1 : ((s :: r).length : Int) * m ≤ ((s :: r).length : Int) * 1024 := Int.mul_le_mul_of_nonneg_left this.2 (by omega)
          omega
    have h2 := empty_l0 l hl l.length 0 ((l.length : Int) * m) (by omega) (by rw [List.drop_zero]; omega) (by omega)
    rw [List.drop_zero] at h2
    generalize (l.length : Int) * m = q at *
    refine Tell.of (fun k => ?_) h2
    rw [if_pos rfl, w64 (by omega) (by omega)]
    rfl
  · rw [if_neg h]
    have h' : rowOk m l = false := by simpa using h
    rw [h']
    exact Tell.of (fun k => by rw [if_neg (by simp)]) (Tell.const _)
end Go.Proofs.Ytlblianpbjhmoaa.QCount
