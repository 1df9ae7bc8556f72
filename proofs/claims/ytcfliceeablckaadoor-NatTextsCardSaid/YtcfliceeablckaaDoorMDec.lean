/-
  Plain Lean: numbers as rows of decs of 32 bits, the lowest first.
-/
import Derived.Test.YtcfliceeablckaaDoorMNat
namespace Go.Proofs.YtcfliceeablckaaDoor.MDec
open Go.Proofs.YtcfliceeablckaaDoor.MNat (trim trim_nil trim_snoc0 trim_snoc take_succ_rd rev_ind)

/-- The number of a row of decs. -/
def dval : List Int → Nat
  | [] => 0
  | x :: xs => x.toNat + 10 * dval xs
/-- A number's row. -/
def decs (n : Nat) : List Int :=
  if h : n = 0 then [] else ((n % 10 : Nat) : Int) :: decs (n / 10)
  termination_by n
  decreasing_by omega
/-- Each is a limb. -/
def Dgt (l : List Int) : Prop := ∀ x ∈ l, 0 ≤ x ∧ x < 10
instance (l : List Int) : Decidable (Dgt l) := by unfold Dgt; infer_instance
theorem decs_zero : decs 0 = [] := by rw [decs]; simp
theorem decs_pos (n : Nat) (h : n ≠ 0) : decs n = ((n % 10 : Nat) : Int) :: decs (n / 10) := by rw [decs]; simp [h]
theorem dval_decs (n : Nat) : dval (decs n) = n := by
  induction n using Nat.strongRecOn with
  | _ n ih =>
    by_cases h : n = 0
    · subst h; rw [decs_zero]; rfl
    · rw [decs_pos n h, dval, ih (n / 10) (by omega)]; omega
theorem dgt_decs (n : Nat) : Dgt (decs n) := by
  induction n using Nat.strongRecOn with
  | _ n ih =>
    by_cases h : n = 0
    · subst h; rw [decs_zero]; intro x hx; cases hx
    · rw [decs_pos n h]
      intro x hx
      rcases List.mem_cons.1 hx with rfl | hx
      · omega
      · exact ih (n / 10) (by omega) x hx
theorem dgt_nil : Dgt [] := fun x hx => by cases hx
theorem dgt_cons {x : Int} {xs : List Int} : Dgt (x :: xs) ↔ (0 ≤ x ∧ x < 10) ∧ Dgt xs := by
  constructor
  · intro h; exact ⟨h x List.mem_cons_self, fun y hy => h y (List.mem_cons_of_mem _ hy)⟩
  · rintro ⟨h1, h2⟩ y hy
    rcases List.mem_cons.1 hy with rfl | hy
    · exact h1
    · exact h2 y hy
theorem dgt_append {xs ys : List Int} : Dgt (xs ++ ys) ↔ Dgt xs ∧ Dgt ys := by
  constructor
  · intro h; exact ⟨fun y hy => h y (List.mem_append_left _ hy), fun y hy => h y (List.mem_append_right _ hy)⟩
  · rintro ⟨h1, h2⟩ y hy
    rcases List.mem_append.1 hy with hy | hy
    · exact h1 y hy
    · exact h2 y hy
theorem dgt_take {xs : List Int} (h : Dgt xs) (k : Nat) : Dgt (xs.take k) := fun x hx => h x (List.mem_of_mem_take hx)
theorem dgt_drop {xs : List Int} (h : Dgt xs) (k : Nat) : Dgt (xs.drop k) := fun x hx => h x (List.mem_of_mem_drop hx)
theorem dgt_getD {xs : List Int} (h : Dgt xs) (k : Nat) : 0 ≤ xs.getD k 0 ∧ xs.getD k 0 < 10 := by
  by_cases hk : k < xs.length
  · have e : xs.getD k 0 = xs[k] := by simp [List.getD, hk]
    rw [e]; exact h _ (List.getElem_mem hk)
  · have e : xs.getD k 0 = 0 := by simp [List.getD, List.getElem?_eq_none (Nat.le_of_not_lt hk)]
    rw [e]; omega
theorem dval_append (xs ys : List Int) : dval (xs ++ ys) = dval xs + 10 ^ xs.length * dval ys := by
  induction xs with
  | nil => simp [dval]
  | cons x xs ih =>
    simp only [List.cons_append, dval, ih, List.length_cons, Nat.pow_succ]
    rw [Nat.mul_add, Nat.mul_comm (10 ^ xs.length) 10, Nat.mul_assoc]; omega
theorem dval_snoc (xs : List Int) (x : Int) : dval (xs ++ [x]) = dval xs + 10 ^ xs.length * x.toNat := by
  rw [dval_append]; simp [dval]
theorem dval_lt {xs : List Int} (h : Dgt xs) : dval xs < 10 ^ xs.length := by
  induction xs with
  | nil => simp [dval]
  | cons x xs ih =>
    obtain ⟨⟨h0, h1⟩, h2⟩ := dgt_cons.1 h
    have := ih h2
    simp only [dval, List.length_cons, Nat.pow_succ]
    omega
theorem dgt_zeros (k : Nat) : Dgt (List.replicate k 0) := fun x hx => by rw [List.eq_of_mem_replicate hx]; omega
theorem dval_zeros (k : Nat) : dval (List.replicate k 0) = 0 := by
  induction k with
  | zero => rfl
  | succ k ih => simp [List.replicate_succ, dval, ih]
/-- A row with no nought at its end is its number's. -/
theorem decs_dval {xs : List Int} (h : Dgt xs) (hn : xs = [] ∨ ∃ ys x, xs = ys ++ [x] ∧ x ≠ 0) : decs (dval xs) = xs := by
  induction xs with
  | nil => simp [dval, decs_zero]
  | cons x xs ih =>
    obtain ⟨⟨h0, h1⟩, h2⟩ := dgt_cons.1 h
    have hne : dval (x :: xs) ≠ 0 := by
      rcases hn with hn | ⟨ys, z, hn, hz⟩
      · cases hn
      · rw [hn, dval_snoc]
        have hz' : z ∈ x :: xs := by rw [hn]; simp
        have := h z hz'
        have : 0 < 10 ^ ys.length * z.toNat := Nat.mul_pos (Nat.pow_pos (by omega)) (by omega)
        omega
    rw [decs_pos _ hne]
    have e1 : dval (x :: xs) % 10 = x.toNat := by simp only [dval]; omega
    have e2 : dval (x :: xs) / 10 = dval xs := by simp only [dval]; omega
    rw [e1, e2, Int.toNat_of_nonneg h0]
    congr 1
    apply ih h2
    rcases hn with hn | ⟨ys, z, hn, hz⟩
    · cases hn
    · cases ys with
      | nil => simp at hn; exact .inl hn.2
      | cons y ys => simp at hn; exact .inr ⟨ys, z, hn.2, hz⟩
theorem trim_eq {xs : List Int} (h : Dgt xs) : trim xs = decs (dval xs) := by
  induction xs using rev_ind with
  | h0 => simp [trim_nil, dval, decs_zero]
  | h1 xs x ih =>
    obtain ⟨h1, h2⟩ := dgt_append.1 h
    by_cases hx : x = 0
    · subst hx; rw [trim_snoc0, ih h1, dval_snoc]; simp
    · rw [trim_snoc _ _ hx]; exact (decs_dval h (.inr ⟨xs, x, rfl, hx⟩)).symm
theorem decs_len (n k : Nat) (h : n < 10 ^ k) : (decs n).length ≤ k := by
  induction k generalizing n with
  | zero => simp at h; subst h; simp [decs_zero]
  | succ k ih =>
    by_cases hn : n = 0
    · subst hn; simp [decs_zero]
    · rw [decs_pos n hn, List.length_cons]
      have := ih (n / 10) (by rw [Nat.pow_succ] at h; omega)
      omega
theorem decs_ne (n : Nat) (h : n ≠ 0) : decs n ≠ [] := by rw [decs_pos n h]; simp
/-- The last limb is no nought. -/
theorem decs_last (n : Nat) : decs n = [] ∨ ∃ ys x, decs n = ys ++ [x] ∧ x ≠ 0 := by
  induction n using Nat.strongRecOn with
  | _ n ih =>
    by_cases h : n = 0
    · subst h; exact .inl decs_zero
    · refine .inr ?_
      rw [decs_pos n h]
      rcases ih (n / 10) (by omega) with h2 | ⟨ys, x, h2, hx⟩
      · rw [h2]
        refine ⟨[], _, rfl, ?_⟩
        have : n / 10 = 0 := by
          by_cases h3 : n / 10 = 0
          · exact h3
          · exact absurd h2 (decs_ne _ h3)
        omega
      · exact ⟨_ :: ys, x, by rw [h2]; rfl, hx⟩
/-- It is a number's row, of at most a million decs. -/
def isD (l : List Int) : Prop := l = decs (dval l) ∧ l.length ≤ 1000000
instance (l : List Int) : Decidable (isD l) := by unfold isD; infer_instance
theorem isD.dgt {l : List Int} (h : isD l) : Dgt l := by rw [h.1]; exact dgt_decs _
theorem isD_decs {n k : Nat} (h : n < 10 ^ k) (hk : k ≤ 1000000) : isD (decs n) := ⟨by rw [dval_decs], Nat.le_trans (decs_len n k h) hk⟩
theorem isD_of {l : List Int} (h : Dgt l) (hn : l = [] ∨ ∃ ys x, l = ys ++ [x] ∧ x ≠ 0) (hl : l.length ≤ 1000000) : isD l := ⟨(decs_dval h hn).symm, hl⟩
theorem decs_length_le {n m : Nat} (h : n ≤ m) : (decs n).length ≤ (decs m).length := by
  apply decs_len
  rw [← dval_decs m] at h
  exact Nat.lt_of_le_of_lt h (dval_lt (dgt_decs m))
theorem decs_inj {n m : Nat} (h : decs n = decs m) : n = m := by rw [← dval_decs n, h, dval_decs]
end Go.Proofs.YtcfliceeablckaaDoor.MDec
