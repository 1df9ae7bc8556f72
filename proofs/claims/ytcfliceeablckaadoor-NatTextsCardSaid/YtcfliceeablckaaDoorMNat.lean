/-
  Plain Lean: numbers as rows of limbs of 32 bits, the lowest first.
-/
namespace Go.Proofs.YtcfliceeablckaaDoor.MNat

/-- The number of a row of limbs. -/
def nval : List Int → Nat
  | [] => 0
  | x :: xs => x.toNat + 4294967296 * nval xs
/-- A number's row. -/
def limbs (n : Nat) : List Int :=
  if h : n = 0 then [] else ((n % 4294967296 : Nat) : Int) :: limbs (n / 4294967296)
  termination_by n
  decreasing_by omega
/-- Each is a limb. -/
def Lim (l : List Int) : Prop := ∀ x ∈ l, 0 ≤ x ∧ x < 4294967296
instance (l : List Int) : Decidable (Lim l) := by unfold Lim; infer_instance
def trim (xs : List Int) : List Int := (xs.reverse.dropWhile (· == 0)).reverse

theorem trim_nil : trim [] = [] := rfl
theorem trim_snoc0 (xs : List Int) : trim (xs ++ [0]) = trim xs := by simp [trim]
theorem trim_snoc (xs : List Int) (x : Int) (h : x ≠ 0) : trim (xs ++ [x]) = xs ++ [x] := by simp [trim, h]
theorem take_succ_rd (xs : List Int) (k : Nat) (h : k < xs.length) : xs.take (k + 1) = xs.take k ++ [xs.getD k 0] := by
  rw [List.take_succ_eq_append_getElem h]; simp [List.getD, h]
theorem limbs_zero : limbs 0 = [] := by rw [limbs]; simp
theorem limbs_pos (n : Nat) (h : n ≠ 0) : limbs n = ((n % 4294967296 : Nat) : Int) :: limbs (n / 4294967296) := by rw [limbs]; simp [h]
theorem nval_limbs (n : Nat) : nval (limbs n) = n := by
  induction n using Nat.strongRecOn with
  | _ n ih =>
    by_cases h : n = 0
    · subst h; rw [limbs_zero]; rfl
    · rw [limbs_pos n h, nval, ih (n / 4294967296) (by omega)]; omega
theorem lim_limbs (n : Nat) : Lim (limbs n) := by
  induction n using Nat.strongRecOn with
  | _ n ih =>
    by_cases h : n = 0
    · subst h; rw [limbs_zero]; intro x hx; cases hx
    · rw [limbs_pos n h]
      intro x hx
      rcases List.mem_cons.1 hx with rfl | hx
      · omega
      · exact ih (n / 4294967296) (by omega) x hx
theorem lim_nil : Lim [] := fun x hx => by cases hx
theorem lim_cons {x : Int} {xs : List Int} : Lim (x :: xs) ↔ (0 ≤ x ∧ x < 4294967296) ∧ Lim xs := by
  constructor
  · intro h; exact ⟨h x List.mem_cons_self, fun y hy => h y (List.mem_cons_of_mem _ hy)⟩
  · rintro ⟨h1, h2⟩ y hy
    rcases List.mem_cons.1 hy with rfl | hy
    · exact h1
    · exact h2 y hy
theorem lim_append {xs ys : List Int} : Lim (xs ++ ys) ↔ Lim xs ∧ Lim ys := by
  constructor
  · intro h; exact ⟨fun y hy => h y (List.mem_append_left _ hy), fun y hy => h y (List.mem_append_right _ hy)⟩
  · rintro ⟨h1, h2⟩ y hy
    rcases List.mem_append.1 hy with hy | hy
    · exact h1 y hy
    · exact h2 y hy
theorem lim_take {xs : List Int} (h : Lim xs) (k : Nat) : Lim (xs.take k) := fun x hx => h x (List.mem_of_mem_take hx)
theorem lim_drop {xs : List Int} (h : Lim xs) (k : Nat) : Lim (xs.drop k) := fun x hx => h x (List.mem_of_mem_drop hx)
theorem lim_getD {xs : List Int} (h : Lim xs) (k : Nat) : 0 ≤ xs.getD k 0 ∧ xs.getD k 0 < 4294967296 := by
  by_cases hk : k < xs.length
  · have e : xs.getD k 0 = xs[k] := by simp [List.getD, hk]
    rw [e]; exact h _ (List.getElem_mem hk)
  · have e : xs.getD k 0 = 0 := by simp [List.getD, List.getElem?_eq_none (Nat.le_of_not_lt hk)]
    rw [e]; omega
theorem nval_append (xs ys : List Int) : nval (xs ++ ys) = nval xs + 4294967296 ^ xs.length * nval ys := by
  induction xs with
  | nil => simp [nval]
  | cons x xs ih =>
    simp only [List.cons_append, nval, ih, List.length_cons, Nat.pow_succ]
    rw [Nat.mul_add, Nat.mul_comm (4294967296 ^ xs.length) 4294967296, Nat.mul_assoc]; omega
theorem nval_snoc (xs : List Int) (x : Int) : nval (xs ++ [x]) = nval xs + 4294967296 ^ xs.length * x.toNat := by
  rw [nval_append]; simp [nval]
theorem nval_lt {xs : List Int} (h : Lim xs) : nval xs < 4294967296 ^ xs.length := by
  induction xs with
  | nil => simp [nval]
  | cons x xs ih =>
    obtain ⟨⟨h0, h1⟩, h2⟩ := lim_cons.1 h
    have := ih h2
    simp only [nval, List.length_cons, Nat.pow_succ]
    omega
theorem lim_zeros (k : Nat) : Lim (List.replicate k 0) := fun x hx => by rw [List.eq_of_mem_replicate hx]; omega
theorem nval_zeros (k : Nat) : nval (List.replicate k 0) = 0 := by
  induction k with
  | zero => rfl
  | succ k ih => simp [List.replicate_succ, nval, ih]
theorem rev_ind {P : List Int → Prop} (h0 : P []) (h1 : ∀ xs x, P xs → P (xs ++ [x])) (l : List Int) : P l := by
  have key : ∀ r : List Int, P r.reverse := by
    intro r
    induction r with
    | nil => simpa using h0
    | cons x r ih => rw [List.reverse_cons]; exact h1 _ _ ih
  simpa using key l.reverse
/-- A row with no nought at its end is its number's. -/
theorem limbs_nval {xs : List Int} (h : Lim xs) (hn : xs = [] ∨ ∃ ys x, xs = ys ++ [x] ∧ x ≠ 0) : limbs (nval xs) = xs := by
  induction xs with
  | nil => simp [nval, limbs_zero]
  | cons x xs ih =>
    obtain ⟨⟨h0, h1⟩, h2⟩ := lim_cons.1 h
    have hne : nval (x :: xs) ≠ 0 := by
      rcases hn with hn | ⟨ys, z, hn, hz⟩
      · cases hn
      · rw [hn, nval_snoc]
        have hz' : z ∈ x :: xs := by rw [hn]; simp
        have := h z hz'
        have : 0 < 4294967296 ^ ys.length * z.toNat := Nat.mul_pos (Nat.pow_pos (by omega)) (by omega)
        omega
    rw [limbs_pos _ hne]
    have e1 : nval (x :: xs) % 4294967296 = x.toNat := by simp only [nval]; omega
    have e2 : nval (x :: xs) / 4294967296 = nval xs := by simp only [nval]; omega
    rw [e1, e2, Int.toNat_of_nonneg h0]
    congr 1
    apply ih h2
    rcases hn with hn | ⟨ys, z, hn, hz⟩
    · cases hn
    · cases ys with
      | nil => simp at hn; exact .inl hn.2
      | cons y ys => simp at hn; exact .inr ⟨ys, z, hn.2, hz⟩
theorem trim_eq {xs : List Int} (h : Lim xs) : trim xs = limbs (nval xs) := by
  induction xs using rev_ind with
  | h0 => simp [trim_nil, nval, limbs_zero]
  | h1 xs x ih =>
    obtain ⟨h1, h2⟩ := lim_append.1 h
    by_cases hx : x = 0
    · subst hx; rw [trim_snoc0, ih h1, nval_snoc]; simp
    · rw [trim_snoc _ _ hx]; exact (limbs_nval h (.inr ⟨xs, x, rfl, hx⟩)).symm
theorem limbs_len (n k : Nat) (h : n < 4294967296 ^ k) : (limbs n).length ≤ k := by
  induction k generalizing n with
  | zero => simp at h; subst h; simp [limbs_zero]
  | succ k ih =>
    by_cases hn : n = 0
    · subst hn; simp [limbs_zero]
    · rw [limbs_pos n hn, List.length_cons]
      have := ih (n / 4294967296) (by rw [Nat.pow_succ] at h; omega)
      omega
theorem limbs_ne (n : Nat) (h : n ≠ 0) : limbs n ≠ [] := by rw [limbs_pos n h]; simp
/-- The last limb is no nought. -/
theorem limbs_last (n : Nat) : limbs n = [] ∨ ∃ ys x, limbs n = ys ++ [x] ∧ x ≠ 0 := by
  induction n using Nat.strongRecOn with
  | _ n ih =>
    by_cases h : n = 0
    · subst h; exact .inl limbs_zero
    · refine .inr ?_
      rw [limbs_pos n h]
      rcases ih (n / 4294967296) (by omega) with h2 | ⟨ys, x, h2, hx⟩
      · rw [h2]
        refine ⟨[], _, rfl, ?_⟩
        have : n / 4294967296 = 0 := by
          by_cases h3 : n / 4294967296 = 0
          · exact h3
          · exact absurd h2 (limbs_ne _ h3)
        omega
      · exact ⟨_ :: ys, x, by rw [h2]; rfl, hx⟩
/-- It is a number's row, of at most a million limbs. -/
def isN (l : List Int) : Prop := l = limbs (nval l) ∧ l.length ≤ 1000000
instance (l : List Int) : Decidable (isN l) := by unfold isN; infer_instance
theorem isN.lim {l : List Int} (h : isN l) : Lim l := by rw [h.1]; exact lim_limbs _
theorem isN_limbs {n k : Nat} (h : n < 4294967296 ^ k) (hk : k ≤ 1000000) : isN (limbs n) := ⟨by rw [nval_limbs], Nat.le_trans (limbs_len n k h) hk⟩
theorem isN_of {l : List Int} (h : Lim l) (hn : l = [] ∨ ∃ ys x, l = ys ++ [x] ∧ x ≠ 0) (hl : l.length ≤ 1000000) : isN l := ⟨(limbs_nval h hn).symm, hl⟩
theorem limbs_length_le {n m : Nat} (h : n ≤ m) : (limbs n).length ≤ (limbs m).length := by
  apply limbs_len
  rw [← nval_limbs m] at h
  exact Nat.lt_of_le_of_lt h (nval_lt (lim_limbs m))
theorem limbs_inj {n m : Nat} (h : limbs n = limbs m) : n = m := by rw [← nval_limbs n, h, nval_limbs]
end Go.Proofs.YtcfliceeablckaaDoor.MNat
