/-
  Plain Lean: what the printed functions of nat compute, on rows of limbs.
-/
import Derived.Test.YtcfliceeablckaaDoorMNat
import Derived.Test.YtcfliceeablckaaDoorPNdx4
import Derived.Test.YtcfliceeablckaaDoorPNdx27
import Derived.Test.YtcfliceeablckaaDoorPNdx33
namespace Go.Proofs.YtcfliceeablckaaDoor.QNat
open Go.RowKit Go.Proofs.YtcfliceeablckaaDoorW.PrintWords Go.Proofs.YtcfliceeablckaaDoorW.PrintLast Go.Proofs.YtcfliceeablckaaDoorW.PrintMore
open Go.Proofs.YtcfliceeablckaaDoor.MNat Go.Proofs.YtcfliceeablckaaDoor.PNd
set_option linter.unusedVariables false
set_option linter.unusedSimpArgs false

theorem w64 {x : Int} (h0 : -9223372036854775808 ≤ x) (h1 : x ≤ 9223372036854775807) : wrap64 x = x := by unfold wrap64; omega
theorem rd_nat (l : List Int) (i : Nat) : rd l (i : Int) = l.getD i 0 := by simp [rd]

theorem snoc_cases (l : List Int) : l = [] ∨ ∃ ys x, l = ys ++ [x] := by
  induction l using rev_ind with
  | h0 => exact .inl rfl
  | h1 xs x _ => exact .inr ⟨xs, x, rfl⟩

theorem same_l (a b : List Int) (hab : a.length = b.length) (hl : a.length ≤ 1000000000) (d : Nat) : ∀ (k i : Nat), i ≤ a.length → a.length - i = d → d < k → a.take i = b.take i →
    regattaref02_Same.l0 k a b (i : Int) = some (decide (a = b)) := by
  induction d with
  | zero =>
    intro k i hi hd hk he
    obtain ⟨k, rfl⟩ : ∃ m, k = m + 1 := ⟨k - 1, by omega⟩
    simp only [regattaref02_Same.l0]
    rw [if_neg (by omega)]
    rw [List.take_of_length_le (by omega), List.take_of_length_le (by omega)] at he
    simp [he]
  | succ d ih =>
    intro k i hi hd hk he
    obtain ⟨k, rfl⟩ : ∃ m, k = m + 1 := ⟨k - 1, by omega⟩
    simp only [regattaref02_Same.l0]
    rw [if_pos (by omega), if_pos (by omega), if_pos (by omega), rd_nat, rd_nat]
    by_cases h : a.getD i 0 = b.getD i 0
    · rw [if_pos h, w64 (by omega) (by omega)]
      exact ih k (i + 1) (by omega) (by omega) (by omega) (by rw [take_succ_rd _ _ (by omega), take_succ_rd _ _ (by omega), he, h])
    · rw [if_neg h]
      have : a ≠ b := fun e => h (by rw [e])
      simp [this]
theorem same_f (k : Nat) (a b : List Int) (hk : a.length < k) (hl : a.length ≤ 1000000000) : regattaref02_Same.f k a b = some (decide (a = b)) := by
  unfold regattaref02_Same.f
  by_cases h : a.length = b.length
  · rw [if_pos (by omega)]
    exact same_l a b h hl a.length k 0 (by omega) (by omega) hk (by simp)
  · rw [if_neg (by omega)]
    have : a ≠ b := fun e => h (by rw [e])
    simp [this]
theorem check_f (l : List Int) (h : isN l) : nat_Check.f l = some true := by
  have hl := h.2
  unfold nat_Check.f
  rcases limbs_last (nval l) with h0 | ⟨ys, x, h0, hx⟩
  · rw [← h.1] at h0; subst h0; rfl
  · rw [← h.1] at h0
    rw [h0] at hl ⊢
    have e : wrap64 (((ys ++ [x]).length : Int) - 1) = (ys.length : Int) := by simp only [List.length_append, List.length_singleton] at hl ⊢; rw [w64 (by omega) (by omega)]; omega
    have r : rd (ys ++ [x]) (ys.length : Int) = x := by rw [rd_nat]; simp [List.getD]
    rw [if_neg (by simp; omega), e, r, if_pos (by omega), if_pos (by simp; omega)]
    simp [hx]

/-- -1, 0, 1. -/
def cmpI (a b : Nat) : Int := if a < b then -1 else if a = b then 0 else 1
theorem cmpi (a b : Nat) : cmp_Compare_int.f (a : Int) (b : Int) = some (cmpI a b) := by
  unfold cmp_Compare_int.f cmp_isNaN_int.f cmpI
  simp only [Option.bind_some, bne_self_eq_false, Bool.false_eq_true, if_false]
  by_cases h : a < b
  · rw [if_pos (by omega), if_pos h]
  · rw [if_neg (by omega), if_neg h]
    by_cases h2 : a = b
    · rw [if_neg (by omega), if_pos h2]
    · rw [if_pos (by omega), if_neg h2]
theorem cmpu (a b : Int) : cmp_Compare_uint32.f a b = some (if a < b then -1 else if a = b then 0 else 1) := by
  unfold cmp_Compare_uint32.f cmp_isNaN_uint32.f
  simp only [Option.bind_some, bne_self_eq_false, Bool.false_eq_true, if_false]
  by_cases h : a < b
  · rw [if_pos h, if_pos h]
  · rw [if_neg h, if_neg h]
    by_cases h2 : a = b
    · rw [if_neg (by omega), if_pos h2]
    · rw [if_pos (by omega), if_neg h2]
theorem nval_cmp_last {xs ys : List Int} {x y : Int} (hx : Lim (xs ++ [x])) (hy : Lim (ys ++ [y])) (hl : xs.length = ys.length) (h : x < y) (zs : List Int) (hz : Lim zs) : nval (xs ++ [x] ++ zs) < nval (ys ++ [y] ++ zs) := by
  have h1 := nval_lt (lim_append.1 hx).1
  have h2 := (lim_append.1 hx).2 x (by simp)
  have h3 := (lim_append.1 hy).2 y (by simp)
  rw [nval_append, nval_append (ys ++ [y]), nval_snoc, nval_snoc]
  simp only [List.length_append, List.length_singleton, ← hl]
  have h4 : 4294967296 ^ xs.length * (x.toNat + 1) ≤ 4294967296 ^ xs.length * y.toNat := Nat.mul_le_mul_left _ (by omega)
  rw [Nat.mul_add, Nat.mul_one] at h4
  omega
theorem drop_cons (l : List Int) (i : Nat) (h : i < l.length) : l.drop i = l.getD i 0 :: l.drop (i + 1) := by
  rw [List.drop_eq_getElem_cons h]; simp [List.getD, h]
theorem parts_at (l : List Int) (i : Nat) (h : i < l.length) : l = (l.take i ++ [l.getD i 0]) ++ l.drop (i + 1) := by
  rw [List.append_assoc, List.singleton_append, ← drop_cons l i h, List.take_append_drop]
theorem cmp_l (a b : List Int) (ha : Lim a) (hb : Lim b) (hab : a.length = b.length) (hl : a.length ≤ 1000000000) (d : Nat) : ∀ (k i : Nat), i ≤ a.length → a.length - i = d → d < k → a.drop (a.length - i) = b.drop (a.length - i) →
    nat_Cmp.l0 k a b (a.length : Int) (i : Int) = some (cmpI (nval a) (nval b)) := by
  induction d with
  | zero =>
    intro k i hi hd hk he
    obtain ⟨k, rfl⟩ : ∃ m, k = m + 1 := ⟨k - 1, by omega⟩
    simp only [nat_Cmp.l0]
    rw [if_neg (by omega)]
    rw [hd] at he
    simp at he
    simp [he, cmpI]
  | succ d ih =>
    intro k i hi hd hk he
    obtain ⟨k, rfl⟩ : ∃ m, k = m + 1 := ⟨k - 1, by omega⟩
    have e : wrap64 (wrap64 ((a.length : Int) - 1) - (i : Int)) = (d : Int) := by rw [w64 (by rw [w64 (by omega) (by omega)]; omega) (by rw [w64 (by omega) (by omega)]; omega), w64 (by omega) (by omega)]; omega
    simp only [nat_Cmp.l0, e]
    rw [if_pos (by omega), if_pos (by omega), if_pos (by omega), if_pos (by omega), rd_nat, rd_nat]
    rw [hd] at he
    by_cases h : a.getD d 0 = b.getD d 0
    · rw [if_pos h, w64 (by omega) (by omega)]
      exact ih k (i + 1) (by omega) (by omega) (by omega) (by rw [show a.length - (i + 1) = d by omega, drop_cons a d (by omega), drop_cons b d (by omega), he, h])
    · rw [if_neg h, cmpu]
      simp only [Option.bind_some]
      have pa := parts_at a d (by omega)
      have pb := parts_at b d (by omega)
      rw [← he] at pb
      have hz : Lim (a.drop (d + 1)) := lim_drop ha _
      have la : Lim (a.take d ++ [a.getD d 0]) := lim_append.2 ⟨lim_take ha _, fun y hy => by simp at hy; subst hy; have := lim_getD ha d; simpa [List.getD] using this⟩
      have lb : Lim (b.take d ++ [b.getD d 0]) := lim_append.2 ⟨lim_take hb _, fun y hy => by simp at hy; subst hy; have := lim_getD hb d; simpa [List.getD] using this⟩
      by_cases hlt : a.getD d 0 < b.getD d 0
      · rw [if_pos hlt]
        have := nval_cmp_last la lb (by simp; omega) hlt _ hz
        rw [← pa, ← pb] at this
        simp [cmpI, this]
      · rw [if_neg hlt, if_neg h]
        have := nval_cmp_last lb la (by simp; omega) (by omega) _ hz
        rw [← pa, ← pb] at this
        have h1 : ¬ nval a < nval b := by omega
        have h2 : ¬ nval a = nval b := by omega
        simp [cmpI, h1, h2]
theorem limbs_len_lt {n m : Nat} (h : (limbs n).length < (limbs m).length) : n < m := by
  rcases Nat.lt_or_ge n m with h1 | h1
  · exact h1
  · have := limbs_length_le h1; omega
theorem cmp_f (k : Nat) (a b : List Int) (ha : isN a) (hb : isN b) (hk : a.length < k) : nat_Cmp.f k a b = some (cmpI (nval a) (nval b)) := by
  have hl := ha.2
  unfold nat_Cmp.f
  by_cases h : a.length = b.length
  · rw [if_pos (by omega)]
    exact cmp_l a b ha.lim hb.lim h (by omega) a.length k 0 (by omega) (by omega) hk (by simp [h])
  · rw [if_neg (by omega), cmpi]
    simp only [Option.bind_some]
    congr 1
    unfold cmpI
    have h1 := ha.1
    have h2 := hb.1
    rcases Nat.lt_or_gt_of_ne h with h3 | h3
    · have : nval a < nval b := limbs_len_lt (by rw [← h1, ← h2]; exact h3)
      rw [if_pos h3, if_pos this]
    · have : nval b < nval a := limbs_len_lt (by rw [← h1, ← h2]; exact h3)
      rw [if_neg (by omega), if_neg (by omega), if_neg (by omega), if_neg (by omega)]

theorem of_f (n : Int) (h0 : 0 ≤ n) (h1 : n < 18446744073709551616) : nat_Of.f n = some (limbs n.toNat) := by
  unfold nat_Of.f nat_cut.f
  simp only [Option.bind_some]
  have hL : Lim [n % 4294967296, n / 4294967296 % 4294967296] := by
    intro x hx
    simp at hx
    omega
  rw [trim_eq hL]
  congr 2
  simp [nval]
  omega
theorem add_f (a b : List Int) (ha : isN a) (hb : isN b) : nat_Add.f a b = some (limbs (nval a + nval b)) := by unfold nat_Add.f; rw [if_pos ⟨ha, hb⟩]
theorem mul_f (a b : List Int) (ha : isN a) (hb : isN b) : nat_Mul.f a b = some (limbs (nval a * nval b)) := by unfold nat_Mul.f; rw [if_pos ⟨ha, hb⟩]
end Go.Proofs.YtcfliceeablckaaDoor.QNat
