/-
  Plain Lean: the document's numbers: products, order, differences; on rows of limbs.
-/
import Derived.Test.YtcfliceeablckaaDoorQRef
import Derived.Test.YtcfliceeablckaaDoorPNdx32
namespace Go.Proofs.YtcfliceeablckaaDoor.QRef
open Go.RowKit Go.Proofs.YtcfliceeablckaaDoorW.PrintWords Go.Proofs.YtcfliceeablckaaDoorW.PrintLast Go.Proofs.YtcfliceeablckaaDoorW.PrintMore
open Go.Proofs.YtcfliceeablckaaDoor.MNat Go.Proofs.YtcfliceeablckaaDoor.MDec Go.Proofs.YtcfliceeablckaaDoor.QNat Go.Proofs.YtcfliceeablckaaDoor.PNd
set_option linter.unusedVariables false
set_option linter.unusedSimpArgs false

theorem dval_drop_le (l : List Int) (d : Nat) : dval (l.drop d) ≤ dval l := by
  have := dval_append (l.take d) (l.drop d)
  rw [List.take_append_drop] at this
  have h1 : 1 * dval (l.drop d) ≤ 10 ^ (l.take d).length * dval (l.drop d) := Nat.mul_le_mul_right _ (Nat.pow_pos (by omega))
  omega
theorem dval_cmp_last {xs ys : List Int} {x y : Int} (hx : Dgt (xs ++ [x])) (hy : Dgt (ys ++ [y])) (hl : xs.length = ys.length) (h : x < y) (zs : List Int) : dval (xs ++ [x] ++ zs) < dval (ys ++ [y] ++ zs) := by
  have h1 := dval_lt (dgt_append.1 hx).1
  have h2 := (dgt_append.1 hx).2 x (by simp)
  have h3 := (dgt_append.1 hy).2 y (by simp)
  rw [dval_append, dval_append (ys ++ [y]), dval_snoc, dval_snoc]
  simp only [List.length_append, List.length_singleton, ← hl]
  have h4 : 10 ^ xs.length * (x.toNat + 1) ≤ 10 ^ xs.length * y.toNat := Nat.mul_le_mul_left _ (by omega)
  rw [Nat.mul_add, Nat.mul_one] at h4
  omega
theorem decs_len_lt {n m : Nat} (h : (decs n).length < (decs m).length) : n < m := by
  rcases Nat.lt_or_ge n m with h1 | h1
  · exact h1
  · have := decs_length_le h1; omega
/-! ### on rows of limbs -/
theorem limbs_len10 {a m : Nat} (ha : a < 10 ^ m) : (limbs a).length ≤ m := limbs_len a m (Nat.lt_of_lt_of_le ha (Nat.pow_le_pow_left (by omega) m))
theorem from_n (k m a : Nat) (ha : a < 10 ^ m) (hm : m ≤ 20000) (hk : 5 * m + 300 < k) : regattaref02_FromLimbs.f k (limbs a) = some (decs a) := by
  have hl := limbs_len10 ha
  have h1 : nval (limbs a) * 4294967296 < 10 ^ (m + 20) := by
    rw [nval_limbs, Nat.pow_add]
    exact Nat.mul_lt_mul_of_lt_of_le ha (by decide) (by decide)
  rw [from_f k (m + 20) (limbs a) (lim_limbs a) (by omega) h1 (by omega) (by omega) (by omega), nval_limbs]
theorem mul_lt10 {a b m n : Nat} (ha : a < 10 ^ m) (hb : b < 10 ^ n) : a * b < 10 ^ (m + n) := by
  rw [Nat.pow_add]
  exact Nat.mul_lt_mul'' ha hb
end Go.Proofs.YtcfliceeablckaaDoor.QRef
