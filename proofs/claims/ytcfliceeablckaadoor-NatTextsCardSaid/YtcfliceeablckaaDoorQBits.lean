/-
  Plain Lean: a number and a mask of ones.
-/
import Derived.Laws.BitsLemmas
import Derived.RowKit
namespace Go.Proofs.YtcfliceeablckaaDoor.QBits
open Go Go.RowKit
theorem w64 {x : Int} (h0 : -9223372036854775808 ≤ x) (h1 : x ≤ 9223372036854775807) : wrap64 x = x := by unfold wrap64; omega
theorem and_mask (i : Nat) (hi : i ≤ 62) (x m : Int) (hm : m = 2 ^ i - 1) : Go.bits .and .i64 x m = x % 2 ^ i := by
  have hp : (2 : Nat) ^ i ≤ 2 ^ 62 := Nat.pow_le_pow_right (by decide) hi
  have hpos : 0 < (2 : Nat) ^ i := Nat.two_pow_pos i
  have h62 : (2 : Nat) ^ 62 = 4611686018427387904 := by decide
  have hm' : m = (((2 ^ i - 1 : Nat)) : Int) := by rw [hm, Int.natCast_sub hpos]; simp
  have hz : (2 : Int) ^ i = ((2 ^ i : Nat) : Int) := by simp
  have e1 : (BitVec.ofInt 64 m).toNat = 2 ^ i - 1 := by
    rw [hm', BitVec.ofInt_natCast, BitVec.toNat_ofNat, Nat.mod_eq_of_lt]
    have : (2 : Nat) ^ 64 = 18446744073709551616 := by decide
    omega
  show IntKind.i64.wrap (((BitVec.ofInt 64 x &&& BitVec.ofInt 64 m).toNat : Nat) : Int) = _
  rw [BitVec.toNat_and, e1, Nat.and_two_pow_sub_one_eq_mod, BitVec.toNat_ofInt, IntKind.wrap_i64, hz]
  have hx : 0 ≤ x % ((2 ^ 64 : Nat) : Int) := Int.emod_nonneg _ (by decide)
  have h3 : (((x % ((2 ^ 64 : Nat) : Int)).toNat % 2 ^ i : Nat) : Int) = x % ((2 ^ i : Nat) : Int) := by
    rw [Int.natCast_emod, Int.toNat_of_nonneg hx]
    exact Int.emod_emod_of_dvd x (by exact_mod_cast Nat.pow_dvd_pow 2 (by omega : i ≤ 64))
  rw [h3]
  have h4 := Int.emod_nonneg x (show ((2 ^ i : Nat) : Int) ≠ 0 by omega)
  have h5 := Int.emod_lt_of_pos x (show (0 : Int) < ((2 ^ i : Nat) : Int) by omega)
  generalize x % ((2 ^ i : Nat) : Int) = y at *
  omega
theorem and1 (x : Int) : Go.bits .and .i64 x 1 = x % 2 := and_mask 1 (by omega) x 1 rfl
theorem and7 (x : Int) : Go.bits .and .i64 x 7 = x % 8 := and_mask 3 (by omega) x 7 rfl
theorem and15 (x : Int) : Go.bits .and .i64 x 15 = x % 16 := and_mask 4 (by omega) x 15 rfl
theorem and31 (x : Int) : Go.bits .and .i64 x 31 = x % 32 := and_mask 5 (by omega) x 31 rfl
theorem and63 (x : Int) : Go.bits .and .i64 x 63 = x % 64 := and_mask 6 (by omega) x 63 rfl
theorem and127 (x : Int) : Go.bits .and .i64 x 127 = x % 128 := and_mask 7 (by omega) x 127 rfl
theorem and255 (x : Int) : Go.bits .and .i64 x 255 = x % 256 := and_mask 8 (by omega) x 255 rfl
theorem and30 (x : Int) : Go.bits .and .i64 x 1073741823 = x % 1073741824 := and_mask 30 (by omega) x 1073741823 rfl
end Go.Proofs.YtcfliceeablckaaDoor.QBits
