/-
  Plain Lean: division by a limb, digits, and the chapters' examples.
-/
import Derived.Test.YtfldklimlcnnnaaQNat
import Derived.Laws.BitsAllLaws

namespace Go.Proofs.Ytfldklimlcnnnaa.QText
open Go.RowKit Go.Proofs.YtfldklimlcnnnaaW.PrintWords Go.Proofs.YtfldklimlcnnnaaW.PrintLast Go.Proofs.YtfldklimlcnnnaaW.PrintMore
open Go.Proofs.Ytfldklimlcnnnaa.MNat Go.Proofs.Ytfldklimlcnnnaa.PHq Go.Proofs.Ytfldklimlcnnnaa.QNat
set_option linter.unusedVariables false
set_option linter.unusedSimpArgs false

theorem wu64 {x : Int} (h0 : 0 ≤ x) (h1 : x < 18446744073709551616) : IntKind.u64.wrap x = x := by rw [IntKind.wrap_u64]; omega
theorem or_shift (r x : Nat) (hr : r < 4294967296) (hx : x < 4294967296) : Go.bits .or .u64 ((r : Int) * 4294967296) (x : Int) = ((r * 4294967296 + x : Nat) : Int) := by
  have e : (r : Int) * 4294967296 = ((r * 4294967296 : Nat) : Int) := by omega
  rw [e, u64_or_nat _ _ (by omega) (by omega)]
  have h := Nat.shiftLeft_add_eq_or_of_lt (b := x) (i := 32) (by omega) r
  rw [Nat.shiftLeft_eq] at h
  rw [← h]

/-- The digits, the lowest first; 'f': more than there are. -/
def digL : Nat → Nat → List Int
  | 0, _ => []
  | f + 1, n => if n = 0 then [] else ((48 + n % 10 : Nat) : Int) :: digL f (n / 10)
theorem digL_more (f : Nat) : ∀ (g n : Nat), n ≤ f → n ≤ g → digL f n = digL g n := by
  induction f with
  | zero =>
    intro g n h1 _
    obtain rfl : n = 0 := (by omega)
    cases g <;> simp [digL]
  | succ f ih =>
    intro g n h1 h2
    by_cases hn : n = 0
    · subst hn; cases g <;> simp [digL]
    · obtain ⟨g, rfl⟩ : ∃ m, g = m + 1 := ⟨g - 1, by omega⟩
      simp only [digL, if_neg hn]
      rw [ih g (n / 10) (by omega) (by omega)]
/-- A number's digits. -/
def dig (n : Nat) : List Int := digL n n
theorem dig_zero : dig 0 = [] := rfl
theorem dig_pos (n : Nat) (h : n ≠ 0) : dig n = ((48 + n % 10 : Nat) : Int) :: dig (n / 10) := by
  obtain ⟨m, rfl⟩ : ∃ m, n = m + 1 := ⟨n - 1, by omega⟩
  unfold dig
  simp only [digL]
  rw [if_neg (by omega), digL_more m ((m + 1) / 10) ((m + 1) / 10) (by omega) (by omega)]
/-- A number's text, as bytes. -/
def txt (n : Nat) : List Int := if n = 0 then [48] else (dig n).reverse
theorem dig_length (n k : Nat) (h : n < 10 ^ k) : (dig n).length ≤ k := by
  induction k generalizing n with
  | zero => simp at h; subst h; simp [dig_zero]
  | succ k ih =>
    by_cases hn : n = 0
    · subst hn; simp [dig_zero]
    · rw [dig_pos n hn, List.length_cons]
      have := ih (n / 10) (by rw [Nat.pow_succ] at h; omega)
      omega

theorem limbs_b2 : limbs 18446744073709551616 = [0, 0, 1] := by
  rw [limbs_pos _ (by omega), limbs_pos _ (by omega), limbs_pos _ (by omega)]
  simp [limbs_zero]
theorem limbs_b : limbs 4294967296 = [0, 1] := by
  rw [limbs_pos _ (by omega), limbs_pos _ (by omega)]
  simp [limbs_zero]
theorem limbs_one : limbs 1 = [1] := by
  rw [limbs_pos _ (by omega)]
  simp [limbs_zero]
end Go.Proofs.Ytfldklimlcnnnaa.QText
