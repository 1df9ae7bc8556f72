/-
  Plain Lean: differences of rows of limbs.
-/
import Derived.Test.YtcfliceeablckaaQText
import Derived.Test.YtcfliceeablckaaPNrx6
import Derived.Test.YtcfliceeablckaaPNrx12
namespace Go.Proofs.Ytcfliceeablckaa.QText
open Go.RowKit Go.Proofs.YtcfliceeablckaaW.PrintWords Go.Proofs.YtcfliceeablckaaW.PrintLast Go.Proofs.YtcfliceeablckaaW.PrintMore
open Go.Proofs.Ytcfliceeablckaa.MNat Go.Proofs.Ytcfliceeablckaa.PNr Go.Proofs.Ytcfliceeablckaa.QNat
set_option linter.unusedVariables false
set_option linter.unusedSimpArgs false

theorem limb_at {l : List Int} (h : Lim l) (i : Nat) : ∃ d : Nat, l.getD i 0 = (d : Int) ∧ d < 4294967296 := ⟨(l.getD i 0).toNat, by have := lim_getD h i; omega, by have := lim_getD h i; omega⟩
theorem take_nval {l : List Int} (i d : Nat) (h : l.getD i 0 = (d : Int)) : nval (l.take (i + 1)) = nval (l.take i) + 4294967296 ^ i * d := by
  by_cases hi : i < l.length
  · rw [take_succ_rd _ _ hi, nval_snoc, h, List.length_take, Nat.min_eq_left (by omega), Int.toNat_natCast]
  · have : d = 0 := by simp [List.getD, List.getElem?_eq_none (Nat.le_of_not_lt hi)] at h; omega
    subst this
    rw [List.take_of_length_le (by omega), List.take_of_length_le (by omega)]; simp
theorem nat_at_f (l : List Int) (k : Nat) (h : Lim l) : nat_at.f l (k : Int) = some (l.getD k 0) := by
  have hb := lim_getD h k
  unfold nat_at.f
  by_cases hk : k < l.length
  · rw [if_pos (by omega), if_pos (by omega), rd_nat, wu64 (by omega) (by omega)]
  · rw [if_neg (by omega)]
    simp [List.getD, List.getElem?_eq_none (Nat.le_of_not_lt hk)]
theorem nsub_l (x y : List Int) (hx : Lim x) (hy : Lim y) (hyx : nval y ≤ nval x) (hxN : x.length ≤ 1000000) (hyl : y.length ≤ x.length) (d : Nat) : ∀ (k i c : Nat) (out : List Int), i ≤ x.length → x.length - i = d → d < k → out.length = x.length → Lim (out.take i) → c ≤ 1 →
    nval (out.take i) + nval (y.take i) = nval (x.take i) + c * 4294967296 ^ i → nat_Sub.l0 k x y out (c : Int) (x.length : Int) (i : Int) = some (limbs (nval x - nval y), 0) := by
  induction d with
  | zero =>
    intro k i c out hi hd hk ho hO hc he
    obtain ⟨k, rfl⟩ : ∃ m, k = m + 1 := ⟨k - 1, by omega⟩
    simp only [nat_Sub.l0, nat_cut.f, Option.bind_some]
    rw [if_neg (by omega)]
    rw [List.take_of_length_le (by omega)] at hO
    rw [List.take_of_length_le (by omega), List.take_of_length_le (by omega), List.take_of_length_le (by omega)] at he
    have hb := nval_lt hO
    have hii : i = x.length := by omega
    rw [ho, ← hii] at hb
    have hc0 : c = 0 := by
      rcases Nat.eq_zero_or_pos c with h | h
      · exact h
      · have : 1 * 4294967296 ^ i ≤ c * 4294967296 ^ i := Nat.mul_le_mul_right _ h
        omega
    subst hc0
    rw [trim_eq hO]
    congr 3; omega
  | succ d ih =>
    intro k i c out hi hd hk ho hO hc he
    obtain ⟨k, rfl⟩ : ∃ m, k = m + 1 := ⟨k - 1, by omega⟩
    obtain ⟨X, hX, hX32⟩ := limb_at hx i
    obtain ⟨Y, hY, hY32⟩ := limb_at hy i
    have tx := take_nval i X hX
    have ty := take_nval i Y hY
    have key : ∀ (r c' : Nat), r < 4294967296 → c' ≤ 1 → r + c + Y = X + 4294967296 * c' → nat_Sub.l0 k x y (out.set i (r : Int)) (c' : Int) (x.length : Int) ((i + 1 : Nat) : Int) = some (limbs (nval x - nval y), 0) := by
      intro r c' hr hc' hrel
      have e1 : (out.set i (r : Int)).take (i + 1) = out.take i ++ [(r : Int)] := by
        rw [take_succ_rd _ _ (by simp; omega), List.take_set_of_le (by omega)]
        simp [List.getD, show i < out.length by omega]
      refine ih k (i + 1) c' _ (by omega) (by omega) (by omega) (by simp [ho]) (by rw [e1]; exact lim_append.2 ⟨hO, lim_cons.2 ⟨by omega, lim_nil⟩⟩) hc' ?_
      rw [e1, nval_snoc, List.length_take, Nat.min_eq_left (by omega), tx, ty, Int.toNat_natCast, Nat.pow_succ]
      have h1 := congrArg (4294967296 ^ i * ·) hrel
      simp only [Nat.mul_add] at h1
      have h2 : 4294967296 ^ i * (4294967296 * c') = c' * (4294967296 ^ i * 4294967296) := by rw [Nat.mul_comm c', Nat.mul_assoc]
      have h3 : c * 4294967296 ^ i = 4294967296 ^ i * c := Nat.mul_comm _ _
      omega
    simp only [nat_Sub.l0]
    rw [if_pos (by omega), nat_at_f x i hx, nat_at_f y i hy]
    simp only [Option.bind_some]
    rw [if_pos (by omega), if_pos (by omega), w64 (x := (i : Int) + 1) (by omega) (by omega), show (i : Int) + 1 = ((i + 1 : Nat) : Int) by omega, Int.toNat_natCast, hX, hY]
    by_cases hneg : X < Y + c
    · have e1 : IntKind.u64.wrap (IntKind.u64.wrap ((X : Int) - (Y : Int)) - (c : Int)) = (18446744073709551616 + X - Y - c : Int) := by simp only [IntKind.wrap_u64]; omega
      rw [e1, show (18446744073709551616 + (X : Int) - (Y : Int) - (c : Int)) % 4294967296 = ((4294967296 + X - Y - c : Nat) : Int) by omega, show (18446744073709551616 + (X : Int) - (Y : Int) - (c : Int)) / 9223372036854775808 = ((1 : Nat) : Int) by omega]
      exact key (4294967296 + X - Y - c) 1 (by omega) (by omega) (by omega)
    · have e1 : IntKind.u64.wrap (IntKind.u64.wrap ((X : Int) - (Y : Int)) - (c : Int)) = ((X - Y - c : Nat) : Int) := by simp only [IntKind.wrap_u64]; omega
      rw [e1, show ((X - Y - c : Nat) : Int) % 4294967296 = ((X - Y - c : Nat) : Int) by omega, show ((X - Y - c : Nat) : Int) / 9223372036854775808 = ((0 : Nat) : Int) by omega]
      exact key (X - Y - c) 0 (by omega) (by omega) (by omega)
theorem nsub_f (k a b : Nat) (ha : isN (limbs a)) (hb : isN (limbs b)) (hk : (limbs a).length < k) : nat_Sub.f k (limbs a) (limbs b) = some (if a < b then ([], 16) else (limbs (a - b), 0)) := by
  have hl := ha.2
  unfold nat_Sub.f
  rw [cmp_f k _ _ ha hb hk, nval_limbs, nval_limbs]
  simp only [Option.bind_some]
  by_cases h : a < b
  · rw [if_pos h, if_pos (by unfold cmpI; rw [if_pos h]; omega)]
  · rw [if_neg h, if_neg (by unfold cmpI; rw [if_neg h]; split <;> omega), if_pos (by omega), if_pos (by omega), Int.toNat_natCast]
    have := nsub_l (limbs a) (limbs b) (lim_limbs a) (lim_limbs b) (by rw [nval_limbs, nval_limbs]; omega) hl (limbs_length_le (by omega)) (limbs a).length k 0 0 (List.replicate (limbs a).length 0) (by omega) (by omega) hk (by simp) lim_nil (by omega) (by simp [nval])
    rw [nval_limbs, nval_limbs] at this
    exact this
end Go.Proofs.Ytcfliceeablckaa.QText
