/- Plain Lean: sums of weights, texts of ratios; the chapter's example. -/
import Derived.Test.YtfldklimlcnnnaaQRatio
import Derived.Test.YtfldklimlcnnnaaQBits
import Derived.Test.YtfldklimlcnnnaaPHqx7
import Derived.Test.YtfldklimlcnnnaaPHqx14
namespace Go.Proofs.Ytfldklimlcnnnaa.QRatio
open Go.RowKit Go.Proofs.YtfldklimlcnnnaaW.PrintWords Go.Proofs.YtfldklimlcnnnaaW.PrintLast Go.Proofs.YtfldklimlcnnnaaW.PrintMore
open Go.Proofs.Ytfldklimlcnnnaa.MNat Go.Proofs.Ytfldklimlcnnnaa.QNat Go.Proofs.Ytfldklimlcnnnaa.QText Go.Proofs.Ytfldklimlcnnnaa.QEv Go.Proofs.Ytfldklimlcnnnaa.PHq
set_option linter.unusedVariables false
set_option linter.unusedSimpArgs false

theorem rdW (l : List S34) (i : Nat) (h : i < l.length) : rd_T34 l (i : Int) = l[i] := by simp [rd_T34, List.getD, List.getElem?_eq_getElem h]
def okW (x : S34) : Prop := 0 ≤ x.f0 ∧ x.f0 < 4294967296 ∧ 1 ≤ x.f1 ∧ x.f1 < 4294967296
def wt (x : S34) : Rat := mkRat (x.f0.toNat : Int) x.f1.toNat
def sumR : List S34 → Rat
  | [] => 0
  | x :: xs => wt x + sumR xs
theorem of_w (x : S34) (h : okW x) : ratio_Of.f x.f0 x.f1 = some (limbs x.f0.toNat, limbs x.f1.toNat) := by
  obtain ⟨h0, h1, h2, h3⟩ := h
  unfold ratio_Of.f
  have e0 : IntKind.u64.wrap (mx x.f0 0) = (x.f0.toNat : Int) := by rw [IntKind.wrap_u64]; unfold mx; omega
  have e1 : IntKind.u64.wrap (mx x.f1 1) = (x.f1.toNat : Int) := by rw [IntKind.wrap_u64]; unfold mx; omega
  rw [e0, e1, of_n _ (by omega), Option.bind_some, of_n _ (by omega), Option.bind_some]
theorem zeroL : L 0 = (limbs 0, limbs 1) := rfl
theorem natL (n : Nat) : L (n : Rat) = (limbs n, limbs 1) := by
  show (limbs ((n : Int)).natAbs, limbs 1) = _
  rw [Int.natAbs_natCast]
theorem whole_n (n : Nat) (h : n < 18446744073709551616) : ratio_Whole.f (n : Int) = some (L (n : Rat)) := by
  unfold ratio_Whole.f
  rw [of_n _ h, Option.bind_some, show nat_Of.f 1 = some (limbs 1) from of_n 1 (by omega), Option.bind_some, natL]
theorem natSz (n : Nat) (h : n < 18446744073709551616) : Sz 2 (n : Rat) := by
  refine ⟨?_, ?_, ?_⟩
  · exact Rat.num_nonneg.1 (Int.natCast_nonneg n)
  · show F 2 ((n : Int)).natAbs
    rw [Int.natAbs_natCast]
    unfold F; simpa using h
  · show F 2 1
    unfold F; decide
theorem zeroSz : Sz 1 0 := ⟨Rat.le_refl, by show F 1 0; unfold F; decide, by show F 1 1; unfold F; decide⟩
theorem okW_pos {x : S34} (h : okW x) : 0 < x.f1.toNat := by have := h.2.2.1; omega
theorem okW_F {x : S34} (h : okW x) : F 1 x.f0.toNat ∧ F 1 x.f1.toNat := by
  obtain ⟨h0, h1, h2, h3⟩ := h
  exact ⟨F.one (by omega), F.one (by omega)⟩
theorem wtSz {x : S34} (h : okW x) : Sz 1 (wt x) := mk_sz 1 _ _ (okW_F h).1 (okW_F h).2 (okW_pos h)
theorem addW (i : Nat) (p : Rat) (x : S34) (hp : Sz i p) (h : okW x) (hi : i + 4 ≤ 1000000) :
    Tell (fun k => ratio_Add.f k (L p).1 (L p).2 (limbs x.f0.toNat) (limbs x.f1.toNat)) (L (p + wt x)) ∧ Sz (i + 2) (p + wt x) := by
  have h1 := radd_t i 1 _ _ _ _ hp.2.1 hp.2.2 (okW_F h).1 (okW_F h).2 (by omega) p.den_pos (okW_pos h)
  have h2 := sz_add i 1 _ _ _ _ hp.2.1 hp.2.2 (okW_F h).1 (okW_F h).2 p.den_pos (okW_pos h)
  rw [self_mk p hp.1] at h1 h2
  exact ⟨h1, h2⟩
theorem sum_l (l : List S34) (hl : l.length ≤ 1000) (ho : ∀ x ∈ l, okW x) (d : Nat) : ∀ (i j : Nat) (s : Rat), i + d = l.length → Sz j s → j + 2 * d + 4 ≤ 1000000 →
    Tell (fun k => ratio_Sum.l0 k l (l.length : Int) (i : Int) (L s).1 (L s).2) (L (s + sumR (l.drop i))) ∧ Sz (j + 2 * d) (s + sumR (l.drop i)) := by
  induction d with
  | zero =>
    intro i j s hi hs _
    rw [List.drop_of_length_le (by omega)]
    have e : s + sumR [] = s := Rat.add_zero s
    rw [e]
    exact ⟨Tell.step (g := fun _ => some (L s)) (fun k => by rw [ratio_Sum.l0, if_neg (by omega)]) (Tell.const _), hs⟩
  | succ d ih =>
    intro i j s hi hs hj
    have hlt : i < l.length := by omega
    have hx := ho l[i] (List.getElem_mem hlt)
    obtain ⟨h1, h2⟩ := addW j s l[i] hs hx (by omega)
    obtain ⟨h3, h4⟩ := ih (i + 1) (j + 2) (s + wt l[i]) (by omega) h2 (by omega)
    rw [List.drop_eq_getElem_cons hlt]
    have e : s + sumR (l[i] :: l.drop (i + 1)) = s + wt l[i] + sumR (l.drop (i + 1)) := (Rat.add_assoc _ _ _).symm
    rw [e]
    refine ⟨?_, by rw [show j + 2 * (d + 1) = j + 2 + 2 * d by omega]; exact h4⟩
    refine Tell.step (fun k => by rw [ratio_Sum.l0, if_pos (by omega), if_pos (by omega), if_pos (by omega), rdW l i hlt, of_w _ hx, Option.bind_some, w64 (by omega) (by omega)]) ?_
    exact Tell.bind h1 h3
theorem sum_t (l : List S34) (hl : l.length ≤ 1000) (ho : ∀ x ∈ l, okW x) : Tell (fun k => ratio_Sum.f k l) (L (sumR l)) ∧ Sz (1 + 2 * l.length) (sumR l) := by
  obtain ⟨h1, h2⟩ := sum_l l hl ho l.length 0 1 0 (by omega) zeroSz (by omega)
  rw [Rat.zero_add, List.drop_zero] at h1 h2
  refine ⟨?_, h2⟩
  unfold ratio_Sum.f
  refine Tell.of (fun k => ?_) h1
  rw [show ratio_Whole.f 0 = some (L ((0 : Nat) : Rat)) from whole_n 0 (by omega), Option.bind_some]
  rfl
theorem sumR_append (a b : List S34) : sumR (a ++ b) = sumR a + sumR b := by
  induction a with
  | nil => exact (Rat.zero_add _).symm
  | cons x a ih => show wt x + sumR (a ++ b) = wt x + sumR a + sumR b; rw [ih, Rat.add_assoc]
theorem sumR_reverse (a : List S34) : sumR a.reverse = sumR a := by
  induction a with
  | nil => rfl
  | cons x a ih =>
    rw [List.reverse_cons, sumR_append, ih, Rat.add_comm]
    show wt x + 0 + sumR a = wt x + sumR a
    rw [Rat.add_zero]
/-! ### Texts -/
theorem F_ten {j n : Nat} (h : F j n) : n < 10 ^ (10 * j) := by
  unfold F at h
  have : (4294967296 : Nat) ^ j ≤ (10 ^ 10) ^ j := Nat.pow_le_pow_left (by decide) j
  rw [← Nat.pow_mul] at this
  omega
theorem txt_len (j n : Nat) (h : F j n) : (txt n).length ≤ 10 * j + 1 := by
  unfold txt
  split
  · simp
  · rw [List.length_reverse]
    have := dig_length n (10 * j) (F_ten h)
    omega
def txtR (q : Rat) : ByteArray := if q.den = 1 then strOfNums (txt q.num.natAbs) else strOfNums (txt q.num.natAbs) ++ ⟨#[47]⟩ ++ strOfNums (txt q.den)
/-! ### Weights by numbers -/
theorem and20 (x : Int) : Go.bits .and .i64 x 1048575 = x % 1048576 := QBits.and_mask 20 (by omega) x 1048575 rfl
end Go.Proofs.Ytfldklimlcnnnaa.QRatio
