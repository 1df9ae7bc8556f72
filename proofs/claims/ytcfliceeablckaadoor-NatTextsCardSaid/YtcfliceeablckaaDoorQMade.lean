/-
  Plain Lean: the numbers of the laws of layer 2; the chapter's example.
-/
import Derived.Test.YtcfliceeablckaaDoorQText
import Derived.Test.YtcfliceeablckaaDoorPNdx2
import Derived.Test.YtcfliceeablckaaDoorPNdx3
namespace Go.Proofs.YtcfliceeablckaaDoor.QText
open Go.RowKit Go.Proofs.YtcfliceeablckaaDoorW.PrintWords Go.Proofs.YtcfliceeablckaaDoorW.PrintLast Go.Proofs.YtcfliceeablckaaDoorW.PrintMore
open Go.Proofs.YtcfliceeablckaaDoor.MNat Go.Proofs.YtcfliceeablckaaDoor.PNd Go.Proofs.YtcfliceeablckaaDoor.QNat
set_option linter.unusedVariables false
set_option linter.unusedSimpArgs false

theorem made_l (k : Nat) : ∀ x : List Int, x.length < k → x.length ≤ 1000000 → regattalaw02_made.l0 k x = some (trim x) := by
  induction k with
  | zero => intro x h; omega
  | succ k ih =>
    intro x hk hl
    rcases snoc_cases x with rfl | ⟨ys, y, rfl⟩
    · simp only [regattalaw02_made.l0]; rw [if_neg (by simp)]; rfl
    · have e : wrap64 (((ys ++ [y]).length : Int) - 1) = (ys.length : Int) := by simp only [List.length_append, List.length_singleton] at hl ⊢; rw [w64 (by omega) (by omega)]; omega
      have r : rd (ys ++ [y]) (ys.length : Int) = y := by rw [rd_nat]; simp [List.getD]
      simp only [regattalaw02_made.l0, e, r]
      rw [if_pos (by simp only [List.length_append, List.length_singleton]; omega), if_pos (by omega), if_pos (by simp only [List.length_append, List.length_singleton]; omega)]
      by_cases hy : y = 0
      · subst hy
        rw [if_pos rfl, if_pos (by simp only [List.length_append, List.length_singleton]; omega), Int.toNat_natCast, List.take_left' rfl, trim_snoc0]
        simp at hk hl; exact ih ys (by omega) (by omega)
      · rw [if_neg hy, trim_snoc _ _ hy]
theorem made_f (k : Nat) (l : List Int) (hk : 9 ≤ k) : regattalaw02_made.f k l = some (trim (l.take 6)) := by
  obtain ⟨k, rfl⟩ : ∃ m, k = m + 1 := ⟨k - 1, by omega⟩
  have hl : (l.take 6).length ≤ 6 := by rw [List.length_take]; omega
  unfold regattalaw02_made.f
  by_cases h : l.length > 6
  · rw [if_pos (by omega), if_pos (by omega)]
    simp only [regattalaw02_made.j0]
    exact made_l k _ (by omega) (by omega)
  · rw [if_neg (by omega)]
    simp only [regattalaw02_made.j0]
    rw [made_l k _ (by omega) (by omega), List.take_of_length_le (by omega)]

theorem awake02 (k : Nat) (hk : 100 ≤ k) : regattalaw02_awake.f k = some true := by
  have h1 : isN [0, 1] := by rw [← limbs_b]; exact isN_limbs (k := 2) (by decide) (by omega)
  have hv : nval [0, 1] = 4294967296 := by rw [← limbs_b, nval_limbs]
  unfold regattalaw02_awake.f
  simp only [Option.bind_some]
  rw [mul_f _ _ h1 h1, hv]
  simp only [Option.bind_some]
  rw [show 4294967296 * 4294967296 = 18446744073709551616 from rfl, text_f 20 k _ (by decide) (isN_limbs (k := 3) (by decide) (by omega)) (by omega) (by rw [limbs_b2]; simp; omega)]
  simp only [Option.bind_some]
  rw [check_f _ h1]
  have e : (strOfNums (txt 18446744073709551616)).toList = ([49, 56, 52, 52, 54, 55, 52, 52, 48, 55, 51, 55, 48, 57, 53, 53, 49, 54, 49, 54] : List UInt8) := by
    unfold txt
    rw [if_neg (by omega)]
    iterate 20 rw [dig_pos _ (by omega)]
    rw [ByteArray.toList_eq]
    simp [dig_zero, strOfNums]
  rw [if_pos e]
  rfl
end Go.Proofs.YtcfliceeablckaaDoor.QText
