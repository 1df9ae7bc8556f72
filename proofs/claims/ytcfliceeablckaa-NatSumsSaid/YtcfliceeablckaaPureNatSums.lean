/- Numbers are compared and reckoned as the document's are: any two numbers of 6 limbs at most, any divisor. No condition. -/
import Derived.Test.YtcfliceeablckaaQSub
import Derived.Test.YtcfliceeablckaaQRefB
import Derived.Test.YtcfliceeablckaaPNrx1
import Derived.Test.YtcfliceeablckaaPNrx6
import Derived.Test.YtcfliceeablckaaPNrx7
namespace Go.Proofs.Ytcfliceeablckaa.Pure
open Go.RowKit Go.Proofs.Ytcfliceeablckaa.PNr Go.Proofs.YtcfliceeablckaaW.PrintWords Go.Proofs.YtcfliceeablckaaW.PrintLast
open Go.Proofs.Ytcfliceeablckaa.MNat Go.Proofs.Ytcfliceeablckaa.QNat Go.Proofs.Ytcfliceeablckaa.QText Go.Proofs.Ytcfliceeablckaa.QRef

theorem sums_wf {l : List Int} (h : ∀ x ∈ l, (Lit.int .u32 x).wf = true) : Lim l := by
  intro x hx
  have := h x hx
  simp [Lit.wf, IntKind.min, IntKind.max, IntKind.signed, IntKind.bits] at this
  omega
theorem sums_num {l : List Int} (h : Lim l) : trim (l.take 6) = limbs (nval (l.take 6)) ∧ nval (l.take 6) < 4294967296 ^ 6 := by
  refine ⟨trim_eq (lim_take h 6), ?_⟩
  have h1 := nval_lt (lim_take h 6)
  have h2 : 4294967296 ^ (l.take 6).length ≤ 4294967296 ^ 6 := Nat.pow_le_pow_right (by omega) (by rw [List.length_take]; omega)
  omega

theorem NatSums : regattalaw02_NatSums.Pure := by
  intro l0 l1 d _ _ w0 _ _ w1 wd
  obtain ⟨e0, h0⟩ := sums_num (sums_wf w0)
  obtain ⟨e1, h1⟩ := sums_num (sums_wf w1)
  generalize nval (l0.take 6) = a at *
  generalize nval (l1.take 6) = b at *
  have hd : 0 ≤ d ∧ d < 4294967296 := by
    simp [Lit.wf, IntKind.min, IntKind.max, IntKind.signed, IntKind.bits] at wd
    omega
  obtain ⟨D, rfl⟩ := Int.eq_ofNat_of_zero_le hd.1
  have p6 : (4294967296 : Nat) ^ 6 ≤ 10 ^ 60 := by decide
  have a60 : a < 10 ^ 60 := Nat.lt_of_lt_of_le h0 p6
  have b60 : b < 10 ^ 60 := Nat.lt_of_lt_of_le h1 p6
  have na : isN (limbs a) := isN_limbs h0 (by omega)
  have nb : isN (limbs b) := isN_limbs h1 (by omega)
  have la := limbs_len a 6 h0
  have ladd : (limbs (a + b)).length ≤ 7 := limbs_len (a + b) 7 (by
    have p7 : (4294967296 : Nat) ^ 6 + 4294967296 ^ 6 < 4294967296 ^ 7 := by decide
    omega)
  have lmul : (limbs (a * b)).length ≤ 12 := limbs_len (a * b) 12 (by
    have h3 : (4294967296 : Nat) ^ 12 = 4294967296 ^ 6 * 4294967296 ^ 6 := by decide
    rw [h3]
    exact Nat.mul_lt_mul'' h0 h1)
  have lsub : (limbs (a - b)).length ≤ 6 := limbs_len (a - b) 6 (by omega)
  have ldiv : (limbs (a / D)).length ≤ 6 := limbs_len (a / D) 6 (Nat.lt_of_le_of_lt (Nat.div_le_self _ _) h0)
  refine ⟨10000, ?_⟩
  unfold regattalaw02_NatSums.f
  rw [awake02 _ (by omega), made_f _ _ (by omega), made_f _ _ (by omega), e0, e1]
  have eD : ∀ x y : Option (List Int × Int × Int), x = y → x = y := fun _ _ h => h
  obtain ⟨q, r, e, hq, hq2, hql⟩ : ∃ (q : List Int) (r e : Int), nat_Div.f 10000 (limbs a) (D : Int) = some (q, r, e) ∧ regattaref02_Div.f 10000 (limbs a) (D : Int) = some (q, r, e) ∧ q.length ≤ 6 := by
    by_cases hD : D = 0
    · subst hD
      exact ⟨[], 0, 17, by unfold nat_Div.f; rw [if_pos (by omega)], by unfold regattaref02_Div.f; rw [if_pos (by omega)], by simp⟩
    · refine ⟨limbs (a / D), ((a % D : Nat) : Int), 0, ?_, rdiv_f 10000 60 a D a60 (by omega) (by omega) (by omega) (by omega), ldiv⟩
      have := div_f 10000 (limbs a) D na (by omega) (by omega) (by omega)
      rwa [nval_limbs] at this
  simp only [Option.bind_some, nsub_f 10000 a b na nb (by omega), rsub_f 10000 60 a b a60 b60 (by omega) (by omega), hq, hq2, add_f _ _ na nb, radd_f 10000 60 a b a60 b60 (by omega) (by omega), mul_f _ _ na nb, rmul_f 10000 60 60 a b a60 b60 (by omega) (by omega), nval_limbs]
  rw [same_f _ _ _ (by omega) (by omega), same_f _ _ _ (by omega) (by omega), same_f _ _ _ (by split <;> simp <;> omega) (by split <;> simp <;> omega), same_f _ _ _ (by omega) (by omega)]
  simp only [Option.bind_some, cmp_f 10000 _ _ na nb (by omega), rcmp_f 10000 60 a b a60 b60 (by omega) (by omega), nval_limbs]
  simp

end Go.Proofs.Ytcfliceeablckaa.Pure
