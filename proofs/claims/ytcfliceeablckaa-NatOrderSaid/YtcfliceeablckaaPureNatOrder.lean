/- Of three numbers of 6 limbs at most: a number is less than itself and something; of two one is less, or they are the same; sums and products keep the order. No condition. -/
import Derived.Test.YtcfliceeablckaaQText
import Derived.Test.YtcfliceeablckaaPNrx4
namespace Go.Proofs.Ytcfliceeablckaa.Pure
open Go.RowKit Go.Proofs.Ytcfliceeablckaa.PNr Go.Proofs.YtcfliceeablckaaW.PrintWords Go.Proofs.YtcfliceeablckaaW.PrintLast
open Go.Proofs.Ytcfliceeablckaa.MNat Go.Proofs.Ytcfliceeablckaa.QNat Go.Proofs.Ytcfliceeablckaa.QText

theorem order_wf {l : List Int} (h : ∀ x ∈ l, (Lit.int .u32 x).wf = true) : Lim l := by
  intro x hx
  have := h x hx
  simp [Lit.wf, IntKind.min, IntKind.max, IntKind.signed, IntKind.bits] at this
  omega
theorem order_num {l : List Int} (h : Lim l) : trim (l.take 6) = limbs (nval (l.take 6)) ∧ nval (l.take 6) < 4294967296 ^ 6 := by
  refine ⟨trim_eq (lim_take h 6), ?_⟩
  have h1 := nval_lt (lim_take h 6)
  have h2 : 4294967296 ^ (l.take 6).length ≤ 4294967296 ^ 6 := Nat.pow_le_pow_right (by omega) (by rw [List.length_take]; omega)
  omega
theorem cmpI_neg (a b : Nat) : cmpI b a = wrap64 (-cmpI a b) := by
  unfold cmpI wrap64
  by_cases h : a < b
  · rw [if_neg (by omega), if_neg (by omega), if_pos h]; omega
  · by_cases h2 : a = b
    · subst h2; simp
    · rw [if_pos (by omega), if_neg h, if_neg h2]; omega
theorem cmpI_add (a b c : Nat) : cmpI (a + c) (b + c) = cmpI a b := by
  unfold cmpI
  by_cases h : a < b
  · rw [if_pos (by omega), if_pos h]
  · by_cases h2 : a = b
    · rw [if_neg (by omega), if_pos (by omega), if_neg h, if_pos h2]
    · rw [if_neg (by omega), if_neg (by omega), if_neg h, if_neg h2]
theorem cmpI_mul (a b c : Nat) (hc : 0 < c) : cmpI (a * c) (b * c) = cmpI a b := by
  unfold cmpI
  by_cases h : a < b
  · rw [if_pos (Nat.mul_lt_mul_of_pos_right h hc), if_pos h]
  · by_cases h2 : a = b
    · subst h2; simp
    · have : b * c < a * c := Nat.mul_lt_mul_of_pos_right (by omega) hc
      rw [if_neg (by omega), if_neg (by omega), if_neg h, if_neg h2]
theorem cmpI_zero (a b : Nat) : (cmpI a b == 0) = decide (a = b) := by
  unfold cmpI
  by_cases h : a < b
  · rw [if_pos h]; have : ¬ a = b := by omega
    simp [this]
  · by_cases h2 : a = b
    · subst h2; simp
    · rw [if_neg h, if_neg h2]; simp [h2]
theorem dec_limbs (a b : Nat) : decide (limbs a = limbs b) = decide (a = b) := by
  by_cases h : a = b
  · subst h; simp
  · have : limbs a ≠ limbs b := fun e => h (limbs_inj e)
    simp [h, this]

theorem NatOrder : regattalaw02_NatOrder.Pure := by
  intro l0 l1 l2 _ _ w0 _ _ w1 _ _ w2
  obtain ⟨e0, h0⟩ := order_num (order_wf w0)
  obtain ⟨e1, h1⟩ := order_num (order_wf w1)
  obtain ⟨e2, h2⟩ := order_num (order_wf w2)
  generalize nval (l0.take 6) = a at *
  generalize nval (l1.take 6) = b at *
  generalize nval (l2.take 6) = c at *
  have p7 : (4294967296 : Nat) ^ 6 + 4294967296 ^ 6 < 4294967296 ^ 7 := by decide
  have hm : ∀ x y : Nat, x < 4294967296 ^ 6 → y < 4294967296 ^ 6 → x * y < 4294967296 ^ 12 := by
    intro x y hx hy
    have h1 : x * y ≤ x * 4294967296 ^ 6 := Nat.mul_le_mul_left _ (by omega)
    have h2 : x * 4294967296 ^ 6 < 4294967296 ^ 6 * 4294967296 ^ 6 := Nat.mul_lt_mul_of_pos_right hx (by decide)
    have h3 : (4294967296 : Nat) ^ 6 * 4294967296 ^ 6 = 4294967296 ^ 12 := by decide
    omega
  have na : isN (limbs a) := isN_limbs h0 (by omega)
  have nb : isN (limbs b) := isN_limbs h1 (by omega)
  have nc : isN (limbs c) := isN_limbs h2 (by omega)
  have n1 : isN (limbs 1) := isN_limbs (k := 1) (by decide) (by omega)
  have nac : isN (limbs (a + c)) := isN_limbs (k := 7) (by omega) (by omega)
  have nbc : isN (limbs (b + c)) := isN_limbs (k := 7) (by omega) (by omega)
  have na1 : isN (limbs (a + 1)) := isN_limbs (k := 7) (by omega) (by omega)
  have mac : isN (limbs (a * c)) := isN_limbs (hm a c h0 h2) (by omega)
  have mbc : isN (limbs (b * c)) := isN_limbs (hm b c h1 h2) (by omega)
  have ha6 := limbs_len a 6 h0
  have hb6 := limbs_len b 6 h1
  have hac7 := limbs_len (a + c) 7 (by omega)
  have ha17 := limbs_len (a + 1) 7 (by omega)
  have hmac := limbs_len (a * c) 12 (hm a c h0 h2)
  refine ⟨1000, ?_⟩
  unfold regattalaw02_NatOrder.f
  rw [awake02 _ (by omega), made_f _ _ (by omega), made_f _ _ (by omega), made_f _ _ (by omega), e0, e1, e2, ← limbs_one]
  simp only [Option.bind_some, nval_limbs, cmp_f 1000 _ _ na nb (by omega), cmp_f 1000 _ _ nb na (by omega), same_f 1000 (limbs a) (limbs b) (by omega) (by omega), add_f _ _ na nc, add_f _ _ nb nc, cmp_f 1000 _ _ nac nbc (by omega), add_f _ _ na n1, cmp_f 1000 _ _ na1 na (by omega),
    mul_f _ _ na nc, mul_f _ _ nb nc, cmp_f 1000 _ _ mac mbc (by omega)]
  rw [cmpI_neg a b, cmpI_add, cmpI_zero, dec_limbs]
  have e4 : cmpI (a + 1) a = 1 := by unfold cmpI; rw [if_neg (by omega), if_neg (by omega)]
  rw [e4]
  by_cases hc : c = 0
  · subst hc; simp [limbs_zero]
  · have hcl : ¬ ((limbs c).length : Int) = 0 := by
      have := List.length_pos_iff.2 (limbs_ne c hc); omega
    rw [if_neg hcl, cmpI_mul a b c (by omega)]
    simp

end Go.Proofs.Ytcfliceeablckaa.Pure
