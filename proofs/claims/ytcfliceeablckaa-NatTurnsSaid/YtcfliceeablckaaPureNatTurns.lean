/- Of three numbers of 6 limbs at most: sums and products turn round and are the same in whichever order; a product of a sum is the sum of products; all may be. No condition. -/
import Derived.Test.YtcfliceeablckaaQText
import Derived.Test.YtcfliceeablckaaPNrx3
namespace Go.Proofs.Ytcfliceeablckaa.Pure
open Go.RowKit Go.Proofs.Ytcfliceeablckaa.PNr Go.Proofs.YtcfliceeablckaaW.PrintWords Go.Proofs.YtcfliceeablckaaW.PrintLast
open Go.Proofs.Ytcfliceeablckaa.MNat Go.Proofs.Ytcfliceeablckaa.QNat Go.Proofs.Ytcfliceeablckaa.QText

theorem lim_wf {l : List Int} (h : ∀ x ∈ l, (Lit.int .u32 x).wf = true) : Lim l := by
  intro x hx
  have := h x hx
  simp [Lit.wf, IntKind.min, IntKind.max, IntKind.signed, IntKind.bits] at this
  omega
/-- A row's number: of six limbs at most. -/
theorem made_num {l : List Int} (h : Lim l) : trim (l.take 6) = limbs (nval (l.take 6)) ∧ nval (l.take 6) < 4294967296 ^ 6 := by
  refine ⟨trim_eq (lim_take h 6), ?_⟩
  have h1 := nval_lt (lim_take h 6)
  have h2 : 4294967296 ^ (l.take 6).length ≤ 4294967296 ^ 6 := Nat.pow_le_pow_right (by omega) (by rw [List.length_take]; omega)
  omega
theorem turns (a b c : Nat) (ha : a < 4294967296 ^ 6) (hb : b < 4294967296 ^ 6) (hc : c < 4294967296 ^ 6) :
    isN (limbs a) ∧ isN (limbs b) ∧ isN (limbs c) ∧ isN (limbs (a + b)) ∧ isN (limbs (a * b)) ∧ isN (limbs (a * c)) ∧ isN (limbs (b * c)) := by
  have hm : ∀ x y : Nat, x < 4294967296 ^ 6 → y < 4294967296 ^ 6 → x * y < 4294967296 ^ 12 := by
    intro x y hx hy
    have h1 : x * y ≤ x * 4294967296 ^ 6 := Nat.mul_le_mul_left _ (by omega)
    have h2 : x * 4294967296 ^ 6 < 4294967296 ^ 6 * 4294967296 ^ 6 := Nat.mul_lt_mul_of_pos_right hx (by decide)
    have h3 : (4294967296 : Nat) ^ 6 * 4294967296 ^ 6 = 4294967296 ^ 12 := by decide
    omega
  have hs : a + b < 4294967296 ^ 7 := by
    have h3 : (4294967296 : Nat) ^ 6 + 4294967296 ^ 6 < 4294967296 ^ 7 := by decide
    omega
  exact ⟨isN_limbs ha (by omega), isN_limbs hb (by omega), isN_limbs hc (by omega), isN_limbs hs (by omega), isN_limbs (hm a b ha hb) (by omega), isN_limbs (hm a c ha hc) (by omega), isN_limbs (hm b c hb hc) (by omega)⟩
theorem len_of {n k : Nat} (h : n < 4294967296 ^ k) : (limbs n).length ≤ k := limbs_len n k h

theorem NatTurns : regattalaw02_NatTurns.Pure := by
  intro l0 l1 l2 _ _ w0 _ _ w1 _ _ w2
  obtain ⟨e0, h0⟩ := made_num (lim_wf w0)
  obtain ⟨e1, h1⟩ := made_num (lim_wf w1)
  obtain ⟨e2, h2⟩ := made_num (lim_wf w2)
  generalize nval (l0.take 6) = a at *
  generalize nval (l1.take 6) = b at *
  generalize nval (l2.take 6) = c at *
  obtain ⟨na, nb, nc, nab, mab, mac, mbc⟩ := turns a b c h0 h1 h2
  refine ⟨1000, ?_⟩
  have ls := nab.2
  unfold regattalaw02_NatTurns.f
  rw [awake02 _ (by omega), made_f _ _ (by omega), made_f _ _ (by omega), made_f _ _ (by omega), e0, e1, e2]
  simp only [Option.bind_some]
  have hs : ∀ x : Nat, x < 4294967296 ^ 100 → ∀ l : List Int, regattaref02_Same.f 1000 (limbs x) l = some (decide (limbs x = l)) := fun x hx l => same_f 1000 _ l (by have := len_of hx; omega) (by have := len_of hx; omega)
  have hab : a * b < 4294967296 ^ 12 := by
    have h1 : a * b ≤ a * 4294967296 ^ 6 := Nat.mul_le_mul_left _ (by omega)
    have h2 : a * 4294967296 ^ 6 < 4294967296 ^ 6 * 4294967296 ^ 6 := Nat.mul_lt_mul_of_pos_right h0 (by decide)
    have h3 : (4294967296 : Nat) ^ 6 * 4294967296 ^ 6 = 4294967296 ^ 12 := by decide
    omega
  have hsc : (a + b) * c < 4294967296 ^ 13 := by
    have h3 : (4294967296 : Nat) ^ 6 + 4294967296 ^ 6 < 4294967296 ^ 7 := by decide
    have h1 : (a + b) * c ≤ (a + b) * 4294967296 ^ 6 := Nat.mul_le_mul_left _ (by omega)
    have h2 : (a + b) * 4294967296 ^ 6 < 4294967296 ^ 7 * 4294967296 ^ 6 := Nat.mul_lt_mul_of_pos_right (by omega) (by decide)
    have h4 : (4294967296 : Nat) ^ 7 * 4294967296 ^ 6 = 4294967296 ^ 13 := by decide
    omega
  have hmc : a * b * c < 4294967296 ^ 18 := by
    have h1 : a * b * c ≤ a * b * 4294967296 ^ 6 := Nat.mul_le_mul_left _ (by omega)
    have h2 : a * b * 4294967296 ^ 6 < 4294967296 ^ 12 * 4294967296 ^ 6 := Nat.mul_lt_mul_of_pos_right hab (by decide)
    have h4 : (4294967296 : Nat) ^ 12 * 4294967296 ^ 6 = 4294967296 ^ 18 := by decide
    omega
  have hp : ∀ k, k ≤ 100 → (4294967296 : Nat) ^ k ≤ 4294967296 ^ 100 := fun k hk => Nat.pow_le_pow_right (by omega) hk
  have p7 := hp 7 (by omega)
  have p12 := hp 12 (by omega)
  have p13 := hp 13 (by omega)
  have p18 := hp 18 (by omega)
  have hs7 : a + b < 4294967296 ^ 7 := by
    have h3 : (4294967296 : Nat) ^ 6 + 4294967296 ^ 6 < 4294967296 ^ 7 := by decide
    omega
  simp only [Option.bind_some, nval_limbs, add_f _ _ na nb, mul_f _ _ na nb, add_f _ _ nb na, mul_f _ _ nb na, mul_f _ _ nab nc, mul_f _ _ na nc, mul_f _ _ nb nc, add_f _ _ mac mbc, mul_f _ _ mab nc, mul_f _ _ na mbc, check_f _ nab, check_f _ mab,
    hs (a + b) (by omega), hs (a * b) (by omega), hs ((a + b) * c) (by omega), hs (a * b * c) (by omega)]
  rw [Nat.add_comm b a, Nat.mul_comm b a, Nat.add_mul, Nat.mul_assoc]
  simp

end Go.Proofs.Ytcfliceeablckaa.Pure
