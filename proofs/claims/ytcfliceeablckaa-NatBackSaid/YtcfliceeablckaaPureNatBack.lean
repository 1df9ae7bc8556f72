/- What was added is taken away again; what was multiplied by a limb, and something less added, is divided again: any two numbers of 6 limbs at most, any limb, and one less. No condition. -/
import Derived.Test.YtcfliceeablckaaQSub
import Derived.Test.YtcfliceeablckaaPNrx8
namespace Go.Proofs.Ytcfliceeablckaa.Pure
open Go.RowKit Go.Proofs.Ytcfliceeablckaa.PNr Go.Proofs.YtcfliceeablckaaW.PrintWords Go.Proofs.YtcfliceeablckaaW.PrintLast
open Go.Proofs.Ytcfliceeablckaa.MNat Go.Proofs.Ytcfliceeablckaa.QNat Go.Proofs.Ytcfliceeablckaa.QText

theorem back_wf {l : List Int} (h : ∀ x ∈ l, (Lit.int .u32 x).wf = true) : Lim l := by
  intro x hx
  have := h x hx
  simp [Lit.wf, IntKind.min, IntKind.max, IntKind.signed, IntKind.bits] at this
  omega
theorem back_num {l : List Int} (h : Lim l) : trim (l.take 6) = limbs (nval (l.take 6)) ∧ nval (l.take 6) < 4294967296 ^ 6 := by
  refine ⟨trim_eq (lim_take h 6), ?_⟩
  have h1 := nval_lt (lim_take h 6)
  have h2 : 4294967296 ^ (l.take 6).length ≤ 4294967296 ^ 6 := Nat.pow_le_pow_right (by omega) (by rw [List.length_take]; omega)
  omega
theorem back_j (k a d q : Nat) (b0 : Bool) (q0 : Int) (hk : 1000 ≤ k) (ha : a < 4294967296 ^ 6) (hd0 : 0 < d) (hd : d < 4294967296) (hq : q < 4294967296) (hb : b0 = true) :
    regattalaw02_NatBack.j0 (k + 1) b0 (limbs a) 0 true (d : Int) q0 (q : Int) = some true := by
  subst hb
  have hr : q % d < d := Nat.mod_lt _ hd0
  obtain ⟨r, hR⟩ : ∃ r, q % d = r := ⟨_, rfl⟩
  rw [hR] at hr
  have e1 : Int.tmod (q : Int) (d : Int) = (r : Int) := by rw [Int.tmod_eq_emod_of_nonneg (by omega), ← Int.natCast_emod, hR]
  have na : isN (limbs a) := isN_limbs ha (by omega)
  have nd : isN (limbs d) := isN_limbs (k := 1) (by omega) (by omega)
  have nr : isN (limbs r) := isN_limbs (k := 1) (by omega) (by omega)
  have p7 : (4294967296 : Nat) ^ 7 = 4294967296 ^ 6 * 4294967296 := by decide
  have hadm : a * d < 4294967296 ^ 7 := by rw [p7]; exact Nat.mul_lt_mul'' ha hd
  have nad : isN (limbs (a * d)) := isN_limbs hadm (by omega)
  have p8 : (4294967296 : Nat) ^ 7 + 4294967296 < 4294967296 ^ 8 := by decide
  have nadr : isN (limbs (a * d + r)) := isN_limbs (k := 8) (by omega) (by omega)
  have ladr := limbs_len (a * d + r) 8 (by omega)
  have n1 : isN (limbs 1) := isN_limbs (k := 1) (by decide) (by omega)
  have p6 : (4294967296 : Nat) ^ 6 + 1 < 4294967296 ^ 7 := by decide
  have na1 : isN (limbs (a + 1)) := isN_limbs (k := 7) (by omega) (by omega)
  have la := limbs_len a 6 ha
  have eq1 : (a * d + r) / d = a := by rw [Nat.add_comm, Nat.add_mul_div_right _ _ hd0, Nat.div_eq_of_lt hr]; omega
  have eq2 : (a * d + r) % d = r := by rw [Nat.add_comm, Nat.add_mul_mod_self_right, Nat.mod_eq_of_lt hr]
  simp only [regattalaw02_NatBack.j0]
  rw [if_neg (by omega), wu64 (by omega) (by omega), e1, wu64 (by omega) (by omega), of_f _ (by omega) (by omega), of_f _ (by omega) (by omega)]
  simp only [Option.bind_some, Int.toNat_natCast]
  rw [mul_f _ _ na nd]
  simp only [Option.bind_some, nval_limbs]
  rw [add_f _ _ nad nr]
  simp only [Option.bind_some, nval_limbs]
  rw [div_f k _ d nadr hd0 hd (by omega), nval_limbs, eq1, eq2]
  simp only [Option.bind_some]
  rw [same_f k _ _ (by omega) (by omega), ← limbs_one, add_f _ _ na n1]
  simp only [Option.bind_some, nval_limbs]
  rw [nsub_f k a (a + 1) na na1 (by omega)]
  simp

theorem NatBack : regattalaw02_NatBack.Pure := by
  intro l0 l1 q ⟨_, w0⟩ ⟨_, w1⟩ hq
  obtain ⟨q0, q1⟩ := q
  obtain ⟨e0, h0⟩ := back_num (back_wf w0)
  obtain ⟨e1, h1⟩ := back_num (back_wf w1)
  generalize nval (l0.take 6) = a at *
  generalize nval (l1.take 6) = b at *
  have hq0 : 0 ≤ q0 ∧ q0 < 4294967296 := by
    have := hq.1
    simp [Lit.wf, IntKind.min, IntKind.max, IntKind.signed, IntKind.bits] at this
    omega
  have hq1 : 0 ≤ q1 ∧ q1 < 4294967296 := by
    have := hq.2
    simp [Lit.wf, IntKind.min, IntKind.max, IntKind.signed, IntKind.bits] at this
    omega
  obtain ⟨Q0, rfl⟩ := Int.eq_ofNat_of_zero_le hq0.1
  obtain ⟨Q1, rfl⟩ := Int.eq_ofNat_of_zero_le hq1.1
  have na : isN (limbs a) := isN_limbs h0 (by omega)
  have nb : isN (limbs b) := isN_limbs h1 (by omega)
  have p7 : (4294967296 : Nat) ^ 6 + 4294967296 ^ 6 < 4294967296 ^ 7 := by decide
  have nab : isN (limbs (a + b)) := isN_limbs (k := 7) (by omega) (by omega)
  have lab := limbs_len (a + b) 7 (by omega)
  have la := limbs_len a 6 h0
  refine ⟨1001, ?_⟩
  unfold regattalaw02_NatBack.f
  rw [awake02 _ (by omega), made_f _ _ (by omega), made_f _ _ (by omega), e0, e1]
  simp only [Option.bind_some]
  rw [add_f _ _ na nb]
  simp only [Option.bind_some, nval_limbs]
  rw [nsub_f 1001 (a + b) b nab nb (by omega), if_neg (by omega)]
  simp only [Option.bind_some, Nat.add_sub_cancel]
  rw [same_f 1001 _ _ (by omega) (by omega)]
  simp only [Option.bind_some, decide_true]
  by_cases hz : Q0 = 0
  · subst hz
    rw [if_pos (by omega)]
    exact back_j 1000 a 1 Q1 true _ (by omega) h0 (by omega) (by omega) (by omega) rfl
  · rw [if_neg (by omega)]
    exact back_j 1000 a Q0 Q1 true _ (by omega) h0 (by omega) (by omega) (by omega) rfl

end Go.Proofs.Ytcfliceeablckaa.Pure
