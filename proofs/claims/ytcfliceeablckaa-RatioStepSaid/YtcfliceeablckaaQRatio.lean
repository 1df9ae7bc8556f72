/- Plain Lean: ratios in their least numbers are rational numbers: what the program's functions on ratios compute. -/
import Derived.Test.YtcfliceeablckaaQEv
import Derived.Test.YtcfliceeablckaaQNat
import Derived.Test.YtcfliceeablckaaQSub
import Derived.Test.YtcfliceeablckaaPNrx6
import Derived.Test.YtcfliceeablckaaPNrx12
import Derived.Test.YtcfliceeablckaaPNrx14
import Derived.Test.YtcfliceeablckaaPNrx15
import Derived.Test.YtcfliceeablckaaPNrx23
import Derived.Test.YtcfliceeablckaaPNrx26
namespace Go.Proofs.Ytcfliceeablckaa.QRatio
open Go.RowKit Go.Proofs.YtcfliceeablckaaW.PrintWords Go.Proofs.YtcfliceeablckaaW.PrintLast Go.Proofs.YtcfliceeablckaaW.PrintMore
open Go.Proofs.Ytcfliceeablckaa.MNat Go.Proofs.Ytcfliceeablckaa.QNat Go.Proofs.Ytcfliceeablckaa.QText Go.Proofs.Ytcfliceeablckaa.QEv Go.Proofs.Ytcfliceeablckaa.PNr
set_option linter.unusedVariables false
set_option linter.unusedSimpArgs false

/-! ### Bounds -/
def F (j n : Nat) : Prop := n < 4294967296 ^ j
theorem F.mono {i j n : Nat} (h : F i n) (hij : i ≤ j) : F j n := Nat.lt_of_lt_of_le h (Nat.pow_le_pow_right (by decide) hij)
theorem F.le {j n m : Nat} (h : F j n) (hm : m ≤ n) : F j m := Nat.lt_of_le_of_lt hm h
theorem F.mul {i j a b : Nat} (h : F i a) (k : F j b) : F (i + j) (a * b) := by
  unfold F at *
  rw [Nat.pow_add]
  exact Nat.mul_lt_mul'' h k
theorem F.add {j a b : Nat} (h : F j a) (k : F j b) : F (j + 1) (a + b) := by
  unfold F at *
  rw [Nat.pow_succ]
  omega
theorem F.isN {j n : Nat} (h : F j n) (hj : j ≤ 1000000) : isN (limbs n) := isN_limbs h hj
theorem F.one {n : Nat} (h : n < 4294967296) : F 1 n := by unfold F; simpa using h

theorem cmp_t (j a b : Nat) (ha : F j a) (hb : F j b) (hj : j ≤ 1000000) : Tell (fun k => nat_Cmp.f k (limbs a) (limbs b)) (cmpI a b) :=
  ⟨(limbs a).length + 1, fun k hk => by show nat_Cmp.f k _ _ = _; rw [cmp_f k _ _ (ha.isN hj) (hb.isN hj) (by omega), nval_limbs, nval_limbs]⟩
theorem add_n (j a b : Nat) (ha : F j a) (hb : F j b) (hj : j ≤ 1000000) : nat_Add.f (limbs a) (limbs b) = some (limbs (a + b)) := by
  rw [add_f _ _ (ha.isN hj) (hb.isN hj), nval_limbs, nval_limbs]
theorem mul_n (i j a b : Nat) (ha : F i a) (hb : F j b) (hi : i ≤ 1000000) (hj : j ≤ 1000000) : nat_Mul.f (limbs a) (limbs b) = some (limbs (a * b)) := by
  rw [mul_f _ _ (ha.isN hi) (hb.isN hj), nval_limbs, nval_limbs]
theorem sub_t (j a b : Nat) (ha : F j a) (hb : F j b) (hj : j ≤ 1000000) : Tell (fun k => nat_Sub.f k (limbs a) (limbs b)) (if a < b then ([], 16) else (limbs (a - b), 0)) :=
  ⟨(limbs a).length + 1, fun k hk => nsub_f k a b (ha.isN hj) (hb.isN hj) (by omega)⟩
theorem of_n (n : Nat) (h : n < 18446744073709551616) : nat_Of.f (n : Int) = some (limbs n) := by
  rw [of_f _ (by omega) (by omega), Int.toNat_natCast]
theorem cmpI_neg {a b : Nat} : cmpI a b < 0 ↔ a < b := by
  unfold cmpI
  by_cases h : a < b
  · simp [h]
  · by_cases h2 : a = b <;> simp [h, h2]
theorem cmpI_zero {a b : Nat} : cmpI a b = 0 ↔ a = b := by
  unfold cmpI
  by_cases h : a < b
  · simp [h]; omega
  · by_cases h2 : a = b <;> simp [h, h2]

/-! ### Quotients, the greatest divisor, the least ratio -/
theorem quo_t (j a : Nat) (ha : F j a) (hj : j + 2 ≤ 1000000) (d : Nat) : ∀ b, 0 < b → F (j + 1) b → a < b * 2 ^ d → Tell (fun k => ratio_quo.f k (limbs a) (limbs b)) (limbs (a / b), limbs (a % b)) := by
  induction d with
  | zero =>
    intro b hb hF hlt
    have hlt : a < b := by simpa using hlt
    refine Tell.step (fun k => by rw [ratio_quo.f]) (Tell.bind (cmp_t (j + 1) a b (ha.mono (by omega)) hF (by omega)) ?_)
    refine Tell.of (fun k => ?_) (Tell.const (limbs (a / b), limbs (a % b)))
    rw [if_pos (cmpI_neg.2 hlt), Nat.div_eq_of_lt hlt, Nat.mod_eq_of_lt hlt, limbs_zero]
  | succ d ih =>
    intro b hb hF hlt
    refine Tell.step (fun k => by rw [ratio_quo.f]) (Tell.bind (cmp_t (j + 1) a b (ha.mono (by omega)) hF (by omega)) ?_)
    by_cases h : a < b
    · refine Tell.of (fun k => ?_) (Tell.const (limbs (a / b), limbs (a % b)))
      rw [if_pos (cmpI_neg.2 h), Nat.div_eq_of_lt h, Nat.mod_eq_of_lt h, limbs_zero]
    · have hbF : F j b := ha.le (by omega)
      have hbb : F (j + 1) (b + b) := hbF.add hbF
      have hlt2 : a < (b + b) * 2 ^ d := by
        have e : b * 2 ^ (d + 1) = (b + b) * 2 ^ d := by rw [Nat.pow_succ, Nat.add_mul, Nat.mul_comm (2 ^ d) 2, ← Nat.mul_assoc, Nat.mul_comm b 2, Nat.mul_assoc, Nat.two_mul]
        omega
      have hrec := ih (b + b) (by omega) hbb hlt2
      have hq : a / (b + b) ≤ a := Nat.div_le_self _ _
      have hr : a % (b + b) ≤ a := Nat.mod_le _ _
      have hqF : F j (a / (b + b)) := ha.le hq
      have hrF : F j (a % (b + b)) := ha.le hr
      have hdm := Nat.div_add_mod a (b + b)
      have hrl := Nat.mod_lt a (show 0 < b + b by omega)
      generalize hQ : a / (b + b) = Q at *
      generalize hR : a % (b + b) = R at *
      refine Tell.of (fun k => by rw [if_neg (fun h' => h (cmpI_neg.1 h')), add_n j b b hbF hbF (by omega), Option.bind_some]) ?_
      refine Tell.bind hrec ?_
      refine Tell.of (fun k => by rw [add_n j Q Q hqF hqF (by omega), Option.bind_some]) ?_
      refine Tell.bind (cmp_t j R b hrF hbF (by omega)) ?_
      have h2 : (b + b) * Q = b * (Q + Q) := by rw [Nat.add_mul, Nat.mul_add]
      by_cases hlt2 : R < b
      · refine Tell.of (fun k => ?_) (Tell.const (limbs (a / b), limbs (a % b)))
        have e1 : a / b = Q + Q := by
          rw [← hdm, h2, Nat.mul_add_div hb, Nat.div_eq_of_lt hlt2, Nat.add_zero]
        have e2 : a % b = R := by
          rw [← hdm, h2, Nat.mul_add_mod, Nat.mod_eq_of_lt hlt2]
        rw [if_pos (cmpI_neg.2 hlt2), e1, e2]
      · have e1 : a / b = Q + Q + 1 := by
          rw [← hdm, h2, Nat.mul_add_div hb, show R = b * 1 + (R - b) by omega, Nat.mul_add_div hb, Nat.div_eq_of_lt (show R - b < b by omega), Nat.add_zero]
        have e2 : a % b = R - b := by
          rw [← hdm, h2, Nat.mul_add_mod, show R = b * 1 + (R - b) by omega, Nat.mul_add_mod, Nat.mod_eq_of_lt (show R - b < b by omega)]
          omega
        refine Tell.of (fun k => by rw [if_neg (fun h' => hlt2 (cmpI_neg.1 h'))]) ?_
        refine Tell.bind (sub_t j R b hrF hbF (by omega)) ?_
        refine Tell.of (fun k => ?_) (Tell.const (limbs (a / b), limbs (a % b)))
        rw [if_neg hlt2, show nat_Of.f 1 = some (limbs 1) from of_n 1 (by omega), Option.bind_some, add_n (j + 1) (Q + Q) 1 (hqF.add hqF) (F.mono (F.one (by omega)) (by omega)) (by omega), Option.bind_some, e1, e2]
theorem quo_f (j a b : Nat) (ha : F j a) (hb : F (j + 1) b) (hj : j + 2 ≤ 1000000) (h0 : 0 < b) : Tell (fun k => ratio_quo.f k (limbs a) (limbs b)) (limbs (a / b), limbs (a % b)) :=
  quo_t j a ha hj a b h0 hb (by
    have h1 : a < 2 ^ a := Nat.lt_two_pow_self
    have h2 : 1 * 2 ^ a ≤ b * 2 ^ a := Nat.mul_le_mul_right _ h0
    omega)
theorem limbs_nil {n : Nat} (h : ((limbs n).length : Int) = 0) : n = 0 := by
  by_cases h0 : n = 0
  · exact h0
  · exfalso
    have := List.eq_nil_of_length_eq_zero (by omega : (limbs n).length = 0)
    exact limbs_ne n h0 this
theorem limbs_pos_len {n : Nat} (h : 0 < n) : ((limbs n).length : Int) > 0 := by
  have : ((limbs n).length : Int) ≠ 0 := fun e => by have := limbs_nil e; omega
  omega
theorem gcd_t (j : Nat) (hj : j + 2 ≤ 1000000) (b : Nat) : ∀ a, F j a → F j b → Tell (fun k => ratio_gcd.l0 k (limbs a) (limbs b)) (limbs (Nat.gcd a b)) := by
  induction b using Nat.strongRecOn with
  | _ b ih =>
    intro a ha hb
    by_cases h0 : b = 0
    · subst h0
      exact Tell.step (g := fun _ => some (limbs a)) (fun k => by rw [ratio_gcd.l0, limbs_zero]; simp) (by rw [Nat.gcd_zero_right]; exact Tell.const _)
    · have hb0 : 0 < b := by omega
      refine Tell.step (fun k => by rw [ratio_gcd.l0, if_neg (fun e => h0 (limbs_nil e))]) (Tell.bind (quo_f j a b ha (hb.mono (by omega)) hj hb0) ?_)
      have hm := Nat.mod_lt a hb0
      have h := ih (a % b) hm b hb (hb.le (by omega))
      rwa [show Nat.gcd b (a % b) = Nat.gcd a b by rw [Nat.gcd_comm a b, Nat.gcd_rec b a, Nat.gcd_comm]] at h
theorem check_n (j n d : Nat) (hn : F j n) (hd : F j d) (hj : j ≤ 1000000) (h0 : 0 < d) : ratio_Check.f (limbs n) (limbs d) = some true := by
  unfold ratio_Check.f
  rw [check_f _ (hn.isN hj)]
  simp only [Option.bind_some, if_true]
  rw [check_f _ (hd.isN hj)]
  simp only [Option.bind_some, if_true]
  rw [decide_eq_true (limbs_pos_len h0)]
/-- The least numbers of a ratio. -/
def L (q : Rat) : List Int × List Int := (limbs q.num.natAbs, limbs q.den)
theorem mk_num (n d : Nat) (h0 : 0 < d) : (mkRat (n : Int) d).num.natAbs = n / Nat.gcd n d ∧ (mkRat (n : Int) d).den = d / Nat.gcd n d := by
  rw [← Rat.normalize_eq_mkRat (show d ≠ 0 by omega), Rat.normalize_eq]
  constructor
  · show ((n : Int) / ((Nat.gcd (n : Int).natAbs d : Nat) : Int)).natAbs = _
    rw [Int.natAbs_natCast, ← Int.natCast_ediv, Int.natAbs_natCast]
  · show d / Nat.gcd (n : Int).natAbs d = _
    rw [Int.natAbs_natCast]
theorem least_t (j n d : Nat) (hn : F j n) (hd : F j d) (hj : j + 2 ≤ 1000000) (h0 : 0 < d) : Tell (fun k => ratio_Least.f k (limbs n) (limbs d)) (L (mkRat (n : Int) d)) := by
  obtain ⟨e1, e2⟩ := mk_num n d h0
  unfold ratio_Least.f L
  rw [e1, e2]
  have hg : 0 < Nat.gcd n d := Nat.gcd_pos_of_pos_right _ h0
  have hgd : Nat.gcd n d ≤ d := Nat.gcd_le_right _ h0
  have hgF : F (j + 1) (Nat.gcd n d) := (hd.le hgd).mono (by omega)
  refine Tell.of (fun k => by rw [check_n j n d hn hd (by omega) h0, Option.bind_some, if_pos rfl]) ?_
  refine Tell.bind (gcd_t j hj d n hn hd) (Tell.bind (quo_f j n _ hn hgF hj hg) (Tell.bind (quo_f j d _ hd hgF hj hg) ?_))
  exact Tell.const _

/-! ### Sums and differences -/
def Sz (j : Nat) (q : Rat) : Prop := 0 ≤ q ∧ F j q.num.natAbs ∧ F j q.den
theorem mk_nonneg (n d : Nat) : 0 ≤ mkRat (n : Int) d := by
  by_cases h0 : d = 0
  · subst h0; simp
  · rw [← Rat.num_nonneg, ← Rat.normalize_eq_mkRat h0, Rat.normalize_eq]
    exact Int.ediv_nonneg (by omega) (by omega)
theorem mk_sz (j n d : Nat) (hn : F j n) (hd : F j d) (h0 : 0 < d) : Sz j (mkRat (n : Int) d) := by
  obtain ⟨e1, e2⟩ := mk_num n d h0
  refine ⟨mk_nonneg n d, ?_, ?_⟩
  · rw [e1]; exact hn.le (Nat.div_le_self _ _)
  · rw [e2]; exact hd.le (Nat.div_le_self _ _)
theorem mk_add (n d m e : Nat) (h0 : 0 < d) (h1 : 0 < e) : mkRat (n : Int) d + mkRat (m : Int) e = mkRat ((n * e + m * d : Nat) : Int) (d * e) := by
  rw [Rat.mkRat_add_mkRat _ _ (by omega) (by omega)]
  simp
theorem self_mk (q : Rat) (h : 0 ≤ q) : mkRat (q.num.natAbs : Int) q.den = q := by
  have h2 := Rat.num_nonneg.2 h
  rw [Int.natAbs_of_nonneg h2, Rat.mkRat_self]
theorem F_cross {i j n d m e : Nat} (hn : F i n) (hd : F i d) (hm : F j m) (he : F j e) : F (i + j + 1) (n * e + m * d) := by
  have h2 := hm.mul hd
  rw [Nat.add_comm j i] at h2
  exact (hn.mul he).add h2
theorem radd_t (i j n d m e : Nat) (hn : F i n) (hd : F i d) (hm : F j m) (he : F j e) (hij : i + j + 3 ≤ 1000000) (h0 : 0 < d) (h1 : 0 < e) :
    Tell (fun k => ratio_Add.f k (limbs n) (limbs d) (limbs m) (limbs e)) (L (mkRat (n : Int) d + mkRat (m : Int) e)) := by
  unfold ratio_Add.f
  rw [mul_n i j n e hn he (by omega) (by omega), mul_n j i m d hm hd (by omega) (by omega), mul_n i j d e hd he (by omega) (by omega)]
  simp only [Option.bind_some]
  have h2 := hm.mul hd
  rw [Nat.add_comm j i] at h2
  rw [add_n (i + j) (n * e) (m * d) (hn.mul he) h2 (by omega)]
  simp only [Option.bind_some]
  have h3 := least_t (i + j + 1) (n * e + m * d) (d * e) (F_cross hn hd hm he) ((hd.mul he).mono (by omega)) (by omega) (Nat.mul_pos h0 h1)
  rw [mk_add n d m e h0 h1]
  exact Tell.bind h3 (Tell.const _)
theorem sz_add (i j n d m e : Nat) (hn : F i n) (hd : F i d) (hm : F j m) (he : F j e) (h0 : 0 < d) (h1 : 0 < e) : Sz (i + j + 1) (mkRat (n : Int) d + mkRat (m : Int) e) := by
  rw [mk_add n d m e h0 h1]
  exact mk_sz _ _ _ (F_cross hn hd hm he) ((hd.mul he).mono (by omega)) (Nat.mul_pos h0 h1)
/-- The same of ratios in their least numbers. -/
theorem addL (i j : Nat) (p q : Rat) (hp : Sz i p) (hq : Sz j q) (hij : i + j + 3 ≤ 1000000) : Tell (fun k => ratio_Add.f k (L p).1 (L p).2 (L q).1 (L q).2) (L (p + q)) ∧ Sz (i + j + 1) (p + q) := by
  have h := radd_t i j _ _ _ _ hp.2.1 hp.2.2 hq.2.1 hq.2.2 hij p.den_pos q.den_pos
  have h2 := sz_add i j _ _ _ _ hp.2.1 hp.2.2 hq.2.1 hq.2.2 p.den_pos q.den_pos
  rw [self_mk p hp.1, self_mk q hq.1] at h h2
  exact ⟨h, h2⟩
theorem lt_cross (p q : Rat) (hp : 0 ≤ p) (hq : 0 ≤ q) : p < q ↔ p.num.natAbs * q.den < q.num.natAbs * p.den := by
  rw [Rat.lt_iff]
  have h1 := Int.natAbs_of_nonneg (Rat.num_nonneg.2 hp)
  have h2 := Int.natAbs_of_nonneg (Rat.num_nonneg.2 hq)
  rw [← h1, ← h2]
  simp only [Int.natAbs_natCast]
  exact_mod_cast Iff.rfl
theorem mk_lt (n d m e : Nat) (h0 : 0 < d) (h1 : 0 < e) : mkRat (n : Int) d < mkRat (m : Int) e ↔ n * e < m * d := by
  obtain ⟨a1, a2⟩ := mk_num n d h0
  obtain ⟨b1, b2⟩ := mk_num m e h1
  rw [lt_cross _ _ (mk_nonneg n d) (mk_nonneg m e), a1, a2, b1, b2]
  have g : 0 < Nat.gcd n d := Nat.gcd_pos_of_pos_right _ h0
  have g' : 0 < Nat.gcd m e := Nat.gcd_pos_of_pos_right _ h1
  obtain ⟨x, hx⟩ := Nat.gcd_dvd_left n d
  obtain ⟨y, hy⟩ := Nat.gcd_dvd_right n d
  obtain ⟨z, hz⟩ := Nat.gcd_dvd_left m e
  obtain ⟨v, hv⟩ := Nat.gcd_dvd_right m e
  generalize Nat.gcd n d = G at *
  generalize Nat.gcd m e = H at *
  subst hx hy hz hv
  rw [Nat.mul_div_cancel_left _ g, Nat.mul_div_cancel_left _ g, Nat.mul_div_cancel_left _ g', Nat.mul_div_cancel_left _ g']
  have e1 : G * x * (H * v) = G * H * (x * v) := by rw [Nat.mul_mul_mul_comm]
  have e2 : H * z * (G * y) = G * H * (z * y) := by rw [Nat.mul_mul_mul_comm, Nat.mul_comm H G]
  rw [e1, e2]
  exact (Nat.mul_lt_mul_left (Nat.mul_pos g g')).symm
theorem mk_eq (n d m e : Nat) (h0 : 0 < d) (h1 : 0 < e) : mkRat (n : Int) d = mkRat (m : Int) e ↔ n * e = m * d := by
  rw [Rat.mkRat_eq_iff (by omega) (by omega)]
  exact_mod_cast Iff.rfl
def cmpR (p q : Rat) : Int := if p < q then -1 else if p = q then 0 else 1
theorem cmp_cross (n d m e : Nat) (h0 : 0 < d) (h1 : 0 < e) : cmpI (n * e) (m * d) = cmpR (mkRat (n : Int) d) (mkRat (m : Int) e) := by
  unfold cmpI cmpR
  by_cases h : n * e < m * d
  · rw [if_pos h, if_pos ((mk_lt n d m e h0 h1).2 h)]
  · rw [if_neg h, if_neg (fun h' => h ((mk_lt n d m e h0 h1).1 h'))]
    by_cases h2 : n * e = m * d
    · rw [if_pos h2, if_pos ((mk_eq n d m e h0 h1).2 h2)]
    · rw [if_neg h2, if_neg (fun h' => h2 ((mk_eq n d m e h0 h1).1 h'))]
theorem rcmp_t (i j n d m e : Nat) (hn : F i n) (hd : F i d) (hm : F j m) (he : F j e) (hij : i + j ≤ 1000000) (h0 : 0 < d) (h1 : 0 < e) :
    Tell (fun k => ratio_Cmp.f k (limbs n) (limbs d) (limbs m) (limbs e)) (cmpR (mkRat (n : Int) d) (mkRat (m : Int) e)) := by
  unfold ratio_Cmp.f
  rw [mul_n i j n e hn he (by omega) (by omega), mul_n j i m d hm hd (by omega) (by omega)]
  simp only [Option.bind_some]
  have h2 := hm.mul hd
  rw [Nat.add_comm j i] at h2
  rw [← cmp_cross n d m e h0 h1]
  exact Tell.bind (cmp_t (i + j) _ _ (hn.mul he) h2 hij) (Tell.const _)
theorem cmpL (i j : Nat) (p q : Rat) (hp : Sz i p) (hq : Sz j q) (hij : i + j ≤ 1000000) : Tell (fun k => ratio_Cmp.f k (L p).1 (L p).2 (L q).1 (L q).2) (cmpR p q) := by
  have h := rcmp_t i j _ _ _ _ hp.2.1 hp.2.2 hq.2.1 hq.2.2 hij p.den_pos q.den_pos
  rw [self_mk p hp.1, self_mk q hq.1] at h
  exact h
theorem mk_sub (n d m e : Nat) (h0 : 0 < d) (h1 : 0 < e) (h : m * d ≤ n * e) : mkRat (n : Int) d - mkRat (m : Int) e = mkRat ((n * e - m * d : Nat) : Int) (d * e) := by
  have h2 : mkRat ((n * e - m * d : Nat) : Int) (d * e) + mkRat (m : Int) e = mkRat (n : Int) d := by
    rw [mk_add _ _ _ _ (Nat.mul_pos h0 h1) h1, mk_eq _ _ _ _ (Nat.mul_pos (Nat.mul_pos h0 h1) h1) h0]
    have e1 : (n * e - m * d) * e + m * (d * e) = n * e * e := by
      rw [← Nat.mul_assoc, ← Nat.add_mul]
      congr 1; omega
    rw [e1, Nat.mul_comm (n * e * e) d, Nat.mul_assoc n e e, ← Nat.mul_assoc d n, Nat.mul_comm d n, Nat.mul_assoc n d, Nat.mul_assoc d e e]
  rw [← h2, Rat.add_sub_cancel]
theorem rsub_t (i j n d m e : Nat) (hn : F i n) (hd : F i d) (hm : F j m) (he : F j e) (hij : i + j + 3 ≤ 1000000) (h0 : 0 < d) (h1 : 0 < e) :
    Tell (fun k => ratio_Sub.f k (limbs n) (limbs d) (limbs m) (limbs e)) (if mkRat (n : Int) d < mkRat (m : Int) e then ([], [], 16) else ((L (mkRat (n : Int) d - mkRat (m : Int) e)).1, (L (mkRat (n : Int) d - mkRat (m : Int) e)).2, 0)) := by
  unfold ratio_Sub.f
  rw [mul_n i j n e hn he (by omega) (by omega), mul_n j i m d hm hd (by omega) (by omega), mul_n i j d e hd he (by omega) (by omega)]
  simp only [Option.bind_some]
  have h2 := hm.mul hd
  rw [Nat.add_comm j i] at h2
  refine Tell.bind (sub_t (i + j) _ _ (hn.mul he) h2 (by omega)) ?_
  by_cases h : n * e < m * d
  · rw [if_pos ((mk_lt n d m e h0 h1).2 h)]
    refine Tell.of (fun k => ?_) (Tell.const _)
    rw [if_pos h, if_neg (by decide)]
  · rw [if_neg (fun h' => h ((mk_lt n d m e h0 h1).1 h')), mk_sub n d m e h0 h1 (by omega)]
    refine Tell.of (fun k => by rw [if_neg h, if_pos rfl]) ?_
    have h3 := least_t (i + j) (n * e - m * d) (d * e) ((hn.mul he).le (Nat.sub_le _ _)) (hd.mul he) (by omega) (Nat.mul_pos h0 h1)
    exact Tell.bind h3 (Tell.const _)
theorem subL (i j : Nat) (p q : Rat) (hp : Sz i p) (hq : Sz j q) (hij : i + j + 3 ≤ 1000000) : Tell (fun k => ratio_Sub.f k (L p).1 (L p).2 (L q).1 (L q).2) (if p < q then ([], [], 16) else ((L (p - q)).1, (L (p - q)).2, 0)) := by
  have h := rsub_t i j _ _ _ _ hp.2.1 hp.2.2 hq.2.1 hq.2.2 hij p.den_pos q.den_pos
  rw [self_mk p hp.1, self_mk q hq.1] at h
  exact h
end Go.Proofs.Ytcfliceeablckaa.QRatio
