/-
  Plain Lean: the document's numbers: products, order, differences; on rows of limbs.
-/
import Derived.Test.YtcfliceeablckaaQRef
import Derived.Test.YtcfliceeablckaaPNrx7
import Derived.Test.YtcfliceeablckaaPNrx8
import Derived.Test.YtcfliceeablckaaPNrx9
import Derived.Test.YtcfliceeablckaaPNrx10
namespace Go.Proofs.Ytcfliceeablckaa.QRef
open Go.RowKit Go.Proofs.YtcfliceeablckaaW.PrintWords Go.Proofs.YtcfliceeablckaaW.PrintLast Go.Proofs.YtcfliceeablckaaW.PrintMore
open Go.Proofs.Ytcfliceeablckaa.MNat Go.Proofs.Ytcfliceeablckaa.MDec Go.Proofs.Ytcfliceeablckaa.QNat Go.Proofs.Ytcfliceeablckaa.PNr
set_option linter.unusedVariables false
set_option linter.unusedSimpArgs false

theorem dval_drop_le (l : List Int) (d : Nat) : dval (l.drop d) ≤ dval l := by
  have := dval_append (l.take d) (l.drop d)
  rw [List.take_append_drop] at this
  have h1 : 1 * dval (l.drop d) ≤ 10 ^ (l.take d).length * dval (l.drop d) := Nat.mul_le_mul_right _ (Nat.pow_pos (by omega))
  omega
theorem mul_l (a : Nat) (y : List Int) (hy : Dgt y) (m : Nat) (hm : m ≤ 50000) (hab : (a + 1) * (10 * (dval y + 1)) < 10 ^ m) (hyl : y.length ≤ m) (d : Nat) : ∀ k, d ≤ y.length → d + 4 * m + 100 < k →
    regattaref02_mul.l0 k (decs a) y (decs (a * dval (y.drop d))) ((d : Int) - 1) = some (decs (a * dval y)) := by
  have ham : a < 10 ^ m := by
    have : (a + 1) * 1 ≤ (a + 1) * (10 * (dval y + 1)) := Nat.mul_le_mul_left _ (by omega)
    omega
  have bound : ∀ v, v ≤ dval y → 10 * (a * v) + a * 9 < 10 ^ m := by
    intro v hv
    have h1 : (a + 1) * (10 * (v + 1)) ≤ (a + 1) * (10 * (dval y + 1)) := Nat.mul_le_mul_left _ (by omega)
    have h2 : (a + 1) * (10 * (v + 1)) = 10 * (a * v) + a * 10 + (10 * v + 10) := by
      rw [Nat.add_mul, Nat.mul_add, Nat.mul_add, Nat.mul_left_comm]; omega
    omega
  induction d with
  | zero =>
    intro k hd hk
    obtain ⟨k, rfl⟩ : ∃ m, k = m + 1 := ⟨k - 1, by omega⟩
    simp only [regattaref02_mul.l0]
    have b := bound (dval y) (Nat.le_refl _)
    rw [if_neg (by omega), List.drop_zero, cut_f k _ (by have := decs_len (a * dval y) m (by omega); omega) (by have := decs_len (a * dval y) m (by omega); omega) (dgt_decs _)]
    simp only [Option.bind_some, dval_decs]
  | succ d ih =>
    intro k hd hk
    obtain ⟨k, rfl⟩ : ∃ m, k = m + 1 := ⟨k - 1, by omega⟩
    simp only [regattaref02_mul.l0]
    have e1 : ((d + 1 : Nat) : Int) - 1 = (d : Int) := by omega
    obtain ⟨X, hX, hX10⟩ := dig_at hy d
    have hdr := drop_cons y d (by omega)
    have hv : dval (y.drop d) = X + 10 * dval (y.drop (d + 1)) := by rw [hdr, hX]; simp [dval]
    have hle := dval_drop_le y d
    have hle2 := dval_drop_le y (d + 1)
    have b1 := bound _ hle2
    have hl := decs_len (a * dval (y.drop (d + 1))) m (by omega)
    have hX9 : a * X ≤ a * 9 := Nat.mul_le_mul_left _ (by omega)
    rw [e1, if_pos (by omega)]
    simp only [Option.bind_some, List.singleton_append]
    rw [if_pos (by simp; omega), cut_f k _ (by simp; omega) (by simp; omega) (dgt_cons.2 ⟨by omega, dgt_decs _⟩)]
    simp only [Option.bind_some]
    rw [if_pos (by omega), if_pos (by omega), rd_nat, hX, times_f k m a X ham (by omega) (by omega) (by omega)]
    simp only [Option.bind_some]
    have e2 : dval (0 :: decs (a * dval (y.drop (d + 1)))) = 10 * (a * dval (y.drop (d + 1))) := by simp [dval, dval_decs]
    rw [e2, add_f' k m _ _ (by omega) (by omega) (by omega) (by omega)]
    simp only [Option.bind_some]
    have e3 : 10 * (a * dval (y.drop (d + 1))) + a * X = a * dval (y.drop d) := by rw [hv, Nat.mul_add, Nat.mul_left_comm]; omega
    rw [e3, w64 (by omega) (by omega)]
    exact ih k (by omega) (by omega)
theorem mul_f' (k m a b : Nat) (hab : (a + 1) * (10 * (b + 1)) < 10 ^ m) (hm : m ≤ 50000) (hk : 5 * m + 100 < k) : regattaref02_mul.f k (decs a) (decs b) = some (decs (a * b)) := by
  have hb : b < 10 ^ m := by
    have : 1 * (10 * (b + 1)) ≤ (a + 1) * (10 * (b + 1)) := Nat.mul_le_mul_right _ (by omega)
    omega
  have hl := decs_len b m hb
  unfold regattaref02_mul.f
  rw [w64 (by omega) (by omega)]
  have := mul_l a (decs b) (dgt_decs b) m hm (by rw [dval_decs]; exact hab) hl (decs b).length k (by omega) (by omega)
  rw [List.drop_of_length_le (by omega), dval_decs] at this
  simpa [dval, decs_zero] using this

theorem dval_cmp_last {xs ys : List Int} {x y : Int} (hx : Dgt (xs ++ [x])) (hy : Dgt (ys ++ [y])) (hl : xs.length = ys.length) (h : x < y) (zs : List Int) : dval (xs ++ [x] ++ zs) < dval (ys ++ [y] ++ zs) := by
  have h1 := dval_lt (dgt_append.1 hx).1
  have h2 := (dgt_append.1 hx).2 x (by simp)
  have h3 := (dgt_append.1 hy).2 y (by simp)
  rw [dval_append, dval_append (ys ++ [y]), dval_snoc, dval_snoc]
  simp only [List.length_append, List.length_singleton, ← hl]
  have h4 : 10 ^ xs.length * (x.toNat + 1) ≤ 10 ^ xs.length * y.toNat := Nat.mul_le_mul_left _ (by omega)
  rw [Nat.mul_add, Nat.mul_one] at h4
  omega
theorem cmpd_l (a b : List Int) (ha : Dgt a) (hb : Dgt b) (hab : a.length = b.length) (hl : a.length ≤ 1000000) (d : Nat) : ∀ k, d ≤ a.length → d < k → a.drop d = b.drop d →
    regattaref02_cmp.l0 k a b ((d : Int) - 1) = some (cmpI (dval a) (dval b)) := by
  induction d with
  | zero =>
    intro k hd hk he
    obtain ⟨k, rfl⟩ : ∃ m, k = m + 1 := ⟨k - 1, by omega⟩
    simp only [regattaref02_cmp.l0]
    rw [if_neg (by omega)]
    simp at he
    simp [he, cmpI]
  | succ d ih =>
    intro k hd hk he
    obtain ⟨k, rfl⟩ : ∃ m, k = m + 1 := ⟨k - 1, by omega⟩
    have e1 : ((d + 1 : Nat) : Int) - 1 = (d : Int) := by omega
    simp only [regattaref02_cmp.l0]
    rw [e1, if_pos (by omega), if_pos (by omega), if_pos (by omega), if_pos (by omega), rd_nat, rd_nat]
    have pa := parts_at a d (by omega)
    have pb := parts_at b d (by omega)
    rw [← he] at pb
    have la : Dgt (a.take d ++ [a.getD d 0]) := dgt_append.2 ⟨dgt_take ha _, fun y hy => by simp at hy; subst hy; have := dgt_getD ha d; simpa [List.getD] using this⟩
    have lb : Dgt (b.take d ++ [b.getD d 0]) := dgt_append.2 ⟨dgt_take hb _, fun y hy => by simp at hy; subst hy; have := dgt_getD hb d; simpa [List.getD] using this⟩
    by_cases hlt : a.getD d 0 < b.getD d 0
    · rw [if_pos hlt]
      have := dval_cmp_last la lb (by simp; omega) hlt (a.drop (d + 1))
      rw [← pa, ← pb] at this
      simp [cmpI, this]
    · rw [if_neg hlt]
      by_cases hgt : a.getD d 0 > b.getD d 0
      · rw [if_pos hgt]
        have := dval_cmp_last lb la (by simp; omega) hgt (a.drop (d + 1))
        rw [← pa, ← pb] at this
        have h1 : ¬ dval a < dval b := by omega
        have h2 : ¬ dval a = dval b := by omega
        simp [cmpI, h1, h2]
      · rw [if_neg hgt, w64 (by omega) (by omega)]
        have h : a.getD d 0 = b.getD d 0 := by omega
        exact ih k (by omega) (by omega) (by rw [drop_cons a d (by omega), drop_cons b d (by omega), he, h])
theorem decs_len_lt {n m : Nat} (h : (decs n).length < (decs m).length) : n < m := by
  rcases Nat.lt_or_ge n m with h1 | h1
  · exact h1
  · have := decs_length_le h1; omega
theorem cmpd_f (k m a b : Nat) (ha : a < 10 ^ m) (hm : m ≤ 100000) (hk : m < k) : regattaref02_cmp.f k (decs a) (decs b) = some (cmpI a b) := by
  have hl := decs_len a m ha
  unfold regattaref02_cmp.f
  by_cases h : (decs a).length = (decs b).length
  · rw [if_pos (by omega), w64 (by omega) (by omega)]
    have := cmpd_l (decs a) (decs b) (dgt_decs a) (dgt_decs b) h (by omega) (decs a).length k (by omega) (by omega) (by rw [List.drop_of_length_le (by omega), List.drop_of_length_le (by omega)])
    rw [dval_decs, dval_decs] at this
    exact this
  · rw [if_neg (by omega)]
    unfold cmpI
    rcases Nat.lt_or_gt_of_ne h with h3 | h3
    · have := decs_len_lt h3
      rw [if_pos (by omega), if_pos this]
    · have := decs_len_lt h3
      rw [if_neg (by omega), if_neg (by omega), if_neg (by omega)]

theorem sub_l (x y : List Int) (hx : Dgt x) (hy : Dgt y) (hyx : dval y ≤ dval x) (hxN : x.length ≤ 100000) (hyl : y.length ≤ x.length) (d : Nat) : ∀ (k i c : Nat) (out : List Int), i ≤ x.length → x.length - i = d → d + x.length + 5 < k → out.length = i → Dgt out → c ≤ 1 →
    dval out + dval (y.take i) = dval (x.take i) + c * 10 ^ i → regattaref02_sub.l0 k x y out (c : Int) (i : Int) = some (decs (dval x - dval y)) := by
  induction d with
  | zero =>
    intro k i c out hi hd hk ho hO hc he
    obtain ⟨k, rfl⟩ : ∃ m, k = m + 1 := ⟨k - 1, by omega⟩
    simp only [regattaref02_sub.l0]
    rw [if_neg (by omega), cut_f k out (by omega) (by omega) hO]
    simp only [Option.bind_some]
    rw [List.take_of_length_le (by omega), List.take_of_length_le (by omega)] at he
    have hb := dval_lt hO
    rw [ho] at hb
    have hc0 : c = 0 := by
      rcases Nat.eq_zero_or_pos c with h | h
      · exact h
      · have : 1 * 10 ^ i ≤ c * 10 ^ i := Nat.mul_le_mul_right _ h
        omega
    subst hc0
    congr 2; omega
  | succ d ih =>
    intro k i c out hi hd hk ho hO hc he
    obtain ⟨k, rfl⟩ : ∃ m, k = m + 1 := ⟨k - 1, by omega⟩
    obtain ⟨X, hX, hX10⟩ := dig_at hx i
    obtain ⟨Y, hY, hY10⟩ := dig_at hy i
    have tx := take_dval i X hX
    have ty := take_dval i Y hY
    have e0 : ((i : Int) + 1) = ((i + 1 : Nat) : Int) := by omega
    have key : ∀ (r c' : Nat), r < 10 → c' ≤ 1 → r + c + Y = X + 10 * c' → regattaref02_sub.l0 k x y (out ++ [(r : Int)]) (c' : Int) ((i + 1 : Nat) : Int) = some (decs (dval x - dval y)) := by
      intro r c' hr hc' hrel
      refine ih k (i + 1) c' _ (by omega) (by omega) (by omega) (by simp [ho]) (dgt_append.2 ⟨hO, dgt_cons.2 ⟨by omega, dgt_nil⟩⟩) hc' ?_
      rw [dval_snoc, ho, tx, ty, Int.toNat_natCast, Nat.pow_succ]
      have h1 := congrArg (10 ^ i * ·) hrel
      simp only [Nat.mul_add] at h1
      have h2 : 10 ^ i * (10 * c') = c' * (10 ^ i * 10) := by rw [Nat.mul_comm c', Nat.mul_assoc]
      have h3 : c * 10 ^ i = 10 ^ i * c := Nat.mul_comm _ _
      omega
    simp only [regattaref02_sub.l0]
    rw [if_pos (by omega), if_pos (by omega), rd_nat, rd_nat, hX, hY, w64 (x := (X : Int) - (c : Int)) (by omega) (by omega), w64 (x := (X : Int) - (c : Int) - (Y : Int)) (by omega) (by omega), e0, w64 (x := ((i + 1 : Nat) : Int)) (by omega) (by omega)]
    by_cases hil : i < y.length
    · rw [if_pos (by omega)]
      by_cases hneg : (X : Int) - (c : Int) - (Y : Int) < 0
      · rw [if_pos hneg, if_pos (by omega), w64 (by omega) (by omega), show (X : Int) - (c : Int) - (Y : Int) + 10 = ((X + 10 - c - Y : Nat) : Int) by omega]
        exact key (X + 10 - c - Y) 1 (by omega) (by omega) (by omega)
      · rw [if_neg hneg, if_pos (by omega), show (X : Int) - (c : Int) - (Y : Int) = ((X - c - Y : Nat) : Int) by omega]
        exact key (X - c - Y) 0 (by omega) (by omega) (by omega)
    · have y0 : Y = 0 := by simp [List.getD, List.getElem?_eq_none (Nat.le_of_not_lt hil)] at hY; omega
      subst y0
      rw [if_neg (by omega)]
      by_cases hneg : (X : Int) - (c : Int) < 0
      · rw [if_pos hneg, if_pos (by omega), w64 (by omega) (by omega), show (X : Int) - (c : Int) + 10 = ((X + 10 - c : Nat) : Int) by omega]
        exact key (X + 10 - c) 1 (by omega) (by omega) (by omega)
      · rw [if_neg hneg, if_pos (by omega), show (X : Int) - (c : Int) = ((X - c : Nat) : Int) by omega]
        exact key (X - c) 0 (by omega) (by omega) (by omega)
theorem sub_f' (k m a b : Nat) (ha : a < 10 ^ m) (hba : b ≤ a) (hm : m ≤ 100000) (hk : 2 * m + 10 < k) : regattaref02_sub.f k (decs a) (decs b) = some (decs (a - b)) := by
  have hl := decs_len a m ha
  unfold regattaref02_sub.f
  have := sub_l (decs a) (decs b) (dgt_decs a) (dgt_decs b) (by rw [dval_decs, dval_decs]; exact hba) (by omega) (decs_length_le hba) (decs a).length k 0 0 [] (by omega) (by omega) (by omega) rfl dgt_nil (by omega) (by simp [dval])
  rw [dval_decs, dval_decs] at this
  exact this

/-! ### on rows of limbs -/
theorem limbs_len10 {a m : Nat} (ha : a < 10 ^ m) : (limbs a).length ≤ m := limbs_len a m (Nat.lt_of_lt_of_le ha (Nat.pow_le_pow_left (by omega) m))
theorem from_n (k m a : Nat) (ha : a < 10 ^ m) (hm : m ≤ 20000) (hk : 5 * m + 300 < k) : regattaref02_FromLimbs.f k (limbs a) = some (decs a) := by
  have hl := limbs_len10 ha
  have h1 : nval (limbs a) * 4294967296 < 10 ^ (m + 20) := by
    rw [nval_limbs, Nat.pow_add]
    exact Nat.mul_lt_mul_of_lt_of_le ha (by decide) (by decide)
  rw [from_f k (m + 20) (limbs a) (lim_limbs a) (by omega) h1 (by omega) (by omega) (by omega), nval_limbs]
theorem radd_f (k m a b : Nat) (ha : a < 10 ^ m) (hb : b < 10 ^ m) (hm : m ≤ 20000) (hk : 5 * m + 400 < k) : regattaref02_Add.f k (limbs a) (limbs b) = some (limbs (a + b)) := by
  have hp : (10 : Nat) ^ (m + 1) = 10 ^ m * 10 := Nat.pow_succ _ _
  unfold regattaref02_Add.f
  rw [from_n k m a ha hm (by omega), from_n k m b hb hm (by omega)]
  simp only [Option.bind_some]
  rw [add_f' k m a b ha hb (by omega) (by omega)]
  simp only [Option.bind_some]
  rw [limbs_f k (m + 1) (a + b) (by omega) (by omega) (by omega)]
  rfl
theorem mul_lt10 {a b m n : Nat} (ha : a < 10 ^ m) (hb : b < 10 ^ n) : a * b < 10 ^ (m + n) := by
  rw [Nat.pow_add]
  exact Nat.mul_lt_mul'' ha hb
theorem rmul_f (k m n a b : Nat) (ha : a < 10 ^ m) (hb : b < 10 ^ n) (hm : m + n ≤ 20000) (hk : 5 * (m + n) + 400 < k) : regattaref02_Mul.f k (limbs a) (limbs b) = some (limbs (a * b)) := by
  have hab : (a + 1) * (10 * (b + 1)) < 10 ^ (m + n + 2) := by
    have h1 : (a + 1) * (10 * (b + 1)) ≤ 10 ^ m * (10 * 10 ^ n) := Nat.mul_le_mul (by omega) (by omega)
    have h2 : (10 : Nat) ^ m * (10 * 10 ^ n) = 10 ^ (m + n + 1) := by rw [Nat.pow_succ, Nat.pow_add, Nat.mul_comm 10, Nat.mul_assoc]
    have h3 : (10 : Nat) ^ (m + n + 1) < 10 ^ (m + n + 2) := Nat.pow_lt_pow_right (by omega) (by omega)
    omega
  unfold regattaref02_Mul.f
  rw [from_n k m a ha (by omega) (by omega), from_n k n b hb (by omega) (by omega)]
  simp only [Option.bind_some]
  rw [mul_f' k (m + n + 2) a b hab (by omega) (by omega)]
  simp only [Option.bind_some]
  rw [limbs_f k (m + n) (a * b) (mul_lt10 ha hb) (by omega) (by omega)]
  rfl
theorem rcmp_f (k m a b : Nat) (ha : a < 10 ^ m) (hb : b < 10 ^ m) (hm : m ≤ 20000) (hk : 5 * m + 400 < k) : regattaref02_Cmp.f k (limbs a) (limbs b) = some (cmpI a b) := by
  unfold regattaref02_Cmp.f
  rw [from_n k m a ha hm (by omega), from_n k m b hb hm (by omega)]
  simp only [Option.bind_some]
  rw [cmpd_f k m a b ha (by omega) (by omega)]
  rfl
theorem rsub_f (k m a b : Nat) (ha : a < 10 ^ m) (hb : b < 10 ^ m) (hm : m ≤ 20000) (hk : 5 * m + 400 < k) : regattaref02_Sub.f k (limbs a) (limbs b) = some (if a < b then ([], 16) else (limbs (a - b), 0)) := by
  unfold regattaref02_Sub.f
  rw [rcmp_f k m a b ha hb hm hk]
  simp only [Option.bind_some]
  by_cases h : a < b
  · rw [if_pos h, if_pos (by unfold cmpI; rw [if_pos h]; omega)]
  · rw [if_neg h, if_neg (by unfold cmpI; rw [if_neg h]; split <;> omega), from_n k m a ha hm (by omega), from_n k m b hb hm (by omega)]
    simp only [Option.bind_some]
    rw [sub_f' k m a b ha (by omega) (by omega) (by omega)]
    simp only [Option.bind_some]
    rw [limbs_f k m (a - b) (Nat.lt_of_le_of_lt (Nat.sub_le _ _) ha) (by omega) (by omega)]
    rfl
theorem rdiv_f (k m a d : Nat) (ha : a < 10 ^ m) (h0 : 0 < d) (h1 : d < 4294967296) (hm : m ≤ 20000) (hk : 5 * m + 400 < k) : regattaref02_Div.f k (limbs a) (d : Int) = some (limbs (a / d), ((a % d : Nat) : Int), 0) := by
  unfold regattaref02_Div.f
  have hmod := Nat.mod_lt a h0
  rw [if_neg (by omega), from_n k m a ha hm (by omega), w64 (by omega) (by omega)]
  simp only [Option.bind_some]
  rw [divd_f k m a d ha h0 (by omega) (by omega) (by omega)]
  simp only [Option.bind_some]
  rw [limbs_f k m (a / d) (Nat.lt_of_le_of_lt (Nat.div_le_self _ _) ha) (by omega) (by omega)]
  simp only [Option.bind_some]
  generalize a % d = r at *
  rw [show ((r : Nat) : Int) % 4294967296 = (r : Int) by omega]
end Go.Proofs.Ytcfliceeablckaa.QRef
