/-
  Plain Lean: what the printed functions of the document's numbers compute: digits, the lowest first.
-/
import Derived.Test.YtcfliceeablckaaDoorMDec
import Derived.Test.YtcfliceeablckaaDoorQNat
import Derived.Test.YtcfliceeablckaaDoorPNdx29
import Derived.Test.YtcfliceeablckaaDoorPNdx31
import Derived.Test.YtcfliceeablckaaDoorPNdx32
namespace Go.Proofs.YtcfliceeablckaaDoor.QRef
open Go.RowKit Go.Proofs.YtcfliceeablckaaDoorW.PrintWords Go.Proofs.YtcfliceeablckaaDoorW.PrintLast Go.Proofs.YtcfliceeablckaaDoorW.PrintMore
open Go.Proofs.YtcfliceeablckaaDoor.MNat Go.Proofs.YtcfliceeablckaaDoor.MDec Go.Proofs.YtcfliceeablckaaDoor.QNat Go.Proofs.YtcfliceeablckaaDoor.PNd
set_option linter.unusedVariables false
set_option linter.unusedSimpArgs false

theorem cut_l (k : Nat) : ∀ x : List Int, x.length < k → x.length ≤ 1000000 → regattaref02_cut.l0 k x = some (trim x) := by
  induction k with
  | zero => intro x h; omega
  | succ k ih =>
    intro x hk hl
    rcases snoc_cases x with rfl | ⟨ys, y, rfl⟩
    · simp only [regattaref02_cut.l0]; rw [if_neg (by simp)]; rfl
    · have e : wrap64 (((ys ++ [y]).length : Int) - 1) = (ys.length : Int) := by simp only [List.length_append, List.length_singleton] at hl ⊢; rw [w64 (by omega) (by omega)]; omega
      have r : rd (ys ++ [y]) (ys.length : Int) = y := by rw [rd_nat]; simp [List.getD]
      simp only [regattaref02_cut.l0, e, r]
      rw [if_pos (by simp only [List.length_append, List.length_singleton]; omega), if_pos (by omega), if_pos (by simp only [List.length_append, List.length_singleton]; omega)]
      by_cases hy : y = 0
      · subst hy
        rw [if_pos rfl, if_pos (by simp only [List.length_append, List.length_singleton]; omega), Int.toNat_natCast, List.take_left' rfl, trim_snoc0]
        simp at hk hl; exact ih ys (by omega) (by omega)
      · rw [if_neg hy, trim_snoc _ _ hy]
theorem cut_f (k : Nat) (x : List Int) (hk : x.length < k) (hl : x.length ≤ 1000000) (h : Dgt x) : regattaref02_cut.f k x = some (decs (dval x)) := by
  unfold regattaref02_cut.f; rw [cut_l k x hk hl, MDec.trim_eq h]

theorem tdiv_nat (a b : Nat) : Int.tdiv (a : Int) (b : Int) = ((a / b : Nat) : Int) := by rw [Int.tdiv_eq_ediv_of_nonneg (by omega), ← Int.natCast_ediv]
theorem tmod_nat (a b : Nat) : Int.tmod (a : Int) (b : Int) = ((a % b : Nat) : Int) := by rw [Int.tmod_eq_emod_of_nonneg (by omega), ← Int.natCast_emod]
theorem tdiv10 (a : Nat) : Int.tdiv (a : Int) 10 = ((a / 10 : Nat) : Int) := tdiv_nat a 10
theorem tmod10 (a : Nat) : Int.tmod (a : Int) 10 = ((a % 10 : Nat) : Int) := tmod_nat a 10

theorem small_l (m : Nat) : ∀ (k n : Nat) (acc : List Int), n < 10 ^ m → n ≤ 9223372036854775807 → m < k → acc.length + m ≤ 1000000 → regattaref02_small.l0 k (n : Int) acc = some (acc ++ decs n) := by
  induction m with
  | zero =>
    intro k n acc hn _ hk _
    obtain ⟨k, rfl⟩ : ∃ m, k = m + 1 := ⟨k - 1, by omega⟩
    obtain rfl : n = 0 := by simpa using hn
    simp only [regattaref02_small.l0]
    rw [if_neg (by omega), decs_zero, List.append_nil]
  | succ m ih =>
    intro k n acc hn h63 hk ha
    by_cases h0 : n = 0
    · subst h0; exact ih k 0 acc (Nat.pow_pos (by omega)) (by omega) (by omega) (by omega)
    · obtain ⟨k, rfl⟩ : ∃ m, k = m + 1 := ⟨k - 1, by omega⟩
      simp only [regattaref02_small.l0]
      rw [if_pos (by omega), if_pos (by omega), tdiv10, tmod10, w64 (by omega) (by omega), ih k (n / 10) _ (by rw [Nat.pow_succ] at hn; omega) (by omega) (by omega) (by simp; omega), decs_pos n h0]
      simp
theorem small_f (k n : Nat) (hn : n < 10 ^ 19) (h63 : n ≤ 9223372036854775807) (hk : 20 ≤ k) : regattaref02_small.f k (n : Int) = some (decs n) := by
  unfold regattaref02_small.f; rw [small_l 19 k n [] hn h63 (by omega) (by simp)]; simp

theorem dig_at {l : List Int} (h : Dgt l) (i : Nat) : ∃ d : Nat, l.getD i 0 = (d : Int) ∧ d < 10 := ⟨(l.getD i 0).toNat, by have := dgt_getD h i; omega, by have := dgt_getD h i; omega⟩
theorem take_dval {l : List Int} (i d : Nat) (h : l.getD i 0 = (d : Int)) : dval (l.take (i + 1)) = dval (l.take i) + 10 ^ i * d := by
  by_cases hi : i < l.length
  · rw [take_succ_rd _ _ hi, dval_snoc, h, List.length_take, Nat.min_eq_left (by omega), Int.toNat_natCast]
  · have : d = 0 := by simp [List.getD, List.getElem?_eq_none (Nat.le_of_not_lt hi)] at h; omega
    subst this
    rw [List.take_of_length_le (by omega), List.take_of_length_le (by omega)]; simp
theorem carry_step (P S c q r b : Nat) (hdm : b * q + r = S) : P * S = q * (P * b) + P * r := by
  rw [← hdm, Nat.mul_add, Nat.mul_comm q (P * b), Nat.mul_assoc]

theorem add_l (x y : List Int) (hx : Dgt x) (hy : Dgt y) (N : Nat) (hxN : x.length ≤ N) (hyN : y.length ≤ N) (hN : N ≤ 100000) (d : Nat) : ∀ (k i c : Nat) (out : List Int), i ≤ N + 1 → N + 1 - i = d → 2 * d + N + 5 < k → out.length = i → Dgt out → c ≤ 1 → (N < i → c = 0) →
    dval out + c * 10 ^ i = dval (x.take i) + dval (y.take i) → regattaref02_add.l0 k x y out (c : Int) (i : Int) = some (decs (dval x + dval y)) := by
  induction d with
  | zero =>
    intro k i c out hi hd hk ho hO hc hcz he
    obtain ⟨k, rfl⟩ : ∃ m, k = m + 1 + 1 := ⟨k - 2, by omega⟩
    obtain rfl : i = N + 1 := by omega
    obtain rfl := hcz (by omega)
    simp only [regattaref02_add.l0, regattaref02_add.j1]
    rw [if_neg (by omega), if_neg (by omega), if_neg (by simp)]
    rw [List.take_of_length_le (by omega), List.take_of_length_le (by omega)] at he
    rw [cut_f k out (by omega) (by omega) hO]
    simp only [Option.bind_some]
    congr 2; omega
  | succ d ih =>
    intro k i c out hi hd hk ho hO hc hcz he
    obtain ⟨k, rfl⟩ : ∃ m, k = m + 1 + 1 := ⟨k - 2, by omega⟩
    obtain ⟨X, hX, hX10⟩ := dig_at hx i
    obtain ⟨Y, hY, hY10⟩ := dig_at hy i
    obtain ⟨S, hS⟩ : ∃ S : Nat, c + X + Y = S := ⟨_, rfl⟩
    have tx := take_dval i X hX
    have ty := take_dval i Y hY
    have hstep : i ≤ N → regattaref02_add.l0 k x y (out ++ [((S % 10 : Nat) : Int)]) ((S / 10 : Nat) : Int) ((i + 1 : Nat) : Int) = some (decs (dval x + dval y)) := by
      intro hiN
      refine ih k (i + 1) (S / 10) _ (by omega) (by omega) (by omega) (by simp [ho]) (dgt_append.2 ⟨hO, dgt_cons.2 ⟨by omega, dgt_nil⟩⟩) (by omega) ?_ ?_
      · intro hNi
        have hxl : x.length ≤ i := by omega
        have hyl : y.length ≤ i := by omega
        have x0 : X = 0 := by simp [List.getD, List.getElem?_eq_none hxl] at hX; omega
        have y0 : Y = 0 := by simp [List.getD, List.getElem?_eq_none hyl] at hY; omega
        omega
      · rw [dval_snoc, ho, tx, ty, Int.toNat_natCast, Nat.pow_succ]
        have h1 := carry_step (10 ^ i) S c (S / 10) (S % 10) 10 (Nat.div_add_mod S 10)
        have h2 : 10 ^ i * S = 10 ^ i * c + 10 ^ i * X + 10 ^ i * Y := by rw [← hS]; simp [Nat.mul_add]
        have h3 : c * 10 ^ i = 10 ^ i * c := Nat.mul_comm _ _
        omega
    simp only [regattaref02_add.l0, regattaref02_add.j1]
    have e0 : ((i : Int) + 1) = ((i + 1 : Nat) : Int) := by omega
    by_cases hxl : i < x.length
    · rw [if_pos (by omega), if_pos trivial, if_pos (by omega), if_pos (by omega), rd_nat, hX]
      by_cases hyl : i < y.length
      · rw [if_pos (by omega), if_pos (by omega), rd_nat, hY, w64 (x := (c : Int) + (X : Int)) (by omega) (by omega), w64 (x := (c : Int) + (X : Int) + (Y : Int)) (by omega) (by omega)]
        rw [show (c : Int) + (X : Int) + (Y : Int) = (S : Int) by omega, tdiv10, tmod10, w64 (by omega) (by omega), w64 (by omega) (by omega), e0]
        exact hstep (by omega)
      · have y0 : Y = 0 := by simp [List.getD, List.getElem?_eq_none (Nat.le_of_not_lt hyl)] at hY; omega
        rw [if_neg (by omega), if_pos (by omega), w64 (x := (c : Int) + (X : Int)) (by omega) (by omega)]
        rw [show (c : Int) + (X : Int) = (S : Int) by omega, tdiv10, tmod10, w64 (by omega) (by omega), w64 (by omega) (by omega), e0]
        exact hstep (by omega)
    · have x0 : X = 0 := by simp [List.getD, List.getElem?_eq_none (Nat.le_of_not_lt hxl)] at hX; omega
      by_cases hyl : i < y.length
      · rw [if_neg (by omega), if_pos (by omega), if_pos trivial, if_neg (by omega), if_pos (by omega), if_pos (by omega), if_pos (by omega), rd_nat, hY, w64 (x := (c : Int) + (Y : Int)) (by omega) (by omega)]
        rw [show (c : Int) + (Y : Int) = (S : Int) by omega, tdiv10, tmod10, w64 (by omega) (by omega), w64 (by omega) (by omega), e0]
        exact hstep (by omega)
      · have y0 : Y = 0 := by simp [List.getD, List.getElem?_eq_none (Nat.le_of_not_lt hyl)] at hY; omega
        rw [if_neg (by omega), if_neg (by omega)]
        by_cases hcp : c = 0
        · subst hcp
          rw [if_neg (by simp), cut_f k out (by omega) (by omega) hO]
          simp only [Option.bind_some]
          rw [List.take_of_length_le (by omega), List.take_of_length_le (by omega)] at he
          congr 2; omega
        · rw [if_pos (by simp; omega), if_neg (by omega), if_neg (by omega), if_pos (by omega), show (c : Int) = (S : Int) by omega, tdiv10, tmod10, w64 (by omega) (by omega), w64 (by omega) (by omega), e0]
          exact hstep (by omega)
theorem add_f' (k m a b : Nat) (ha : a < 10 ^ m) (hb : b < 10 ^ m) (hm : m ≤ 100000) (hk : 3 * m + 10 < k) : regattaref02_add.f k (decs a) (decs b) = some (decs (a + b)) := by
  have h1 := decs_len a m ha
  have h2 := decs_len b m hb
  unfold regattaref02_add.f
  have := add_l (decs a) (decs b) (dgt_decs a) (dgt_decs b) m h1 h2 hm (m + 1) k 0 0 [] (by omega) (by omega) (by omega) rfl dgt_nil (by omega) (by omega) (by simp [dval])
  rw [dval_decs, dval_decs] at this
  exact this

theorem times_e (x : List Int) (M e : Nat) : ∀ (k i c : Nat) (out : List Int), x.length ≤ i → c < 10 ^ e → c ≤ 9223372036854775807 → 2 * e + (out.length + e) + 5 < k → out.length + e ≤ 1000000 → i + e ≤ 1000000 → Dgt out →
    regattaref02_times.l0 k x (M : Int) out (c : Int) (i : Int) = some (decs (dval out + 10 ^ out.length * c)) := by
  induction e with
  | zero =>
    intro k i c out hi hc _ hk ho hie hO
    obtain ⟨k, rfl⟩ : ∃ m, k = m + 1 + 1 := ⟨k - 2, by omega⟩
    obtain rfl : c = 0 := by simpa using hc
    simp only [regattaref02_times.l0, regattaref02_times.j1]
    rw [if_neg (by omega), if_neg (by simp), cut_f k out (by omega) (by omega) hO]
    simp
  | succ e ih =>
    intro k i c out hi hc h63 hk ho hie hO
    by_cases h0 : c = 0
    · subst h0; exact ih k i 0 out hi (Nat.pow_pos (by omega)) (by omega) (by omega) (by omega) (by omega) hO
    · obtain ⟨k, rfl⟩ : ∃ m, k = m + 1 + 1 := ⟨k - 2, by omega⟩
      simp only [regattaref02_times.l0, regattaref02_times.j1]
      rw [if_neg (by omega), if_pos (by simp; omega), if_neg (by omega), if_pos (by omega), tdiv10, tmod10, w64 (by omega) (by omega), w64 (by omega) (by omega), show ((i : Int) + 1) = ((i + 1 : Nat) : Int) by omega]
      rw [ih k (i + 1) (c / 10) _ (by omega) (by rw [Nat.pow_succ] at hc; omega) (by omega) (by simp; omega) (by simp; omega) (by omega) (dgt_append.2 ⟨hO, dgt_cons.2 ⟨by omega, dgt_nil⟩⟩)]
      congr 2
      rw [dval_snoc, Int.toNat_natCast]
      simp only [List.length_append, List.length_singleton, Nat.pow_succ]
      have h1 := carry_step (10 ^ out.length) c c (c / 10) (c % 10) 10 (Nat.div_add_mod c 10)
      have h2 : c / 10 * (10 ^ out.length * 10) = 10 ^ out.length * 10 * (c / 10) := Nat.mul_comm _ _
      omega
theorem times_l (x : List Int) (hx : Dgt x) (M : Nat) (hM : M ≤ 4294967296) (hxl : x.length ≤ 100000) (d : Nat) : ∀ (k i c : Nat) (out : List Int), i ≤ x.length → x.length - i = d → 2 * d + x.length + 60 < k → out.length = i → Dgt out → c ≤ M →
    dval out + c * 10 ^ i = dval (x.take i) * M → regattaref02_times.l0 k x (M : Int) out (c : Int) (i : Int) = some (decs (dval x * M)) := by
  induction d with
  | zero =>
    intro k i c out hi hd hk ho hO hc he
    rw [times_e x M 10 k i c out (by omega) (by omega) (by omega) (by omega) (by omega) (by omega) hO, ho]
    rw [List.take_of_length_le (by omega)] at he
    rw [← he, Nat.mul_comm c]
  | succ d ih =>
    intro k i c out hi hd hk ho hO hc he
    obtain ⟨k, rfl⟩ : ∃ m, k = m + 1 + 1 := ⟨k - 2, by omega⟩
    obtain ⟨X, hX, hX10⟩ := dig_at hx i
    have tx := take_dval i X hX
    simp only [regattaref02_times.l0, regattaref02_times.j1]
    have hXM : X * M ≤ 9 * M := Nat.mul_le_mul_right _ (by omega)
    have ex : (X : Int) * (M : Int) = ((X * M : Nat) : Int) := by simp
    obtain ⟨S, hS⟩ : ∃ S : Nat, c + X * M = S := ⟨_, rfl⟩
    rw [if_pos (by omega), if_pos trivial, if_pos (by omega), if_pos (by omega), if_pos (by omega), rd_nat, hX, ex, w64 (x := ((X * M : Nat) : Int)) (by omega) (by omega), w64 (x := (c : Int) + ((X * M : Nat) : Int)) (by omega) (by omega), show (c : Int) + ((X * M : Nat) : Int) = (S : Int) by omega, tdiv10, tmod10, w64 (by omega) (by omega), w64 (by omega) (by omega), show ((i : Int) + 1) = ((i + 1 : Nat) : Int) by omega]
    refine ih k (i + 1) (S / 10) _ (by omega) (by omega) (by omega) (by simp [ho]) (dgt_append.2 ⟨hO, dgt_cons.2 ⟨by omega, dgt_nil⟩⟩) (by omega) ?_
    rw [dval_snoc, ho, tx, Int.toNat_natCast, Nat.pow_succ, Nat.add_mul, ← he]
    have h1 := carry_step (10 ^ i) S c (S / 10) (S % 10) 10 (Nat.div_add_mod S 10)
    have h2 : 10 ^ i * S = 10 ^ i * c + 10 ^ i * (X * M) := by rw [← hS]; simp [Nat.mul_add]
    have h3 : c * 10 ^ i = 10 ^ i * c := Nat.mul_comm _ _
    have h4 : 10 ^ i * X * M = 10 ^ i * (X * M) := Nat.mul_assoc _ _ _
    omega
theorem times_f (k m a M : Nat) (ha : a < 10 ^ m) (hM : M ≤ 4294967296) (hm : m ≤ 100000) (hk : 3 * m + 70 < k) : regattaref02_times.f k (decs a) (M : Int) = some (decs (a * M)) := by
  have h1 := decs_len a m ha
  unfold regattaref02_times.f
  have := times_l (decs a) (dgt_decs a) M hM (by omega) (decs a).length k 0 0 [] (by omega) (by omega) (by omega) rfl dgt_nil (by omega) (by simp [dval])
  rw [dval_decs] at this
  exact this

/-- From limbs: Horner. -/
theorem from_l (l : List Int) (hl : Lim l) (m : Nat) (hm : m ≤ 50000) (hnl : nval l * 4294967296 < 10 ^ m) (hll : l.length ≤ 1000000) (hm20 : 20 ≤ m) (d : Nat) : ∀ k, d ≤ l.length → d + 4 * m + 100 < k → regattaref02_FromLimbs.l0 k l (decs (nval (l.drop d))) ((d : Int) - 1) = some (decs (nval l)) := by
  induction d with
  | zero =>
    intro k hd hk
    obtain ⟨k, rfl⟩ : ∃ m, k = m + 1 := ⟨k - 1, by omega⟩
    simp only [regattaref02_FromLimbs.l0]
    rw [if_neg (by omega)]; rfl
  | succ d ih =>
    intro k hd hk
    obtain ⟨k, rfl⟩ : ∃ m, k = m + 1 := ⟨k - 1, by omega⟩
    simp only [regattaref02_FromLimbs.l0]
    have e1 : ((d + 1 : Nat) : Int) - 1 = (d : Int) := by omega
    have hx := lim_getD hl d
    obtain ⟨X, hX⟩ : ∃ X : Nat, l.getD d 0 = (X : Int) := ⟨(l.getD d 0).toNat, by omega⟩
    rw [hX] at hx
    have hX32 : X < 4294967296 := by omega
    have hX19 : X < 10 ^ 19 := Nat.lt_of_lt_of_le hX32 (by decide)
    have hdr := drop_cons l d (by omega)
    have hv : nval (l.drop d) = X + 4294967296 * nval (l.drop (d + 1)) := by rw [hdr, hX]; simp [nval]
    have hle : nval (l.drop d) ≤ nval l := by
      have := nval_append (l.take d) (l.drop d)
      rw [List.take_append_drop] at this
      have h1 : 1 * nval (l.drop d) ≤ 4294967296 ^ (l.take d).length * nval (l.drop d) := Nat.mul_le_mul_right _ (Nat.pow_pos (by omega))
      omega
    have hle2 : nval (l.drop (d + 1)) ≤ nval l := by omega
    have hA : nval (List.drop (d + 1) l) * 4294967296 < 10 ^ m := Nat.lt_of_le_of_lt (Nat.mul_le_mul_right _ hle2) hnl
    have hB : nval (List.drop (d + 1) l) < 10 ^ m := Nat.lt_of_le_of_lt (Nat.le_mul_of_pos_right _ (by decide)) hA
    rw [e1, if_pos (by omega)]
    have ht : regattaref02_times.f k (decs (nval (List.drop (d + 1) l))) 4294967296 = some (decs (nval (List.drop (d + 1) l) * 4294967296)) := times_f k m _ 4294967296 hB (by omega) (by omega) (by omega)
    rw [ht]
    simp only [Option.bind_some]
    rw [if_pos (by omega), if_pos (by omega), rd_nat, hX, w64 (by omega) (by omega), small_f k X hX19 (by omega) (by omega)]
    simp only [Option.bind_some]
    have hXm : X < 10 ^ m := Nat.lt_of_lt_of_le hX19 (Nat.pow_le_pow_right (by omega) (by omega))
    rw [add_f' k m (nval (List.drop (d + 1) l) * 4294967296) X hA hXm (by omega) (by omega)]
    simp only [Option.bind_some]
    rw [w64 (by omega) (by omega), Nat.mul_comm, Nat.add_comm, ← hv]
    exact ih k (by omega) (by omega)
theorem from_f (k m : Nat) (l : List Int) (hl : Lim l) (hm : m ≤ 50000) (hnl : nval l * 4294967296 < 10 ^ m) (hll : l.length ≤ m) (hm20 : 20 ≤ m) (hk : 5 * m + 100 < k) : regattaref02_FromLimbs.f k l = some (decs (nval l)) := by
  unfold regattaref02_FromLimbs.f
  rw [w64 (by omega) (by omega)]
  have := from_l l hl m hm hnl (by omega) hm20 l.length k (by omega) (by omega)
  rw [List.drop_of_length_le (by omega)] at this
  simpa [nval, decs_zero] using this

theorem divd_l (l : List Int) (dv : Nat) (hl : Dgt l) (h0 : 0 < dv) (h1 : dv ≤ 4294967296) (hn : l.length ≤ 100000) (d : Nat) : ∀ (k : Nat) (q : List Int) (rest : Nat), d ≤ l.length → d + l.length + 5 < k → q.length = l.length → Dgt (q.drop d) → rest < dv →
    dval (l.drop d) = dval (q.drop d) * dv + rest → regattaref02_div.l0 k l (dv : Int) q (rest : Int) ((d : Int) - 1) = some (decs (dval l / dv), ((dval l % dv : Nat) : Int)) := by
  induction d with
  | zero =>
    intro k q rest hd hk hq hL hr he
    obtain ⟨k, rfl⟩ : ∃ m, k = m + 1 := ⟨k - 1, by omega⟩
    simp only [regattaref02_div.l0]
    rw [if_neg (by omega)]
    simp only [List.drop_zero] at hL he
    rw [cut_f k q (by omega) (by omega) hL]
    simp only [Option.bind_some]
    have a1 : dval l / dv = dval q := by rw [he, Nat.mul_comm, Nat.mul_add_div h0, Nat.div_eq_of_lt hr]; omega
    have a2 : dval l % dv = rest := by rw [he, Nat.mul_comm, Nat.mul_add_mod, Nat.mod_eq_of_lt hr]
    rw [a1, a2]
  | succ d ih =>
    intro k q rest hd hk hq hL hr he
    obtain ⟨k, rfl⟩ : ∃ m, k = m + 1 := ⟨k - 1, by omega⟩
    obtain ⟨X, hX, hX10⟩ := dig_at hl d
    have e1 : ((d + 1 : Nat) : Int) - 1 = (d : Int) := by omega
    simp only [regattaref02_div.l0]
    rw [e1, if_pos (by omega), if_pos (by omega), if_pos (by omega), if_neg (by omega), if_pos (by omega), rd_nat, hX]
    obtain ⟨S, hS⟩ : ∃ S : Nat, rest * 10 + X = S := ⟨_, rfl⟩
    rw [w64 (x := (rest : Int) * 10) (by omega) (by omega), w64 (x := (rest : Int) * 10 + (X : Int)) (by omega) (by omega), show (rest : Int) * 10 + (X : Int) = (S : Int) by omega, tdiv_nat, tmod_nat]
    have hSlt : S < dv * 10 := by omega
    have hqd : S / dv < 10 := Nat.div_lt_of_lt_mul hSlt
    rw [w64 (x := ((S / dv : Nat) : Int)) (by generalize S / dv = Q at *; omega) (by generalize S / dv = Q at *; omega), w64 (by omega) (by omega), Int.toNat_natCast]
    have hset : (q.set d ((S / dv : Nat) : Int)).drop d = ((S / dv : Nat) : Int) :: q.drop (d + 1) := by
      rw [List.drop_set, if_neg (by omega), Nat.sub_self, drop_cons q d (by omega)]; rfl
    refine ih k (q.set d ((S / dv : Nat) : Int)) (S % dv) (by omega) (by omega) (by simpa using hq) ?_ (Nat.mod_lt _ h0) ?_
    · rw [hset]; exact dgt_cons.2 ⟨by generalize S / dv = Q at *; omega, hL⟩
    · rw [hset, drop_cons l d (by omega), hX]
      simp only [dval, Int.toNat_natCast]
      rw [he, Nat.add_mul, Nat.mul_add, Nat.mul_assoc]
      have hdm := Nat.div_add_mod S dv
      rw [Nat.mul_comm] at hdm
      omega
theorem divd_f (k m a dv : Nat) (ha : a < 10 ^ m) (h0 : 0 < dv) (h1 : dv ≤ 4294967296) (hm : m ≤ 100000) (hk : 2 * m + 10 < k) : regattaref02_div.f k (decs a) (dv : Int) = some (decs (a / dv), ((a % dv : Nat) : Int)) := by
  have hl := decs_len a m ha
  unfold regattaref02_div.f
  rw [if_pos (by omega), if_pos (by omega), w64 (by omega) (by omega), Int.toNat_natCast]
  have := divd_l (decs a) dv (dgt_decs a) h0 h1 (by omega) (decs a).length k (List.replicate (decs a).length 0) 0 (by omega) (by omega) (by simp) (by rw [List.drop_of_length_le (by simp)]; exact dgt_nil) (by omega) (by rw [List.drop_of_length_le (by simp), List.drop_of_length_le (by simp)]; simp [dval])
  rw [dval_decs] at this
  exact this

theorem limbs_l (j : Nat) : ∀ (k m n : Nat) (acc : List Int), n < 4294967296 ^ j → n < 10 ^ m → m ≤ 100000 → j + 2 * m + 12 < k → acc.length + j ≤ 1000000 → regattaref02_Limbs.l0 k (decs n) acc = some (acc ++ limbs n) := by
  induction j with
  | zero =>
    intro k m n acc hn _ _ hk _
    obtain ⟨k, rfl⟩ : ∃ m, k = m + 1 := ⟨k - 1, by omega⟩
    obtain rfl : n = 0 := by simpa using hn
    simp only [regattaref02_Limbs.l0, decs_zero, limbs_zero]
    rw [if_neg (by simp)]; simp
  | succ j ih =>
    intro k m n acc hn hnm hm hk ha
    by_cases h0 : n = 0
    · subst h0; exact ih k m 0 acc (Nat.pow_pos (by omega)) hnm hm (by omega) (by omega)
    · obtain ⟨k, rfl⟩ : ∃ m, k = m + 1 := ⟨k - 1, by omega⟩
      simp only [regattaref02_Limbs.l0]
      have hp : 0 < (decs n).length := List.length_pos_iff.2 (decs_ne n h0)
      have hd : regattaref02_div.f k (decs n) 4294967296 = _ := divd_f k m n 4294967296 hnm (by omega) (by omega) hm (by omega)
      rw [if_pos (by omega), hd]
      simp only [Option.bind_some]
      rw [if_pos (by omega), ih k m (n / 4294967296) _ (by rw [Nat.pow_succ] at hn; omega) (by omega) hm (by omega) (by simp; omega), limbs_pos n h0]
      have e : (((n % 4294967296 : Nat) : Int)) % 4294967296 = ((n % 4294967296 : Nat) : Int) := by omega
      rw [e]; simp
theorem limbs_f (k m n : Nat) (hnm : n < 10 ^ m) (hm : m ≤ 100000) (hk : 3 * m + 15 < k) : regattaref02_Limbs.f k (decs n) = some (limbs n) := by
  unfold regattaref02_Limbs.f
  have h : n < 4294967296 ^ m := Nat.lt_of_lt_of_le hnm (Nat.pow_le_pow_left (by omega) m)
  rw [limbs_l m k m n [] h hnm hm (by omega) (by simp; omega)]; simp

theorem of_l (j : Nat) : ∀ (k n : Nat) (acc : List Int), n < 4294967296 ^ j → n < 18446744073709551616 → j < k → acc.length + j ≤ 1000000 → regattaref02_Of.l0 k (n : Int) acc = some (acc ++ limbs n) := by
  induction j with
  | zero =>
    intro k n acc hn _ hk _
    obtain ⟨k, rfl⟩ : ∃ m, k = m + 1 := ⟨k - 1, by omega⟩
    obtain rfl : n = 0 := by simpa using hn
    simp only [regattaref02_Of.l0, limbs_zero]
    rw [if_neg (by omega)]; simp
  | succ j ih =>
    intro k n acc hn h64 hk ha
    by_cases h0 : n = 0
    · subst h0; exact ih k 0 acc (Nat.pow_pos (by omega)) (by omega) (by omega) (by omega)
    · obtain ⟨k, rfl⟩ : ∃ m, k = m + 1 := ⟨k - 1, by omega⟩
      simp only [regattaref02_Of.l0]
      have e1 : Int.tdiv (n : Int) 4294967296 = ((n / 4294967296 : Nat) : Int) := tdiv_nat n 4294967296
      have e2 : Int.tmod (n : Int) 4294967296 = ((n % 4294967296 : Nat) : Int) := tmod_nat n 4294967296
      have e3 : IntKind.u64.wrap ((n / 4294967296 : Nat) : Int) = ((n / 4294967296 : Nat) : Int) := by rw [IntKind.wrap_u64]; omega
      have e4 : (((n % 4294967296 : Nat) : Int)) % 4294967296 = ((n % 4294967296 : Nat) : Int) := by omega
      rw [if_pos (by omega), if_pos (by omega), e1, e2, e3, e4, ih k (n / 4294967296) _ (by rw [Nat.pow_succ] at hn; omega) (by omega) (by omega) (by simp; omega), limbs_pos n h0]
      simp
theorem rof_f (k n : Nat) (h : n < 18446744073709551616) (hk : 5 ≤ k) : regattaref02_Of.f k (n : Int) = some (limbs n) := by
  unfold regattaref02_Of.f
  rw [of_l 2 k n [] (by omega) h (by omega) (by simp)]; simp
end Go.Proofs.YtcfliceeablckaaDoor.QRef
