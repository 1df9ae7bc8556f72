/-
  Plain Lean: division by a limb, digits, and the chapters' examples.
-/
import Derived.Test.YtcfliceeablckaaDoorQNat
import Derived.Laws.BitsAllLaws
import Derived.Test.YtcfliceeablckaaDoorPNdx1
import Derived.Test.YtcfliceeablckaaDoorPNdx4
namespace Go.Proofs.YtcfliceeablckaaDoor.QText
open Go.RowKit Go.Proofs.YtcfliceeablckaaDoorW.PrintWords Go.Proofs.YtcfliceeablckaaDoorW.PrintLast Go.Proofs.YtcfliceeablckaaDoorW.PrintMore
open Go.Proofs.YtcfliceeablckaaDoor.MNat Go.Proofs.YtcfliceeablckaaDoor.PNd Go.Proofs.YtcfliceeablckaaDoor.QNat
set_option linter.unusedVariables false
set_option linter.unusedSimpArgs false

theorem wu64 {x : Int} (h0 : 0 ≤ x) (h1 : x < 18446744073709551616) : IntKind.u64.wrap x = x := by rw [IntKind.wrap_u64]; omega
theorem or_shift (r x : Nat) (hr : r < 4294967296) (hx : x < 4294967296) : Go.bits .or .u64 ((r : Int) * 4294967296) (x : Int) = ((r * 4294967296 + x : Nat) : Int) := by
  have e : (r : Int) * 4294967296 = ((r * 4294967296 : Nat) : Int) := by omega
  rw [e, u64_or_nat _ _ (by omega) (by omega)]
  have h := Nat.shiftLeft_add_eq_or_of_lt (b := x) (i := 32) (by omega) r
  rw [Nat.shiftLeft_eq] at h
  rw [← h]

theorem div_l (l : List Int) (dv : Nat) (hl : Lim l) (h0 : 0 < dv) (h1 : dv < 4294967296) (hn : l.length ≤ 1000000) (d : Nat) : ∀ (k i : Nat) (q : List Int) (rest : Nat), i ≤ l.length → l.length - i = d → d < k → q.length = l.length → Lim (q.drop d) → rest < dv →
    nval (l.drop d) = nval (q.drop d) * dv + rest → nat_Div.l0 k l (dv : Int) q (rest : Int) (l.length : Int) (i : Int) = some (limbs (nval l / dv), ((nval l % dv : Nat) : Int), 0) := by
  induction d with
  | zero =>
    intro k i q rest hi hd hk hq hL hr he
    obtain ⟨k, rfl⟩ : ∃ m, k = m + 1 := ⟨k - 1, by omega⟩
    simp only [nat_Div.l0]
    rw [if_neg (by omega)]
    simp only [List.drop_zero] at hL he
    simp only [nat_cut.f, Option.bind_some]
    have a1 : nval l / dv = nval q := by rw [he, Nat.mul_comm, Nat.mul_add_div h0, Nat.div_eq_of_lt hr]; omega
    have a2 : nval l % dv = rest := by rw [he, Nat.mul_comm, Nat.mul_add_mod, Nat.mod_eq_of_lt hr]
    rw [trim_eq hL, a1, a2]
    congr 3
    omega
  | succ d ih =>
    intro k i q rest hi hd hk hq hL hr he
    obtain ⟨k, rfl⟩ : ∃ m, k = m + 1 := ⟨k - 1, by omega⟩
    have e : wrap64 (wrap64 ((l.length : Int) - 1) - (i : Int)) = (d : Int) := by rw [w64 (by rw [w64 (by omega) (by omega)]; omega) (by rw [w64 (by omega) (by omega)]; omega), w64 (by omega) (by omega)]; omega
    have hx := lim_getD hl d
    obtain ⟨X, hX⟩ : ∃ X : Nat, l.getD d 0 = (X : Int) := ⟨(l.getD d 0).toNat, by omega⟩
    rw [hX] at hx
    have eor : Go.bits .or .u64 (IntKind.u64.wrap ((rest : Int) * 4294967296)) (IntKind.u64.wrap (rd l (d : Int))) = ((rest * 4294967296 + X : Nat) : Int) := by
      rw [rd_nat, hX, wu64 (by omega) (by omega), wu64 (by omega) (by omega), or_shift rest X (by omega) (by omega)]
    have edv : IntKind.u64.wrap (dv : Int) = (dv : Int) := wu64 (by omega) (by omega)
    simp only [nat_Div.l0, e, eor, edv]
    rw [if_pos (by omega), if_pos (by omega), if_pos (by omega), if_neg (by omega), if_pos (by omega)]
    obtain ⟨S, hS⟩ : ∃ S : Nat, rest * 4294967296 + X = S := ⟨_, rfl⟩
    rw [hS]
    have hSlt : S < dv * 4294967296 := by
      have : (rest + 1) * 4294967296 ≤ dv * 4294967296 := Nat.mul_le_mul_right _ hr
      omega
    have hqd : S / dv < 4294967296 := Nat.div_lt_of_lt_mul hSlt
    have q1 : IntKind.u64.wrap (Int.tdiv (S : Int) (dv : Int)) % 4294967296 = ((S / dv : Nat) : Int) := by
      rw [Int.tdiv_eq_ediv_of_nonneg (by omega), ← Int.natCast_ediv]
      generalize S / dv = Q at *
      rw [wu64 (by omega) (by omega)]; omega
    have q2 : Int.tmod (S : Int) (dv : Int) = ((S % dv : Nat) : Int) := by
      rw [Int.tmod_eq_emod_of_nonneg (by omega), ← Int.natCast_emod]
    rw [q1, q2, w64 (by omega) (by omega), Int.toNat_natCast]
    have hset : (q.set d ((S / dv : Nat) : Int)).drop d = ((S / dv : Nat) : Int) :: q.drop (d + 1) := by
      rw [List.drop_set, if_neg (by omega), Nat.sub_self, drop_cons q d (by omega)]; rfl
    refine ih k (i + 1) (q.set d ((S / dv : Nat) : Int)) (S % dv) (by omega) (by omega) (by omega) (by simpa using hq) ?_ (Nat.mod_lt _ h0) ?_
    · rw [hset]; exact lim_cons.2 ⟨by omega, hL⟩
    · rw [hset, drop_cons l d (by omega), hX]
      simp only [nval, Int.toNat_natCast]
      rw [he, Nat.add_mul, Nat.mul_add, Nat.mul_assoc]
      have hdm := Nat.div_add_mod S dv
      rw [Nat.mul_comm] at hdm
      have : 4294967296 * (nval (List.drop (d + 1) q) * dv) = 4294967296 * nval (List.drop (d + 1) q) * dv := by rw [Nat.mul_assoc]
      omega
theorem div_f (k : Nat) (l : List Int) (dv : Nat) (hl : isN l) (h0 : 0 < dv) (h1 : dv < 4294967296) (hk : l.length < k) : nat_Div.f k l (dv : Int) = some (limbs (nval l / dv), ((nval l % dv : Nat) : Int), 0) := by
  have hn := hl.2
  unfold nat_Div.f
  rw [if_neg (by omega), if_pos (by omega), if_pos (by omega), Int.toNat_natCast]
  refine div_l l dv hl.lim h0 h1 hn l.length k 0 _ 0 (by omega) (by omega) hk (by simp) ?_ (by omega) ?_
  · rw [List.drop_of_length_le (by simp)]; exact lim_nil
  · rw [List.drop_of_length_le (by simp), List.drop_of_length_le (by simp)]; simp [nval]

theorem rev_l (l : List Int) (hn : l.length ≤ 1000000000) (d : Nat) : ∀ (k i : Nat) (x : List Int), i ≤ l.length → l.length - 2 * i ≤ d → d < k → x.length = l.length → 2 * i ≤ l.length + 1 →
    (∀ j, j < l.length → x.getD j 0 = if j < i ∨ l.length ≤ j + i then l.getD (l.length - 1 - j) 0 else l.getD j 0) →
    slices_Reverse_byte_byte.l0 k x (i : Int) ((l.length : Int) - 1 - (i : Int)) = some l.reverse := by
  induction d with
  | zero =>
    intro k i x hi hd hk hx h2 hj
    obtain ⟨k, rfl⟩ : ∃ m, k = m + 1 := ⟨k - 1, by omega⟩
    simp only [slices_Reverse_byte_byte.l0]
    rw [if_neg (by omega)]
    congr 1
    apply List.ext_getElem (by simp [hx])
    intro j h3 h4
    have := hj j (by omega)
    rw [if_pos (by omega)] at this
    simp [List.getD, List.getElem?_eq_getElem h3] at this
    rw [this, List.getElem_reverse, List.getElem?_eq_getElem (by omega)]; rfl
  | succ d ih =>
    intro k i x hi hd hk hx h2 hj
    obtain ⟨k, rfl⟩ : ∃ m, k = m + 1 := ⟨k - 1, by omega⟩
    by_cases h : (i : Int) < (l.length : Int) - 1 - (i : Int)
    · simp only [slices_Reverse_byte_byte.l0]
      rw [if_pos h, if_pos (by omega), if_pos (by omega), if_pos (by omega), if_pos (by omega)]
      have e1 : (l.length : Int) - 1 - (i : Int) = ((l.length - 1 - i : Nat) : Int) := by omega
      rw [e1, w64 (by omega) (by omega), w64 (by omega) (by omega), rd_nat, rd_nat, Int.toNat_natCast, Int.toNat_natCast]
      have e2 : ((l.length - 1 - i : Nat) : Int) - 1 = (l.length : Int) - 1 - ((i + 1 : Nat) : Int) := by omega
      rw [e2]
      refine ih k (i + 1) _ (by omega) (by omega) (by omega) (by simp [hx]) (by omega) ?_
      intro j hjl
      have hi1 := hj i (by omega)
      have hi2 := hj (l.length - 1 - i) (by omega)
      rw [if_neg (by omega)] at hi1 hi2
      by_cases c1 : j = l.length - 1 - i
      · subst c1
        rw [if_pos (by omega)]
        have : ((x.set i (x.getD (l.length - 1 - i) 0)).set (l.length - 1 - i) (x.getD i 0)).getD (l.length - 1 - i) 0 = x.getD i 0 := by
          simp [List.getD, hx, show l.length - 1 - i < l.length by omega]
        rw [this, hi1]; congr 1; omega
      · have n1 : ((x.set i (x.getD (l.length - 1 - i) 0)).set (l.length - 1 - i) (x.getD i 0)).getD j 0 = (x.set i (x.getD (l.length - 1 - i) 0)).getD j 0 := by
          simp only [List.getD, List.getElem?_set]; rw [if_neg (by omega)]
        rw [n1]
        by_cases c2 : j = i
        · subst c2
          rw [if_pos (by omega)]
          have : (x.set j (x.getD (l.length - 1 - j) 0)).getD j 0 = x.getD (l.length - 1 - j) 0 := by simp [List.getD, hx, show j < l.length by omega]
          rw [this, hi2]
        · have n2 : (x.set i (x.getD (l.length - 1 - i) 0)).getD j 0 = x.getD j 0 := by
            simp only [List.getD, List.getElem?_set]; rw [if_neg (by omega)]
          rw [n2, hj j hjl]
          by_cases c3 : j < i ∨ l.length ≤ j + i
          · rw [if_pos c3, if_pos (by omega)]
          · rw [if_neg c3, if_neg (by omega)]
    · simp only [slices_Reverse_byte_byte.l0]
      rw [if_neg h]
      congr 1
      apply List.ext_getElem (by simp [hx])
      intro j h3 h4
      have := hj j (by omega)
      simp only [List.getD, List.getElem?_eq_getElem h3, Option.getD_some] at this
      rw [this, List.getElem_reverse]
      by_cases c : j < i ∨ l.length ≤ j + i
      · rw [if_pos c, List.getElem?_eq_getElem (by omega)]; rfl
      · rw [if_neg c, List.getElem?_eq_getElem (by omega)]
        have : l.length - 1 - j = j := by omega
        simp [this]
theorem rev_f (k : Nat) (l : List Int) (hn : l.length ≤ 1000000000) (hk : l.length < k) : slices_Reverse_byte_byte.f k l = some l.reverse := by
  unfold slices_Reverse_byte_byte.f
  rw [w64 (by omega) (by omega)]
  have := rev_l l hn l.length k 0 l (by omega) (by omega) hk rfl (by omega) (fun j hj => by rw [if_neg (by omega)])
  simpa using this

/-- The digits, the lowest first; 'f': more than there are. -/
def digL : Nat → Nat → List Int
  | 0, _ => []
  | f + 1, n => if n = 0 then [] else ((48 + n % 10 : Nat) : Int) :: digL f (n / 10)
theorem digL_more (f : Nat) : ∀ (g n : Nat), n ≤ f → n ≤ g → digL f n = digL g n := by
  induction f with
  | zero =>
    intro g n h1 _
    obtain rfl : n = 0 := (by omega)
    cases g <;> simp [digL]
  | succ f ih =>
    intro g n h1 h2
    by_cases hn : n = 0
    · subst hn; cases g <;> simp [digL]
    · obtain ⟨g, rfl⟩ : ∃ m, g = m + 1 := ⟨g - 1, by omega⟩
      simp only [digL, if_neg hn]
      rw [ih g (n / 10) (by omega) (by omega)]
/-- A number's digits. -/
def dig (n : Nat) : List Int := digL n n
theorem dig_zero : dig 0 = [] := rfl
theorem dig_pos (n : Nat) (h : n ≠ 0) : dig n = ((48 + n % 10 : Nat) : Int) :: dig (n / 10) := by
  obtain ⟨m, rfl⟩ : ∃ m, n = m + 1 := ⟨n - 1, by omega⟩
  unfold dig
  simp only [digL]
  rw [if_neg (by omega), digL_more m ((m + 1) / 10) ((m + 1) / 10) (by omega) (by omega)]
/-- A number's text, as bytes. -/
def txt (n : Nat) : List Int := if n = 0 then [48] else (dig n).reverse
theorem dig_length (n k : Nat) (h : n < 10 ^ k) : (dig n).length ≤ k := by
  induction k generalizing n with
  | zero => simp at h; subst h; simp [dig_zero]
  | succ k ih =>
    by_cases hn : n = 0
    · subst hn; simp [dig_zero]
    · rw [dig_pos n hn, List.length_cons]
      have := ih (n / 10) (by rw [Nat.pow_succ] at h; omega)
      omega

theorem text_l (m : Nat) : ∀ (k n : Nat) (acc : List Int), n < 10 ^ m → isN (limbs n) → m + (limbs n).length + acc.length + m + 3 < k → acc.length + m ≤ 1000000000 →
    nat_Text.l0 k (limbs n) acc = if acc = [] ∧ n = 0 then some ⟨#[48]⟩ else some (strOfNums (acc ++ dig n).reverse) := by
  induction m with
  | zero =>
    intro k n acc hn hN hk ha
    obtain ⟨k, rfl⟩ : ∃ m, k = m + 1 := ⟨k - 1, by omega⟩
    obtain rfl : n = 0 := by simpa using hn
    simp only [nat_Text.l0, limbs_zero]
    rw [if_neg (by simp)]
    by_cases h : acc = []
    · subst h; simp
    · rw [if_neg (by simp [h]), if_neg (by simp [h]), rev_f k acc (by omega) (by simp [limbs_zero] at hk; omega)]
      simp [dig_zero]
  | succ m ih =>
    intro k n acc hn hN hk ha
    by_cases h0 : n = 0
    · subst h0
      exact ih k 0 acc (Nat.pow_pos (by omega)) hN (by omega) (by omega)
    · obtain ⟨k, rfl⟩ : ∃ m, k = m + 1 := ⟨k - 1, by omega⟩
      have hlen : 0 < (limbs n).length := List.length_pos_iff.2 (limbs_ne n h0)
      simp only [nat_Text.l0]
      have hd : nat_Div.f k (limbs n) 10 = _ := div_f k (limbs n) 10 hN (by omega) (by omega) (by omega)
      rw [if_pos (by omega), hd]
      simp only [Option.bind_some, nval_limbs]
      rw [if_pos (by omega)]
      have hN' : isN (limbs (n / 10)) := ⟨by rw [nval_limbs], Nat.le_trans (limbs_length_le (Nat.div_le_self _ _)) hN.2⟩
      have hll := limbs_length_le (Nat.div_le_self n 10)
      rw [ih k (n / 10) _ (by rw [Nat.pow_succ] at hn; omega) hN' (by simp; omega) (by simp; omega)]
      rw [if_neg (by simp), if_neg (by simp [h0])]
      have e : (48 + ((n % 10 : Nat) : Int)) % 256 = ((48 + n % 10 : Nat) : Int) := by omega
      rw [e, dig_pos n h0]
      simp
theorem text_f (m k n : Nat) (hn : n < 10 ^ m) (hN : isN (limbs n)) (hm : m ≤ 100000000) (hk : 2 * m + (limbs n).length + 3 < k) : nat_Text.f k (limbs n) = some (strOfNums (txt n)) := by
  unfold nat_Text.f txt
  rw [text_l m k n [] hn hN (by simp; omega) (by simp; omega)]
  by_cases h : n = 0
  · subst h; simp; rfl
  · rw [if_neg (by simp [h]), if_neg h]; simp

theorem limbs_b2 : limbs 18446744073709551616 = [0, 0, 1] := by
  rw [limbs_pos _ (by omega), limbs_pos _ (by omega), limbs_pos _ (by omega)]
  simp [limbs_zero]
theorem limbs_b : limbs 4294967296 = [0, 1] := by
  rw [limbs_pos _ (by omega), limbs_pos _ (by omega)]
  simp [limbs_zero]
theorem limbs_one : limbs 1 = [1] := by
  rw [limbs_pos _ (by omega)]
  simp [limbs_zero]
end Go.Proofs.YtcfliceeablckaaDoor.QText
