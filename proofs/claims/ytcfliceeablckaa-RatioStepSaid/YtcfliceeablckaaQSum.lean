/- Plain Lean: sums of weights, texts of ratios; the chapter's example. -/
import Derived.Test.YtcfliceeablckaaQRatio
import Derived.Test.YtcfliceeablckaaQBits
import Derived.Test.YtcfliceeablckaaPNrx1
import Derived.Test.YtcfliceeablckaaPNrx12
import Derived.Test.YtcfliceeablckaaPNrx14
import Derived.Test.YtcfliceeablckaaPNrx15
import Derived.Test.YtcfliceeablckaaPNrx19
namespace Go.Proofs.Ytcfliceeablckaa.QRatio
open Go.RowKit Go.Proofs.YtcfliceeablckaaW.PrintWords Go.Proofs.YtcfliceeablckaaW.PrintLast Go.Proofs.YtcfliceeablckaaW.PrintMore
open Go.Proofs.Ytcfliceeablckaa.MNat Go.Proofs.Ytcfliceeablckaa.QNat Go.Proofs.Ytcfliceeablckaa.QText Go.Proofs.Ytcfliceeablckaa.QEv Go.Proofs.Ytcfliceeablckaa.PNr
set_option linter.unusedVariables false
set_option linter.unusedSimpArgs false

theorem rdW (l : List S57) (i : Nat) (h : i < l.length) : rd_T57 l (i : Int) = l[i] := by simp [rd_T57, List.getD, List.getElem?_eq_getElem h]
def okW (x : S57) : Prop := 0 ≤ x.f0 ∧ x.f0 < 4294967296 ∧ 1 ≤ x.f1 ∧ x.f1 < 4294967296
def wt (x : S57) : Rat := mkRat (x.f0.toNat : Int) x.f1.toNat
def sumR : List S57 → Rat
  | [] => 0
  | x :: xs => wt x + sumR xs
theorem of_w (x : S57) (h : okW x) : ratio_Of.f x.f0 x.f1 = some (limbs x.f0.toNat, limbs x.f1.toNat) := by
  obtain ⟨h0, h1, h2, h3⟩ := h
  unfold ratio_Of.f
  have e0 : IntKind.u64.wrap (mx x.f0 0) = (x.f0.toNat : Int) := by rw [IntKind.wrap_u64]; unfold mx; omega
  have e1 : IntKind.u64.wrap (mx x.f1 1) = (x.f1.toNat : Int) := by rw [IntKind.wrap_u64]; unfold mx; omega
  rw [e0, e1, of_n _ (by omega), Option.bind_some, of_n _ (by omega), Option.bind_some]
theorem zeroL : L 0 = (limbs 0, limbs 1) := rfl
theorem natL (n : Nat) : L (n : Rat) = (limbs n, limbs 1) := by
  show (limbs ((n : Int)).natAbs, limbs 1) = _
  rw [Int.natAbs_natCast]
theorem whole_n (n : Nat) (h : n < 18446744073709551616) : ratio_Whole.f (n : Int) = some (L (n : Rat)) := by
  unfold ratio_Whole.f
  rw [of_n _ h, Option.bind_some, show nat_Of.f 1 = some (limbs 1) from of_n 1 (by omega), Option.bind_some, natL]
theorem natSz (n : Nat) (h : n < 18446744073709551616) : Sz 2 (n : Rat) := by
  refine ⟨?_, ?_, ?_⟩
  · exact Rat.num_nonneg.1 (Int.natCast_nonneg n)
  · show F 2 ((n : Int)).natAbs
    rw [Int.natAbs_natCast]
    unfold F; simpa using h
  · show F 2 1
    unfold F; decide
theorem zeroSz : Sz 1 0 := ⟨Rat.le_refl, by show F 1 0; unfold F; decide, by show F 1 1; unfold F; decide⟩
theorem okW_pos {x : S57} (h : okW x) : 0 < x.f1.toNat := by have := h.2.2.1; omega
theorem okW_F {x : S57} (h : okW x) : F 1 x.f0.toNat ∧ F 1 x.f1.toNat := by
  obtain ⟨h0, h1, h2, h3⟩ := h
  exact ⟨F.one (by omega), F.one (by omega)⟩
theorem wtSz {x : S57} (h : okW x) : Sz 1 (wt x) := mk_sz 1 _ _ (okW_F h).1 (okW_F h).2 (okW_pos h)
theorem addW (i : Nat) (p : Rat) (x : S57) (hp : Sz i p) (h : okW x) (hi : i + 4 ≤ 1000000) :
    Tell (fun k => ratio_Add.f k (L p).1 (L p).2 (limbs x.f0.toNat) (limbs x.f1.toNat)) (L (p + wt x)) ∧ Sz (i + 2) (p + wt x) := by
  have h1 := radd_t i 1 _ _ _ _ hp.2.1 hp.2.2 (okW_F h).1 (okW_F h).2 (by omega) p.den_pos (okW_pos h)
  have h2 := sz_add i 1 _ _ _ _ hp.2.1 hp.2.2 (okW_F h).1 (okW_F h).2 p.den_pos (okW_pos h)
  rw [self_mk p hp.1] at h1 h2
  exact ⟨h1, h2⟩
theorem sum_l (l : List S57) (hl : l.length ≤ 1000) (ho : ∀ x ∈ l, okW x) (d : Nat) : ∀ (i j : Nat) (s : Rat), i + d = l.length → Sz j s → j + 2 * d + 4 ≤ 1000000 →
    Tell (fun k => ratio_Sum.l0 k l (l.length : Int) (i : Int) (L s).1 (L s).2) (L (s + sumR (l.drop i))) ∧ Sz (j + 2 * d) (s + sumR (l.drop i)) := by
  induction d with
  | zero =>
    intro i j s hi hs _
    rw [List.drop_of_length_le (by omega)]
    have e : s + sumR [] = s := Rat.add_zero s
    rw [e]
    exact ⟨Tell.step (g := fun _ => some (L s)) (fun k => by rw [ratio_Sum.l0, if_neg (by omega)]) (Tell.const _), hs⟩
  | succ d ih =>
    intro i j s hi hs hj
    have hlt : i < l.length := by omega
    have hx := ho l[i] (List.getElem_mem hlt)
    obtain ⟨h1, h2⟩ := addW j s l[i] hs hx (by omega)
    obtain ⟨h3, h4⟩ := ih (i + 1) (j + 2) (s + wt l[i]) (by omega) h2 (by omega)
    rw [List.drop_eq_getElem_cons hlt]
    have e : s + sumR (l[i] :: l.drop (i + 1)) = s + wt l[i] + sumR (l.drop (i + 1)) := (Rat.add_assoc _ _ _).symm
    rw [e]
    refine ⟨?_, by rw [show j + 2 * (d + 1) = j + 2 + 2 * d by omega]; exact h4⟩
    refine Tell.step (fun k => by rw [ratio_Sum.l0, if_pos (by omega), if_pos (by omega), if_pos (by omega), rdW l i hlt, of_w _ hx, Option.bind_some, w64 (by omega) (by omega)]) ?_
    exact Tell.bind h1 h3
theorem sum_t (l : List S57) (hl : l.length ≤ 1000) (ho : ∀ x ∈ l, okW x) : Tell (fun k => ratio_Sum.f k l) (L (sumR l)) ∧ Sz (1 + 2 * l.length) (sumR l) := by
  obtain ⟨h1, h2⟩ := sum_l l hl ho l.length 0 1 0 (by omega) zeroSz (by omega)
  rw [Rat.zero_add, List.drop_zero] at h1 h2
  refine ⟨?_, h2⟩
  unfold ratio_Sum.f
  refine Tell.of (fun k => ?_) h1
  rw [show ratio_Whole.f 0 = some (L ((0 : Nat) : Rat)) from whole_n 0 (by omega), Option.bind_some]
  rfl
theorem sumR_append (a b : List S57) : sumR (a ++ b) = sumR a + sumR b := by
  induction a with
  | nil => exact (Rat.zero_add _).symm
  | cons x a ih => show wt x + sumR (a ++ b) = wt x + sumR a + sumR b; rw [ih, Rat.add_assoc]
theorem sumR_reverse (a : List S57) : sumR a.reverse = sumR a := by
  induction a with
  | nil => rfl
  | cons x a ih =>
    rw [List.reverse_cons, sumR_append, ih, Rat.add_comm]
    show wt x + 0 + sumR a = wt x + sumR a
    rw [Rat.add_zero]
theorem sameL (q : Rat) (j : Nat) (h : Sz j q) (hj : j ≤ 1000000) : Tell (fun k => regattalaw03_same.f k (L q).1 (L q).2 (L q).1 (L q).2) true := by
  have h1 := (h.2.1.isN hj).2
  have h2 := (h.2.2.isN hj).2
  refine ⟨(limbs q.num.natAbs).length + (limbs q.den).length + 1, fun k hk => ?_⟩
  show regattalaw03_same.f k (limbs q.num.natAbs) (limbs q.den) (limbs q.num.natAbs) (limbs q.den) = some true
  unfold regattalaw03_same.f
  rw [same_f k _ _ (by omega) (by omega), same_f k _ _ (by omega) (by omega)]
  simp

/-! ### Texts -/
theorem F_ten {j n : Nat} (h : F j n) : n < 10 ^ (10 * j) := by
  unfold F at h
  have : (4294967296 : Nat) ^ j ≤ (10 ^ 10) ^ j := Nat.pow_le_pow_left (by decide) j
  rw [← Nat.pow_mul] at this
  omega
theorem ntext_t (j n : Nat) (h : F j n) (hj : j ≤ 100000) : Tell (fun k => nat_Text.f k (limbs n)) (strOfNums (txt n)) :=
  ⟨2 * (10 * j) + (limbs n).length + 4, fun k hk => text_f (10 * j) k n (F_ten h) (h.isN (by omega)) (by omega) (by omega)⟩
theorem txt_len (j n : Nat) (h : F j n) : (txt n).length ≤ 10 * j + 1 := by
  unfold txt
  split
  · simp
  · rw [List.length_reverse]
    have := dig_length n (10 * j) (F_ten h)
    omega
def txtR (q : Rat) : ByteArray := if q.den = 1 then strOfNums (txt q.num.natAbs) else strOfNums (txt q.num.natAbs) ++ ⟨#[47]⟩ ++ strOfNums (txt q.den)
theorem text_t (j n d : Nat) (hn : F j n) (hd : F j d) (hj : j + 2 ≤ 100000) (h0 : 0 < d) : Tell (fun k => ratio_Text.f k (limbs n) (limbs d)) (txtR (mkRat (n : Int) d)) := by
  unfold ratio_Text.f
  have hs := mk_sz j n d hn hd h0
  refine Tell.bind (least_t j n d hn hd (by omega) h0) ?_
  generalize mkRat (n : Int) d = q at *
  have l1 := txt_len j _ hs.2.1
  have l2 := txt_len j _ hs.2.2
  refine Tell.bind (ntext_t j _ hs.2.1 (by omega)) ?_
  refine Tell.of (fun k => by rw [show nat_Of.f 1 = some (limbs 1) from of_n 1 (by omega), Option.bind_some]) ?_
  refine Tell.bind (cmp_t (j + 1) _ 1 (hs.2.2.mono (by omega)) (F.mono (F.one (by omega)) (by omega)) (by omega)) ?_
  unfold txtR
  by_cases h : q.den = 1
  · rw [if_pos h]
    exact Tell.of (fun k => by rw [if_pos (cmpI_zero.2 h)]) (Tell.const _)
  · rw [if_neg h]
    refine Tell.of (fun k => by rw [if_neg (fun e => h (cmpI_zero.1 e)), if_pos (by rw [strOfNums_size]; omega)]) ?_
    refine Tell.bind (ntext_t j _ hs.2.2 (by omega)) ?_
    exact Tell.of (fun k => by rw [if_pos (by rw [strOfNums_size, strOfNums_size]; omega)]) (Tell.const _)
theorem textL (j : Nat) (q : Rat) (h : Sz j q) (hj : j + 2 ≤ 100000) : Tell (fun k => ratio_Text.f k (L q).1 (L q).2) (txtR q) := by
  have := text_t j _ _ h.2.1 h.2.2 hj q.den_pos
  rw [self_mk q h.1] at this
  exact this
theorem awake03 : Tell (fun k => regattalaw03_awake.f k) true := by
  unfold regattalaw03_awake.f
  obtain ⟨h1, h2⟩ := sum_t [⟨1, 3⟩, ⟨1, 6⟩] (by decide) (by intro x hx; simp at hx; rcases hx with rfl | rfl <;> (unfold okW; decide))
  refine Tell.bind h1 (Tell.bind (textL _ _ h2 (by decide)) ?_)
  have e : sumR [⟨1, 3⟩, ⟨1, 6⟩] = mkRat 1 2 := by decide +kernel
  rw [e]
  have t1 : (txtR (mkRat 1 2)).toList = ([49, 47, 50] : List UInt8) := by
    unfold txtR
    rw [if_neg (by decide +kernel), show (mkRat 1 2).num.natAbs = 1 by decide +kernel, show (mkRat 1 2).den = 2 by decide +kernel]
    unfold txt
    rw [if_neg (by omega), if_neg (by omega), dig_pos 1 (by omega), dig_pos 2 (by omega), ByteArray.toList_eq]
    simp [dig_zero, strOfNums]
  refine Tell.of (fun k => by rw [if_pos t1, show ratio_Whole.f 7 = some (L ((7 : Nat) : Rat)) from whole_n 7 (by omega), Option.bind_some]) ?_
  refine Tell.bind (textL 2 _ (natSz 7 (by omega)) (by omega)) ?_
  have t2 : (txtR ((7 : Nat) : Rat)).toList = ([55] : List UInt8) := by
    unfold txtR
    rw [if_pos (by rfl), show ((7 : Nat) : Rat).num.natAbs = 7 by rfl]
    unfold txt
    rw [if_neg (by omega), dig_pos 7 (by omega), ByteArray.toList_eq]
    simp [dig_zero, strOfNums]
  refine Tell.of (fun k => by rw [if_pos t2, show ratio_Whole.f 0 = some (L ((0 : Nat) : Rat)) from whole_n 0 (by omega), Option.bind_some]) ?_
  refine Tell.of (fun k => by rw [show ratio_Check.f (L ((0 : Nat) : Rat)).1 (L ((0 : Nat) : Rat)).2 = some true from check_n 1 0 1 (F.one (by omega)) (F.one (by omega)) (by omega) (by omega), Option.bind_some]) (Tell.const _)

/-! ### Weights by numbers -/
theorem rdQ (l : List S55) (i : Nat) (h : i < l.length) : rd_T55 l (i : Int) = l[i] := by simp [rd_T55, List.getD, List.getElem?_eq_getElem h]
def wOf (q : S55) : S57 := ⟨q.f0 % 1048576, 1 + q.f1 % 1048576⟩
theorem and20 (x : Int) : Go.bits .and .i64 x 1048575 = x % 1048576 := QBits.and_mask 20 (by omega) x 1048575 rfl
theorem wOf_ok (q : S55) : okW (wOf q) := by
  have a0 := Int.emod_nonneg q.f0 (show (1048576 : Int) ≠ 0 by decide)
  have a1 := Int.emod_lt_of_pos q.f0 (show (0 : Int) < 1048576 by decide)
  have b0 := Int.emod_nonneg q.f1 (show (1048576 : Int) ≠ 0 by decide)
  have b1 := Int.emod_lt_of_pos q.f1 (show (0 : Int) < 1048576 by decide)
  unfold okW wOf
  simp only
  omega
def wsOf (l : List S55) : List S57 := (l.take 8).map wOf
theorem weights_l (l : List S55) (hl : l.length ≤ 9223372036854775807) (d : Nat) : ∀ (i : Nat) (acc : List S57), i + d = 8 → acc.length ≤ i → Tell (fun k => regattalaw03_weights.l0 k l acc (i : Int)) (acc ++ ((l.drop i).take d).map wOf) := by
  induction d with
  | zero =>
    intro i acc hi ha
    simp only [List.take_zero, List.map_nil, List.append_nil]
    refine Tell.step (g := fun _ => some acc) (fun k => ?_) (Tell.const _)
    rw [regattalaw03_weights.l0]
    by_cases h : (i : Int) < (l.length : Int)
    · rw [if_pos h, if_neg (by omega)]
    · rw [if_neg h]
  | succ d ih =>
    intro i acc hi ha
    by_cases h : i < l.length
    · have h2 := ih (i + 1) (acc ++ [wOf l[i]]) (by omega) (by rw [List.length_append, List.length_singleton]; omega)
      rw [List.drop_eq_getElem_cons h, List.take_succ_cons, List.map_cons]
      rw [List.append_assoc, List.singleton_append] at h2
      refine Tell.step (fun k => ?_) h2
      have b0 := Int.emod_nonneg l[i].f1 (show (1048576 : Int) ≠ 0 by decide)
      have b1 := Int.emod_lt_of_pos l[i].f1 (show (0 : Int) < 1048576 by decide)
      rw [regattalaw03_weights.l0, if_pos (by omega), if_pos (by omega), if_pos (by omega), if_pos (by omega), rdQ l i h, and20, and20, w64 (x := 1 + l[i].f1 % 1048576) (by omega) (by omega), w64 (x := (i : Int) + 1) (by omega) (by omega)]
      rfl
    · rw [List.drop_of_length_le (by omega)]
      simp only [List.take_nil, List.map_nil, List.append_nil]
      refine Tell.step (g := fun _ => some acc) (fun k => ?_) (Tell.const _)
      rw [regattalaw03_weights.l0, if_neg (by omega)]
theorem weights_t (l : List S55) (hl : l.length ≤ 9223372036854775807) : Tell (fun k => regattalaw03_weights.f k l) (wsOf l) := weights_l l hl 8 0 [] (by omega) (by simp)
theorem ws_ok (l : List S55) : ∀ x ∈ wsOf l, okW x := by
  intro x hx
  obtain ⟨q, _, rfl⟩ := List.mem_map.1 hx
  exact wOf_ok q
theorem ws_len (l : List S55) : (wsOf l).length ≤ 8 := by
  unfold wsOf
  rw [List.length_map, List.length_take]; omega
end Go.Proofs.Ytcfliceeablckaa.QRatio
