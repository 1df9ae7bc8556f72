/- A number's text is read as that number: the texts' bytes against the digits (for NatText). -/
import Derived.Test.YtcfliceeablckaaDoorQNText
import Derived.Test.YtcfliceeablckaaDoorXParse
namespace Go.Proofs.YtcfliceeablckaaDoor.XNText
open Go.RowKit Go.Proofs.YtcfliceeablckaaDoor.PNd Go.Proofs.YtcfliceeablckaaDoorW.PrintWords Go.Proofs.YtcfliceeablckaaDoorW.PrintLast Go.Proofs.YtcfliceeablckaaDoorW.PrintMore Go.Proofs.YtcfliceeablckaaDoor.MWords
open Go.Proofs.YtcfliceeablckaaDoor.MNat Go.Proofs.YtcfliceeablckaaDoor.QNat Go.Proofs.YtcfliceeablckaaDoor.QText Go.Proofs.YtcfliceeablckaaDoor.QNText Go.Proofs.YtcfliceeablckaaDoor.XParse
set_option linter.unusedVariables false
theorem str_size (xs : List Int) : (strOfNums xs).size = xs.length := by
  unfold strOfNums
  simp [ByteArray.size]
theorem str_bt (xs : List Int) (h : ∀ b ∈ xs, (0 : Int) ≤ b ∧ b < 256) (i : Nat) (hi : i < xs.length) : bt (strOfNums xs) (i : Int) = xs[i] := by
  have hs := str_size xs
  have hb := bt_at (strOfNums xs) (i : Int) (by rw [Int.toNat_natCast]; omega)
  rw [← hb]
  have e : ∀ (k : Nat) (hk : k < (strOfNums xs).size) (hk2 : k < xs.length), (strOfNums xs)[k]'hk = UInt8.ofNat (xs[k]).toNat := fun k hk hk2 => by
    show (strOfNums xs).data[k]'hk = _
    simp [strOfNums]
  have e2 : (i : Int).toNat = i := Int.toNat_natCast i
  have hb2 : ∀ (k : Nat) (hk : k < (strOfNums xs).size), k = i → (((strOfNums xs)[k]'hk).toNat : Int) = xs[i] := fun k hk ek => by
    subst ek
    rw [e k hk hi]
    have := h xs[k] (List.getElem_mem hi)
    simp
    omega
  exact hb2 _ _ e2
theorem str_val (xs : List Int) (h : ∀ b ∈ xs, (48 : Int) ≤ b ∧ b ≤ 57) : ∀ i, i ≤ xs.length → valT (strOfNums xs) i = valL (xs.take i)
  | 0, _ => rfl
  | i + 1, hi => by
    rw [valT, str_val xs h i (by omega), str_bt xs (fun b hb => by have := h b hb; omega) i (by omega), ← List.take_append_getElem (by omega), valL_snoc]
theorem str_digs (xs : List Int) (h : ∀ b ∈ xs, (48 : Int) ≤ b ∧ b ≤ 57) : digs (strOfNums xs) := fun i hi => by
  rw [str_size] at hi
  rw [str_bt xs (fun b hb => by have := h b hb; omega) i hi]
  exact h _ (List.getElem_mem hi)
/-- A number's text may be, and is that number. -/
theorem txt_good (n : Nat) : goodS (strOfNums (txt n)) ∧ valT (strOfNums (txt n)) (strOfNums (txt n)).size = n := by
  have hr := txt_range n
  have hp : 0 < (txt n).length := List.length_pos_iff.2 (txt_ne n)
  refine ⟨⟨by rw [str_size]; exact hp, fun h => ?_, str_digs _ hr⟩, ?_⟩
  · obtain ⟨h1, h2⟩ := h
    rw [str_size] at h1
    have e := str_bt (txt n) (fun b hb => by have := hr b hb; omega) 0 hp
    have e2 : bt (strOfNums (txt n)) 0 = (txt n)[0] := e
    rw [e2] at h2
    by_cases hn : n = 0
    · subst hn
      have : (txt 0).length = 1 := rfl
      omega
    · exact txt_head n hn _ (by rw [List.head?_eq_getElem?, List.getElem?_eq_getElem hp]) h2
  · rw [str_size, str_val _ hr _ (Nat.le_refl _), List.take_length, valL_txt]
theorem fold_val (l : List Int) : ∀ acc : Nat, l.foldl (fun a b => a * 10 + (b - 48).toNat) acc = acc * 10 ^ l.length + valL l := by
  induction l with
  | nil => intro acc; simp [valL]
  | cons d l ih =>
    intro acc
    rw [List.foldl_cons, ih]
    have e : valL (d :: l) = (d - 48).toNat * 10 ^ l.length + valL l := by
      show (d :: l).foldl _ 0 = _
      rw [List.foldl_cons, ih]
      simp
    rw [e, List.length_cons, Nat.pow_succ, Nat.add_mul, Nat.mul_assoc, Nat.mul_comm 10, Nat.add_assoc]
theorem valL_cons (d : Int) (l : List Int) : valL (d :: l) = (d - 48).toNat * 10 ^ l.length + valL l := by
  show (d :: l).foldl _ 0 = _
  rw [List.foldl_cons, fold_val]
  simp
/-- Of two rows of digits of one length that is less whose number is less. -/
theorem less_val : ∀ (l m : List Int), l.length = m.length → (∀ b ∈ l, (48 : Int) ≤ b ∧ b ≤ 57) → (∀ b ∈ m, (48 : Int) ≤ b ∧ b ≤ 57) → ∀ (a b : Int) (l' m' : List Int), l = a :: l' → m = b :: m' → (valL l < valL m ↔ a < b ∨ (a = b ∧ valL l' < valL m'))
  | l, m, hl, h1, h2, a, b, l', m', e1, e2 => by
    subst e1 e2
    have g1 := h1 a (by simp)
    have g2 := h2 b (by simp)
    have hl' : l'.length = m'.length := by simpa using hl
    have b1 := valL_lt l' (fun x hx => h1 x (by simp [hx])) _ rfl
    have b2 := valL_lt m' (fun x hx => h2 x (by simp [hx])) _ rfl
    rw [valL_cons, valL_cons, ← hl']
    rw [← hl'] at b2
    generalize 10 ^ l'.length = T at *
    obtain ⟨x, hx⟩ : ∃ x, x = (a - 48).toNat := ⟨_, rfl⟩
    obtain ⟨y, hy⟩ : ∃ y, y = (b - 48).toNat := ⟨_, rfl⟩
    rw [← hx, ← hy]
    have c1 : a < b ↔ x < y := by omega
    have c2 : a = b ↔ x = y := by omega
    rw [c1, c2]
    rcases Nat.lt_trichotomy x y with h | h | h
    · have : (x + 1) * T ≤ y * T := Nat.mul_le_mul_right _ h
      rw [Nat.add_mul] at this
      constructor
      · intro _; exact .inl h
      · intro _; omega
    · subst h
      constructor
      · intro k; exact .inr ⟨rfl, by omega⟩
      · rintro (k | ⟨_, k⟩) <;> omega
    · have : (y + 1) * T ≤ x * T := Nat.mul_le_mul_right _ h
      rw [Nat.add_mul] at this
      constructor
      · intro k; omega
      · rintro (k | ⟨k, _⟩) <;> omega
def u8s (l : List Int) : List UInt8 := l.map fun n => UInt8.ofNat n.toNat
theorem str_list (l : List Int) : (strOfNums l).toList = u8s l := by
  rw [ByteArray.toList_eq]
  simp [strOfNums, u8s]
theorem u8_lt {a b : Int} (h1 : (48 : Int) ≤ a ∧ a ≤ 57) (h2 : (48 : Int) ≤ b ∧ b ≤ 57) : (UInt8.ofNat a.toNat < UInt8.ofNat b.toNat ↔ a < b) ∧ (UInt8.ofNat a.toNat = UInt8.ofNat b.toNat ↔ a = b) := by
  have e1 : (UInt8.ofNat a.toNat).toNat = a.toNat := by simp; omega
  have e2 : (UInt8.ofNat b.toNat).toNat = b.toNat := by simp; omega
  constructor
  · rw [UInt8.lt_iff_toNat_lt, e1, e2]
    omega
  · constructor
    · intro h
      have := congrArg UInt8.toNat h
      rw [e1, e2] at this
      omega
    · rintro rfl; rfl
/-- Go's order of two texts of one length is their numbers' order. -/
theorem less_str : ∀ (l m : List Int), l.length = m.length → (∀ b ∈ l, (48 : Int) ≤ b ∧ b ≤ 57) → (∀ b ∈ m, (48 : Int) ≤ b ∧ b ≤ 57) → Go.Op.bytesLess (u8s l) (u8s m) = decide (valL l < valL m)
  | [], [], _, _, _ => by simp [u8s, Go.Op.bytesLess, valL]
  | a :: l, b :: m, hl, h1, h2 => by
    have hl' : l.length = m.length := by simpa using hl
    have g1 := h1 a (by simp)
    have g2 := h2 b (by simp)
    have ih := less_str l m hl' (fun x hx => h1 x (by simp [hx])) (fun x hx => h2 x (by simp [hx]))
    have k := less_val (a :: l) (b :: m) hl h1 h2 a b l m rfl rfl
    obtain ⟨c1, c2⟩ := u8_lt g1 g2
    show Go.Op.bytesLess (UInt8.ofNat a.toNat :: u8s l) (UInt8.ofNat b.toNat :: u8s m) = _
    rw [Go.Op.bytesLess, ih, Bool.eq_iff_iff]
    simp only [Bool.or_eq_true, Bool.and_eq_true, decide_eq_true_eq, beq_iff_eq]
    rw [c1, c2]
    exact k.symm
  | [], _ :: _, hl, _, _ => by cases hl
  | _ :: _, [], hl, _, _ => by cases hl
/-- A number that is not 0 has as many digits as it must. -/
theorem txt_ge (n : Nat) (h : n ≠ 0) : 10 ^ ((txt n).length - 1) ≤ n := by
  have hv := valL_txt n
  have hr := txt_range n
  have hh := txt_head n h
  cases ht : txt n with
  | nil => exact absurd ht (txt_ne n)
  | cons d l =>
    rw [ht] at hv hr hh
    have g := hr d (by simp)
    have g2 := hh d rfl
    rw [valL_cons] at hv
    have : 1 ≤ (d - 48).toNat := by omega
    have := Nat.mul_le_mul_right (10 ^ l.length) this
    show 10 ^ l.length ≤ n
    omega
theorem txt_lt (n : Nat) : n < 10 ^ (txt n).length := by
  have := valL_lt (txt n) (txt_range n) _ rfl
  rwa [valL_txt] at this
/-- Longer digits are a greater number. -/
theorem longer (a b : Nat) (h : (txt a).length < (txt b).length) : a < b := by
  have hb : b ≠ 0 := by
    rintro rfl
    have : (txt 0).length = 1 := rfl
    have := List.length_pos_iff.2 (txt_ne a)
    omega
  have h1 := txt_lt a
  have h2 := txt_ge b hb
  exact Nat.lt_of_lt_of_le h1 (Nat.le_trans (Nat.pow_le_pow_right (by omega) (by omega)) h2)
theorem txt_inj {a b : Nat} (h : txt a = txt b) : a = b := by rw [← valL_txt a, h, valL_txt]
end Go.Proofs.YtcfliceeablckaaDoor.XNText
