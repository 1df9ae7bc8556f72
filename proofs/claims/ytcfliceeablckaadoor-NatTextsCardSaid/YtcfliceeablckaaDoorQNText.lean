/- Plain: a number's digits: their value, their kind, how many (for NatText). -/
import Derived.Test.YtcfliceeablckaaDoorQText
namespace Go.Proofs.YtcfliceeablckaaDoor.QNText
open Go.Proofs.YtcfliceeablckaaDoor.QText
def valL (l : List Int) : Nat := l.foldl (fun a b => a * 10 + (b - 48).toNat) 0
theorem valL_snoc (l : List Int) (b : Int) : valL (l ++ [b]) = valL l * 10 + (b - 48).toNat := by
  unfold valL
  rw [List.foldl_append]
  rfl
theorem valL_dig (n : Nat) : valL (dig n).reverse = n := by
  induction n using Nat.strongRecOn with
  | ind n ih =>
    by_cases h : n = 0
    · subst h; rfl
    · rw [dig_pos n h, List.reverse_cons, valL_snoc, ih (n / 10) (by omega)]
      omega
theorem valL_txt (n : Nat) : valL (txt n) = n := by
  unfold txt
  by_cases h : n = 0
  · rw [if_pos h, h]; rfl
  · rw [if_neg h, valL_dig]
theorem dig_range (n : Nat) : ∀ b ∈ dig n, (48 : Int) ≤ b ∧ b ≤ 57 := by
  induction n using Nat.strongRecOn with
  | ind n ih =>
    intro b hb
    by_cases h : n = 0
    · subst h
      rw [dig_zero] at hb
      cases hb
    · rw [dig_pos n h] at hb
      rcases List.mem_cons.1 hb with rfl | hb
      · omega
      · exact ih (n / 10) (by omega) b hb
theorem txt_range (n : Nat) : ∀ b ∈ txt n, (48 : Int) ≤ b ∧ b ≤ 57 := by
  unfold txt
  by_cases h : n = 0
  · rw [if_pos h]
    intro b hb
    obtain rfl := List.mem_singleton.1 hb
    omega
  · rw [if_neg h]
    intro b hb
    exact dig_range n b (List.mem_reverse.1 hb)
theorem txt_ne (n : Nat) : txt n ≠ [] := by
  unfold txt
  by_cases h : n = 0
  · rw [if_pos h]; simp
  · rw [if_neg h, dig_pos n h]; simp
/-- The last of the digits turned round is no nought. -/
theorem dig_last (n : Nat) : ∀ (b : Int), (dig n).getLast? = some b → b ≠ 48 := by
  induction n using Nat.strongRecOn with
  | ind n ih =>
    intro b hb
    by_cases h : n = 0
    · subst h
      rw [dig_zero] at hb
      cases hb
    · rw [dig_pos n h] at hb
      by_cases h2 : n / 10 = 0
      · rw [h2, dig_zero] at hb
        obtain rfl : ((48 + n % 10 : Nat) : Int) = b := by simpa using hb
        omega
      · have h3 : dig (n / 10) ≠ [] := by rw [dig_pos _ h2]; simp
        rw [List.getLast?_cons_of_ne_nil h3] at hb
        exact ih (n / 10) (by omega) b hb
theorem txt_head (n : Nat) (h : n ≠ 0) (b : Int) (hb : (txt n).head? = some b) : b ≠ 48 := by
  unfold txt at hb
  rw [if_neg h, List.head?_reverse] at hb
  exact dig_last n b hb
/-- Digits alone: the number is below ten to the power of how many. -/
theorem valL_lt (l : List Int) (h : ∀ b ∈ l, (48 : Int) ≤ b ∧ b ≤ 57) : ∀ m, l.length = m → valL l < 10 ^ m := by
  intro m
  induction m generalizing l with
  | zero =>
    intro e
    obtain rfl := List.eq_nil_of_length_eq_zero e
    decide
  | succ m ih =>
    intro e
    have hne : l ≠ [] := fun c => by rw [c] at e; simp at e
    rw [← List.dropLast_concat_getLast hne, valL_snoc]
    have h1 := ih l.dropLast (fun b hb => h b ((List.dropLast_sublist l).subset hb)) (by rw [List.length_dropLast]; omega)
    have h2 := h _ (List.getLast_mem hne)
    rw [Nat.pow_succ]
    omega
end Go.Proofs.YtcfliceeablckaaDoor.QNText
