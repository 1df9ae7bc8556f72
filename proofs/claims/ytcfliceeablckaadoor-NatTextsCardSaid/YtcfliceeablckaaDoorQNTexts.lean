/- Plain: the document's texts: written as the program's are; read as it reads (for NatTexts). -/
import Derived.Test.YtcfliceeablckaaDoorQRefB
import Derived.Test.YtcfliceeablckaaDoorXNatC
import Derived.Test.YtcfliceeablckaaDoorPNdx30
import Derived.Test.YtcfliceeablckaaDoorPNdx33
namespace Go.Proofs.YtcfliceeablckaaDoor.QNTexts
open Go.RowKit Go.Proofs.YtcfliceeablckaaDoor.PNd Go.Proofs.YtcfliceeablckaaDoorW.PrintWords Go.Proofs.YtcfliceeablckaaDoorW.PrintLast Go.Proofs.YtcfliceeablckaaDoorW.PrintMore Go.Proofs.YtcfliceeablckaaDoor.MWords
open Go.Proofs.YtcfliceeablckaaDoor.MNat Go.Proofs.YtcfliceeablckaaDoor.MDec Go.Proofs.YtcfliceeablckaaDoor.QNat Go.Proofs.YtcfliceeablckaaDoor.QText Go.Proofs.YtcfliceeablckaaDoor.QNText Go.Proofs.YtcfliceeablckaaDoor.QRef Go.Proofs.YtcfliceeablckaaDoor.XParse Go.Proofs.YtcfliceeablckaaDoor.XNText Go.Proofs.YtcfliceeablckaaDoor.XNatC
set_option linter.unusedVariables false
set_option linter.unusedSimpArgs false
theorem dig_map (n : Nat) : dig n = (decs n).map fun d => 48 + d := by
  induction n using Nat.strongRecOn with
  | ind n ih =>
    by_cases h : n = 0
    · subst h
      rw [dig_zero, decs_zero]; rfl
    · rw [dig_pos n h, decs_pos n h, List.map_cons, ih (n / 10) (by omega)]
      congr 1
theorem str_app (a b : List Int) : strOfNums a ++ strOfNums b = strOfNums (a ++ b) := by
  apply ByteArray.ext
  simp [strOfNums]
theorem txt_l (l : List Int) (hl : Dgt l) (hn : l.length ≤ 1000000) : ∀ (d k : Nat) (acc : List Int), d ≤ l.length → d < k → acc.length + d ≤ 1000000 →
    regattaref02_Text.l0 k l (strOfNums acc) ((d : Int) - 1) = some (strOfNums (acc ++ ((l.take d).map fun x => 48 + x).reverse)) := by
  intro d
  induction d with
  | zero =>
    intro k acc _ hk _
    obtain ⟨k, rfl⟩ : ∃ m, k = m + 1 := ⟨k - 1, by omega⟩
    simp only [regattaref02_Text.l0]
    rw [if_neg (by omega)]
    simp
  | succ d ih =>
    intro k acc hd hk ha
    obtain ⟨k, rfl⟩ : ∃ m, k = m + 1 := ⟨k - 1, by omega⟩
    simp only [regattaref02_Text.l0]
    have e : ((d + 1 : Nat) : Int) - 1 = (d : Int) := by omega
    have hx := dgt_getD hl d
    have e2 : rd l (d : Int) = l.getD d 0 := rd_nat l d
    rw [e, if_pos (by omega), if_pos (by omega), if_pos (by omega), e2]
    simp only [Option.bind_some]
    have e3 : (wrap64 (48 + l.getD d 0)) % 256 = 48 + l.getD d 0 := by rw [w64 (by omega) (by omega)]; omega
    rw [e3, if_pos (by rw [str_size, str_size]; simp; omega), str_app, w64 (by omega) (by omega), ih k _ (by omega) (by omega) (by simp; omega)]
    have e4 : l.take (d + 1) = l.take d ++ [l.getD d 0] := by
      rw [List.take_add_one, List.getD, List.getElem?_eq_getElem (by omega : d < l.length)]
      rfl
    rw [e4, List.map_append, List.reverse_append]
    simp
theorem rtext_f (k m n : Nat) (hn : n < 10 ^ m) (hm : m ≤ 20000) (hk : 5 * m + 400 < k) : regattaref02_Text.f k (limbs n) = some (strOfNums (txt n)) := by
  unfold regattaref02_Text.f
  have hlen := decs_len n m hn
  rw [from_n k m n hn hm (by omega)]
  simp only [Option.bind_some]
  by_cases h : n = 0
  · subst h
    rw [decs_zero]
    simp [txt]
    rfl
  · have hp : 0 < (decs n).length := List.length_pos_iff.2 (decs_ne n h)
    rw [if_neg (by omega), w64 (by omega) (by omega)]
    have := txt_l (decs n) (dgt_decs n) (by omega) (decs n).length k [] (Nat.le_refl _) (by omega) (by simp; omega)
    rw [show strOfNums ([] : List Int) = (⟨#[]⟩ : ByteArray) from rfl] at this
    rw [this, List.take_length, ← dig_map, txt, if_neg h]
    simp
theorem bt_b (s : ByteArray) (i : Int) : 0 ≤ bt s i ∧ bt s i ≤ 255 := bt_range s i
theorem parse_l (s : ByteArray) (hs : s.size ≤ 1000) : ∀ (c k : Nat) (acc : List Int), c ≤ s.size → c + 3100 < k → Dgt acc → acc.length + c = s.size → dval acc + 10 ^ acc.length * valT s c = valT s s.size →
    regattaref02_Parse.l0 k s acc ((c : Int) - 1) = some (if (∀ j : Nat, j < c → 48 ≤ bt s j ∧ bt s j ≤ 57) then (limbs (valT s s.size), 0) else ([], 10)) := by
  intro c
  induction c with
  | zero =>
    intro k acc _ hk hD hlen hv
    obtain ⟨k, rfl⟩ : ∃ m, k = m + 1 := ⟨k - 1, by omega⟩
    simp only [regattaref02_Parse.l0]
    have hlt := dval_lt hD
    rw [if_neg (by omega), cut_f k acc (by omega) (by omega) hD]
    simp only [Option.bind_some]
    rw [limbs_f k acc.length (dval acc) hlt (by omega) (by omega)]
    simp only [Option.bind_some]
    rw [if_pos (fun j hj => by omega)]
    have : dval acc = valT s s.size := by rw [← hv]; simp [valT]
    rw [this]
  | succ c ih =>
    intro k acc hc hk hD hlen hv
    obtain ⟨k, rfl⟩ : ∃ m, k = m + 1 := ⟨k - 1, by omega⟩
    simp only [regattaref02_Parse.l0]
    have e : ((c + 1 : Nat) : Int) - 1 = (c : Int) := by omega
    rw [e, if_pos (by omega), if_pos (by omega), if_pos (by omega)]
    by_cases h1 : bt s (c : Int) < 48
    · rw [if_pos h1, if_neg (fun h => by have := (h c (by omega)).1; omega)]
    · rw [if_neg h1]
      by_cases h2 : bt s (c : Int) > 57
      · rw [if_pos h2, if_neg (fun h => by have := (h c (by omega)).2; omega)]
      · rw [if_neg h2, if_pos (by omega)]
        have e1 : (bt s (c : Int) - 48) % 256 = bt s (c : Int) - 48 := by omega
        rw [e1, w64 (by omega) (by omega), ih k _ (by omega) (by omega) (dgt_append.2 ⟨hD, dgt_cons.2 ⟨by omega, dgt_nil⟩⟩) (by simp; omega) ?_]
        · congr 1
          by_cases hall : ∀ j : Nat, j < c → 48 ≤ bt s j ∧ bt s j ≤ 57
          · rw [if_pos hall, if_pos]
            intro j hj
            by_cases hjc : j = c
            · subst hjc; omega
            · exact hall j (by omega)
          · rw [if_neg hall, if_neg (fun h => hall fun j hj => h j (by omega))]
        · rw [dval_snoc, ← hv, valT]
          simp only [List.length_append, List.length_singleton]
          rw [Nat.pow_succ]
          generalize 10 ^ acc.length = P
          generalize (bt s (c : Int) - 48).toNat = b
          generalize valT s c = v
          generalize dval acc = a
          rw [Nat.mul_add]
          have : P * 10 * v = P * (v * 10) := by rw [Nat.mul_assoc, Nat.mul_comm 10 v]
          omega
open Classical in
theorem rparse_f (s : ByteArray) (hs : s.size ≤ 1000) (k : Nat) (hk : 5000 < k) : regattaref02_Parse.f k s = some (if goodS s then (limbs (valT s s.size), 0) else ([], 10)) := by
  obtain ⟨k, rfl⟩ : ∃ m, k = m + 1 := ⟨k - 1, by omega⟩
  have run : ¬ (s.size = 0) → regattaref02_Parse.l0 k s [] (wrap64 ((s.size : Int) - 1)) = some (if digs s then (limbs (valT s s.size), 0) else ([], 10)) := fun h => by
    rw [w64 (by omega) (by omega), parse_l s hs s.size k [] (Nat.le_refl _) (by omega) dgt_nil (by simp) (by simp [dval])]
    congr 1
    by_cases hd : digs s
    · rw [if_pos hd, if_pos (show ∀ j : Nat, j < s.size → 48 ≤ bt s j ∧ bt s j ≤ 57 from hd)]
    · rw [if_neg hd, if_neg (show ¬ ∀ j : Nat, j < s.size → 48 ≤ bt s j ∧ bt s j ≤ 57 from hd)]
  unfold regattaref02_Parse.f
  by_cases h0 : s.size = 0
  · rw [if_pos ((bytes_nil s).2 h0), if_neg (fun h => by have := h.1; omega)]
    rfl
  · rw [if_neg (fun h => h0 ((bytes_nil s).1 h)), if_pos (by omega)]
    by_cases h1 : bt s 0 = 48
    · rw [if_pos h1]
      by_cases h2 : 1 < s.size
      · rw [decide_eq_true (by omega), if_neg (fun h => h.2.1 ⟨h2, h1⟩)]
        rfl
      · rw [decide_eq_false (by omega)]
        show regattaref02_Parse.l0 k s [] _ = _
        rw [run h0]
        congr 1
        by_cases hd : digs s
        · rw [if_pos hd, if_pos ⟨by omega, fun h => h2 h.1, hd⟩]
        · rw [if_neg hd, if_neg (fun h => hd h.2.2)]
    · rw [if_neg h1]
      show regattaref02_Parse.l0 k s [] _ = _
      rw [run h0]
      congr 1
      by_cases hd : digs s
      · rw [if_pos hd, if_pos ⟨by omega, fun h => h1 h.2, hd⟩]
      · rw [if_neg hd, if_neg (fun h => hd h.2.2)]
end Go.Proofs.YtcfliceeablckaaDoor.QNTexts
