/- Plain Lean: which commands may be: the program's test and the document's. -/
import Derived.Test.YtfcoaneffdddkaaQEv
import Derived.Test.YtfcoaneffdddkaaQBits
import Derived.Test.YtfcoaneffdddkaaXFields
import Derived.Test.YtfcoaneffdddkaaPWtx5
import Derived.Test.YtfcoaneffdddkaaPWtx6
import Derived.Test.YtfcoaneffdddkaaPWtx7
namespace Go.Proofs.Ytfcoaneffdddkaa.QWire
open Go.RowKit Go.Proofs.Ytfcoaneffdddkaa.PWt Go.Proofs.YtfcoaneffdddkaaW.PrintWords Go.Proofs.YtfcoaneffdddkaaW.PrintLast Go.Proofs.Ytfcoaneffdddkaa.QEv Go.Proofs.Ytfcoaneffdddkaa.QBits Go.Proofs.Ytfcoaneffdddkaa.XFields
set_option linter.unusedVariables false
set_option linter.unusedSimpArgs false

instance eqPart : DecidableEq S67 := fun a b => decidable_of_iff (a.f0 = b.f0 ∧ a.f1 = b.f1) ⟨fun h => by cases a; cases b; simp_all, fun h => by subst h; exact ⟨rfl, rfl⟩⟩
instance eqWeight : DecidableEq S28 := fun a b => decidable_of_iff (a.f0 = b.f0 ∧ a.f1 = b.f1) ⟨fun h => by cases a; cases b; simp_all, fun h => by subst h; exact ⟨rfl, rfl⟩⟩
theorem cmd_eq (a b : S31) : a = b ↔ a.f0 = b.f0 ∧ a.f1 = b.f1 ∧ a.f2 = b.f2 ∧ a.f3 = b.f3 ∧ a.f4 = b.f4 ∧ a.f5.f0 = b.f5.f0 ∧ a.f5.f1 = b.f5.f1 ∧ a.f6 = b.f6 ∧ a.f7 = b.f7 := by
  constructor
  · intro h
    subst h
    simp
  · obtain ⟨a0, a1, a2, a3, a4, ⟨a5, a6⟩, a7, a8⟩ := a
    obtain ⟨b0, b1, b2, b3, b4, ⟨b5, b6⟩, b7, b8⟩ := b
    rintro ⟨h0, h1, h2, h3, h4, h5, h6, h7, h8⟩
    simp only at h0 h1 h2 h3 h4 h5 h6 h7 h8
    subst h0 h1 h2 h3 h4 h5 h6 h7 h8
    rfl
instance eqCmd : DecidableEq S31 := fun a b => decidable_of_iff _ (cmd_eq a b).symm
/-- A command without what its kind does not say. -/
def bareC (c : S31) : S31 :=
  if c.f0 = 1 then ⟨c.f0, 0, c.f2, 0, 0, c.f5, c.f6, []⟩
  else if c.f0 = 2 ∨ c.f0 = 7 then ⟨c.f0, c.f1, 0, 0, 0, ⟨0, 0⟩, false, []⟩
  else if c.f0 = 3 then ⟨c.f0, c.f1, 0, 0, 0, c.f5, false, []⟩
  else if c.f0 = 4 then ⟨c.f0, c.f1, 0, c.f3, 0, ⟨0, 0⟩, false, []⟩
  else if c.f0 = 5 then ⟨c.f0, 0, 0, c.f3, 0, ⟨0, 0⟩, false, []⟩
  else if c.f0 = 6 then ⟨c.f0, 0, c.f2, 0, c.f4, ⟨0, 0⟩, false, c.f7⟩
  else ⟨c.f0, 0, 0, 0, 0, ⟨0, 0⟩, false, []⟩
/-- A command's nine parts. -/
def tup (c : S31) : Int × Int × Int × Int × Int × Int × Int × Bool × List S67 := (c.f0, c.f1, c.f2, c.f3, c.f4, c.f5.f0, c.f5.f1, c.f6, c.f7)
theorem bare_t (c : S31) : Tell (fun k => wire_bare.f k c.f0 c.f1 c.f2 c.f3 c.f4 c.f5.f0 c.f5.f1 c.f6 c.f7) (tup (bareC c)) := by
  unfold wire_bare.f bareC
  by_cases h1 : c.f0 = 1
  · exact Tell.of (fun k => by rw [if_pos h1]) (by rw [if_pos h1]; exact Tell.const _)
  by_cases h2 : c.f0 = 2
  · refine Tell.of (fun k => by rw [if_neg h1, if_pos h2]) (Tell.step (fun k => ?_) (Tell.const _))
    rw [wire_bare.j0, if_pos (by simp [h2]), if_neg h1, if_pos (Or.inl h2)]
    rfl
  by_cases h7 : c.f0 = 7
  · refine Tell.of (fun k => by rw [if_neg h1, if_neg h2]) (Tell.step (fun k => ?_) (Tell.const _))
    rw [wire_bare.j0, if_pos (by simp [h7]), if_neg h1, if_pos (Or.inr h7)]
    rfl
  have h27 : ¬ (c.f0 = 2 ∨ c.f0 = 7) := by omega
  refine Tell.of (fun k => by rw [if_neg h1, if_neg h2]) (Tell.step (fun k => ?_) (Tell.const _))
  rw [wire_bare.j0, if_neg (by simpa using h7), if_neg h1, if_neg h27]
  by_cases h3 : c.f0 = 3
  · rw [if_pos h3, if_pos h3]
    rfl
  by_cases h4 : c.f0 = 4
  · rw [if_neg h3, if_neg h3, if_pos h4, if_pos h4]
    rfl
  by_cases h5 : c.f0 = 5
  · rw [if_neg h3, if_neg h3, if_neg h4, if_neg h4, if_pos h5, if_pos h5]
    rfl
  by_cases h6 : c.f0 = 6
  · rw [if_neg h3, if_neg h3, if_neg h4, if_neg h4, if_neg h5, if_neg h5, if_pos h6, if_pos h6]
    rfl
  · rw [if_neg h3, if_neg h3, if_neg h4, if_neg h4, if_neg h5, if_neg h5, if_neg h6, if_neg h6]
    rfl
theorem rdP (l : List S67) (i : Nat) (h : i < l.length) : rd_T67 l (i : Int) = l[i] := by simp [rd_T67, List.getD, List.getElem?_eq_getElem h]
theorem rdC (l : List S31) (i : Nat) (h : i < l.length) : rd_T31 l (i : Int) = l[i] := by simp [rd_T31, List.getD, List.getElem?_eq_getElem h]
theorem part_ne (a b : S67) : (!(a.f0 == b.f0) || (!(a.f1 == b.f1))) = true ↔ a ≠ b := by
  cases a; cases b; simp; omega
theorem parts_l0 (a b : List S67) (hl : a.length = b.length) (hs : a.length ≤ 1000000000) (d : Nat) : ∀ i, i + d = a.length → Tell (fun k => api_Part.l0 k a b (a.length : Int) (i : Int)) (decide (a.drop i = b.drop i)) := by
  induction d with
  | zero =>
    intro i hi
    rw [List.drop_of_length_le (by omega), List.drop_of_length_le (by omega)]
    exact Tell.step (g := fun _ => some (decide (([] : List S67) = []))) (fun k => by rw [api_Part.l0, if_neg (by omega)]; simp) (Tell.const _)
  | succ d ih =>
    intro i hi
    have hlt : i < a.length := by omega
    have hlt2 : i < b.length := by omega
    rw [List.drop_eq_getElem_cons hlt, List.drop_eq_getElem_cons hlt2]
    by_cases h : a[i] = b[i]
    · have h2 := ih (i + 1) (by omega)
      have e : decide (a[i] :: a.drop (i + 1) = b[i] :: b.drop (i + 1)) = decide (a.drop (i + 1) = b.drop (i + 1)) := by
        rw [h]
        exact decide_eq_decide.2 ⟨fun e => (List.cons.inj e).2, fun e => by rw [e]⟩
      rw [e]
      refine Tell.step (fun k => ?_) h2
      rw [api_Part.l0, if_pos (by omega), if_pos (by omega), if_pos (by omega), if_pos (by omega), rdP a i hlt, rdP b i hlt2, if_neg (fun hn => (part_ne _ _).1 hn h), w64 (by omega) (by omega)]
      rfl
    · have e : decide (a[i] :: a.drop (i + 1) = b[i] :: b.drop (i + 1)) = false := decide_eq_false (fun e => h (List.cons.inj e).1)
      rw [e]
      refine Tell.step (fun k => ?_) (Tell.const _)
      rw [api_Part.l0, if_pos (by omega), if_pos (by omega), if_pos (by omega), if_pos (by omega), rdP a i hlt, rdP b i hlt2, if_pos ((part_ne _ _).2 h)]
theorem parts_t (a b : List S67) (hs : a.length ≤ 1000000000) : Tell (fun k => api_Part.f k a b) (decide (a = b)) := by
  unfold api_Part.f
  by_cases h : a.length = b.length
  · exact Tell.of (fun k => by rw [if_pos (by omega)]; rfl) (parts_l0 a b h hs a.length 0 (by omega))
  · have e : decide (a = b) = false := decide_eq_false (fun he => h (by rw [he]))
    rw [e]
    exact Tell.of (fun k => by rw [if_neg (by omega)]) (Tell.const _)
theorem same_t (a b : S31) (hs : a.f7.length ≤ 1000000000) : Tell (fun k => wire_Same.f k a.f0 a.f1 a.f2 a.f3 a.f4 a.f5.f0 a.f5.f1 a.f6 a.f7 b.f0 b.f1 b.f2 b.f3 b.f4 b.f5.f0 b.f5.f1 b.f6 b.f7) (decide (a = b)) := by
  have hp := parts_t a.f7 b.f7 hs
  have hiff := cmd_eq a b
  unfold wire_Same.f
  by_cases h0 : a.f0 = b.f0
  case neg => exact Tell.of (fun k => by rw [if_neg h0]) (by rw [decide_eq_false (fun h => h0 (hiff.1 h).1)]; exact Tell.const _)
  by_cases h1 : a.f1 = b.f1
  case neg => exact Tell.of (fun k => by rw [if_pos h0, if_neg h1]) (by rw [decide_eq_false (fun h => h1 (hiff.1 h).2.1)]; exact Tell.const _)
  by_cases h2 : a.f2 = b.f2
  case neg => exact Tell.of (fun k => by rw [if_pos h0, if_pos h1, if_neg h2]) (by rw [decide_eq_false (fun h => h2 (hiff.1 h).2.2.1)]; exact Tell.const _)
  by_cases h3 : a.f3 = b.f3
  case neg => exact Tell.of (fun k => by rw [if_pos h0, if_pos h1, if_pos h2, if_neg h3]) (by rw [decide_eq_false (fun h => h3 (hiff.1 h).2.2.2.1)]; exact Tell.const _)
  by_cases h4 : a.f4 = b.f4
  case neg => exact Tell.of (fun k => by rw [if_pos h0, if_pos h1, if_pos h2, if_pos h3, if_neg h4]) (by rw [decide_eq_false (fun h => h4 (hiff.1 h).2.2.2.2.1)]; exact Tell.const _)
  by_cases h5 : (a.f5.f0 == b.f5.f0 && (a.f5.f1 == b.f5.f1)) = true
  case neg => exact Tell.of (fun k => by rw [if_pos h0, if_pos h1, if_pos h2, if_pos h3, if_pos h4, if_neg h5]) (by rw [decide_eq_false (fun h => h5 (by have h' := hiff.1 h; simp [h'.2.2.2.2.2.1, h'.2.2.2.2.2.2.1]))]; exact Tell.const _)
  by_cases h6 : (a.f6 == b.f6) = true
  case neg => exact Tell.of (fun k => by rw [if_pos h0, if_pos h1, if_pos h2, if_pos h3, if_pos h4, if_pos h5, if_neg h6]) (by rw [decide_eq_false (fun h => h6 (by have h' := hiff.1 h; simp [h'.2.2.2.2.2.2.2.1]))]; exact Tell.const _)
  have e : decide (a = b) = decide (a.f7 = b.f7) := by
    refine decide_eq_decide.2 ⟨fun h => (hiff.1 h).2.2.2.2.2.2.2.2, fun h => hiff.2 ?_⟩
    simp at h5 h6
    exact ⟨h0, h1, h2, h3, h4, h5.1, h5.2, h6, h⟩
  rw [e]
  exact Tell.of (fun k => by rw [if_pos h0, if_pos h1, if_pos h2, if_pos h3, if_pos h4, if_pos h5, if_pos h6]) (Tell.bind hp (Tell.const _))
/-- May a command be? -/
def chkW (c : S31) : Bool := decide (1 ≤ c.f0 ∧ c.f0 ≤ 7) && (decide (c = bareC c) && (flds c).all fun x => decide (0 ≤ x.1 ∧ x.1 ≤ x.2))
end Go.Proofs.Ytfcoaneffdddkaa.QWire
