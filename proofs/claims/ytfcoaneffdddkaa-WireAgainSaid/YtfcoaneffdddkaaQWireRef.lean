/- Plain Lean: the document's test of a command tells what the program's does. -/
import Derived.Test.YtfcoaneffdddkaaQWire
import Derived.Test.YtfcoaneffdddkaaXBytes
import Derived.Test.YtfcoaneffdddkaaPWtx19
import Derived.Test.YtfcoaneffdddkaaPWtx20
import Derived.Test.YtfcoaneffdddkaaPWtx21
namespace Go.Proofs.Ytfcoaneffdddkaa.QWireRef
open Go.RowKit Go.Proofs.Ytfcoaneffdddkaa.PWt Go.Proofs.YtfcoaneffdddkaaW.PrintWords Go.Proofs.YtfcoaneffdddkaaW.PrintLast Go.Proofs.Ytfcoaneffdddkaa.QEv Go.Proofs.Ytfcoaneffdddkaa.QBits Go.Proofs.Ytfcoaneffdddkaa.XFields Go.Proofs.Ytfcoaneffdddkaa.QWire Go.Proofs.Ytfcoaneffdddkaa.XBytes
set_option linter.unusedVariables false
set_option linter.unusedSimpArgs false

theorem rdI (l : List Int) (i : Nat) (h : i < l.length) : rd l (i : Int) = l[i] := by simp [rd, List.getD, List.getElem?_eq_getElem h]
def fldsR (c : S31) : List Int := (flds c).map (·.1)
theorem reffields_l0 (c : S31) (hl : c.f7.length ≤ 100000) (d : Nat) : ∀ (i : Nat) (acc : List Int), i + d = c.f7.length → acc.length + 2 * d ≤ 1000000 →
    Tell (fun k => regattaref18_fields.l0 k acc (i : Int) c.f0 c.f1 c.f2 c.f3 c.f4 c.f5.f0 c.f5.f1 c.f6 c.f7) (acc ++ (partF (c.f7.drop i)).map (·.1)) := by
  induction d with
  | zero =>
    intro i acc hi _
    rw [List.drop_of_length_le (by omega)]
    refine Tell.step (g := fun _ => some acc) (fun k => by rw [regattaref18_fields.l0, if_neg (by omega)]) ?_
    have e : acc ++ (partF []).map (·.1) = acc := by simp [partF]
    rw [e]
    exact Tell.const _
  | succ d ih =>
    intro i acc hi ha
    have hlt : i < c.f7.length := by omega
    rw [List.drop_eq_getElem_cons hlt]
    have h2 := ih (i + 1) (acc ++ [c.f7[i].f0, c.f7[i].f1]) (by omega) (by simp; omega)
    have e : acc ++ (partF (c.f7[i] :: c.f7.drop (i + 1))).map (·.1) = acc ++ [c.f7[i].f0, c.f7[i].f1] ++ (partF (c.f7.drop (i + 1))).map (·.1) := by
      rw [List.append_assoc]
      rfl
    rw [e]
    refine Tell.step (fun k => ?_) h2
    rw [regattaref18_fields.l0, if_pos (by omega), if_pos (by omega), rdP c.f7 i hlt, Option.bind_some, if_pos (by simp; omega), w64 (by omega) (by omega)]
    rfl
theorem reffields_t (c : S31) (hk0 : 1 ≤ c.f0) (hk1 : c.f0 ≤ 7) (hl : c.f7.length ≤ 100000) : Tell (fun k => regattaref18_fields.f k c.f0 c.f1 c.f2 c.f3 c.f4 c.f5.f0 c.f5.f1 c.f6 c.f7) (fldsR c) := by
  have hj : Tell (fun k => regattaref18_fields.j0 k (if c.f6 = true then 1 else 0) c.f0 c.f1 c.f2 c.f3 c.f4 c.f5.f0 c.f5.f1 c.f6 c.f7) (fldsR c) := by
    unfold fldsR flds
    by_cases h1 : c.f0 = 1
    · rw [if_pos h1]
      exact Tell.step (fun k => by rw [regattaref18_fields.j0, if_pos h1]; rfl) (Tell.const _)
    rw [if_neg h1]
    by_cases h2 : c.f0 = 2
    · rw [if_pos (Or.inl h2)]
      refine Tell.step (fun k => by rw [regattaref18_fields.j0, if_neg h1, if_pos h2]) (Tell.step (fun k => ?_) (Tell.const _))
      rw [regattaref18_fields.j1, if_pos (by simp [h2])]
      rfl
    by_cases h7 : c.f0 = 7
    · rw [if_pos (Or.inr h7)]
      refine Tell.step (fun k => by rw [regattaref18_fields.j0, if_neg h1, if_neg h2]) (Tell.step (fun k => ?_) (Tell.const _))
      rw [regattaref18_fields.j1, if_pos (by simp [h7])]
      rfl
    have h27 : ¬ (c.f0 = 2 ∨ c.f0 = 7) := fun h => h.elim h2 h7
    rw [if_neg h27]
    refine Tell.step (fun k => by rw [regattaref18_fields.j0, if_neg h1, if_neg h2]) ?_
    by_cases h3 : c.f0 = 3
    · rw [if_pos h3]
      exact Tell.step (g := fun _ => some [c.f1, c.f5.f0, c.f5.f1]) (fun k => by rw [regattaref18_fields.j1, if_neg (by simpa using h7), if_pos h3]) (Tell.const _)
    by_cases h4 : c.f0 = 4
    · rw [if_neg h3, if_pos h4]
      exact Tell.step (g := fun _ => some [c.f1, c.f3]) (fun k => by rw [regattaref18_fields.j1, if_neg (by simpa using h7), if_neg h3, if_pos h4]) (Tell.const _)
    by_cases h5 : c.f0 = 5
    · rw [if_neg h3, if_neg h4, if_pos h5]
      exact Tell.step (g := fun _ => some [c.f3]) (fun k => by rw [regattaref18_fields.j1, if_neg (by simpa using h7), if_neg h3, if_neg h4, if_pos h5]) (Tell.const _)
    · rw [if_neg h3, if_neg h4, if_neg h5]
      have h := reffields_l0 c hl c.f7.length 0 [wrap64 (c.f2 + 1), c.f4, (c.f7.length : Int)] (by omega) (by simp; omega)
      rw [List.drop_zero] at h
      refine Tell.step (fun k => ?_) h
      rw [regattaref18_fields.j1, if_neg (by simpa using h7), if_neg h3, if_neg h4, if_neg h5, if_pos (by omega)]
      rfl
  unfold regattaref18_fields.f
  by_cases he : c.f6 = true
  · rw [if_pos he] at hj
    exact Tell.of (fun k => by rw [if_pos he]) hj
  · rw [if_neg he] at hj
    exact Tell.of (fun k => by rw [if_neg he]) hj
def mostR (kd i : Int) : Int := if kd = 1 ∧ i = 1 then 1 else if kd = 6 ∧ i = 2 then 8 else if (kd = 1 ∨ kd = 6) ∧ i = 0 then 1073741825 else 1073741824
theorem most_t (kd i : Int) : Tell (fun k => regattaref18_most.f k kd i) (mostR kd i) := by
  unfold regattaref18_most.f mostR
  have hj1 : ∀ b : Bool, (b = true ↔ kd = 6 ∧ i = 2) → ¬ (kd = 1 ∧ i = 1) → Tell (fun k => regattaref18_most.j1 k kd i b) (if kd = 1 ∧ i = 1 then 1 else if kd = 6 ∧ i = 2 then 8 else if (kd = 1 ∨ kd = 6) ∧ i = 0 then 1073741825 else 1073741824) := by
    intro b hb hn
    rw [if_neg hn]
    by_cases hbt : b = true
    · rw [if_pos (hb.1 hbt)]
      exact Tell.step (fun k => by rw [regattaref18_most.j1, if_pos hbt]) (Tell.const _)
    · rw [if_neg (fun h => hbt (hb.2 h))]
      refine Tell.step (g := fun _ => some (if (kd = 1 ∨ kd = 6) ∧ i = 0 then 1073741825 else 1073741824)) (fun k => ?_) (Tell.const _)
      rw [regattaref18_most.j1, if_neg hbt]
      by_cases h1 : kd = 1
      · rw [if_pos h1]
        by_cases h0 : i = 0
        · rw [if_pos h0, if_pos ⟨.inl h1, h0⟩]
        · rw [if_neg h0, if_neg (fun h => h0 h.2)]
      · rw [if_neg h1]
        by_cases h6 : kd = 6
        · rw [if_pos h6]
          by_cases h0 : i = 0
          · rw [if_pos h0, if_pos ⟨.inr h6, h0⟩]
          · rw [if_neg h0, if_neg (fun h => h0 h.2)]
        · rw [if_neg h6, if_neg (fun h => h.1.elim h1 h6)]
  have hj0 : ∀ b : Bool, (b = true ↔ kd = 1 ∧ i = 1) → Tell (fun k => regattaref18_most.j0 k kd i b) (if kd = 1 ∧ i = 1 then 1 else if kd = 6 ∧ i = 2 then 8 else if (kd = 1 ∨ kd = 6) ∧ i = 0 then 1073741825 else 1073741824) := by
    intro b hb
    by_cases hbt : b = true
    · rw [if_pos (hb.1 hbt)]
      exact Tell.step (fun k => by rw [regattaref18_most.j0, if_pos hbt]) (Tell.const _)
    · have hn : ¬ (kd = 1 ∧ i = 1) := fun h => hbt (hb.2 h)
      by_cases h6 : kd = 6
      · exact Tell.step (fun k => by rw [regattaref18_most.j0, if_neg hbt, if_pos h6]) (hj1 (i == 2) (by simp [h6]) hn)
      · exact Tell.step (fun k => by rw [regattaref18_most.j0, if_neg hbt, if_neg h6]) (hj1 false (by simp [h6]) hn)
  by_cases h1 : kd = 1
  · exact Tell.of (fun k => by rw [if_pos h1]) (hj0 (i == 1) (by simp [h1]))
  · exact Tell.of (fun k => by rw [if_neg h1]) (hj0 false (by simp [h1]))
theorem flds_most (c : S31) (hk0 : 1 ≤ c.f0) (hk1 : c.f0 ≤ 7) (i : Nat) (h : i < (flds c).length) : (flds c)[i].2 = mostR c.f0 (i : Int) := by
  have hg : (flds c)[i]? = some (flds c)[i] := List.getElem?_eq_getElem h
  generalize (flds c)[i] = x at hg
  unfold flds at hg
  unfold mostR
  by_cases h1 : c.f0 = 1
  · rw [if_pos h1] at hg
    match i, hg with
    | 0, hg => simp at hg; subst hg; simp [h1]
    | 1, hg => simp at hg; subst hg; simp [h1]
    | 2, hg => simp at hg; subst hg; simp [h1]
    | 3, hg => simp at hg; subst hg; simp [h1]
    | i + 4, hg => simp at hg
  rw [if_neg h1] at hg
  by_cases h27 : c.f0 = 2 ∨ c.f0 = 7
  · rw [if_pos h27] at hg
    match i, hg with
    | 0, hg => simp at hg; subst hg; rw [if_neg (by omega), if_neg (by omega), if_neg (by omega)]
    | i + 1, hg => simp at hg
  rw [if_neg h27] at hg
  by_cases h3 : c.f0 = 3
  · rw [if_pos h3] at hg
    match i, hg with
    | 0, hg => simp at hg; subst hg; rw [if_neg (by omega), if_neg (by omega), if_neg (by omega)]
    | 1, hg => simp at hg; subst hg; rw [if_neg (by omega), if_neg (by omega), if_neg (by omega)]
    | 2, hg => simp at hg; subst hg; rw [if_neg (by omega), if_neg (by omega), if_neg (by omega)]
    | i + 3, hg => simp at hg
  rw [if_neg h3] at hg
  by_cases h4 : c.f0 = 4
  · rw [if_pos h4] at hg
    match i, hg with
    | 0, hg => simp at hg; subst hg; rw [if_neg (by omega), if_neg (by omega), if_neg (by omega)]
    | 1, hg => simp at hg; subst hg; rw [if_neg (by omega), if_neg (by omega), if_neg (by omega)]
    | i + 2, hg => simp at hg
  rw [if_neg h4] at hg
  by_cases h5 : c.f0 = 5
  · rw [if_pos h5] at hg
    match i, hg with
    | 0, hg => simp at hg; subst hg; rw [if_neg (by omega), if_neg (by omega), if_neg (by omega)]
    | i + 1, hg => simp at hg
  rw [if_neg h5] at hg
  have h6 : c.f0 = 6 := by omega
  match i, hg with
  | 0, hg => simp at hg; subst hg; simp [h6]
  | 1, hg => simp at hg; subst hg; simp [h6]
  | 2, hg => simp at hg; subst hg; simp [h6]
  | i + 3, hg =>
    have hm := List.mem_of_getElem? (show ((c.f7.map fun p => [(p.f0, (1073741824 : Int)), (p.f1, (1073741824 : Int))]).flatten)[i]? = some x by simpa using hg)
    obtain ⟨y, hy, hxy⟩ := List.mem_flatten.1 hm
    obtain ⟨q, hq, rfl⟩ := List.mem_map.1 hy
    rw [if_neg (by omega), if_neg (by omega), if_neg (by omega)]
    simp at hxy
    rcases hxy with h | h <;> (subst h; rfl)
def ofPairs : List Int → List S67
  | a :: b :: r => ⟨a, b⟩ :: ofPairs r
  | _ => []
theorem ofPairs_part (ps : List S67) : ofPairs ((partF ps).map (·.1)) = ps := by
  induction ps with
  | nil => rfl
  | cons p ps ih =>
    show (⟨p.f0, p.f1⟩ : S67) :: ofPairs ((partF ps).map (·.1)) = p :: ps
    rw [ih]
theorem command_l0 (f : List Int) (hf : f.length ≤ 1000000) (x0 x1 x2 x3 x4 x5 x6 : Int) (x7 : Bool) (d : Nat) : ∀ (i : Nat) (acc : List S67), i + 2 * d = f.length → acc.length + d ≤ 1000000 →
    Tell (fun k => regattaref18_command.l0 k f (i : Int) x0 x1 x2 x3 x4 x5 x6 x7 acc) (x0, x1, x2, x3, x4, x5, x6, x7, acc ++ ofPairs (f.drop i)) := by
  induction d with
  | zero =>
    intro i acc hi _
    rw [List.drop_of_length_le (by omega)]
    refine Tell.step (g := fun _ => some (x0, x1, x2, x3, x4, x5, x6, x7, acc)) (fun k => by rw [regattaref18_command.l0, w64 (by omega) (by omega), if_neg (by omega)]) ?_
    have e : acc ++ ofPairs [] = acc := by simp [ofPairs]
    rw [e]
    exact Tell.const _
  | succ d ih =>
    intro i acc hi ha
    have hlt : i < f.length := by omega
    have hlt2 : i + 1 < f.length := by omega
    have hdr : f.drop i = f[i] :: f[i + 1] :: f.drop (i + 2) := by rw [List.drop_eq_getElem_cons hlt, List.drop_eq_getElem_cons hlt2]
    have h2 := ih (i + 2) (acc ++ [⟨f[i], f[i + 1]⟩]) (by omega) (by simp; omega)
    have e : acc ++ ofPairs (f.drop i) = acc ++ [⟨f[i], f[i + 1]⟩] ++ ofPairs (f.drop (i + 2)) := by rw [hdr, List.append_assoc]; rfl
    rw [e]
    have w1 : wrap64 ((i : Int) + 1) = ((i + 1 : Nat) : Int) := w64 (by omega) (by omega)
    have w2 : wrap64 ((i : Int) + 2) = ((i + 2 : Nat) : Int) := w64 (by omega) (by omega)
    have c1 : ((i + 1 : Nat) : Int) < (f.length : Int) := by omega
    have c2 : (0 : Int) ≤ (i : Int) := by omega
    have c3 : (i : Int) < (f.length : Int) := by omega
    have c4 : (0 : Int) ≤ ((i + 1 : Nat) : Int) := by omega
    have c5 : acc.length < 8796093022208 := by omega
    refine Tell.step (fun k => ?_) h2
    rw [regattaref18_command.l0, w1, w2, if_pos c1, if_pos c2, if_pos c3, if_pos c4, if_pos c5, rdI f i hlt, rdI f (i + 1) hlt2]
theorem fldsR_len (c : S31) (h : c.f7.length ≤ 100000) : (fldsR c).length ≤ 1000000 := by
  unfold fldsR
  rw [List.length_map]
  have hp := partF_len c.f7
  unfold flds
  split
  · simp
  split
  · simp
  split
  · simp
  split
  · simp
  split
  · simp
  · rw [List.length_append]
    show 3 + (partF c.f7).length ≤ 1000000
    omega
theorem wr_back (x : Int) (h0 : -9223372036854775808 ≤ x) (h1 : x ≤ 9223372036854775807) : wrap64 (wrap64 (x + 1) - 1) = x := by unfold wrap64; omega
theorem command_t (c : S31) (hk0 : 1 ≤ c.f0) (hk1 : c.f0 ≤ 7) (hl : c.f7.length ≤ 100000) (hw0 : -9223372036854775808 ≤ c.f2) (hw1 : c.f2 ≤ 9223372036854775807) : Tell (fun k => regattaref18_command.f k c.f0 (fldsR c)) (tup (bareC c)) := by
  have hlen := fldsR_len c hl
  have hwb := wr_back c.f2 hw0 hw1
  unfold regattaref18_command.f bareC tup
  by_cases h1 : c.f0 = 1
  · have e : fldsR c = [wrap64 (c.f2 + 1), (if c.f6 = true then 1 else 0), c.f5.f0, c.f5.f1] := by unfold fldsR flds; rw [if_pos h1]; rfl
    rw [e, if_pos h1]
    refine Tell.of (g := fun _ => some (c.f0, 0, c.f2, 0, 0, c.f5.f0, c.f5.f1, c.f6, [])) (fun k => ?_) (Tell.const _)
    rw [if_pos h1, if_pos (by simp), if_pos (by simp), if_pos (by simp), if_pos (by simp)]
    have hb : ((if c.f6 = true then (1 : Int) else 0) == 1) = c.f6 := by cases c.f6 <;> rfl
    show some (c.f0, 0, wrap64 (wrap64 (c.f2 + 1) - 1), 0, 0, c.f5.f0, c.f5.f1, ((if c.f6 = true then (1 : Int) else 0) == 1), []) = _
    rw [hwb, hb]
  rw [if_neg h1]
  by_cases h2 : c.f0 = 2
  · have e : fldsR c = [c.f1] := by unfold fldsR flds; rw [if_neg h1, if_pos (Or.inl h2)]; rfl
    rw [e, if_pos (Or.inl h2)]
    refine Tell.of (fun k => by rw [if_neg h1, if_pos h2]) (Tell.step (g := fun _ => some (c.f0, c.f1, 0, 0, 0, 0, 0, false, [])) (fun k => ?_) (Tell.const _))
    rw [regattaref18_command.j0, if_pos (by simp [h2]), if_pos (by simp)]
    rfl
  by_cases h7 : c.f0 = 7
  · have e : fldsR c = [c.f1] := by unfold fldsR flds; rw [if_neg h1, if_pos (Or.inr h7)]; rfl
    rw [e, if_pos (Or.inr h7)]
    refine Tell.of (fun k => by rw [if_neg h1, if_neg h2]) (Tell.step (g := fun _ => some (c.f0, c.f1, 0, 0, 0, 0, 0, false, [])) (fun k => ?_) (Tell.const _))
    rw [regattaref18_command.j0, if_pos (by simp [h7]), if_pos (by simp)]
    rfl
  have h27 : ¬ (c.f0 = 2 ∨ c.f0 = 7) := fun h => h.elim h2 h7
  have hb7 : ¬ (c.f0 == 7) = true := by simpa using h7
  rw [if_neg h27]
  refine Tell.of (fun k => by rw [if_neg h1, if_neg h2]) ?_
  by_cases h3 : c.f0 = 3
  · have e : fldsR c = [c.f1, c.f5.f0, c.f5.f1] := by unfold fldsR flds; rw [if_neg h1, if_neg h27, if_pos h3]; rfl
    rw [e, if_pos h3]
    refine Tell.step (g := fun _ => some (c.f0, c.f1, 0, 0, 0, c.f5.f0, c.f5.f1, false, [])) (fun k => ?_) (Tell.const _)
    rw [regattaref18_command.j0, if_neg hb7, if_pos h3, if_pos (by simp), if_pos (by simp), if_pos (by simp)]
    rfl
  by_cases h4 : c.f0 = 4
  · have e : fldsR c = [c.f1, c.f3] := by unfold fldsR flds; rw [if_neg h1, if_neg h27, if_neg h3, if_pos h4]; rfl
    rw [e, if_neg h3, if_pos h4]
    refine Tell.step (g := fun _ => some (c.f0, c.f1, 0, c.f3, 0, 0, 0, false, [])) (fun k => ?_) (Tell.const _)
    rw [regattaref18_command.j0, if_neg hb7, if_neg h3, if_pos h4, if_pos (by simp), if_pos (by simp)]
    rfl
  by_cases h5 : c.f0 = 5
  · have e : fldsR c = [c.f3] := by unfold fldsR flds; rw [if_neg h1, if_neg h27, if_neg h3, if_neg h4, if_pos h5]; rfl
    rw [e, if_neg h3, if_neg h4, if_pos h5]
    refine Tell.step (g := fun _ => some (c.f0, 0, 0, c.f3, 0, 0, 0, false, [])) (fun k => ?_) (Tell.const _)
    rw [regattaref18_command.j0, if_neg hb7, if_neg h3, if_neg h4, if_pos h5, if_pos (by simp)]
    rfl
  have h6 : c.f0 = 6 := by omega
  have e : fldsR c = [wrap64 (c.f2 + 1), c.f4, (c.f7.length : Int)] ++ (partF c.f7).map (·.1) := by unfold fldsR flds; rw [if_neg h1, if_neg h27, if_neg h3, if_neg h4, if_neg h5]; rfl
  rw [if_neg h3, if_neg h4, if_neg h5, if_pos h6]
  have hpl := partF_len c.f7
  have hfl : (fldsR c).length = 3 + 2 * c.f7.length := by rw [e, List.length_append, List.length_map, hpl]; rfl
  have h := command_l0 (fldsR c) hlen c.f0 0 c.f2 0 c.f4 0 0 false c.f7.length 3 [] (by omega) (by simp; omega)
  have hd : (fldsR c).drop 3 = (partF c.f7).map (·.1) := by rw [e]; rfl
  rw [hd, ofPairs_part, List.nil_append] at h
  have r0 : rd (fldsR c) 0 = wrap64 (c.f2 + 1) := by rw [e]; rfl
  have r1 : rd (fldsR c) 1 = c.f4 := by rw [e]; rfl
  refine Tell.step (fun k => ?_) h
  rw [regattaref18_command.j0, if_neg hb7, if_neg h3, if_neg h4, if_neg h5, if_pos h6, if_pos (by omega), if_pos (by omega), r0, r1, hwb]
  rfl
end Go.Proofs.Ytfcoaneffdddkaa.QWireRef
