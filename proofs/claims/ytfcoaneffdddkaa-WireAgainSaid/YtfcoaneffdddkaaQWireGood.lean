/- Plain Lean: which commands a law takes; the document's Same, SameAll, Check. -/
import Derived.Test.YtfcoaneffdddkaaQWireRef
import Derived.Test.YtfcoaneffdddkaaPWtx17
import Derived.Test.YtfcoaneffdddkaaPWtx18
import Derived.Test.YtfcoaneffdddkaaPWtx22
import Derived.Test.YtfcoaneffdddkaaPWtx23
import Derived.Test.YtfcoaneffdddkaaPWtx28
namespace Go.Proofs.Ytfcoaneffdddkaa.QWireGood
open Go.RowKit Go.Proofs.Ytfcoaneffdddkaa.PWt Go.Proofs.YtfcoaneffdddkaaW.PrintWords Go.Proofs.YtfcoaneffdddkaaW.PrintLast Go.Proofs.Ytfcoaneffdddkaa.QEv Go.Proofs.Ytfcoaneffdddkaa.QBits Go.Proofs.Ytfcoaneffdddkaa.XFields Go.Proofs.Ytfcoaneffdddkaa.QWire Go.Proofs.Ytfcoaneffdddkaa.XBytes Go.Proofs.Ytfcoaneffdddkaa.QWireRef
set_option linter.unusedVariables false
set_option linter.unusedSimpArgs false

def restB (a b : S31) : Bool := decide (a.f0 = b.f0 ∧ a.f1 = b.f1 ∧ a.f2 = b.f2 ∧ a.f3 = b.f3 ∧ a.f4 = b.f4 ∧ a.f5.f0 = b.f5.f0 ∧ a.f5.f1 = b.f5.f1 ∧ a.f6 = b.f6)
theorem refsame_l0 (a b : S31) (hl : a.f7.length = b.f7.length) (hs : a.f7.length ≤ 1000000000) (d : Nat) : ∀ i, i + d = a.f7.length → Tell (fun k => regattaref18_Same.l0 k (i : Int) a.f0 a.f1 a.f2 a.f3 a.f4 a.f5.f0 a.f5.f1 a.f6 a.f7 b.f0 b.f1 b.f2 b.f3 b.f4 b.f5.f0 b.f5.f1 b.f6 b.f7) (decide (a.f7.drop i = b.f7.drop i) && restB a b) := by
  induction d with
  | zero =>
    intro i hi
    rw [List.drop_of_length_le (by omega), List.drop_of_length_le (by omega)]
    have e0 : (decide (([] : List S67) = []) && restB a b) = restB a b := by simp
    rw [e0]
    refine Tell.step (g := fun _ => some (restB a b)) (fun k => ?_) (Tell.const _)
    rw [regattaref18_Same.l0, if_neg (by omega)]
    unfold restB
    by_cases h0 : a.f0 = b.f0
    case neg => rw [if_neg h0, decide_eq_false (fun h => h0 h.1)]
    by_cases h1 : a.f1 = b.f1
    case neg => rw [if_pos h0, if_neg h1, decide_eq_false (fun h => h1 h.2.1)]
    by_cases h2 : a.f2 = b.f2
    case neg => rw [if_pos h0, if_pos h1, if_neg h2, decide_eq_false (fun h => h2 h.2.2.1)]
    by_cases h3 : a.f3 = b.f3
    case neg => rw [if_pos h0, if_pos h1, if_pos h2, if_neg h3, decide_eq_false (fun h => h3 h.2.2.2.1)]
    by_cases h4 : a.f4 = b.f4
    case neg => rw [if_pos h0, if_pos h1, if_pos h2, if_pos h3, if_neg h4, decide_eq_false (fun h => h4 h.2.2.2.2.1)]
    by_cases h5 : (a.f5.f0 == b.f5.f0 && (a.f5.f1 == b.f5.f1)) = true
    case neg => rw [if_pos h0, if_pos h1, if_pos h2, if_pos h3, if_pos h4, if_neg h5, decide_eq_false (fun h => h5 (by simp [h.2.2.2.2.2.1, h.2.2.2.2.2.2.1]))]
    rw [if_pos h0, if_pos h1, if_pos h2, if_pos h3, if_pos h4, if_pos h5]
    simp at h5
    have e1 : decide (a.f0 = b.f0 ∧ a.f1 = b.f1 ∧ a.f2 = b.f2 ∧ a.f3 = b.f3 ∧ a.f4 = b.f4 ∧ a.f5.f0 = b.f5.f0 ∧ a.f5.f1 = b.f5.f1 ∧ a.f6 = b.f6) = decide (a.f6 = b.f6) := decide_eq_decide.2 ⟨fun h => h.2.2.2.2.2.2.2, fun h => ⟨h0, h1, h2, h3, h4, h5.1, h5.2, h⟩⟩
    rw [e1]
    cases a.f6 <;> cases b.f6 <;> rfl
  | succ d ih =>
    intro i hi
    have hlt : i < a.f7.length := by omega
    have hlt2 : i < b.f7.length := by omega
    rw [List.drop_eq_getElem_cons hlt, List.drop_eq_getElem_cons hlt2]
    by_cases h : a.f7[i] = b.f7[i]
    · have h2 := ih (i + 1) (by omega)
      have e : decide (a.f7[i] :: a.f7.drop (i + 1) = b.f7[i] :: b.f7.drop (i + 1)) = decide (a.f7.drop (i + 1) = b.f7.drop (i + 1)) := by
        rw [h]
        exact decide_eq_decide.2 ⟨fun e => (List.cons.inj e).2, fun e => by rw [e]⟩
      rw [e]
      refine Tell.step (fun k => ?_) h2
      rw [regattaref18_Same.l0, if_pos (by omega), if_pos (by omega), if_pos (by omega), rdP a.f7 i hlt, rdP b.f7 i hlt2, if_neg (fun hn => (part_ne _ _).1 hn h), w64 (by omega) (by omega)]
      rfl
    · have e : decide (a.f7[i] :: a.f7.drop (i + 1) = b.f7[i] :: b.f7.drop (i + 1)) = false := decide_eq_false (fun e => h (List.cons.inj e).1)
      rw [e, Bool.false_and]
      refine Tell.step (fun k => ?_) (Tell.const _)
      rw [regattaref18_Same.l0, if_pos (by omega), if_pos (by omega), if_pos (by omega), rdP a.f7 i hlt, rdP b.f7 i hlt2, if_pos ((part_ne _ _).2 h)]
theorem refsame_t (a b : S31) (hs : a.f7.length ≤ 1000000000) : Tell (fun k => regattaref18_Same.f k a.f0 a.f1 a.f2 a.f3 a.f4 a.f5.f0 a.f5.f1 a.f6 a.f7 b.f0 b.f1 b.f2 b.f3 b.f4 b.f5.f0 b.f5.f1 b.f6 b.f7) (decide (a = b)) := by
  unfold regattaref18_Same.f
  by_cases h : a.f7.length = b.f7.length
  · have h2 := refsame_l0 a b h hs a.f7.length 0 (by omega)
    rw [List.drop_zero, List.drop_zero] at h2
    have e : (decide (a.f7 = b.f7) && restB a b) = decide (a = b) := by
      unfold restB
      rw [← Bool.decide_and]
      refine decide_eq_decide.2 ⟨fun h => (cmd_eq a b).2 ?_, fun h => ?_⟩
      · obtain ⟨h7, h0, h1, h2, h3, h4, h5, h6, h8⟩ := h
        exact ⟨h0, h1, h2, h3, h4, h5, h6, h8, h7⟩
      · obtain ⟨h0, h1, h2, h3, h4, h5, h6, h8, h7⟩ := (cmd_eq a b).1 h
        exact ⟨h7, h0, h1, h2, h3, h4, h5, h6, h8⟩
    rw [← e]
    exact Tell.of (fun k => by rw [if_pos (by omega)]; rfl) h2
  · have e : decide (a = b) = false := decide_eq_false (fun he => h (by rw [he]))
    rw [e]
    exact Tell.of (fun k => by rw [if_neg (by omega)]) (Tell.const _)
/-- Whole numbers of 64 bits. -/
def Wf (c : S31) : Prop := -9223372036854775808 ≤ c.f2 ∧ c.f2 ≤ 9223372036854775807
theorem refcheck_l0 (c : S31) (hk0 : 1 ≤ c.f0) (hk1 : c.f0 ≤ 7) (hl : c.f7.length ≤ 100000) (hw : Wf c) (d : Nat) : ∀ i, i + d = (flds c).length →
    Tell (fun k => regattaref18_Check.l0 k (fldsR c) (i : Int) c.f0 c.f1 c.f2 c.f3 c.f4 c.f5.f0 c.f5.f1 c.f6 c.f7) (((flds c).drop i).all (fun x => decide (0 ≤ x.1 ∧ x.1 ≤ x.2)) && decide (c = bareC c)) := by
  have hlen : (fldsR c).length = (flds c).length := by unfold fldsR; rw [List.length_map]
  have hle := fldsR_len c hl
  induction d with
  | zero =>
    intro i hi
    rw [List.drop_of_length_le (by omega)]
    have hb7 : (bareC c).f7.length ≤ 1000000000 := by
      have h : (bareC c).f7 = c.f7 ∨ (bareC c).f7 = [] := by
        unfold bareC
        split
        · exact .inr rfl
        split
        · exact .inr rfl
        split
        · exact .inr rfl
        split
        · exact .inr rfl
        split
        · exact .inr rfl
        split
        · exact .inl rfl
        · exact .inr rfl
      rcases h with h | h <;> rw [h]
      · omega
      · simp
    have hc := command_t c hk0 hk1 hl hw.1 hw.2
    have hs := refsame_t (bareC c) c hb7
    have e : (([] : List (Int × Int)).all (fun x => decide (0 ≤ x.1 ∧ x.1 ≤ x.2)) && decide (c = bareC c)) = decide (bareC c = c) := by
      rw [List.all_nil, Bool.true_and]
      exact decide_eq_decide.2 ⟨Eq.symm, Eq.symm⟩
    rw [e]
    refine Tell.step (fun k => by rw [regattaref18_Check.l0, if_neg (by omega)]) (Tell.bind hc (Tell.bind hs (Tell.const _)))
  | succ d ih =>
    intro i hi
    have hlt : i < (flds c).length := by omega
    have hlt2 : i < (fldsR c).length := by omega
    have hrd : rd (fldsR c) (i : Int) = (flds c)[i].1 := by
      rw [rdI (fldsR c) i hlt2]
      simp [fldsR]
    have hmo := flds_most c hk0 hk1 i hlt
    have hm := most_t c.f0 (i : Int)
    rw [← hmo] at hm
    rw [List.drop_eq_getElem_cons hlt, List.all_cons]
    generalize (flds c)[i] = x at *
    by_cases h0 : x.1 < 0
    · have e : decide (0 ≤ x.1 ∧ x.1 ≤ x.2) = false := decide_eq_false (by omega)
      rw [e]
      refine Tell.step (g := fun _ => some false) (fun k => ?_) (Tell.const _)
      rw [regattaref18_Check.l0, if_pos (by omega), if_pos (by omega), hrd, if_pos h0]
    refine Tell.step (fun k => by rw [regattaref18_Check.l0, if_pos (by omega), if_pos (by omega), hrd, if_neg h0]) (Tell.bind hm ?_)
    by_cases h1 : x.1 > x.2
    · have e : decide (0 ≤ x.1 ∧ x.1 ≤ x.2) = false := decide_eq_false (by omega)
      rw [e]
      exact Tell.of (g := fun _ => some false) (fun k => by rw [if_pos h1]) (Tell.const _)
    · have e : decide (0 ≤ x.1 ∧ x.1 ≤ x.2) = true := decide_eq_true (by omega)
      rw [e, Bool.true_and]
      exact Tell.of (fun k => by rw [if_neg h1, w64 (by omega) (by omega)]; rfl) (ih (i + 1) (by omega))
theorem flds_server {c : S31} (hw : Wf c) (h2 : c.f2 < -1) : chkW c = false := by
  unfold chkW
  by_cases hb : c = bareC c
  · by_cases h16 : c.f0 = 1 ∨ c.f0 = 6
    · have hm : (wrap64 (c.f2 + 1), (1073741825 : Int)) ∈ flds c := by
        unfold flds
        rcases h16 with h | h
        · rw [if_pos h]; simp
        · rw [if_neg (by omega), if_neg (by omega), if_neg (by omega), if_neg (by omega), if_neg (by omega)]; simp
      have hwr : wrap64 (c.f2 + 1) = c.f2 + 1 := w64 (by have := hw.1; omega) (by omega)
      have hf : ((flds c).all fun x => decide (0 ≤ x.1 ∧ x.1 ≤ x.2)) = false := by
        rw [List.all_eq_false]
        exact ⟨_, hm, by simp only [hwr]; simp; omega⟩
      rw [hf]
      simp
    · exfalso
      have h : (bareC c).f2 = 0 := by
        unfold bareC
        split
        · omega
        split
        · rfl
        split
        · rfl
        split
        · rfl
        split
        · rfl
        split
        · omega
        · rfl
      rw [← hb] at h
      omega
  · rw [decide_eq_false hb]
    simp
theorem refcheck_t (c : S31) (hl : c.f7.length ≤ 100000) (hw : Wf c) : Tell (fun k => regattaref18_Check.f k c.f0 c.f1 c.f2 c.f3 c.f4 c.f5.f0 c.f5.f1 c.f6 c.f7) (chkW c) := by
  unfold regattaref18_Check.f
  by_cases h1 : c.f0 < 1
  · have e : chkW c = false := by unfold chkW; rw [decide_eq_false (by omega)]; rfl
    rw [e]
    refine Tell.of (fun k => by rw [if_pos h1]) (Tell.step (g := fun _ => some false) (fun k => ?_) (Tell.const _))
    rw [regattaref18_Check.j0, if_pos rfl]
  by_cases h7 : c.f0 > 7
  · have e : chkW c = false := by unfold chkW; rw [decide_eq_false (by omega)]; rfl
    rw [e]
    refine Tell.of (fun k => by rw [if_neg h1, if_pos h7]) (Tell.step (g := fun _ => some false) (fun k => ?_) (Tell.const _))
    rw [regattaref18_Check.j0, if_pos rfl]
  refine Tell.of (fun k => by rw [if_neg h1, if_neg h7]) ?_
  by_cases h2 : c.f2 < -1
  · rw [flds_server hw h2]
    refine Tell.step (g := fun _ => some false) (fun k => ?_) (Tell.const _)
    rw [regattaref18_Check.j0, if_pos (decide_eq_true h2)]
  · have hf := reffields_t c (by omega) (by omega) hl
    have hl0 := refcheck_l0 c (by omega) (by omega) hl hw (flds c).length 0 (by omega)
    have e : chkW c = (((flds c).drop 0).all (fun x => decide (0 ≤ x.1 ∧ x.1 ≤ x.2)) && decide (c = bareC c)) := by
      unfold chkW
      rw [decide_eq_true (by omega), Bool.true_and, List.drop_zero, Bool.and_comm]
    rw [e]
    refine Tell.step (fun k => by rw [regattaref18_Check.j0, if_neg (by simp; omega)]) (Tell.bind hf ?_)
    exact hl0
/-! ### The commands that a law takes -/
def trim (c : S31) : S31 := if 9 < c.f7.length then ⟨c.f0, c.f1, c.f2, c.f3, c.f4, c.f5, c.f6, c.f7.take 9⟩ else c
def fewL (l : List S31) : List S31 := (l.take 8).map trim
theorem few_l0 (l : List S31) (hl : l.length ≤ 9223372036854775807) (d : Nat) : ∀ (i : Nat) (acc : List S31), i + d = (l.take 8).length → acc.length ≤ i →
    Tell (fun k => regattalaw18_few.l0 k l acc (i : Int)) (acc ++ ((l.take 8).drop i).map trim) := by
  induction d with
  | zero =>
    intro i acc hi ha
    rw [List.drop_of_length_le (by omega), List.map_nil, List.append_nil]
    rw [List.length_take] at hi
    by_cases h : i < l.length
    · refine Tell.step (fun k => by rw [regattalaw18_few.l0, if_pos (by omega), decide_eq_false (by omega)]) (Tell.step (g := fun _ => some acc) (fun k => ?_) (Tell.const _))
      rw [regattalaw18_few.j1, if_neg (by decide)]
    · refine Tell.step (fun k => by rw [regattalaw18_few.l0, if_neg (by omega)]) (Tell.step (g := fun _ => some acc) (fun k => ?_) (Tell.const _))
      rw [regattalaw18_few.j1, if_neg (by decide)]
  | succ d ih =>
    intro i acc hi ha
    have h8 : i < (l.take 8).length := by omega
    have hlen : (l.take 8).length ≤ 8 := by rw [List.length_take]; omega
    have hlt : i < l.length := by rw [List.length_take] at h8; omega
    have h2 := ih (i + 1) (acc ++ [trim l[i]]) (by omega) (by simp; omega)
    have hg : (l.take 8)[i] = l[i] := by simp
    rw [List.drop_eq_getElem_cons h8, hg, List.map_cons]
    have e : acc ++ trim l[i] :: ((l.take 8).drop (i + 1)).map trim = acc ++ [trim l[i]] ++ ((l.take 8).drop (i + 1)).map trim := by simp
    rw [e]
    have hrd := rdC l i hlt
    refine Tell.step (fun k => by rw [regattalaw18_few.l0, if_pos (by omega), decide_eq_true (by omega)]) (Tell.step (fun k => ?_) h2)
    rw [regattalaw18_few.j1, if_pos rfl, if_pos (by omega), if_pos (by omega), hrd, w64 (by omega) (by omega)]
    unfold trim
    by_cases h9 : 9 < l[i].f7.length
    · rw [if_pos (by omega), if_pos (by omega), if_pos (by omega), if_pos h9]
      rfl
    · rw [if_neg (by omega), if_pos (by omega), if_neg h9]
      rfl
theorem few_t (l : List S31) (hl : l.length ≤ 9223372036854775807) : Tell (fun k => regattalaw18_few.f k l) (fewL l) := by
  have h := few_l0 l hl (l.take 8).length 0 [] (by omega) (by simp)
  exact h
theorem trim_len (c : S31) : (trim c).f7.length ≤ 9 := by
  unfold trim
  split
  · rw [List.length_take]; omega
  · omega
theorem trim_wf {c : S31} (h : Wf c) : Wf (trim c) := by
  unfold trim
  split
  · exact h
  · exact h
theorem few_mem {l : List S31} {c : S31} (h : c ∈ fewL l) : c.f7.length ≤ 9 ∧ ((∀ c ∈ l, Wf c) → Wf c) := by
  obtain ⟨d, hd, rfl⟩ := List.mem_map.1 h
  exact ⟨trim_len d, fun hw => trim_wf (hw d (List.mem_of_mem_take hd))⟩
theorem few_len (l : List S31) : (fewL l).length ≤ 8 := by unfold fewL; rw [List.length_map, List.length_take]; omega
theorem good_l0 (m : List S31) (hm : m.length ≤ 8) (hp : ∀ c ∈ m, c.f7.length ≤ 9 ∧ Wf c) (d : Nat) : ∀ (i : Nat) (acc : List S31), i + d = m.length → acc.length ≤ i → Tell (fun k => regattalaw18_good.l0 k acc m (i : Int)) (acc ++ (m.drop i).filter chkW) := by
  induction d with
  | zero =>
    intro i acc hi ha
    rw [List.drop_of_length_le (by omega), List.filter_nil, List.append_nil]
    exact Tell.step (g := fun _ => some acc) (fun k => by rw [regattalaw18_good.l0, if_neg (by omega)]) (Tell.const _)
  | succ d ih =>
    intro i acc hi ha
    have hlt : i < m.length := by omega
    have hrd := rdC m i hlt
    have hpc := hp m[i] (List.getElem_mem hlt)
    have hc := refcheck_t m[i] (by omega) hpc.2
    rw [List.drop_eq_getElem_cons hlt, List.filter_cons]
    refine Tell.step (fun k => by rw [regattalaw18_good.l0, if_pos (by omega), if_pos (by omega), hrd]) (Tell.bind hc ?_)
    by_cases h : chkW m[i] = true
    · rw [if_pos h]
      have h2 := ih (i + 1) (acc ++ [m[i]]) (by omega) (by simp; omega)
      have e : acc ++ m[i] :: (m.drop (i + 1)).filter chkW = acc ++ [m[i]] ++ (m.drop (i + 1)).filter chkW := by simp
      rw [e]
      exact Tell.of (fun k => by rw [if_pos h, if_pos (by omega), w64 (by omega) (by omega)]; rfl) h2
    · rw [if_neg h]
      have h2 := ih (i + 1) acc (by omega) (by omega)
      exact Tell.of (fun k => by rw [if_neg h, w64 (by omega) (by omega)]; rfl) h2
def goodL (l : List S31) : List S31 := (fewL l).filter chkW
theorem good_t (l : List S31) (hl : l.length ≤ 9223372036854775807) (hw : ∀ c ∈ l, Wf c) : Tell (fun k => regattalaw18_good.f k l) (goodL l) := by
  unfold regattalaw18_good.f
  refine Tell.bind (few_t l hl) ?_
  exact good_l0 (fewL l) (few_len l) (fun c hc => ⟨(few_mem hc).1, (few_mem hc).2 hw⟩) (fewL l).length 0 [] (by omega) (by simp)
theorem good_len (l : List S31) : (goodL l).length ≤ 8 := Nat.le_trans (List.length_filter_le _ _) (few_len l)
theorem good_chk (l : List S31) : ∀ c ∈ goodL l, chkW c = true := fun c hc => (List.mem_filter.1 hc).2
theorem good_all (l : List S31) : (goodL l).all chkW = true := List.all_eq_true.2 (good_chk l)
theorem all_l0 (a b : List S31) (hl : a.length = b.length) (hs : a.length ≤ 1000000000) (hp : ∀ c ∈ a, c.f7.length ≤ 1000000000) (d : Nat) : ∀ i, i + d = a.length → Tell (fun k => regattaref18_SameAll.l0 k a b (i : Int)) (decide (a.drop i = b.drop i)) := by
  induction d with
  | zero =>
    intro i hi
    rw [List.drop_of_length_le (by omega), List.drop_of_length_le (by omega)]
    exact Tell.step (g := fun _ => some (decide (([] : List S31) = []))) (fun k => by rw [regattaref18_SameAll.l0, if_neg (by omega)]; simp) (Tell.const _)
  | succ d ih =>
    intro i hi
    have hlt : i < a.length := by omega
    have hlt2 : i < b.length := by omega
    have hs := refsame_t a[i] b[i] (hp _ (List.getElem_mem hlt))
    rw [List.drop_eq_getElem_cons hlt, List.drop_eq_getElem_cons hlt2]
    refine Tell.step (fun k => by rw [regattaref18_SameAll.l0, if_pos (by omega), if_pos (by omega), if_pos (by omega), rdC a i hlt, rdC b i hlt2]) (Tell.bind hs ?_)
    by_cases h : a[i] = b[i]
    · have h2 := ih (i + 1) (by omega)
      have e : decide (a[i] :: a.drop (i + 1) = b[i] :: b.drop (i + 1)) = decide (a.drop (i + 1) = b.drop (i + 1)) := by
        rw [h]
        exact decide_eq_decide.2 ⟨fun e => (List.cons.inj e).2, fun e => by rw [e]⟩
      rw [e]
      exact Tell.of (fun k => by rw [if_pos (decide_eq_true h), w64 (by omega) (by omega)]; rfl) h2
    · have e : decide (a[i] :: a.drop (i + 1) = b[i] :: b.drop (i + 1)) = false := decide_eq_false (fun e => h (List.cons.inj e).1)
      rw [e]
      exact Tell.of (g := fun _ => some false) (fun k => by rw [if_neg (by simpa using h)]) (Tell.const _)
theorem sameall_t (a b : List S31) (hs : a.length ≤ 1000000000) (hp : ∀ c ∈ a, c.f7.length ≤ 1000000000) : Tell (fun k => regattaref18_SameAll.f k a b) (decide (a = b)) := by
  unfold regattaref18_SameAll.f
  by_cases h : a.length = b.length
  · exact Tell.of (fun k => by rw [if_pos (by omega)]; rfl) (all_l0 a b h hs hp a.length 0 (by omega))
  · have e : decide (a = b) = false := decide_eq_false (fun he => h (by rw [he]))
    rw [e]
    exact Tell.of (fun k => by rw [if_neg (by omega)]) (Tell.const _)
end Go.Proofs.Ytfcoaneffdddkaa.QWireGood
