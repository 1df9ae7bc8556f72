/- Plain Lean: the program's and the document's reading of a row, step by step. -/
import Derived.Test.YtlblianpbjhmoaaQReadGo

namespace Go.Proofs.Ytlblianpbjhmoaa.QReadRow
open Go.RowKit Go.Proofs.Ytlblianpbjhmoaa.PGs Go.Proofs.YtlblianpbjhmoaaW.PrintWords Go.Proofs.YtlblianpbjhmoaaW.PrintLast
open Go.Proofs.Ytlblianpbjhmoaa.QEv Go.Proofs.Ytlblianpbjhmoaa.QBits Go.Proofs.Ytlblianpbjhmoaa.QSlot Go.Proofs.Ytlblianpbjhmoaa.QCount Go.Proofs.Ytlblianpbjhmoaa.QMade16 Go.Proofs.Ytlblianpbjhmoaa.QBytes Go.Proofs.Ytlblianpbjhmoaa.QBack Go.Proofs.Ytlblianpbjhmoaa.MPut Go.Proofs.Ytlblianpbjhmoaa.MNext Go.Proofs.Ytlblianpbjhmoaa.QReads Go.Proofs.Ytlblianpbjhmoaa.QReadGo
set_option linter.unusedVariables false
set_option linter.unusedSimpArgs false

/-! ### Runs -/
theorem rruns_bad (k : Nat) (s : ByteArray) (m : Nat) (pos core : Int) (acc : List S59) : rrunsP k s m pos true core acc = some (acc, pos, true) := by
  cases m with
  | zero => rfl
  | succ m => rw [rrunsP, if_pos rfl]
theorem runs_some {s : ByteArray} (hs : s.size ≤ 1000000000) : ∀ (n : Nat) (P t : ByteArray) (core : Int) (acc rs : List S59) (t2 : ByteArray), s = P ++ t → 0 ≤ core → core + 1023 * (n : Int) ≤ 1000000000 → runsP n t core acc = some (rs, t2) →
    ∃ xs : List S59, rs = acc ++ xs ∧ xs.length = n ∧ s = (P ++ strOfNums (vnums (runNums core xs))) ++ t2 ∧ Tell (fun k => rrunsP k s n (P.size : Int) false core acc) (rs, ((P ++ strOfNums (vnums (runNums core xs))).size : Int), false) := by
  intro n
  induction n with
  | zero =>
    intro P t core acc rs t2 e _ _ h
    have h1 := Option.some.inj h
    injection h1 with h1 h2
    subst h1
    subst h2
    have e0 : P ++ strOfNums (vnums (runNums core [])) = P := by apply ByteArray.ext; simp [runNums, vnums, strOfNums]
    refine ⟨[], by simp, rfl, by rw [e0]; exact e, ?_⟩
    rw [e0]
    exact Tell.const _
  | succ n ih =>
    intro P t core acc rs t2 e hc0 hc1 h
    simp only [runsP] at h
    split at h
    · cases h
    rename_i d t1 n1
    split at h
    · cases h
    rename_i id t3 n2
    split at h
    · cases h
    rename_i ix t4 n3
    have b1 := nextP_bound n1
    have b2 := nextP_bound n2
    have b3 := nextP_bound n3
    have hw : wrap64 (core + d) = core + d := w64 (by omega) (by omega)
    rw [hw] at h
    obtain ⟨e1, r1⟩ := rn_some hs e (by omega) n1
    obtain ⟨e2, r2⟩ := rn_some hs e1 (by omega) n2
    obtain ⟨e3, r3⟩ := rn_some hs e2 (by omega) n3
    obtain ⟨xs, hx, hlen, hse, ht⟩ := ih _ _ _ _ _ _ e3 (by omega) (by omega) h
    have eN : P ++ strOfNums (vnums (runNums core ((⟨id, core + d, ix⟩ : S59) :: xs))) = P ++ strOfNums (vnum d.toNat) ++ strOfNums (vnum id.toNat) ++ strOfNums (vnum ix.toNat) ++ strOfNums (vnums (runNums (core + d) xs)) := by
      have e0 : runNums core ((⟨id, core + d, ix⟩ : S59) :: xs) = d :: id :: ix :: runNums (core + d) xs := by
        show (core + d - core) :: id :: ix :: runNums (core + d) xs = _
        rw [show core + d - core = d by omega]
      rw [e0, vnums_cons, vnums_cons, vnums_cons, strOf_append, strOf_append, strOf_append]
      simp only [ByteArray.append_assoc]
    refine ⟨(⟨id, core + d, ix⟩ : S59) :: xs, by rw [hx]; simp, by simp [hlen], by rw [eN]; exact hse, ?_⟩
    rw [eN]
    refine Tell.of (fun k => by rw [rrunsP, if_neg (by decide)]) (Tell.bind r1 (Tell.bind r2 (Tell.bind r3 ?_)))
    exact Tell.of (fun k => by rw [hw]) ht
theorem runs_none {s : ByteArray} (hs : s.size ≤ 1000000000) : ∀ (n : Nat) (P t : ByteArray) (core : Int) (acc : List S59), s = P ++ t → runsP n t core acc = none →
    ∃ (rs : List S59) (p : ByteArray) (q : ByteArray), s = p ++ q ∧ Tell (fun k => rrunsP k s n (P.size : Int) false core acc) (rs, (p.size : Int), true) := by
  intro n
  induction n with
  | zero => intro P t core acc _ h; cases h
  | succ n ih =>
    intro P t core acc e h
    simp only [runsP] at h
    split at h
    · rename_i n1
      have r1 := rn_none hs e (by omega) n1
      refine ⟨acc ++ [(⟨0, wrap64 (core + 0), 0⟩ : S59)], P, t, e, Tell.of (fun k => by rw [rrunsP, if_neg (by decide)]) (Tell.bind r1 (Tell.bind (rn_bad hs e) (Tell.bind (rn_bad hs e) ?_)))⟩
      exact Tell.of (fun k => rruns_bad _ _ _ _ _ _) (Tell.const _)
    rename_i d t1 n1
    obtain ⟨e1, r1⟩ := rn_some hs e (by omega) n1
    split at h
    · rename_i n2
      have r2 := rn_none hs e1 (by omega) n2
      refine ⟨acc ++ [(⟨0, wrap64 (core + d), 0⟩ : S59)], _, _, e1, Tell.of (fun k => by rw [rrunsP, if_neg (by decide)]) (Tell.bind r1 (Tell.bind r2 (Tell.bind (rn_bad hs e1) ?_)))⟩
      exact Tell.of (fun k => rruns_bad _ _ _ _ _ _) (Tell.const _)
    rename_i id t3 n2
    obtain ⟨e2, r2⟩ := rn_some hs e1 (by omega) n2
    split at h
    · rename_i n3
      have r3 := rn_none hs e2 (by omega) n3
      refine ⟨acc ++ [(⟨id, wrap64 (core + d), 0⟩ : S59)], _, _, e2, Tell.of (fun k => by rw [rrunsP, if_neg (by decide)]) (Tell.bind r1 (Tell.bind r2 (Tell.bind r3 ?_)))⟩
      exact Tell.of (fun k => rruns_bad _ _ _ _ _ _) (Tell.const _)
    rename_i ix t4 n3
    obtain ⟨e3, r3⟩ := rn_some hs e2 (by omega) n3
    obtain ⟨rs, p, q, hpq, ht⟩ := ih _ _ _ _ e3 h
    refine ⟨rs, p, q, hpq, Tell.of (fun k => by rw [rrunsP, if_neg (by decide)]) (Tell.bind r1 (Tell.bind r2 (Tell.bind r3 ?_)))⟩
    exact ht
/-! ### A slot, and slots -/
theorem slot_some {s P t t2 : ByteArray} {at0 : Int} {x : S57} (hs : s.size ≤ 1000000000) (e : s = P ++ t) (h : slotP t at0 = some (x, t2)) :
    x.f0 = at0 ∧ x.f1.length ≤ 1024 ∧ s = (P ++ strOfNums (vnums (slotNums x))) ++ t2 ∧ ∃ q : Int × Int × Bool, Tell (fun k => rn k s (P.size : Int) false 1024) q ∧ Tell (fun k => rrunsP k s q.1.toNat q.2.1 q.2.2 0 []) (x.f1, ((P ++ strOfNums (vnums (slotNums x))).size : Int), false) := by
  unfold slotP at h
  split at h
  · cases h
  rename_i n t1 n1
  split at h
  · cases h
  rename_i rs t3 n2
  have h1 := Option.some.inj h
  injection h1 with h1 h2
  subst h1
  subst h2
  have b1 := nextP_bound n1
  obtain ⟨e1, r1⟩ := rn_some hs e (by omega) n1
  obtain ⟨xs, hx, hlen, hse, ht⟩ := runs_some hs n.toNat _ _ 0 [] rs t3 e1 (by omega) (by omega) n2
  rw [List.nil_append] at hx
  subst hx
  have eN : P ++ strOfNums (vnums (slotNums (⟨at0, rs⟩ : S57))) = P ++ strOfNums (vnum n.toNat) ++ strOfNums (vnums (runNums 0 rs)) := by
    have e0 : slotNums (⟨at0, rs⟩ : S57) = n :: runNums 0 rs := by
      show ((rs.length : Nat) : Int) :: runNums 0 rs = _
      rw [hlen, Int.toNat_of_nonneg b1.1]
    rw [e0, vnums_cons, strOf_append, ByteArray.append_assoc]
  rw [eN]
  exact ⟨rfl, by show rs.length ≤ 1024; omega, hse, _, r1, ht⟩
theorem slot_none {s P t : ByteArray} {at0 : Int} (hs : s.size ≤ 1000000000) (e : s = P ++ t) (h : slotP t at0 = none) :
    ∃ q : Int × Int × Bool, Tell (fun k => rn k s (P.size : Int) false 1024) q ∧ ∃ (rs : List S59) (p r : ByteArray), s = p ++ r ∧ Tell (fun k => rrunsP k s q.1.toNat q.2.1 q.2.2 0 []) (rs, (p.size : Int), true) := by
  unfold slotP at h
  split at h
  · rename_i n1
    refine ⟨_, rn_none hs e (by omega) n1, [], P, t, e, Tell.of (fun k => rruns_bad _ _ _ _ _ _) (Tell.const _)⟩
  rename_i n t1 n1
  obtain ⟨e1, r1⟩ := rn_some hs e (by omega) n1
  split at h
  · rename_i n2
    obtain ⟨rs, p, r, hpr, ht⟩ := runs_none hs n.toNat _ _ 0 [] e1 n2
    exact ⟨_, r1, rs, p, r, hpr, ht⟩
  · cases h
theorem rslots_bad (k : Nat) (s : ByteArray) (at0 : Int) (m : Nat) (pos i : Int) (acc : List S57) : rslotsP k s at0 m pos true i acc = some (acc, pos, true) := by
  cases m with
  | zero => rfl
  | succ m => rw [rslotsP, if_pos rfl]
theorem slots_some {s : ByteArray} (hs : s.size ≤ 1000000000) (at0 : Int) : ∀ (n : Nat) (P t : ByteArray) (i : Int) (acc l : List S57) (t2 : ByteArray), s = P ++ t → slotsP n t at0 i acc = some (l, t2) →
    ∃ ys : List S57, l = acc ++ ys ∧ ys.length = n ∧ (∀ y ∈ ys, y.f1.length ≤ 1024) ∧ (∀ y ys', ys = y :: ys' → y.f0 = wrap64 (at0 + i)) ∧ s = (P ++ strOfNums (vnums (slotsNums ys))) ++ t2 ∧ Tell (fun k => rslotsP k s at0 n (P.size : Int) false i acc) (l, ((P ++ strOfNums (vnums (slotsNums ys))).size : Int), false) := by
  intro n
  induction n with
  | zero =>
    intro P t i acc l t2 e h
    have h1 := Option.some.inj h
    injection h1 with h1 h2
    subst h1
    subst h2
    have e0 : P ++ strOfNums (vnums (slotsNums [])) = P := by apply ByteArray.ext; simp [slotsNums, vnums, strOfNums]
    refine ⟨[], by simp, rfl, by simp, (fun y ys' h => by cases h), by rw [e0]; exact e, ?_⟩
    rw [e0]
    exact Tell.const _
  | succ n ih =>
    intro P t i acc l t2 e h
    simp only [slotsP] at h
    split at h
    · cases h
    rename_i x t1 n1
    obtain ⟨hx0, hx1, e1, q, hq, hr⟩ := slot_some hs e n1
    obtain ⟨ys, hy, hlen, hall, _, hse, ht⟩ := ih _ _ _ _ _ _ e1 h
    have eN : P ++ strOfNums (vnums (slotsNums (x :: ys))) = P ++ strOfNums (vnums (slotNums x)) ++ strOfNums (vnums (slotsNums ys)) := by
      have e0 : slotsNums (x :: ys) = slotNums x ++ slotsNums ys := rfl
      rw [e0, vnums_append, strOf_append, ByteArray.append_assoc]
    refine ⟨x :: ys, by rw [hy]; simp, by simp [hlen], ?_, ?_, by rw [eN]; exact hse, ?_⟩
    · intro y hy
      rcases List.mem_cons.1 hy with rfl | hy
      · exact hx1
      · exact hall y hy
    · intro y ys' h
      injection h with h1 _
      rw [← h1]
      exact hx0
    · rw [eN]
      refine Tell.of (fun k => by rw [rslotsP, if_neg (by decide)]) (Tell.bind hq (Tell.bind hr ?_))
      have ex : (⟨wrap64 (at0 + i), x.f1⟩ : S57) = x := by rw [← hx0]
      exact Tell.of (fun k => by rw [ex]) ht
theorem slots_none {s : ByteArray} (hs : s.size ≤ 1000000000) (at0 : Int) : ∀ (n : Nat) (P t : ByteArray) (i : Int) (acc : List S57), s = P ++ t → slotsP n t at0 i acc = none →
    ∃ (l : List S57) (p : Int), Tell (fun k => rslotsP k s at0 n (P.size : Int) false i acc) (l, p, true) := by
  intro n
  induction n with
  | zero => intro P t i acc _ h; cases h
  | succ n ih =>
    intro P t i acc e h
    simp only [slotsP] at h
    split at h
    · rename_i n1
      obtain ⟨q, hq, rs, p, r, hpr, hr⟩ := slot_none hs e n1
      refine ⟨acc ++ [(⟨wrap64 (at0 + i), rs⟩ : S57)], (p.size : Int), Tell.of (fun k => by rw [rslotsP, if_neg (by decide)]) (Tell.bind hq (Tell.bind hr ?_))⟩
      exact Tell.of (fun k => rslots_bad _ _ _ _ _ _ _) (Tell.const _)
    rename_i x t1 n1
    obtain ⟨hx0, hx1, e1, q, hq, hr⟩ := slot_some hs e n1
    obtain ⟨l, p, ht⟩ := ih _ _ _ _ e1 h
    have ex : (⟨wrap64 (at0 + i), x.f1⟩ : S57) = x := by rw [← hx0]
    refine ⟨l, p, Tell.of (fun k => by rw [rslotsP, if_neg (by decide)]) (Tell.bind hq (Tell.bind hr ?_))⟩
    exact Tell.of (fun k => by rw [ex]) ht
end Go.Proofs.Ytlblianpbjhmoaa.QReadRow
