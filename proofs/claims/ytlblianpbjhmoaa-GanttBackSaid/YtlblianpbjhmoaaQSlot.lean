/- Plain Lean: rows of slots: who runs on a core; which slots, which rows may be; by the program and by the document. -/
import Derived.Test.YtlblianpbjhmoaaQEv
import Derived.Test.YtlblianpbjhmoaaQBits
import Derived.Test.YtlblianpbjhmoaaPGsx3
import Derived.Test.YtlblianpbjhmoaaPGsx4
import Derived.Test.YtlblianpbjhmoaaPGsx6
import Derived.Test.YtlblianpbjhmoaaPGsx11
import Derived.Test.YtlblianpbjhmoaaPGsx12
namespace Go.Proofs.Ytlblianpbjhmoaa.QSlot
open Go.RowKit Go.Proofs.Ytlblianpbjhmoaa.PGs Go.Proofs.YtlblianpbjhmoaaW.PrintWords Go.Proofs.YtlblianpbjhmoaaW.PrintLast
open Go.Proofs.Ytlblianpbjhmoaa.QEv Go.Proofs.Ytlblianpbjhmoaa.QBits
set_option linter.unusedVariables false

theorem rd59 (l : List S59) (i : Nat) (h : i < l.length) : rd_T59 l (i : Int) = l[i] := by simp [rd_T59, List.getD, List.getElem?_eq_getElem h]
theorem rd57 (l : List S57) (i : Nat) (h : i < l.length) : rd_T57 l (i : Int) = l[i] := by simp [rd_T57, List.getD, List.getElem?_eq_getElem h]
def Small {α : Type} (l : List α) : Prop := l.length ≤ 100000
def SmallRow (l : List S57) : Prop := Small l ∧ ∀ s ∈ l, Small s.f1

/-! ### Who runs on a core -/
def runAt (c : Int) : List S59 → Int
  | [] => -1
  | r :: rs => if r.f1 = c then r.f0 else runAt c rs
theorem runs_l0 (c : Int) (l : List S59) (hl : Small l) (d : Nat) : ∀ i, i + d = l.length → Tell (fun k => gantt_runs.l0 k c (-1) l (l.length : Int) (i : Int)) (runAt c (l.drop i)) := by
  have hl' : l.length ≤ 100000 := hl
  induction d with
  | zero =>
    intro i hi
    obtain rfl : i = l.length := by omega
    rw [List.drop_length]
    exact Tell.step (g := fun _ => some (-1)) (fun k => by rw [gantt_runs.l0, if_neg (by omega)]) (Tell.const _)
  | succ d ih =>
    intro i hi
    have hlt : i < l.length := by omega
    rw [List.drop_eq_getElem_cons hlt]
    unfold runAt
    refine Tell.step (g := fun k => if l[i].f1 = c then some l[i].f0 else gantt_runs.l0 k c (-1) l (l.length : Int) ((i + 1 : Nat) : Int)) (fun k => by rw [gantt_runs.l0, if_pos (by omega), if_pos (by omega), if_pos (by omega), rd59 l i hlt, w64 (by omega) (by omega)]; rfl) ?_
    by_cases h : l[i].f1 = c
    · simp only [h, if_true]; exact Tell.const _
    · simp only [h, if_false]; exact ih (i + 1) (by omega)
theorem runs_f (a c : Int) (l : List S59) (hl : Small l) : Tell (fun k => gantt_runs.f k a l c) (runAt c l) := runs_l0 c l hl l.length 0 (by omega)

/-! ### The program's check -/
def chk (m : Int) (s : S57) : Bool := if m < 1 ∨ m > 1024 ∨ s.f0 < 0 ∨ s.f0 > 1099511627776 then false else slot_Check.go m (-1) [] s.f1
theorem check_f (s : S57) (m : Int) (hl : Small s.f1) : slot_Check.f s.f0 s.f1 m = some (chk m s) := by
  unfold slot_Check.f chk
  rw [if_pos (show s.f1.length ≤ 100000 from hl)]
def rowGo (m : Int) : Option Int → List S57 → Bool
  | _, [] => true
  | p, s :: r => chk m s && (match p with | none => true | some a => decide (s.f0 = a + 1)) && rowGo m (some s.f0) r
def before (l : List S57) (i : Nat) : Option Int := if i = 0 then none else some (rd_T57 l ((i - 1 : Nat) : Int)).f0
theorem chk_at {m : Int} {s : S57} (h : chk m s = true) : 0 ≤ s.f0 ∧ s.f0 ≤ 1099511627776 := by
  unfold chk at h
  split at h
  · cases h
  · omega
theorem row_l0 (m : Int) (l : List S57) (hl : SmallRow l) (d : Nat) : ∀ i, i + d = l.length → (∀ a, before l i = some a → 0 ≤ a ∧ a ≤ 1099511627776) → Tell (fun k => slot_Row.l0 k l m l (l.length : Int) (i : Int)) (rowGo m (before l i) (l.drop i)) := by
  have hl' : l.length ≤ 100000 := hl.1
  induction d with
  | zero =>
    intro i hi _
    obtain rfl : i = l.length := by omega
    rw [List.drop_length]
    exact Tell.step (g := fun _ => some true) (fun k => by rw [slot_Row.l0, if_neg (by omega)]) (by unfold rowGo; exact Tell.const _)
  | succ d ih =>
    intro i hi hp
    have hlt : i < l.length := by omega
    have hs := hl.2 l[i] (List.getElem_mem hlt)
    rw [List.drop_eq_getElem_cons hlt]
    unfold rowGo
    by_cases hc : chk m l[i] = true
    · have hat := chk_at hc
      have hb : before l (i + 1) = some l[i].f0 := by
        unfold before
        rw [if_neg (by omega)]
        show some (rd_T57 l (i : Int)).f0 = _
        rw [rd57 l i hlt]
      have hnext := ih (i + 1) (by omega) (by rw [hb]; intro a ha; cases ha; exact hat)
      rw [hb] at hnext
      rw [hc, Bool.true_and]
      by_cases h0 : i = 0
      · subst h0
        refine Tell.step (g := fun k => slot_Row.l0 k l m l (l.length : Int) ((0 + 1 : Nat) : Int)) (fun k => ?_) ?_
        · rw [slot_Row.l0, if_pos (by omega), if_pos (by omega), if_pos (by omega), rd57 l 0 hlt, check_f _ _ hs, hc]
          simp only [Option.bind_some, if_true]
          rw [if_neg (by omega), w64 (by omega) (by omega)]
          rfl
        · simp only [before, if_true, Bool.true_and]
          exact hnext
      · have hb0 : before l i = some (rd_T57 l ((i - 1 : Nat) : Int)).f0 := by unfold before; rw [if_neg h0]
        have hpa := hp _ hb0
        rw [hb0]
        generalize hq : (rd_T57 l ((i - 1 : Nat) : Int)).f0 = q at *
        refine Tell.step (g := fun k => if l[i].f0 = q + 1 then slot_Row.l0 k l m l (l.length : Int) ((i + 1 : Nat) : Int) else some false) (fun k => ?_) ?_
        · rw [slot_Row.l0, if_pos (by omega), if_pos (by omega), if_pos (by omega), rd57 l i hlt, check_f _ _ hs, hc]
          simp only [Option.bind_some, if_true]
          have e : wrap64 ((i : Int) - 1) = ((i - 1 : Nat) : Int) := by rw [w64 (by omega) (by omega)]; omega
          rw [if_pos (by omega), e, if_pos (by omega), if_pos (by omega), hq, w64 (by omega) (by omega), w64 (by omega) (by omega)]
          by_cases h : l[i].f0 = q + 1
          · rw [if_pos (by omega), if_pos h]; rfl
          · rw [if_neg (by omega), if_neg h]
        · by_cases h : l[i].f0 = q + 1
          · simp only [h, if_true, decide_true, Bool.true_and]
            rw [h] at hnext; exact hnext
          · simp only [h, if_false, decide_false, Bool.false_and]
            exact Tell.const _
    · have hc' : chk m l[i] = false := by simpa using hc
      rw [hc', Bool.false_and, Bool.false_and]
      refine Tell.step (g := fun k => some false) (fun k => ?_) (Tell.const _)
      rw [slot_Row.l0, if_pos (by omega), if_pos (by omega), if_pos (by omega), rd57 l i hlt, check_f _ _ hs, hc']
      rfl
def rowOk (m : Int) (l : List S57) : Bool := rowGo m none l
theorem row_f (m : Int) (l : List S57) (hl : SmallRow l) : Tell (fun k => slot_Row.f k l m) (rowOk m l) := row_l0 m l hl l.length 0 (by omega) (by intro a h; cases h)

/-! ### The document's check -/
def refGo (m : Int) : List S59 → List S59 → Bool
  | _, [] => true
  | p, r :: rs => if r.f1 < 0 ∨ r.f1 ≥ m ∨ r.f0 < 0 ∨ r.f0 > 1023 ∨ r.f2 < 1 ∨ r.f2 > 1099511627776 then false else if p.any (fun x => decide (x.f0 = r.f0) || decide (x.f1 ≥ r.f1)) then false else refGo m (p ++ [r]) rs
theorem take_snoc {α : Type} (l : List α) (i : Nat) (h : i < l.length) : l.take (i + 1) = l.take i ++ [l[i]] := by rw [List.take_succ_eq_append_getElem h]
theorem refcheck_l1 (m : Int) (a0 : Int) (l : List S59) (hl : Small l) (i : Nat) (hi : i < l.length) (b : Bool) (x0 x1 x2 : Int) (hb : Tell (fun k => regattaref16_Check.l0 k m ((i + 1 : Nat) : Int) a0 l) b) (d : Nat) :
    ∀ j, j + d = i → Tell (fun k => regattaref16_Check.l1 k m (i : Int) (j : Int) a0 l x0 x1 x2) (if ((l.take i).drop j).any (fun x => decide (x.f0 = x0) || decide (x.f1 ≥ x1)) then false else b) := by
  have hl' : l.length ≤ 100000 := hl
  have ht : (l.take i).length = i := by rw [List.length_take]; omega
  induction d with
  | zero =>
    intro j hj
    obtain rfl : j = i := by omega
    rw [List.drop_of_length_le (by omega)]
    refine Tell.step (g := fun k => regattaref16_Check.l0 k m ((j + 1 : Nat) : Int) a0 l) (fun k => ?_) (by simpa using hb)
    rw [regattaref16_Check.l1, if_neg (by omega), w64 (by omega) (by omega)]
    rfl
  | succ d ih =>
    intro j hj
    have hlt : j < l.length := by omega
    have hd : (l.take i).drop j = l[j] :: (l.take i).drop (j + 1) := by
      rw [List.drop_eq_getElem_cons (by omega)]
      simp
    rw [hd, List.any_cons]
    by_cases h1 : l[j].f0 = x0
    · refine Tell.step (g := fun k => some false) (fun k => ?_) (by simp [h1]; exact Tell.const _)
      rw [regattaref16_Check.l1, if_pos (by omega), if_pos (by omega), if_pos (by omega), rd59 l j hlt, if_pos h1]
    · by_cases h2 : l[j].f1 ≥ x1
      · refine Tell.step (g := fun k => some false) (fun k => ?_) (by simp [h2]; exact Tell.const _)
        rw [regattaref16_Check.l1, if_pos (by omega), if_pos (by omega), if_pos (by omega), rd59 l j hlt, if_neg h1, if_pos h2]
      · refine Tell.step (g := fun k => regattaref16_Check.l1 k m (i : Int) ((j + 1 : Nat) : Int) a0 l x0 x1 x2) (fun k => ?_) ?_
        · rw [regattaref16_Check.l1, if_pos (by omega), if_pos (by omega), if_pos (by omega), rd59 l j hlt, if_neg h1, if_neg h2, w64 (by omega) (by omega)]
          rfl
        · have := ih (j + 1) (by omega)
          simpa [h1, h2] using this
theorem refcheck_l0 (m : Int) (a0 : Int) (l : List S59) (hl : Small l) (d : Nat) : ∀ i, i + d = l.length → Tell (fun k => regattaref16_Check.l0 k m (i : Int) a0 l) (refGo m (l.take i) (l.drop i)) := by
  have hl' : l.length ≤ 100000 := hl
  induction d with
  | zero =>
    intro i hi
    obtain rfl : i = l.length := by omega
    rw [List.drop_length]
    exact Tell.step (g := fun _ => some true) (fun k => by rw [regattaref16_Check.l0, if_neg (by omega)]) (by unfold refGo; exact Tell.const _)
  | succ d ih =>
    intro i hi
    have hlt : i < l.length := by omega
    rw [List.drop_eq_getElem_cons hlt]
    unfold refGo
    have hnext := ih (i + 1) (by omega)
    rw [take_snoc l i hlt] at hnext
    have hj : ∀ b : Bool, ∀ x0 x1 x2, Tell (fun k => regattaref16_Check.j2 k m (i : Int) b a0 l x0 x1 x2) (if b then false else if (l.take i).any (fun x => decide (x.f0 = x0) || decide (x.f1 ≥ x1)) then false else refGo m (l.take i ++ [l[i]]) (l.drop (i + 1))) := by
      intro b x0 x1 x2
      cases b with
      | true => exact Tell.step (g := fun _ => some false) (fun k => by rw [regattaref16_Check.j2, if_pos rfl]) (Tell.const _)
      | false =>
        refine Tell.step (g := fun k => regattaref16_Check.l1 k m (i : Int) ((0 : Nat) : Int) a0 l x0 x1 x2) (fun k => by rw [regattaref16_Check.j2, if_neg (by simp)]; rfl) ?_
        simpa using refcheck_l1 m a0 l hl i hlt _ x0 x1 x2 hnext i 0 (by omega)
    have hyes := hj true l[i].f0 l[i].f1 l[i].f2
    simp only [if_true] at hyes
    by_cases h1 : l[i].f1 < 0
    · rw [if_pos (.inl h1)]
      exact Tell.step (fun k => by rw [regattaref16_Check.l0, if_pos (by omega), if_pos (by omega), rd59 l i hlt, if_pos h1]) hyes
    by_cases h2 : l[i].f1 ≥ m
    · rw [if_pos (.inr (.inl h2))]
      exact Tell.step (fun k => by rw [regattaref16_Check.l0, if_pos (by omega), if_pos (by omega), rd59 l i hlt, if_neg h1, if_pos h2]) hyes
    by_cases h3 : l[i].f0 < 0
    · rw [if_pos (.inr (.inr (.inl h3)))]
      exact Tell.step (fun k => by rw [regattaref16_Check.l0, if_pos (by omega), if_pos (by omega), rd59 l i hlt, if_neg h1, if_neg h2, if_pos h3]) hyes
    by_cases h4 : l[i].f0 > 1023
    · rw [if_pos (.inr (.inr (.inr (.inl h4))))]
      exact Tell.step (fun k => by rw [regattaref16_Check.l0, if_pos (by omega), if_pos (by omega), rd59 l i hlt, if_neg h1, if_neg h2, if_neg h3, if_pos h4]) hyes
    by_cases h5 : l[i].f2 < 1
    · rw [if_pos (.inr (.inr (.inr (.inr (.inl h5)))))]
      exact Tell.step (fun k => by rw [regattaref16_Check.l0, if_pos (by omega), if_pos (by omega), rd59 l i hlt, if_neg h1, if_neg h2, if_neg h3, if_neg h4, if_pos h5]) hyes
    have h6 := hj (decide (l[i].f2 > 1099511627776)) l[i].f0 l[i].f1 l[i].f2
    refine Tell.step (fun k => by rw [regattaref16_Check.l0, if_pos (by omega), if_pos (by omega), rd59 l i hlt, if_neg h1, if_neg h2, if_neg h3, if_neg h4, if_neg h5]) ?_
    by_cases h7 : l[i].f2 > 1099511627776
    · rw [if_pos (.inr (.inr (.inr (.inr (.inr h7)))))]
      simpa [h7] using h6
    · rw [if_neg (by omega)]
      simpa [h7] using h6
def refChk (m : Int) (s : S57) : Bool := if m < 1 ∨ m > 1024 ∨ s.f0 < 0 ∨ s.f0 > 1099511627776 then false else refGo m [] s.f1
theorem refcheck_f (s : S57) (m : Int) (hl : Small s.f1) : Tell (fun k => regattaref16_Check.f k s.f0 s.f1 m) (refChk m s) := by
  have hj : ∀ b : Bool, Tell (fun k => regattaref16_Check.j0 k m b s.f0 s.f1) (if b then false else refGo m [] s.f1) := by
    intro b
    cases b with
    | true => exact Tell.step (g := fun _ => some false) (fun k => by rw [regattaref16_Check.j0, if_pos rfl]) (Tell.const _)
    | false => exact Tell.step (fun k => by rw [regattaref16_Check.j0, if_neg (by simp)]; rfl) (refcheck_l0 m s.f0 s.f1 hl s.f1.length 0 (by omega))
  unfold regattaref16_Check.f refChk
  by_cases h1 : m < 1
  · simp only [h1, if_true, true_or]; exact hj true
  by_cases h2 : m > 1024
  · simp only [h1, h2, if_true, if_false, true_or, or_true]; exact hj true
  by_cases h3 : s.f0 < 0
  · simp only [h1, h2, h3, if_true, if_false, true_or, or_true]; exact hj true
  simp only [h1, h2, h3, if_false, false_or]
  by_cases h4 : s.f0 > 1099511627776
  · simp only [h4, if_true, decide_true]; exact hj true
  · simp only [h4, if_false, decide_false]; exact hj false
/-- Both say the same. -/
theorem go_ref (m : Int) (rs : List S59) : ∀ (last : Int) (seen : List Int) (p : List S59), -1 ≤ last → (∀ x ∈ p, x.f1 ≤ last) → (last = -1 ∨ ∃ x ∈ p, x.f1 = last) → (∀ y, y ∈ seen ↔ ∃ x ∈ p, x.f0 = y) → slot_Check.go m last seen rs = refGo m p rs := by
  induction rs with
  | nil => intros; rfl
  | cons r rs ih =>
    intro last seen p hl h1 h2 h3
    unfold slot_Check.go refGo
    by_cases hr : r.f1 < 0 ∨ r.f1 ≥ m ∨ r.f0 < 0 ∨ r.f0 > 1023 ∨ r.f2 < 1 ∨ r.f2 > 1099511627776
    · rw [if_pos hr, if_pos (by omega)]
    · rw [if_neg hr]
      by_cases ha : p.any (fun x => decide (x.f0 = r.f0) || decide (x.f1 ≥ r.f1)) = true
      · rw [if_pos ha, if_pos]
        rw [List.any_eq_true] at ha
        obtain ⟨x, hx, hy⟩ := ha
        rw [Bool.or_eq_true, decide_eq_true_eq, decide_eq_true_eq] at hy
        rcases hy with hy | hy
        · exact .inr (.inr (.inr (.inr (.inl ((h3 _).2 ⟨x, hx, hy⟩)))))
        · have := h1 x hx; omega
      · rw [if_neg ha]
        have hn : ¬ (r.f1 ≤ last) := by
          intro hle
          apply ha
          rw [List.any_eq_true]
          rcases h2 with h2 | ⟨x, hx, hy⟩
          · omega
          · exact ⟨x, hx, by simp; omega⟩
        have hs : ¬ (r.f0 ∈ seen) := by
          intro hm
          apply ha
          obtain ⟨x, hx, hy⟩ := (h3 _).1 hm
          rw [List.any_eq_true]
          exact ⟨x, hx, by simp [hy]⟩
        rw [if_neg (by simp only [hs, false_or]; omega)]
        refine ih r.f1 (r.f0 :: seen) (p ++ [r]) (by omega) ?_ (.inr ⟨r, by simp, rfl⟩) ?_
        · intro x hx
          rcases List.mem_append.1 hx with hx | hx
          · have := h1 x hx; omega
          · simp at hx; subst hx; omega
        · intro y
          constructor
          · intro hy
            rcases List.mem_cons.1 hy with rfl | hy
            · exact ⟨r, by simp, rfl⟩
            · obtain ⟨x, hx, he⟩ := (h3 _).1 hy; exact ⟨x, by simp [hx], he⟩
          · rintro ⟨x, hx, rfl⟩
            rcases List.mem_append.1 hx with hx | hx
            · exact List.mem_cons_of_mem _ ((h3 _).2 ⟨x, hx, rfl⟩)
            · simp at hx; subst hx; simp
theorem chk_ref (m : Int) (s : S57) : refChk m s = chk m s := by
  unfold refChk chk
  split
  · rfl
  · exact (go_ref m s.f1 (-1) [] [] (by omega) (by simp) (.inl rfl) (by simp)).symm
theorem refrow_l0 (m : Int) (l : List S57) (hl : SmallRow l) (d : Nat) : ∀ i, i + d = l.length → (∀ a, before l i = some a → 0 ≤ a ∧ a ≤ 1099511627776) → Tell (fun k => regattaref16_Row.l0 k l m (i : Int)) (rowGo m (before l i) (l.drop i)) := by
  have hl' : l.length ≤ 100000 := hl.1
  induction d with
  | zero =>
    intro i hi _
    obtain rfl : i = l.length := by omega
    rw [List.drop_length]
    exact Tell.step (g := fun _ => some true) (fun k => by rw [regattaref16_Row.l0, if_neg (by omega)]) (by unfold rowGo; exact Tell.const _)
  | succ d ih =>
    intro i hi hp
    have hlt : i < l.length := by omega
    have hs := hl.2 l[i] (List.getElem_mem hlt)
    rw [List.drop_eq_getElem_cons hlt]
    unfold rowGo
    have hck := refcheck_f l[i] m hs
    rw [chk_ref] at hck
    refine Tell.step (fun k => by rw [regattaref16_Row.l0, if_pos (by omega), if_pos (by omega), rd57 l i hlt]) ?_
    refine Tell.bind hck ?_
    by_cases hc : chk m l[i] = true
    · have hat := chk_at hc
      have hb : before l (i + 1) = some l[i].f0 := by
        unfold before
        rw [if_neg (by omega)]
        show some (rd_T57 l (i : Int)).f0 = _
        rw [rd57 l i hlt]
      have hnext := ih (i + 1) (by omega) (by rw [hb]; intro a ha; cases ha; exact hat)
      rw [hb] at hnext
      have e1 : wrap64 ((i : Int) + 1) = ((i + 1 : Nat) : Int) := by rw [w64 (by omega) (by omega)]; omega
      simp only [hc, Bool.true_and, if_true, e1]
      by_cases h0 : i = 0
      · subst h0
        simp only [before, if_true, Bool.true_and]
        refine Tell.of (fun k => ?_) hnext
        rw [if_neg (by omega)]
      · have hb0 : before l i = some (rd_T57 l ((i - 1 : Nat) : Int)).f0 := by unfold before; rw [if_neg h0]
        have hpa := hp _ hb0
        rw [hb0]
        generalize hq : (rd_T57 l ((i - 1 : Nat) : Int)).f0 = q at *
        have e : wrap64 ((i : Int) - 1) = ((i - 1 : Nat) : Int) := by rw [w64 (by omega) (by omega)]; omega
        refine Tell.of (g := fun k => if l[i].f0 = q + 1 then regattaref16_Row.l0 k l m ((i + 1 : Nat) : Int) else some false) (fun k => ?_) ?_
        · rw [if_pos (by omega), e, if_pos (by omega), if_pos (by omega), hq, w64 (by omega) (by omega)]
        · by_cases h : l[i].f0 = q + 1
          · simp only [h, if_true, decide_true, Bool.true_and]
            rw [h] at hnext; exact hnext
          · simp only [h, if_false, decide_false, Bool.false_and]
            exact Tell.const _
    · have hc' : chk m l[i] = false := by simpa using hc
      simp only [hc', Bool.false_and, Bool.false_eq_true, if_false]
      exact Tell.const _
theorem refrow_f (m : Int) (l : List S57) (hl : SmallRow l) : Tell (fun k => regattaref16_Row.f k l m) (rowOk m l) := refrow_l0 m l hl l.length 0 (by omega) (by intro a h; cases h)
end Go.Proofs.Ytlblianpbjhmoaa.QSlot
