/- Plain Lean: pictures, by the program and by the document. -/
import Derived.Test.YtlblianpbjhmoaaQSlot
import Derived.Test.YtlblianpbjhmoaaGLetters
import Derived.Test.YtlblianpbjhmoaaPGsx5
import Derived.Test.YtlblianpbjhmoaaPGsx8
import Derived.Test.YtlblianpbjhmoaaPGsx13
import Derived.Test.YtlblianpbjhmoaaPGsx14
import Derived.Test.YtlblianpbjhmoaaPGsx15
import Derived.Test.YtlblianpbjhmoaaPGsx20
namespace Go.Proofs.Ytlblianpbjhmoaa.QGantt
open Go.RowKit Go.Proofs.Ytlblianpbjhmoaa.PGs Go.Proofs.YtlblianpbjhmoaaW.PrintWords Go.Proofs.YtlblianpbjhmoaaW.PrintLast
open Go.Proofs.Ytlblianpbjhmoaa.QEv Go.Proofs.Ytlblianpbjhmoaa.QBits Go.Proofs.Ytlblianpbjhmoaa.QSlot Go.Proofs.Ytlblianpbjhmoaa.GLetters
set_option linter.unusedVariables false

/-! ### The document's letters -/
def refLetter (x : Int) : Int := if x < 0 then 46 else if x < 26 then 97 + x else if x < 52 then 65 + x - 26 else if x < 62 then 48 + x - 52 else if x = 62 then 43 else if x = 63 then 45 else 46
theorem refLetter_eq (x : Int) : refLetter x = letter x := by
  by_cases h : x < 0 ∨ x ≥ 64
  · rw [letter_out x h]
    unfold refLetter
    by_cases h0 : x < 0
    · rw [if_pos h0]
    · rw [if_neg h0, if_neg (by omega), if_neg (by omega), if_neg (by omega), if_neg (by omega), if_neg (by omega)]
  · have := all64 (p := fun x => refLetter x == letter x) (by kernel_rfl) x (by omega) (by omega)
    simpa using this
theorem refletter_f (x : Int) (hx : x ≤ 9223372036854775807) : Tell (fun k => regattaref25_Letter.f k x) (letter x) := by
  rw [← refLetter_eq]
  unfold regattaref25_Letter.f refLetter
  have hj2 : ¬ x < 52 ∨ x < 0 → Tell (fun k => regattaref25_Letter.j2 k x (decide (0 ≤ x) && decide (x < 62))) (if x < 0 then 46 else if x < 62 then 48 + x - 52 else if x = 62 then 43 else if x = 63 then 45 else 46) := by
    intro h52
    by_cases h0 : x < 0
    · refine Tell.step (g := fun k => some 46) (fun k => ?_) (by rw [if_pos h0]; exact Tell.const _)
      rw [regattaref25_Letter.j2, if_neg (by simp; omega), if_neg (by omega), if_neg (by omega)]
    · rw [if_neg h0]
      by_cases h1 : x < 62
      · refine Tell.step (g := fun k => some (48 + x - 52)) (fun k => ?_) (by rw [if_pos h1]; exact Tell.const _)
        rw [regattaref25_Letter.j2, if_pos (by simp; omega), w64 (by rw [w64 (by omega) (by omega)]; omega) (by rw [w64 (by omega) (by omega)]; omega), w64 (by omega) (by omega)]
        congr 1; omega
      · rw [if_neg h1]
        refine Tell.step (g := fun k => if x = 62 then some 43 else if x = 63 then some 45 else some 46) (fun k => ?_) ?_
        · rw [regattaref25_Letter.j2, if_neg (by simp; omega)]
        · by_cases h2 : x = 62
          · simp only [h2, if_true]; exact Tell.const _
          · by_cases h3 : x = 63
            · simp only [h3, if_true]; exact Tell.const _
            · simp only [h2, h3, if_false]; exact Tell.const _
  have hj1 : ¬ x < 26 ∨ x < 0 → Tell (fun k => regattaref25_Letter.j1 k x (decide (0 ≤ x) && decide (x < 52))) (if x < 0 then 46 else if x < 52 then 65 + x - 26 else if x < 62 then 48 + x - 52 else if x = 62 then 43 else if x = 63 then 45 else 46) := by
    intro h26
    by_cases h0 : x < 0
    · have h := hj2 (.inr h0)
      rw [if_pos h0] at h ⊢
      refine Tell.step (fun k => ?_) h
      rw [regattaref25_Letter.j1, if_neg (by simp; omega), if_neg (by omega)]
      congr 1; simp; omega
    · rw [if_neg h0]
      by_cases h1 : x < 52
      · refine Tell.step (g := fun k => some (65 + x - 26)) (fun k => ?_) (by rw [if_pos h1]; exact Tell.const _)
        rw [regattaref25_Letter.j1, if_pos (by simp; omega), w64 (by rw [w64 (by omega) (by omega)]; omega) (by rw [w64 (by omega) (by omega)]; omega), w64 (by omega) (by omega)]
        congr 1; omega
      · have h := hj2 (.inl h1)
        rw [if_neg h0] at h
        rw [if_neg h1]
        refine Tell.step (fun k => ?_) h
        rw [regattaref25_Letter.j1, if_neg (by simp; omega), if_pos (by omega)]
        congr 1; simp; omega
  have hj0 : Tell (fun k => regattaref25_Letter.j0 k x (decide (0 ≤ x) && decide (x < 26))) (if x < 0 then 46 else if x < 26 then 97 + x else if x < 52 then 65 + x - 26 else if x < 62 then 48 + x - 52 else if x = 62 then 43 else if x = 63 then 45 else 46) := by
    by_cases h0 : x < 0
    · have h := hj1 (.inr h0)
      rw [if_pos h0] at h ⊢
      refine Tell.step (fun k => ?_) h
      rw [regattaref25_Letter.j0, if_neg (by simp; omega), if_neg (by omega)]
      congr 1; simp; omega
    · rw [if_neg h0]
      by_cases h1 : x < 26
      · refine Tell.step (g := fun k => some (97 + x)) (fun k => ?_) (by rw [if_pos h1]; exact Tell.const _)
        rw [regattaref25_Letter.j0, if_pos (by simp; omega), w64 (by omega) (by omega)]
        congr 1; omega
      · have h := hj1 (.inl h1)
        rw [if_neg h0] at h
        rw [if_neg h1]
        refine Tell.step (fun k => ?_) h
        rw [regattaref25_Letter.j0, if_neg (by simp; omega), if_pos (by omega)]
        congr 1; simp; omega
  refine Tell.of (fun k => ?_) hj0
  by_cases h0 : x ≥ 0
  · rw [if_pos h0]; congr 1; simp; omega
  · rw [if_neg h0]; congr 1; simp; omega
def idFrom (c : Int) : Nat → Nat → Int
  | 0, _ => -1
  | n + 1, i => if letter (i : Int) = c then (i : Int) else idFrom c n (i + 1)
theorem refid_l0 (c : Int) (n : Nat) : ∀ i, i + n = 64 → Tell (fun k => regattaref25_ID.l0 k c (i : Int)) (idFrom c n i) := by
  induction n with
  | zero =>
    intro i hi
    exact Tell.step (g := fun _ => some (-1)) (fun k => by rw [regattaref25_ID.l0, if_neg (by omega)]) (Tell.const _)
  | succ n ih =>
    intro i hi
    refine Tell.step (fun k => by rw [regattaref25_ID.l0, if_pos (by omega)]) ?_
    refine Tell.bind (refletter_f i (by omega)) ?_
    unfold idFrom
    by_cases h : letter (i : Int) = c
    · simp only [h, if_true]; exact Tell.const _
    · simp only [h, if_false]
      refine Tell.of (fun k => ?_) (ih (i + 1) (by omega))
      rw [w64 (by omega) (by omega)]; rfl
theorem idFrom_place (c : Int) (h0 : 0 ≤ c) (h1 : c < 256) : idFrom c 64 0 = place c := by
  have h : (List.range 256).all (fun n => idFrom (n : Int) 64 0 == place (n : Int)) = true := by kernel_rfl
  rw [List.all_eq_true] at h
  have := h c.toNat (List.mem_range.2 (by omega))
  rw [Int.toNat_of_nonneg h0] at this
  simpa using this
theorem refid_f (c : Int) (h0 : 0 ≤ c) (h1 : c < 256) : Tell (fun k => regattaref25_ID.f k c) (place c) := by
  rw [← idFrom_place c h0 h1]
  exact refid_l0 c 64 0 (by omega)

/-! ### Which rows may be drawn -/
def gchk (m : Int) (l : List S57) : Bool := decide (m > 0 ∧ m ≤ 64 ∧ (l.length : Int) ≤ 1000) && (rowOk m l && !ganttWide l)
theorem gcheck_f (m : Int) (l : List S57) (hl : SmallRow l) : Tell (fun k => gantt_Check.f k l m) (gchk m l) := by
  unfold gantt_Check.f gchk
  by_cases h : m > 0 ∧ m ≤ 64 ∧ (l.length : Int) ≤ 1000
  · simp only [h, and_self, if_true, decide_true, Bool.true_and]
    exact Tell.bind (row_f m l hl) (Tell.const _)
  · simp only [h, if_false, decide_false, Bool.false_and]
    exact Tell.const _
theorem refgcheck_l1 (m : Int) (l : List S57) (hl : SmallRow l) (b r : Bool) (i : Nat) (hi : i < l.length) (hr : Tell (fun k => regattaref25_Check.l0 k l m b ((i + 1 : Nat) : Int)) r) (d : Nat) :
    ∀ j, j + d = l[i].f1.length → Tell (fun k => regattaref25_Check.l1 k l m b (i : Int) (j : Int)) (if ganttWideRun (l[i].f1.drop j) then false else r) := by
  have hl' : l.length ≤ 100000 := hl.1
  have hs : l[i].f1.length ≤ 100000 := hl.2 l[i] (List.getElem_mem hi)
  induction d with
  | zero =>
    intro j hj
    rw [List.drop_of_length_le (by omega)]
    refine Tell.step (fun k => ?_) (by simpa [ganttWideRun] using hr)
    rw [regattaref25_Check.l1, if_pos (by omega), if_pos (by omega), rd57 l i hi, if_neg (by omega), w64 (by omega) (by omega)]
    try rfl
  | succ d ih =>
    intro j hj
    have hlt : j < l[i].f1.length := by omega
    rw [List.drop_eq_getElem_cons hlt]
    have e : ganttWideRun (l[i].f1[j] :: l[i].f1.drop (j + 1)) = (decide (l[i].f1[j].f0 ≥ 64) || ganttWideRun (l[i].f1.drop (j + 1))) := by unfold ganttWideRun; rw [List.any_cons]
    rw [e]
    by_cases h : l[i].f1[j].f0 > 63
    · refine Tell.step (g := fun _ => some false) (fun k => ?_) (by rw [decide_eq_true (by omega), Bool.true_or, if_pos rfl]; exact Tell.const _)
      rw [regattaref25_Check.l1, if_pos (by omega), if_pos (by omega), rd57 l i hi, if_pos (by omega), if_pos (by omega), rd59 _ j hlt, if_pos h]
    · refine Tell.step (fun k => ?_) (by rw [decide_eq_false (by omega), Bool.false_or]; exact ih (j + 1) (by omega))
      rw [regattaref25_Check.l1, if_pos (by omega), if_pos (by omega), rd57 l i hi, if_pos (by omega), if_pos (by omega), rd59 _ j hlt, if_neg h, w64 (by omega) (by omega)]
      rfl
theorem refgcheck_l0 (m : Int) (l : List S57) (hl : SmallRow l) (b : Bool) (d : Nat) :
    ∀ i, i + d = l.length → Tell (fun k => regattaref25_Check.l0 k l m b (i : Int)) (if ganttWide (l.drop i) then false else (b && decide (m > 0 ∧ m ≤ 64 ∧ (l.length : Int) ≤ 1000))) := by
  have hl' : l.length ≤ 100000 := hl.1
  induction d with
  | zero =>
    intro i hi
    rw [List.drop_of_length_le (by omega)]
    refine Tell.step (g := fun _ => some (b && decide (m > 0 ∧ m ≤ 64 ∧ (l.length : Int) ≤ 1000))) (fun k => ?_) (by simpa [ganttWide] using Tell.const _)
    rw [regattaref25_Check.l0, if_neg (by omega)]
    cases b with
    | false => simp
    | true =>
      by_cases h1 : m ≤ 64
      · by_cases h2 : m ≥ 1
        · rw [if_pos rfl, if_pos h1, if_pos h2]
          congr 1
          simp only [Bool.true_and]
          exact decide_eq_decide.2 ⟨fun h => ⟨by omega, h1, h⟩, fun h => h.2.2⟩
        · rw [if_pos rfl, if_pos h1, if_neg h2, decide_eq_false (by omega)]; rfl
      · rw [if_pos rfl, if_neg h1, decide_eq_false (by omega)]; rfl
  | succ d ih =>
    intro i hi
    have hlt : i < l.length := by omega
    rw [List.drop_eq_getElem_cons hlt]
    have e : ganttWide (l[i] :: l.drop (i + 1)) = (ganttWideRun l[i].f1 || ganttWide (l.drop (i + 1))) := by unfold ganttWide; rw [List.any_cons]
    rw [e]
    have h1 := refgcheck_l1 m l hl b _ i hlt (ih (i + 1) (by omega)) l[i].f1.length 0 (by omega)
    rw [List.drop_zero] at h1
    refine Tell.step (fun k => by rw [regattaref25_Check.l0, if_pos (by omega)]) ?_
    cases hw : ganttWideRun l[i].f1 with
    | true => rw [hw] at h1; simpa using h1
    | false => rw [hw] at h1; simpa using h1
theorem refgcheck_f (m : Int) (l : List S57) (hl : SmallRow l) : Tell (fun k => regattaref25_Check.f k l m) (gchk m l) := by
  unfold regattaref25_Check.f
  refine Tell.bind (refrow_f m l hl) ?_
  have h := refgcheck_l0 m l hl (rowOk m l) l.length 0 (by omega)
  rw [List.drop_zero] at h
  have e : (if ganttWide l then false else (rowOk m l && decide (m > 0 ∧ m ≤ 64 ∧ (l.length : Int) ≤ 1000))) = gchk m l := by
    unfold gchk
    cases ganttWide l <;> cases rowOk m l <;> simp
  rw [e] at h
  exact h

/-! ### A core's row -/
theorem strOf_append (a b : List Int) : strOfNums (a ++ b) = strOfNums a ++ strOfNums b := by
  apply ByteArray.ext; simp [strOfNums]
theorem strOf_nil : strOfNums [] = ⟨#[]⟩ := rfl
theorem app_nil (s : ByteArray) : s ++ (⟨#[]⟩ : ByteArray) = s := by
  apply ByteArray.ext; simp
def coreNums (l : List S57) (c : Int) : List Int := l.map (fun s => letter (runAt c s.f1))
def coreText (l : List S57) (c : Int) : ByteArray := strOfNums (coreNums l c)
theorem coreText_size (l : List S57) (c : Int) : (coreText l c).size = l.length := by unfold coreText; rw [strOfNums_size]; simp [coreNums]
theorem core_go (c : Int) (l : List S57) (hl : ∀ s ∈ l, Small s.f1) : ∀ s : ByteArray, Tell (fun k => gantt_Core.go k c s l) (s ++ coreText l c) := by
  induction l with
  | nil =>
    intro s
    have e : s ++ coreText [] c = s := app_nil s
    rw [e]
    exact Tell.of (fun k => rfl) (Tell.const s)
  | cons x xs ih =>
    intro s
    have h := ih (fun y hy => hl y (List.mem_cons_of_mem _ hy)) (s ++ strOfNums [letter (runAt c x.f1)])
    have e : s ++ strOfNums [letter (runAt c x.f1)] ++ coreText xs c = s ++ coreText (x :: xs) c := by
      rw [ByteArray.append_assoc]
      unfold coreText coreNums
      rw [← strOf_append]
      rfl
    rw [e] at h
    unfold gantt_Core.go
    refine Tell.bind (runs_f x.f0 c x.f1 (hl x (by simp))) ?_
    simp only [letter_f, Option.bind_some]
    have hr := letter_range (runAt c x.f1)
    refine Tell.of (fun k => ?_) h
    rw [if_pos (by omega)]
theorem core_f (c : Int) (l : List S57) (hl : SmallRow l) : Tell (fun k => gantt_Core.f k l c) (coreText l c) := by
  have h := core_go c l hl.2 ⟨#[]⟩
  have e : (⟨#[]⟩ : ByteArray) ++ coreText l c = coreText l c := by apply ByteArray.ext; simp
  rw [e] at h
  have hl' : l.length ≤ 100000 := hl.1
  refine Tell.of (fun k => ?_) h
  unfold gantt_Core.f
  rw [if_pos (by omega)]
def Sized (l : List S57) : Prop := ∀ s ∈ l, ∀ r ∈ s.f1, r.f0 ≤ 9223372036854775807
theorem runAt_le (c : Int) (l : List S59) (h : ∀ r ∈ l, r.f0 ≤ 9223372036854775807) : runAt c l ≤ 9223372036854775807 := by
  induction l with
  | nil => unfold runAt; omega
  | cons r rs ih =>
    unfold runAt
    split
    · exact h r (by simp)
    · exact ih (fun x hx => h x (List.mem_cons_of_mem _ hx))
theorem refcore_l1 (c : Int) (l : List S57) (hl : SmallRow l) (hz : Sized l) (i : Nat) (hi : i < l.length) (s r : ByteArray) (hs : s.size ≤ 1000000)
    (hr : Tell (fun k => regattaref25_Core.l0 k l c (s ++ strOfNums [letter (runAt c l[i].f1)]) ((i + 1 : Nat) : Int)) r) (j : Nat) :
    j ≤ l[i].f1.length → Tell (fun k => regattaref25_Core.l1 k l c s (i : Int) (runAt c (l[i].f1.drop j)) ((j : Int) - 1)) r := by
  have hl' : l.length ≤ 100000 := hl.1
  have hsm : l[i].f1.length ≤ 100000 := hl.2 l[i] (List.getElem_mem hi)
  induction j with
  | zero =>
    intro _
    rw [List.drop_zero]
    refine Tell.step (fun k => by rw [regattaref25_Core.l1, if_neg (by omega)]) ?_
    refine Tell.bind (refletter_f _ (runAt_le c _ (hz l[i] (List.getElem_mem hi)))) ?_
    simp only [Option.bind_some]
    refine Tell.of (fun k => ?_) hr
    rw [if_pos (by rw [strOfNums_size]; simp; omega), w64 (by omega) (by omega)]
    rfl
  | succ j ih =>
    intro hj
    have hlt : j < l[i].f1.length := by omega
    have h := ih (by omega)
    have e : (((j + 1 : Nat) : Int) - 1) = (j : Int) := by omega
    rw [e]
    rw [List.drop_eq_getElem_cons hlt] at h
    unfold runAt at h
    by_cases hc : l[i].f1[j].f1 = c
    · rw [if_pos hc] at h
      refine Tell.step (fun k => ?_) h
      rw [regattaref25_Core.l1, if_pos (by omega), if_pos (by omega), if_pos (by omega), if_pos (by omega), rd57 l i hi, if_pos (by omega), rd59 _ j hlt, if_pos hc, w64 (by omega) (by omega)]
    · rw [if_neg hc] at h
      refine Tell.step (fun k => ?_) h
      rw [regattaref25_Core.l1, if_pos (by omega), if_pos (by omega), if_pos (by omega), if_pos (by omega), rd57 l i hi, if_pos (by omega), rd59 _ j hlt, if_neg hc, w64 (by omega) (by omega)]
theorem refcore_l0 (c : Int) (l : List S57) (hl : SmallRow l) (hz : Sized l) (d : Nat) : ∀ (i : Nat) (s : ByteArray), i + d = l.length → s.size ≤ i → Tell (fun k => regattaref25_Core.l0 k l c s (i : Int)) (s ++ coreText (l.drop i) c) := by
  have hl' : l.length ≤ 100000 := hl.1
  induction d with
  | zero =>
    intro i s hi _
    rw [List.drop_of_length_le (by omega)]
    have e : s ++ coreText [] c = s := app_nil s
    rw [e]
    exact Tell.step (g := fun _ => some s) (fun k => by rw [regattaref25_Core.l0, if_neg (by omega)]) (Tell.const _)
  | succ d ih =>
    intro i s hi hs
    have hlt : i < l.length := by omega
    have hsm : l[i].f1.length ≤ 100000 := hl.2 l[i] (List.getElem_mem hlt)
    rw [List.drop_eq_getElem_cons hlt]
    have h := ih (i + 1) (s ++ strOfNums [letter (runAt c l[i].f1)]) (by omega) (by rw [ByteArray.size_append, strOfNums_size]; simp; omega)
    have e : s ++ strOfNums [letter (runAt c l[i].f1)] ++ coreText (l.drop (i + 1)) c = s ++ coreText (l[i] :: l.drop (i + 1)) c := by
      rw [ByteArray.append_assoc]
      unfold coreText coreNums
      rw [← strOf_append]
      rfl
    rw [e] at h
    have h1 := refcore_l1 c l hl hz i hlt s _ (by omega) h l[i].f1.length (Nat.le_refl _)
    rw [List.drop_length] at h1
    refine Tell.step (fun k => ?_) h1
    rw [regattaref25_Core.l0, if_pos (by omega), if_pos (by omega), rd57 l i hlt, w64 (by omega) (by omega)]
    rfl
theorem refcore_f (c : Int) (l : List S57) (hl : SmallRow l) (hz : Sized l) : Tell (fun k => regattaref25_Core.f k l c) (coreText l c) := by
  have h := refcore_l0 c l hl hz l.length 0 ⟨#[]⟩ (by omega) (by simp [ByteArray.size])
  have e : (⟨#[]⟩ : ByteArray) ++ coreText (l.drop 0) c = coreText l c := by apply ByteArray.ext; simp
  rw [e] at h
  exact h
end Go.Proofs.Ytlblianpbjhmoaa.QGantt
