/- Plain Lean: what is read of a picture of a row by numbers. -/
import Derived.Test.YtlblianpbjhmoaaQGRead

namespace Go.Proofs.Ytlblianpbjhmoaa.QGBack
open Go.RowKit Go.Proofs.Ytlblianpbjhmoaa.PGs Go.Proofs.YtlblianpbjhmoaaW.PrintWords Go.Proofs.YtlblianpbjhmoaaW.PrintLast
open Go.Proofs.Ytlblianpbjhmoaa.QEv Go.Proofs.Ytlblianpbjhmoaa.QBits Go.Proofs.Ytlblianpbjhmoaa.QSlot Go.Proofs.Ytlblianpbjhmoaa.GLetters Go.Proofs.Ytlblianpbjhmoaa.QGantt Go.Proofs.Ytlblianpbjhmoaa.QDraw Go.Proofs.Ytlblianpbjhmoaa.QEmpty Go.Proofs.Ytlblianpbjhmoaa.XLines Go.Proofs.Ytlblianpbjhmoaa.XGRead Go.Proofs.Ytlblianpbjhmoaa.QGRead
set_option linter.unusedVariables false
set_option linter.unusedSimpArgs false

def lastF (c : Int) (w : Int) (rs : List S59) : Int := rs.foldl (fun w r => if r.f1 = c then r.f0 else w) w
theorem last_low (c : Int) (xs : List Int) : ∀ (j : Nat) (core w : Int), c ≤ core → lastF c w (madeRuns xs j core) = w := by
  induction xs with
  | nil => intros; rfl
  | cons x xs ih =>
    intro j core w h
    have m7 := Int.emod_nonneg x (show (8 : Int) ≠ 0 by decide)
    unfold madeRuns
    show lastF c (if core + 1 + x % 8 = c then _ else w) (madeRuns xs (j + 1) (core + 1 + x % 8)) = w
    rw [if_neg (by omega)]
    exact ih _ _ _ (by omega)
theorem last_made (c : Int) (xs : List Int) : ∀ (j : Nat) (core : Int), lastF c (-1) (madeRuns xs j core) = runAt c (madeRuns xs j core) := by
  induction xs with
  | nil => intros; rfl
  | cons x xs ih =>
    intro j core
    unfold madeRuns
    rw [runAt_cons]
    show lastF c (if core + 1 + x % 8 = c then _ else -1) (madeRuns xs (j + 1) (core + 1 + x % 8)) = _
    by_cases h : core + 1 + x % 8 = c
    · rw [if_pos h, if_pos h]
      exact last_low c xs _ _ _ (by omega)
    · rw [if_neg h, if_neg h]
      exact ih _ _
theorem run_range (c : Int) (rs : List S59) (h : ∀ r ∈ rs, 0 ≤ r.f0 ∧ r.f0 < 64) : -1 ≤ runAt c rs ∧ runAt c rs < 64 := by
  induction rs with
  | nil => unfold runAt; omega
  | cons r rs ih =>
    rw [runAt_cons]
    split
    · have := h r (by simp); omega
    · exact ih (fun x hx => h x (List.mem_cons_of_mem _ hx))
theorem place_point : place 46 = -1 := by kernel_rfl
theorem place_let (x : Int) (h0 : -1 ≤ x) (h1 : x < 64) : place (letter x) = x ∧ okB (letter x) = true := by
  by_cases h : x = -1
  · subst h
    rw [letter_out _ (.inl (by decide))]
    exact ⟨place_point, by unfold okB; simp⟩
  · have := place_letter x (by omega) h1
    refine ⟨this, ?_⟩
    unfold okB
    rw [this, decide_eq_false h]
    rfl
def wantRow (r : List S57) (c : Nat) : List Int := r.map fun s => runAt (c : Int) s.f1
def wantRows (r : List S57) : Nat → Nat → List (List Int)
  | 0, _ => []
  | n + 1, c => wantRow r c :: wantRows r n (c + 1)
theorem want_len (r : List S57) : ∀ n c, (wantRows r n c).length = n
  | 0, _ => rfl
  | n + 1, c => by unfold wantRows; rw [List.length_cons, want_len r n]
theorem want_at (r : List S57) : ∀ (n c i : Nat) (h : i < (wantRows r n c).length), (wantRows r n c)[i] = wantRow r (c + i)
  | 0, _, i, h => by simp [wantRows] at h
  | n + 1, c, 0, h => rfl
  | n + 1, c, i + 1, h => by
    show (wantRows r n (c + 1))[i]'_ = _
    rw [want_at r n (c + 1) i]
    congr 1
    omega
theorem want_rows (r : List S57) : ∀ (n c : Nat), ∀ l ∈ wantRows r n c, l.length = r.length
  | 0, _, l, h => by simp [wantRows] at h
  | n + 1, c, l, h => by
    unfold wantRows at h
    rcases List.mem_cons.1 h with rfl | h
    · simp [wantRow]
    · exact want_rows r n (c + 1) l h
def Fit (r : List S57) : Prop := ∀ s ∈ r, ∀ c : Int, -1 ≤ runAt c s.f1 ∧ runAt c s.f1 < 64
theorem made_fit (l : List (List Int)) : Fit (madeRow l) := by
  intro s hs c
  obtain ⟨x, a, rfl⟩ := madeFrom_mem l 0 s hs
  exact run_range c _ (fun r hr => by have := madeRuns_mem (x.take 8) 0 (-1) (by rw [List.length_take]; omega) r hr; omega)
theorem core_no (r : List S57) (c : Int) : 10 ∉ coreNums r c := by
  unfold coreNums
  intro h
  obtain ⟨s, _, hs⟩ := List.mem_map.1 h
  exact letter_ne _ hs
theorem core_ok (r : List S57) (h : Fit r) (c : Nat) : (coreNums r (c : Int)).all okB = true ∧ (coreNums r (c : Int)).map place = wantRow r c := by
  unfold coreNums wantRow
  refine ⟨?_, ?_⟩
  · rw [List.all_eq_true]
    intro x hx
    obtain ⟨s, hs, rfl⟩ := List.mem_map.1 hx
    exact (place_let _ (h s hs c).1 (h s hs c).2).2
  · rw [List.map_map]
    refine List.map_congr_left fun s hs => ?_
    exact (place_let _ (h s hs c).1 (h s hs c).2).1
theorem go_draw (r : List S57) (h : Fit r) : ∀ (n c : Nat) (out : List (List Int)), refGo (drawNums r n c) out [] false = finish (out ++ wantRows r n c) false
  | 0, c, out => by
    show finish out false = finish (out ++ []) false
    rw [List.append_nil]
  | n + 1, c, out => by
    have hc := core_ok r h c
    unfold drawNums wantRows
    rw [go_line _ out (coreNums r (c : Int)) [] false (core_no r _), if_pos hc.1, List.nil_append, hc.2, go_draw r h n (c + 1)]
    simp
theorem read_draw (l : List (List Int)) : readR (strOfNums (drawNums (madeRow l) 64 0)) = (wantRows (madeRow l) 64 0, true) := by
  have hb := madeFrom_len l 0 (by omega)
  have hlen : (drawNums (madeRow l) 64 0).length ≤ 1000000 := by
    have : ∀ (n c : Nat), (drawNums (madeRow l) n c).length = n * ((madeRow l).length + 1) := by
      intro n
      induction n with
      | zero => intro c; simp [drawNums]
      | succ n ih =>
        intro c
        unfold drawNums coreNums
        rw [List.length_append, List.length_cons, List.length_map, ih, Nat.succ_mul]
        omega
    rw [this]
    unfold madeRow
    omega
  rw [← go_all _ (drawNums_range _ _ _) hlen, go_draw _ (made_fit l) 64 0 [], List.nil_append]
  unfold finish
  have ha : allEq (wantRows (madeRow l) 64 0) = true := by
    unfold allEq
    rw [List.all_eq_true]
    intro x hx
    have h0 : (wantRows (madeRow l) 64 0).getD 0 [] = wantRow (madeRow l) 0 := rfl
    rw [h0, want_rows _ _ _ x hx]
    simp [wantRow]
  rw [if_pos ha]
  rfl
theorem text_draw (l : List (List Int)) : drawText 64 (madeRow l) = strOfNums (drawNums (madeRow l) 64 0) := by
  unfold drawText
  rw [made_gchk, if_pos rfl, drawFrom_nums]
  apply ByteArray.ext; simp
theorem text_none (l : List (List Int)) (n : Int) (h : 64 < n) : gchk n (madeRow l) = false ∧ drawText n (madeRow l) = ⟨#[]⟩ := by
  have hg : gchk n (madeRow l) = false := by
    cases hb : gchk n (madeRow l) with
    | false => rfl
    | true => have := gchk_bounds hb; omega
  refine ⟨hg, ?_⟩
  unfold drawText
  rw [hg]
  rfl
end Go.Proofs.Ytlblianpbjhmoaa.QGBack
