/- Plain Lean: rows by numbers may be drawn; how many points their pictures have. -/
import Derived.Test.YtlblianpbjhmoaaQDraw
import Derived.Test.YtlblianpbjhmoaaPGsx3
namespace Go.Proofs.Ytlblianpbjhmoaa.QEmpty
open Go.RowKit Go.Proofs.Ytlblianpbjhmoaa.PGs Go.Proofs.YtlblianpbjhmoaaW.PrintWords Go.Proofs.YtlblianpbjhmoaaW.PrintLast
open Go.Proofs.Ytlblianpbjhmoaa.QEv Go.Proofs.Ytlblianpbjhmoaa.QBits Go.Proofs.Ytlblianpbjhmoaa.QSlot Go.Proofs.Ytlblianpbjhmoaa.GLetters Go.Proofs.Ytlblianpbjhmoaa.QGantt Go.Proofs.Ytlblianpbjhmoaa.QDraw
set_option linter.unusedVariables false

theorem made_go (xs : List Int) : ∀ (j : Nat) (core : Int) (seen : List Int), j + xs.length ≤ 8 → -1 ≤ core → core ≤ 8 * (j : Int) - 1 → (∀ y ∈ seen, y % 8 < (j : Int)) → slot_Check.go 64 core seen (madeRuns xs j core) = true := by
  induction xs with
  | nil => intros; rfl
  | cons x xs ih =>
    intro j core seen hj h0 h1 hs
    rw [List.length_cons] at hj
    have m7 := Int.emod_nonneg x (show (8 : Int) ≠ 0 by decide)
    have m8 := Int.emod_lt_of_pos x (show (0 : Int) < 8 by decide)
    have n7 := Int.emod_nonneg (x / 8) (show (8 : Int) ≠ 0 by decide)
    have n8 := Int.emod_lt_of_pos (x / 8) (show (0 : Int) < 8 by decide)
    unfold madeRuns slot_Check.go
    generalize x % 8 = a at *
    generalize x / 8 % 8 = b at *
    have hmod : (b * 8 + (j : Int)) % 8 = (j : Int) := by omega
    have hns : ¬ (b * 8 + (j : Int) ∈ seen) := by
      intro hm
      have := hs _ hm
      omega
    rw [if_neg (by simp only [hns, false_or]; omega)]
    refine ih (j + 1) (core + 1 + a) ((b * 8 + (j : Int)) :: seen) (by omega) (by omega) (by omega) ?_
    intro y hy
    rcases List.mem_cons.1 hy with rfl | hy
    · omega
    · have := hs y hy; omega
theorem made_chk (x : List Int) (a : Nat) (ha : a ≤ 12) : chk 64 ⟨(a : Int), madeRuns (x.take 8) 0 (-1)⟩ = true := by
  unfold chk
  rw [if_neg (by simp only; omega)]
  exact made_go (x.take 8) 0 (-1) [] (by rw [List.length_take]; omega) (by omega) (by omega) (by simp)
theorem made_rowGo (l : List (List Int)) : ∀ (i : Nat) (p : Option Int), i ≤ 12 → (p = none ∨ p = some ((i : Int) - 1)) → rowGo 64 p (madeFrom l i) = true := by
  induction l with
  | nil => intro i p _ _; unfold madeFrom rowGo; rfl
  | cons x xs ih =>
    intro i p hi hp
    unfold madeFrom
    split
    · unfold rowGo
      rw [made_chk x i hi, Bool.true_and]
      have h := ih (i + 1) (some (i : Int)) (by omega) (.inr (by congr 1; omega))
      rw [h, Bool.and_true]
      rcases hp with rfl | rfl
      · rfl
      · simp
    · unfold rowGo; rfl
theorem made_row (l : List (List Int)) : rowOk 64 (madeRow l) = true := made_rowGo l 0 none (by omega) (.inl rfl)
theorem made_narrow (l : List (List Int)) : ganttWide (madeRow l) = false := by
  unfold ganttWide
  rw [List.any_eq_false]
  intro s hs
  obtain ⟨x, a, rfl⟩ := madeFrom_mem l 0 s hs
  have : ganttWideRun (madeRuns (x.take 8) 0 (-1)) = false := by
    unfold ganttWideRun
    rw [List.any_eq_false]
    intro r hr
    have := madeRuns_mem (x.take 8) 0 (-1) (by rw [List.length_take]; omega) r hr
    simp; omega
  simp [this]
theorem made_gchk (l : List (List Int)) : gchk 64 (madeRow l) = true := by
  unfold gchk
  rw [made_row, made_narrow, decide_eq_true]
  · rfl
  · have := madeFrom_len l 0 (by omega)
    unfold madeRow
    omega

/-! ### A picture's bytes -/
def drawNums (l : List S57) : Nat → Nat → List Int
  | 0, _ => []
  | n + 1, c => coreNums l (c : Int) ++ 10 :: drawNums l n (c + 1)
theorem drawFrom_nums (l : List S57) (n : Nat) : ∀ (c : Nat) (s : ByteArray), drawFrom l n c s = s ++ strOfNums (drawNums l n c) := by
  induction n with
  | zero => intro c s; exact (app_nil s).symm
  | succ n ih =>
    intro c s
    unfold drawFrom drawNums
    rw [ih, ByteArray.append_assoc]
    congr 1
    have e : (nl : ByteArray) = strOfNums [10] := rfl
    unfold coreText
    rw [e, ← strOf_append, ← strOf_append]
    simp
theorem drawNums_range (l : List S57) (n : Nat) : ∀ c, ∀ x ∈ drawNums l n c, 0 ≤ x ∧ x ≤ 255 := by
  induction n with
  | zero => intro c x hx; simp [drawNums] at hx
  | succ n ih =>
    intro c x hx
    unfold drawNums at hx
    rcases List.mem_append.1 hx with hx | hx
    · unfold coreNums at hx
      obtain ⟨s, _, rfl⟩ := List.mem_map.1 hx
      exact letter_range _
    · rcases List.mem_cons.1 hx with rfl | hx
      · omega
      · exact ih _ x hx
theorem bt_nums (xs : List Int) (h : ∀ x ∈ xs, 0 ≤ x ∧ x ≤ 255) (i : Nat) (hi : i < xs.length) : bt (strOfNums xs) (i : Int) = xs[i] := by
  have hx := h xs[i] (List.getElem_mem hi)
  unfold bt
  rw [dif_pos (by rw [strOfNums_size]; simpa using hi)]
  have e : (strOfNums xs)[(i : Int).toNat]'(by rw [strOfNums_size]; simpa using hi) = UInt8.ofNat xs[i].toNat := by
    show ((xs.map fun n => UInt8.ofNat n.toNat).toArray)[(i : Int).toNat]'_ = _
    simp
  rw [e]
  simp
  omega
def lines (xs : List Int) : Nat := xs.count 10
def points (xs : List Int) : Nat := xs.count 46
theorem lines_draw (l : List S57) (n : Nat) : ∀ c, lines (drawNums l n c) = n := by
  induction n with
  | zero => intro c; rfl
  | succ n ih =>
    intro c
    unfold drawNums lines
    rw [List.count_append, List.count_cons]
    have h0 : (coreNums l (c : Int)).count 10 = 0 := by
      rw [List.count_eq_zero]
      unfold coreNums
      intro hm
      obtain ⟨s, _, he⟩ := List.mem_map.1 hm
      exact letter_ne _ he
    have h1 : (drawNums l n (c + 1)).count 10 = n := ih (c + 1)
    rw [h0, h1]; simp
/-- The points of one slot, from a core on. -/
def free (s : List S59) : Nat → Nat → Nat
  | 0, _ => 0
  | n + 1, c => (if letter (runAt (c : Int) s) = 46 then 1 else 0) + free s n (c + 1)
theorem free_succ (s : List S59) (n c : Nat) : free s (n + 1) c = (if letter (runAt (c : Int) s) = 46 then 1 else 0) + free s n (c + 1) := rfl
theorem runAt_cons (c : Int) (r : S59) (rs : List S59) : runAt c (r :: rs) = if r.f1 = c then r.f0 else runAt c rs := rfl
theorem points_draw (l : List S57) (n : Nat) : ∀ c, points (drawNums l n c) = (l.map (fun s => free s.f1 n c)).sum := by
  induction n with
  | zero =>
    intro c
    show 0 = (l.map (fun s => 0)).sum
    induction l with
    | nil => rfl
    | cons s l ihl => rw [List.map_cons, List.sum_cons, ← ihl]
  | succ n ih =>
    intro c
    unfold drawNums points
    rw [List.count_append, List.count_cons]
    have h1 : (drawNums l n (c + 1)).count 46 = (l.map (fun s => free s.f1 n (c + 1))).sum := ih (c + 1)
    rw [h1]
    simp only [show ((10 : Int) == 46) = false from rfl, Bool.false_eq_true, if_false, Nat.add_zero]
    clear ih h1
    induction l with
    | nil => rfl
    | cons s l ihl =>
      simp only [coreNums, List.map_cons, List.count_cons, List.sum_cons, free] at ihl ⊢
      have e : (if (letter (runAt (c : Int) s.f1) == 46) = true then 1 else 0) = (if letter (runAt (c : Int) s.f1) = 46 then (1 : Nat) else 0) := by
        simp
      rw [e]
      omega
theorem runAt_low (xs : List Int) : ∀ (j : Nat) (core c : Int), c ≤ core → runAt c (madeRuns xs j core) = -1 := by
  induction xs with
  | nil => intros; rfl
  | cons x xs ih =>
    intro j core c h
    have m7 := Int.emod_nonneg x (show (8 : Int) ≠ 0 by decide)
    unfold madeRuns
    rw [runAt_cons, if_neg (by simp only; omega)]
    exact ih _ _ _ (by omega)
theorem free_gap (s : List S59) (g : Nat) : ∀ (n c : Nat), (∀ k, c ≤ k → k < c + g → runAt (k : Int) s = -1) → free s (g + n) c = g + free s n (c + g) := by
  induction g with
  | zero => intro n c _; simp
  | succ g ih =>
    intro n c h
    rw [show g + 1 + n = (g + n) + 1 by omega]
    rw [free_succ, h c (by omega) (by omega), if_pos (letter_out _ (.inl (by decide))), ih n (c + 1) (fun k h1 h2 => h k (by omega) (by omega)), show c + 1 + g = c + (g + 1) by omega]
    omega
theorem free_after (r : S59) (s : List S59) (n : Nat) : ∀ c : Nat, r.f1 < (c : Int) → free (r :: s) n c = free s n c := by
  induction n with
  | zero => intros; rfl
  | succ n ih =>
    intro c h
    rw [free_succ, free_succ, ih (c + 1) (by omega), runAt_cons, if_neg (show ¬ r.f1 = (c : Int) by omega)]
theorem free_made (xs : List Int) : ∀ (j : Nat) (core : Int) (c n : Nat), j + xs.length ≤ 8 → core + 1 = (c : Int) → core ≤ 8 * (j : Int) - 1 → c + n = 64 → free (madeRuns xs j core) n c + xs.length = n := by
  induction xs with
  | nil =>
    intro j core c n _ _ _ _
    have h := free_gap (madeRuns [] j core) n 0 c (fun k _ _ => rfl)
    simpa [free] using h
  | cons x xs ih =>
    intro j core c n hj hc h8 hn
    rw [List.length_cons] at hj ⊢
    have m7 := Int.emod_nonneg x (show (8 : Int) ≠ 0 by decide)
    have m8 := Int.emod_lt_of_pos x (show (0 : Int) < 8 by decide)
    have n7 := Int.emod_nonneg (x / 8) (show (8 : Int) ≠ 0 by decide)
    have n8 := Int.emod_lt_of_pos (x / 8) (show (0 : Int) < 8 by decide)
    unfold madeRuns
    obtain ⟨g, hg⟩ : ∃ g : Nat, x % 8 = (g : Int) := ⟨(x % 8).toNat, by omega⟩
    rw [hg]
    have hrest := ih (j + 1) (core + 1 + (g : Int)) (c + g + 1) (n - g - 1) (by omega) (by omega) (by omega) (by omega)
    have hgap := free_gap (⟨x / 8 % 8 * 8 + (j : Int), core + 1 + (g : Int), 1⟩ :: madeRuns xs (j + 1) (core + 1 + (g : Int))) g (n - g) c (fun k h1 h2 => by
      rw [runAt_cons, if_neg (by simp only; omega)]
      exact runAt_low xs _ _ _ (by omega))
    rw [show g + (n - g) = n by omega] at hgap
    rw [hgap, show n - g = (n - g - 1) + 1 by omega]
    rw [free_succ]
    have hat : runAt ((c + g : Nat) : Int) (⟨x / 8 % 8 * 8 + (j : Int), core + 1 + (g : Int), 1⟩ :: madeRuns xs (j + 1) (core + 1 + (g : Int))) = x / 8 % 8 * 8 + (j : Int) := by
      rw [runAt_cons, if_pos (by simp only; omega)]
    rw [hat, if_neg (letter_point _ (by omega) (by omega)), free_after _ _ _ _ (by simp only; omega)]
    omega
theorem points_made (l : List (List Int)) : ((points (drawNums (madeRow l) 64 0) : Nat) : Int) = ((madeRow l).map (fun s => 64 - (s.f1.length : Int))).sum := by
  rw [points_draw]
  have h : ∀ s ∈ madeRow l, ((free s.f1 64 0 : Nat) : Int) = 64 - (s.f1.length : Int) := by
    intro s hs
    obtain ⟨x, a, rfl⟩ := madeFrom_mem l 0 s hs
    have := free_made (x.take 8) 0 (-1) 0 64 (by rw [List.length_take]; omega) (by omega) (by omega) (by omega)
    show ((free (madeRuns (x.take 8) 0 (-1)) 64 0 : Nat) : Int) = 64 - ((madeRuns (x.take 8) 0 (-1)).length : Int)
    rw [madeRuns_len]
    omega
  generalize madeRow l = m at h
  induction m with
  | nil => rfl
  | cons s m ih =>
    have h1 := h s (by simp)
    have h2 := ih (fun x hx => h x (List.mem_cons_of_mem _ hx))
    simp only [List.map_cons, List.sum_cons]
    omega
end Go.Proofs.Ytlblianpbjhmoaa.QEmpty
