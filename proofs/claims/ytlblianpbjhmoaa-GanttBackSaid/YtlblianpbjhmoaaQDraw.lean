/- Plain Lean: whole pictures; rows by numbers, and few slots. -/
import Derived.Test.YtlblianpbjhmoaaQGantt
import Derived.Test.YtlblianpbjhmoaaPGsx9
import Derived.Test.YtlblianpbjhmoaaPGsx16
import Derived.Test.YtlblianpbjhmoaaPGsx17
import Derived.Test.YtlblianpbjhmoaaPGsx18
import Derived.Test.YtlblianpbjhmoaaPGsx19
namespace Go.Proofs.Ytlblianpbjhmoaa.QDraw
open Go.RowKit Go.Proofs.Ytlblianpbjhmoaa.PGs Go.Proofs.YtlblianpbjhmoaaW.PrintWords Go.Proofs.YtlblianpbjhmoaaW.PrintLast
open Go.Proofs.Ytlblianpbjhmoaa.QEv Go.Proofs.Ytlblianpbjhmoaa.QBits Go.Proofs.Ytlblianpbjhmoaa.QSlot Go.Proofs.Ytlblianpbjhmoaa.GLetters Go.Proofs.Ytlblianpbjhmoaa.QGantt
set_option linter.unusedVariables false

def nl : ByteArray := ⟨#[10]⟩
theorem nl_size : nl.size = 1 := rfl
def drawFrom (l : List S57) : Nat → Nat → ByteArray → ByteArray
  | 0, _, s => s
  | n + 1, c, s => drawFrom l n (c + 1) (s ++ (coreText l (c : Int) ++ nl))
def drawText (m : Int) (l : List S57) : ByteArray := if gchk m l then drawFrom l m.toNat 0 ⟨#[]⟩ else ⟨#[]⟩
theorem gchk_bounds {m : Int} {l : List S57} (h : gchk m l = true) : 0 < m ∧ m ≤ 64 ∧ l.length ≤ 1000 := by
  unfold gchk at h
  rw [Bool.and_eq_true, decide_eq_true_eq] at h
  omega
theorem draw_go (l : List S57) (hl : SmallRow l) (h1000 : l.length ≤ 1000) (n : Nat) : ∀ (c : Nat) (s : ByteArray), c + n ≤ 64 → s.size ≤ c * 1001 → Tell (fun k => gantt_Draw.go k l n (c : Int) s) (drawFrom l n c s) := by
  induction n with
  | zero => intro c s _ _; exact Tell.of (fun k => rfl) (Tell.const s)
  | succ n ih =>
    intro c s hc hs
    unfold gantt_Draw.go drawFrom
    refine Tell.bind (core_f (c : Int) l hl) ?_
    refine Tell.of (fun k => ?_) (ih (c + 1) (s ++ (coreText l (c : Int) ++ nl)) (by omega) (by rw [ByteArray.size_append, ByteArray.size_append, coreText_size, nl_size]; omega))
    rw [if_pos (by rw [coreText_size]; omega)]
    rfl
theorem draw_f (m : Int) (l : List S57) (hl : SmallRow l) : Tell (fun k => gantt_Draw.f k l m) (drawText m l) := by
  unfold gantt_Draw.f drawText
  refine Tell.bind (gcheck_f m l hl) ?_
  cases h : gchk m l with
  | false => exact Tell.of (fun k => by rw [if_neg (by simp), if_neg (by simp)]) (Tell.const _)
  | true =>
    have hb := gchk_bounds h
    refine Tell.of (fun k => ?_) (draw_go l hl hb.2.2 m.toNat 0 ⟨#[]⟩ (by omega) (by simp [ByteArray.size]))
    rw [if_pos rfl, if_pos hb.2.1]
    rfl
theorem refdraw_l0 (m : Int) (l : List S57) (hl : SmallRow l) (hz : Sized l) (hm : m ≤ 64) (h1000 : l.length ≤ 1000) (n : Nat) : ∀ (c : Nat) (s : ByteArray), (c : Int) + n = m → s.size ≤ c * 1001 → Tell (fun k => regattaref25_Draw.l0 k l m true s (c : Int)) (drawFrom l n c s) := by
  induction n with
  | zero =>
    intro c s hc _
    exact Tell.step (g := fun _ => some s) (fun k => by rw [regattaref25_Draw.l0, if_neg (by omega)]) (Tell.const _)
  | succ n ih =>
    intro c s hc hs
    unfold drawFrom
    refine Tell.step (fun k => by rw [regattaref25_Draw.l0, if_pos (by omega), if_pos rfl]) ?_
    refine Tell.bind (refcore_f (c : Int) l hl hz) ?_
    refine Tell.of (fun k => ?_) (ih (c + 1) (s ++ (coreText l (c : Int) ++ nl)) (by omega) (by rw [ByteArray.size_append, ByteArray.size_append, coreText_size, nl_size]; omega))
    rw [if_pos (by rw [coreText_size]; omega), if_pos (by rw [coreText_size]; omega), w64 (by omega) (by omega), ← ByteArray.append_assoc]
    rfl
theorem refdraw_f (m : Int) (l : List S57) (hl : SmallRow l) (hz : Sized l) : Tell (fun k => regattaref25_Draw.f k l m) (drawText m l) := by
  unfold regattaref25_Draw.f drawText
  refine Tell.bind (refgcheck_f m l hl) ?_
  cases h : gchk m l with
  | false =>
    refine Tell.step (g := fun _ => some ⟨#[]⟩) (fun k => ?_) (Tell.const _)
    rw [regattaref25_Draw.l0]
    by_cases h0 : (0 : Int) < m
    · rw [if_pos h0, if_neg (by simp)]
    · rw [if_neg h0]
  | true =>
    have hb := gchk_bounds h
    exact refdraw_l0 m l hl hz hb.2.1 hb.2.2 m.toNat 0 ⟨#[]⟩ (by omega) (by simp [ByteArray.size])
/-- Both tell the same of one row. -/
theorem tells_f (m : Int) (l : List S57) (hl : SmallRow l) (hz : Sized l) : Tell (fun k => regattalaw25_tells.f k l m) true := by
  unfold regattalaw25_tells.f
  refine Tell.bind (gcheck_f m l hl) (Tell.bind (refgcheck_f m l hl) ?_)
  simp only [beq_self_eq_true, if_true]
  refine Tell.bind (draw_f m l hl) (Tell.bind (refdraw_f m l hl hz) ?_)
  simp only [if_true]
  refine Tell.bind (core_f 0 l hl) (Tell.bind (refcore_f 0 l hl hz) ?_)
  simp only [if_true]
  refine Tell.bind (core_f _ l hl) (Tell.bind (refcore_f _ l hl hz) ?_)
  simp only [beq_self_eq_true]
  exact Tell.const _

/-! ### Few slots -/
def fewOf (l : List S57) : List S57 := (l.take 6).map (fun s => ⟨s.f0, s.f1.take 6⟩)
theorem few_l0 (l : List S57) (hl : l.length ≤ 9223372036854775807) (hr : ∀ s ∈ l, s.f1.length ≤ 9223372036854775807) (d : Nat) : ∀ (i : Nat) (acc : List S57), i + d = 6 → acc.length = min i l.length → Tell (fun k => regattalaw25_few.l0 k l acc (i : Int)) (acc ++ ((l.drop i).take d).map (fun s => ⟨s.f0, s.f1.take 6⟩)) := by
  induction d with
  | zero =>
    intro i acc hi ha
    simp only [List.take_zero, List.map_nil, List.append_nil]
    have hj : Tell (fun k => regattalaw25_few.j1 k l acc (i : Int) false) acc := Tell.step (g := fun _ => some acc) (fun k => by rw [regattalaw25_few.j1, if_neg (by simp)]) (Tell.const _)
    refine Tell.step (fun k => ?_) hj
    rw [regattalaw25_few.l0, decide_eq_false (by omega)]
    simp
  | succ d ih =>
    intro i acc hi ha
    by_cases hlt : i < l.length
    · have hs := hr l[i] (List.getElem_mem hlt)
      have h := ih (i + 1) (acc ++ [⟨l[i].f0, l[i].f1.take 6⟩]) (by omega) (by rw [List.length_append, List.length_singleton]; omega)
      rw [List.drop_eq_getElem_cons hlt, List.take_succ_cons, List.map_cons]
      rw [List.append_assoc, List.singleton_append] at h
      have e1 : wrap64 ((i : Int) + 1) = ((i + 1 : Nat) : Int) := by rw [w64 (by omega) (by omega)]; omega
      have hj : Tell (fun k => regattalaw25_few.j1 k l acc (i : Int) true) (acc ++ ⟨l[i].f0, l[i].f1.take 6⟩ :: ((l.drop (i + 1)).take d).map (fun s => ⟨s.f0, s.f1.take 6⟩)) := by
        refine Tell.step (fun k => ?_) h
        rw [regattalaw25_few.j1, if_pos rfl, if_pos (by omega), if_pos (by omega), rd57 l i hlt, e1]
        by_cases h6 : (l[i].f1.length : Int) > 6
        · rw [if_pos h6, if_pos (by omega), if_pos (by omega)]
        · rw [if_neg h6, if_pos (by omega), List.take_of_length_le (l := l[i].f1) (by omega)]
      refine Tell.step (fun k => ?_) hj
      rw [regattalaw25_few.l0, if_pos (by omega), decide_eq_true (by omega)]
    · rw [List.drop_of_length_le (by omega)]
      simp only [List.take_nil, List.map_nil, List.append_nil]
      have hj : Tell (fun k => regattalaw25_few.j1 k l acc (i : Int) false) acc := Tell.step (g := fun _ => some acc) (fun k => by rw [regattalaw25_few.j1, if_neg (by simp)]) (Tell.const _)
      refine Tell.step (fun k => ?_) hj
      rw [regattalaw25_few.l0, if_neg (by omega)]
theorem few_f (l : List S57) (hl : l.length ≤ 9223372036854775807) (hr : ∀ s ∈ l, s.f1.length ≤ 9223372036854775807) : Tell (fun k => regattalaw25_few.f k l) (fewOf l) := by
  have h := few_l0 l hl hr 6 0 [] (by omega) (by simp)
  exact h
theorem few_small (l : List S57) : SmallRow (fewOf l) := by
  unfold SmallRow Small fewOf
  refine ⟨by rw [List.length_map, List.length_take]; omega, ?_⟩
  intro s hs
  obtain ⟨x, _, rfl⟩ := List.mem_map.1 hs
  show (x.f1.take 6).length ≤ 100000
  rw [List.length_take]; omega
theorem few_sized (l : List S57) (h : ∀ s ∈ l, ∀ r ∈ s.f1, r.f0 ≤ 9223372036854775807) : Sized (fewOf l) := by
  intro s hs r hr
  unfold fewOf at hs
  obtain ⟨x, hx, rfl⟩ := List.mem_map.1 hs
  exact h x (List.mem_of_mem_take hx) r (List.mem_of_mem_take hr)

/-! ### Rows by numbers -/
def madeRuns : List Int → Nat → Int → List S59
  | [], _, _ => []
  | x :: xs, j, core => ⟨x / 8 % 8 * 8 + j, core + 1 + x % 8, 1⟩ :: madeRuns xs (j + 1) (core + 1 + x % 8)
def madeFrom : List (List Int) → Nat → List S57
  | [], _ => []
  | x :: xs, i => if i < 12 then ⟨i, madeRuns (x.take 8) 0 (-1)⟩ :: madeFrom xs (i + 1) else []
def madeRow (l : List (List Int)) : List S57 := madeFrom l 0
theorem rdL5 (l : List (List Int)) (i : Nat) (h : i < l.length) : rd_L5 l (i : Int) = l[i] := by simp [rd_L5, List.getD, List.getElem?_eq_getElem h]
theorem rdI (l : List Int) (i : Nat) (h : i < l.length) : rd l (i : Int) = l[i] := by simp [rd, List.getD, List.getElem?_eq_getElem h]
theorem w_core (c m : Int) (h0 : -1 ≤ c) (h1 : c ≤ 64) (h2 : 0 ≤ m) (h3 : m < 8) : wrap64 (wrap64 (c + 1) + m) = c + 1 + m := by
  rw [w64 (x := c + 1) (by omega) (by omega), w64 (by omega) (by omega)]
theorem w_id (n j : Int) (h0 : 0 ≤ n) (h1 : n < 8) (h2 : 0 ≤ j) (h3 : j < 8) : wrap64 (wrap64 (n * 8) + j) = n * 8 + j := by
  rw [w64 (x := n * 8) (by omega) (by omega), w64 (by omega) (by omega)]
theorem made_l1 (l : List (List Int)) (acc : List S57) (i : Nat) (hi : i < l.length) (hi12 : i < 12) (ha : acc.length ≤ 12) (hx : l[i].length ≤ 9223372036854775807) (r : List S57) (at_ : Int) (d : Nat) :
    ∀ (j : Nat) (core : Int) (runs : List S59), j + d = min 8 l[i].length → -1 ≤ core → core ≤ 8 * j → runs.length = j →
      Tell (fun k => regattalaw25_made.l0 k l (acc ++ [⟨at_, runs ++ madeRuns ((l[i].take 8).drop j) j core⟩]) ((i + 1 : Nat) : Int)) r → Tell (fun k => regattalaw25_made.l1 k l acc (i : Int) core (j : Int) at_ runs) r := by
  induction d with
  | zero =>
    intro j core runs hj _ _ hr h
    rw [List.drop_of_length_le (by rw [List.length_take]; omega)] at h
    simp only [madeRuns, List.append_nil] at h
    refine Tell.step (fun k => ?_) h
    have e1 : wrap64 ((i : Int) + 1) = ((i + 1 : Nat) : Int) := by rw [w64 (by omega) (by omega)]; omega
    rw [regattalaw25_made.l1, if_pos (by omega), if_pos (by omega), rdL5 l i hi, e1]
    by_cases hlen : (j : Int) < (l[i].length : Int)
    · rw [if_pos hlen, if_neg (by omega), if_pos (by omega)]
    · rw [if_neg hlen, if_pos (by omega)]
  | succ d ih =>
    intro j core runs hj h0 h1 hr h
    have hlt : j < l[i].length := by omega
    have hlt8 : j < (l[i].take 8).length := by rw [List.length_take]; omega
    have e : (l[i].take 8).drop j = l[i][j] :: (l[i].take 8).drop (j + 1) := by
      rw [List.drop_eq_getElem_cons hlt8]; simp
    rw [e] at h
    unfold madeRuns at h
    generalize hy : l[i][j] = y at h
    have m7 := Int.emod_nonneg y (show (8 : Int) ≠ 0 by decide)
    have m8 := Int.emod_lt_of_pos y (show (0 : Int) < 8 by decide)
    have n7 := Int.emod_nonneg (y / 8) (show (8 : Int) ≠ 0 by decide)
    have n8 := Int.emod_lt_of_pos (y / 8) (show (0 : Int) < 8 by decide)
    have j8 : (j : Int) < 8 := by omega
    have c8 : core ≤ 64 := by omega
    have p1 : (0 : Int) ≤ (i : Int) := Int.natCast_nonneg i
    have p2 : (i : Int) < (l.length : Int) := by omega
    have p3 : (j : Int) < (l[i].length : Int) := by omega
    have p4 : (0 : Int) ≤ (j : Int) := Int.natCast_nonneg j
    have p5 : runs.length < 5864062014805 := by omega
    have q1 : j + 1 + d = min 8 l[i].length := by omega
    have q2 : -1 ≤ core + 1 + y % 8 := by omega
    have q3 : core + 1 + y % 8 ≤ 8 * ((j + 1 : Nat) : Int) := by omega
    have e1 : wrap64 ((j : Int) + 1) = ((j + 1 : Nat) : Int) := by rw [w64 (by omega) (by omega)]; omega
    have e2 := w_core core (y % 8) h0 c8 m7 m8
    have e3 := w_id (y / 8 % 8) (j : Int) n7 n8 (Int.natCast_nonneg j) j8
    have q4 : (runs ++ [(⟨y / 8 % 8 * 8 + j, core + 1 + y % 8, 1⟩ : S59)]).length = j + 1 := by rw [List.length_append, hr]; rfl
    have q5 : runs ++ [(⟨y / 8 % 8 * 8 + j, core + 1 + y % 8, 1⟩ : S59)] ++ madeRuns ((l[i].take 8).drop (j + 1)) (j + 1) (core + 1 + y % 8) = runs ++ ⟨y / 8 % 8 * 8 + j, core + 1 + y % 8, 1⟩ :: madeRuns ((l[i].take 8).drop (j + 1)) (j + 1) (core + 1 + y % 8) := by rw [List.append_assoc, List.singleton_append]
    rw [← q5] at h
    have h2 := ih (j + 1) _ _ q1 q2 q3 q4 h
    clear ih h
    refine Tell.step (fun k => ?_) h2
    rw [regattalaw25_made.l1, if_pos p1, if_pos p2, rdL5 l i hi, if_pos p3, if_pos j8, if_pos p4, if_pos p5, rdI _ j hlt, hy, and7, and7, e1, e2, e3]
theorem made_l0 (l : List (List Int)) (hl : l.length ≤ 9223372036854775807) (hr : ∀ s ∈ l, s.length ≤ 9223372036854775807) (d : Nat) : ∀ (i : Nat) (acc : List S57), i + d = 12 → acc.length ≤ i → Tell (fun k => regattalaw25_made.l0 k l acc (i : Int)) (acc ++ madeFrom (l.drop i) i) := by
  induction d with
  | zero =>
    intro i acc hi ha
    have e : madeFrom (l.drop i) i = [] := by
      cases l.drop i with
      | nil => rfl
      | cons x xs => unfold madeFrom; rw [if_neg (by omega)]
    rw [e, List.append_nil]
    have hj : Tell (fun k => regattalaw25_made.j1 k l acc (i : Int) false) acc := Tell.step (g := fun _ => some acc) (fun k => by rw [regattalaw25_made.j1, if_neg (by simp)]) (Tell.const _)
    refine Tell.step (fun k => ?_) hj
    rw [regattalaw25_made.l0, decide_eq_false (by omega)]
    simp
  | succ d ih =>
    intro i acc hi ha
    by_cases hlt : i < l.length
    · have hs := hr l[i] (List.getElem_mem hlt)
      have h := ih (i + 1) (acc ++ [⟨(i : Int), [] ++ madeRuns ((l[i].take 8).drop 0) 0 (-1)⟩]) (by omega) (by rw [List.length_append, List.length_singleton]; omega)
      rw [List.append_assoc, List.singleton_append] at h
      have h1 := made_l1 l acc i hlt (by omega) (by omega) hs _ (i : Int) (min 8 l[i].length) 0 (-1) [] (by omega) (by omega) (by omega) rfl h
      rw [List.drop_eq_getElem_cons hlt]
      unfold madeFrom
      rw [if_pos (by omega)]
      have hj : Tell (fun k => regattalaw25_made.j1 k l acc (i : Int) true) (acc ++ ⟨(i : Int), madeRuns (l[i].take 8) 0 (-1)⟩ :: madeFrom (l.drop (i + 1)) (i + 1)) := Tell.step (fun k => by rw [regattalaw25_made.j1, if_pos rfl]; rfl) h1
      refine Tell.step (fun k => ?_) hj
      rw [regattalaw25_made.l0, if_pos (by omega), decide_eq_true (by omega)]
    · rw [List.drop_of_length_le (by omega)]
      unfold madeFrom
      rw [List.append_nil]
      have hj : Tell (fun k => regattalaw25_made.j1 k l acc (i : Int) false) acc := Tell.step (g := fun _ => some acc) (fun k => by rw [regattalaw25_made.j1, if_neg (by simp)]) (Tell.const _)
      refine Tell.step (fun k => ?_) hj
      rw [regattalaw25_made.l0, if_neg (by omega)]
theorem made_f (l : List (List Int)) (hl : l.length ≤ 9223372036854775807) (hr : ∀ s ∈ l, s.length ≤ 9223372036854775807) : Tell (fun k => regattalaw25_made.f k l) (madeRow l) := made_l0 l hl hr 12 0 [] (by omega) (by simp)
theorem madeRuns_len (xs : List Int) : ∀ j core, (madeRuns xs j core).length = xs.length := by
  induction xs with
  | nil => intros; rfl
  | cons x xs ih => intro j core; unfold madeRuns; rw [List.length_cons, List.length_cons, ih]
theorem madeFrom_len (l : List (List Int)) : ∀ i, i ≤ 12 → (madeFrom l i).length ≤ 12 - i := by
  induction l with
  | nil => intro i _; unfold madeFrom; simp
  | cons x xs ih =>
    intro i hi
    unfold madeFrom
    split
    · rw [List.length_cons]; have := ih (i + 1) (by omega); omega
    · simp
theorem madeFrom_mem (l : List (List Int)) : ∀ i, ∀ s ∈ madeFrom l i, ∃ (x : List Int) (a : Nat), s = ⟨(a : Int), madeRuns (x.take 8) 0 (-1)⟩ := by
  induction l with
  | nil => intro i s hs; unfold madeFrom at hs; simp at hs
  | cons x xs ih =>
    intro i s hs
    unfold madeFrom at hs
    split at hs
    · rcases List.mem_cons.1 hs with rfl | hs
      · exact ⟨x, i, rfl⟩
      · exact ih _ s hs
    · simp at hs
theorem made_small (l : List (List Int)) : SmallRow (madeRow l) := by
  refine ⟨by have := madeFrom_len l 0 (by omega); unfold Small madeRow; omega, ?_⟩
  intro s hs
  obtain ⟨x, a, rfl⟩ := madeFrom_mem l 0 s hs
  show (madeRuns (x.take 8) 0 (-1)).length ≤ 100000
  rw [madeRuns_len, List.length_take]; omega
/-- Each run's ID: below 64. -/
theorem madeRuns_mem (xs : List Int) : ∀ (j : Nat) core, j + xs.length ≤ 8 → ∀ r ∈ madeRuns xs j core, 0 ≤ r.f0 ∧ r.f0 < 64 ∧ r.f2 = 1 := by
  induction xs with
  | nil => intro j core _ r hr; unfold madeRuns at hr; simp at hr
  | cons x xs ih =>
    intro j core hj r hr
    rw [List.length_cons] at hj
    unfold madeRuns at hr
    rcases List.mem_cons.1 hr with rfl | hr
    · have n7 := Int.emod_nonneg (x / 8) (show (8 : Int) ≠ 0 by decide)
      have n8 := Int.emod_lt_of_pos (x / 8) (show (0 : Int) < 8 by decide)
      show 0 ≤ x / 8 % 8 * 8 + (j : Int) ∧ x / 8 % 8 * 8 + (j : Int) < 64 ∧ (1 : Int) = 1
      omega
    · exact ih (j + 1) _ (by omega) r hr
theorem made_sized (l : List (List Int)) : Sized (madeRow l) := by
  intro s hs r hr
  obtain ⟨x, a, rfl⟩ := madeFrom_mem l 0 s hs
  have := madeRuns_mem (x.take 8) 0 (-1) (by rw [List.length_take]; omega) r hr
  omega
end Go.Proofs.Ytlblianpbjhmoaa.QDraw
