/- Plain Lean: rows by numbers, few slots, of the laws of layer 16; the chapter's example. -/
import Derived.Test.YtlblianpbjhmoaaQCount
import Derived.Test.YtlblianpbjhmoaaPGsx3
import Derived.Test.YtlblianpbjhmoaaPGsx26
import Derived.Test.YtlblianpbjhmoaaPGsx27
import Derived.Test.YtlblianpbjhmoaaPGsx37
namespace Go.Proofs.Ytlblianpbjhmoaa.QMade16
open Go.RowKit Go.Proofs.Ytlblianpbjhmoaa.PGs Go.Proofs.YtlblianpbjhmoaaW.PrintWords Go.Proofs.YtlblianpbjhmoaaW.PrintLast
open Go.Proofs.Ytlblianpbjhmoaa.QEv Go.Proofs.Ytlblianpbjhmoaa.QBits Go.Proofs.Ytlblianpbjhmoaa.QSlot Go.Proofs.Ytlblianpbjhmoaa.QCount
set_option linter.unusedVariables false
set_option linter.unusedSimpArgs false

def madeRuns : List Int → Nat → Int → List S59
  | [], _, _ => []
  | x :: xs, j, core => ⟨x / 8 % 32 * 8 + j, core + 1 + x % 8, 1 + x % 1073741824⟩ :: madeRuns xs (j + 1) (core + 1 + x % 8)
def madeFrom (a : Int) : List (List Int) → Nat → List S57
  | [], _ => []
  | x :: xs, i => if i < 12 then ⟨a + i, madeRuns (x.take 8) 0 (-1)⟩ :: madeFrom a xs (i + 1) else []
def madeRow (a : Int) (l : List (List Int)) : List S57 := madeFrom (a % 1073741824) l 0
theorem rdL5 (l : List (List Int)) (i : Nat) (h : i < l.length) : rd_L5 l (i : Int) = l[i] := by simp [rd_L5, List.getD, List.getElem?_eq_getElem h]
theorem rdI (l : List Int) (i : Nat) (h : i < l.length) : rd l (i : Int) = l[i] := by simp [rd, List.getD, List.getElem?_eq_getElem h]
theorem w_core (c m : Int) (h0 : -1 ≤ c) (h1 : c ≤ 64) (h2 : 0 ≤ m) (h3 : m < 8) : wrap64 (wrap64 (c + 1) + m) = c + 1 + m := by
  rw [w64 (x := c + 1) (by omega) (by omega), w64 (by omega) (by omega)]
theorem w_id (n j : Int) (h0 : 0 ≤ n) (h1 : n < 32) (h2 : 0 ≤ j) (h3 : j < 8) : wrap64 (wrap64 (n * 8) + j) = n * 8 + j := by
  rw [w64 (x := n * 8) (by omega) (by omega), w64 (by omega) (by omega)]
theorem made_l1 (from_ : Int) (l : List (List Int)) (acc : List S57) (i : Nat) (hi : i < l.length) (hi12 : i < 12) (ha : acc.length ≤ 12) (hx : l[i].length ≤ 9223372036854775807) (r : List S57) (at_ : Int) (d : Nat) :
    ∀ (j : Nat) (core : Int) (runs : List S59), j + d = min 8 l[i].length → -1 ≤ core → core ≤ 8 * j → runs.length = j →
      Tell (fun k => regattalaw16_made.l0 k l (acc ++ [⟨at_, runs ++ madeRuns ((l[i].take 8).drop j) j core⟩]) from_ ((i + 1 : Nat) : Int)) r → Tell (fun k => regattalaw16_made.l1 k l acc from_ (i : Int) core (j : Int) at_ runs) r := by
  induction d with
  | zero =>
    intro j core runs hj _ _ hr h
    rw [List.drop_of_length_le (by rw [List.length_take]; omega)] at h
    simp only [madeRuns, List.append_nil] at h
    refine Tell.step (fun k => ?_) h
    have e1 : wrap64 ((i : Int) + 1) = ((i + 1 : Nat) : Int) := by rw [w64 (by omega) (by omega)]; omega
    rw [regattalaw16_made.l1, if_pos (by omega), if_pos (by omega), rdL5 l i hi, e1]
    by_cases hlen : (j : Int) < (l[i].length : Int)
    · rw [if_pos hlen, if_neg (by omega), if_pos (by omega)]
    · rw [if_neg hlen, if_pos (by omega)]
  | succ d ih =>
    intro j core runs hj h0 h1 hr h
    have hlt : j < l[i].length := by omega
    have hlt8 : j < (l[i].take 8).length := by rw [List.length_take]; omega
    have e : (l[i].take 8).drop j = l[i][j] :: (l[i].take 8).drop (j + 1) := by
      rw [List.drop_eq_getElem_cons hlt8]; simp
    rw [e] at h
    unfold madeRuns at h
    generalize hy : l[i][j] = y at h
    have m7 := Int.emod_nonneg y (show (8 : Int) ≠ 0 by decide)
    have m8 := Int.emod_lt_of_pos y (show (0 : Int) < 8 by decide)
    have n7 := Int.emod_nonneg (y / 8) (show (32 : Int) ≠ 0 by decide)
    have n8 := Int.emod_lt_of_pos (y / 8) (show (0 : Int) < 32 by decide)
    have t7 := Int.emod_nonneg y (show (1073741824 : Int) ≠ 0 by decide)
    have t8 := Int.emod_lt_of_pos y (show (0 : Int) < 1073741824 by decide)
    have j8 : (j : Int) < 8 := by omega
    have c8 : core ≤ 64 := by omega
    have p1 : (0 : Int) ≤ (i : Int) := Int.natCast_nonneg i
    have p2 : (i : Int) < (l.length : Int) := by omega
    have p3 : (j : Int) < (l[i].length : Int) := by omega
    have p4 : (0 : Int) ≤ (j : Int) := Int.natCast_nonneg j
    have p5 : runs.length < 5864062014805 := by omega
    have q1 : j + 1 + d = min 8 l[i].length := by omega
    have q2 : -1 ≤ core + 1 + y % 8 := by omega
    have q3 : core + 1 + y % 8 ≤ 8 * ((j + 1 : Nat) : Int) := by omega
    have e1 : wrap64 ((j : Int) + 1) = ((j + 1 : Nat) : Int) := by rw [w64 (by omega) (by omega)]; omega
    have e2 := w_core core (y % 8) h0 c8 m7 m8
    have e3 := w_id (y / 8 % 32) (j : Int) n7 n8 (Int.natCast_nonneg j) j8
    have e4 : wrap64 (1 + y % 1073741824) = 1 + y % 1073741824 := w64 (by omega) (by omega)
    have q4 : (runs ++ [(⟨y / 8 % 32 * 8 + j, core + 1 + y % 8, 1 + y % 1073741824⟩ : S59)]).length = j + 1 := by rw [List.length_append, hr]; rfl
    have q5 : runs ++ [(⟨y / 8 % 32 * 8 + j, core + 1 + y % 8, 1 + y % 1073741824⟩ : S59)] ++ madeRuns ((l[i].take 8).drop (j + 1)) (j + 1) (core + 1 + y % 8) = runs ++ ⟨y / 8 % 32 * 8 + j, core + 1 + y % 8, 1 + y % 1073741824⟩ :: madeRuns ((l[i].take 8).drop (j + 1)) (j + 1) (core + 1 + y % 8) := by rw [List.append_assoc, List.singleton_append]
    rw [← q5] at h
    have h2 := ih (j + 1) _ _ q1 q2 q3 q4 h
    clear ih h
    refine Tell.step (fun k => ?_) h2
    rw [regattalaw16_made.l1, if_pos p1, if_pos p2, rdL5 l i hi, if_pos p3, if_pos j8, if_pos p4, if_pos p5, rdI _ j hlt, hy, and7, and31, and30, e1, e2, e3, e4]
theorem made_l0 (from_ : Int) (hf0 : 0 ≤ from_) (hf1 : from_ < 1073741824) (l : List (List Int)) (hl : l.length ≤ 9223372036854775807) (hr : ∀ s ∈ l, s.length ≤ 9223372036854775807) (d : Nat) : ∀ (i : Nat) (acc : List S57), i + d = 12 → acc.length ≤ i → Tell (fun k => regattalaw16_made.l0 k l acc from_ (i : Int)) (acc ++ madeFrom from_ (l.drop i) i) := by
  induction d with
  | zero =>
    intro i acc hi ha
    have e : madeFrom from_ (l.drop i) i = [] := by
      cases l.drop i with
      | nil => rfl
      | cons x xs => unfold madeFrom; rw [if_neg (by omega)]
    rw [e, List.append_nil]
    have hj : Tell (fun k => regattalaw16_made.j1 k l acc from_ (i : Int) false) acc := Tell.step (g := fun _ => some acc) (fun k => by rw [regattalaw16_made.j1, if_neg (by simp)]) (Tell.const _)
    refine Tell.step (fun k => ?_) hj
    rw [regattalaw16_made.l0, decide_eq_false (by omega)]
    simp
  | succ d ih =>
    intro i acc hi ha
    by_cases hlt : i < l.length
    · have hs := hr l[i] (List.getElem_mem hlt)
      have h := ih (i + 1) (acc ++ [⟨from_ + (i : Int), [] ++ madeRuns ((l[i].take 8).drop 0) 0 (-1)⟩]) (by omega) (by rw [List.length_append, List.length_singleton]; omega)
      rw [List.append_assoc, List.singleton_append] at h
      have h1 := made_l1 from_ l acc i hlt (by omega) (by omega) hs _ (from_ + (i : Int)) (min 8 l[i].length) 0 (-1) [] (by omega) (by omega) (by omega) rfl h
      rw [List.drop_eq_getElem_cons hlt]
      unfold madeFrom
      rw [if_pos (by omega)]
      have hj : Tell (fun k => regattalaw16_made.j1 k l acc from_ (i : Int) true) (acc ++ ⟨from_ + (i : Int), madeRuns (l[i].take 8) 0 (-1)⟩ :: madeFrom from_ (l.drop (i + 1)) (i + 1)) := Tell.step (fun k => by rw [regattalaw16_made.j1, if_pos rfl, w64 (by omega) (by omega)]; rfl) h1
      refine Tell.step (fun k => ?_) hj
      rw [regattalaw16_made.l0, if_pos (by omega), decide_eq_true (by omega)]
    · rw [List.drop_of_length_le (by omega)]
      unfold madeFrom
      rw [List.append_nil]
      have hj : Tell (fun k => regattalaw16_made.j1 k l acc from_ (i : Int) false) acc := Tell.step (g := fun _ => some acc) (fun k => by rw [regattalaw16_made.j1, if_neg (by simp)]) (Tell.const _)
      refine Tell.step (fun k => ?_) hj
      rw [regattalaw16_made.l0, if_neg (by omega)]
theorem from_range (a : Int) : 0 ≤ a % 1073741824 ∧ a % 1073741824 < 1073741824 := ⟨Int.emod_nonneg a (by decide), Int.emod_lt_of_pos a (by decide)⟩
theorem made_t (a : Int) (l : List (List Int)) (hl : l.length ≤ 9223372036854775807) (hr : ∀ s ∈ l, s.length ≤ 9223372036854775807) : Tell (fun k => regattalaw16_made.f k a l) (madeRow a l) := by
  unfold regattalaw16_made.f
  rw [and30]
  exact made_l0 _ (from_range a).1 (from_range a).2 l hl hr 12 0 [] (by omega) (by simp)
theorem madeRuns_len (xs : List Int) : ∀ j core, (madeRuns xs j core).length = xs.length := by
  induction xs with
  | nil => intros; rfl
  | cons x xs ih => intro j core; unfold madeRuns; rw [List.length_cons, List.length_cons, ih]
theorem madeFrom_len (a : Int) (l : List (List Int)) : ∀ i, i ≤ 12 → (madeFrom a l i).length ≤ 12 - i := by
  induction l with
  | nil => intro i _; unfold madeFrom; simp
  | cons x xs ih =>
    intro i hi
    unfold madeFrom
    split
    · rw [List.length_cons]; have := ih (i + 1) (by omega); omega
    · simp
theorem madeFrom_mem (a : Int) (l : List (List Int)) : ∀ i, ∀ s ∈ madeFrom a l i, ∃ (x : List Int) (j : Nat), s = ⟨a + (j : Int), madeRuns (x.take 8) 0 (-1)⟩ := by
  induction l with
  | nil => intro i s hs; unfold madeFrom at hs; simp at hs
  | cons x xs ih =>
    intro i s hs
    unfold madeFrom at hs
    split at hs
    · rcases List.mem_cons.1 hs with rfl | hs
      · exact ⟨x, i, rfl⟩
      · exact ih _ s hs
    · simp at hs
/-- A row of few slots, each of few runs. -/
def Tiny (l : List S57) : Prop := l.length ≤ 12 ∧ ∀ s ∈ l, s.f1.length ≤ 8
theorem Tiny.small {l : List S57} (h : Tiny l) : SmallRow l := ⟨by have := h.1; unfold Small; omega, fun s hs => by have := h.2 s hs; unfold Small; omega⟩
theorem Tiny.total {l : List S57} (h : Tiny l) : total l ≤ 96 := by
  obtain ⟨h1, h2⟩ := h
  have : ∀ m : List S57, (∀ s ∈ m, s.f1.length ≤ 8) → QCount.total m ≤ 8 * m.length := by
    intro m
    induction m with
    | nil => intro _; simp [QCount.total]
    | cons s m ih =>
      intro hm
      have a := hm s (by simp)
      have b := ih (fun x hx => hm x (List.mem_cons_of_mem _ hx))
      rw [total_cons, List.length_cons]; omega
  have := this l h2
  omega
theorem Tiny.part {a b : List S57} (h : Tiny (a ++ b)) : Tiny a ∧ Tiny b := by
  obtain ⟨h1, h2⟩ := h
  rw [List.length_append] at h1
  exact ⟨⟨by omega, fun s hs => h2 s (List.mem_append_left _ hs)⟩, ⟨by omega, fun s hs => h2 s (List.mem_append_right _ hs)⟩⟩
theorem made_tiny (a : Int) (l : List (List Int)) : Tiny (madeRow a l) := by
  refine ⟨by have := madeFrom_len (a % 1073741824) l 0 (by omega); unfold madeRow; omega, ?_⟩
  intro s hs
  obtain ⟨x, j, rfl⟩ := madeFrom_mem _ l 0 s hs
  show (madeRuns (x.take 8) 0 (-1)).length ≤ 8
  rw [madeRuns_len, List.length_take]; omega
theorem made_go (m : Int) (hm : 64 ≤ m) (xs : List Int) : ∀ (j : Nat) (core : Int) (seen : List Int), j + xs.length ≤ 8 → -1 ≤ core → core ≤ 8 * (j : Int) - 1 → (∀ y ∈ seen, y % 8 < (j : Int)) → slot_Check.go m core seen (madeRuns xs j core) = true := by
  induction xs with
  | nil => intros; rfl
  | cons x xs ih =>
    intro j core seen hj h0 h1 hs
    rw [List.length_cons] at hj
    have m7 := Int.emod_nonneg x (show (8 : Int) ≠ 0 by decide)
    have m8 := Int.emod_lt_of_pos x (show (0 : Int) < 8 by decide)
    have n7 := Int.emod_nonneg (x / 8) (show (32 : Int) ≠ 0 by decide)
    have n8 := Int.emod_lt_of_pos (x / 8) (show (0 : Int) < 32 by decide)
    have t7 := Int.emod_nonneg x (show (1073741824 : Int) ≠ 0 by decide)
    have t8 := Int.emod_lt_of_pos x (show (0 : Int) < 1073741824 by decide)
    unfold madeRuns slot_Check.go
    generalize x % 8 = a at *
    generalize x / 8 % 32 = b at *
    generalize x % 1073741824 = c at *
    have hmod : (b * 8 + (j : Int)) % 8 = (j : Int) := by omega
    have hns : ¬ (b * 8 + (j : Int) ∈ seen) := by
      intro hm
      have := hs _ hm
      omega
    rw [if_neg (by simp only [hns, false_or]; omega)]
    refine ih (j + 1) (core + 1 + a) ((b * 8 + (j : Int)) :: seen) (by omega) (by omega) (by omega) ?_
    intro y hy
    rcases List.mem_cons.1 hy with rfl | hy
    · omega
    · have := hs y hy; omega
theorem made_rowGo (m : Int) (hm : 64 ≤ m) (hm2 : m ≤ 1024) (a : Int) (ha0 : 0 ≤ a) (ha1 : a < 1073741824) (l : List (List Int)) : ∀ (i : Nat) (p : Option Int), i ≤ 12 → (p = none ∨ p = some (a + (i : Int) - 1)) → rowGo m p (madeFrom a l i) = true := by
  induction l with
  | nil => intro i p _ _; unfold madeFrom rowGo; rfl
  | cons x xs ih =>
    intro i p hi hp
    unfold madeFrom
    split
    · unfold rowGo
      have hc : chk m ⟨a + (i : Int), madeRuns (x.take 8) 0 (-1)⟩ = true := by
        unfold chk
        rw [if_neg (by simp only; omega)]
        exact made_go m hm (x.take 8) 0 (-1) [] (by rw [List.length_take]; omega) (by omega) (by omega) (by simp)
      rw [hc, Bool.true_and]
      have h := ih (i + 1) (some (a + (i : Int))) (by omega) (.inr (by congr 1; omega))
      rw [h, Bool.and_true]
      rcases hp with rfl | rfl
      · rfl
      · simp
    · unfold rowGo; rfl
theorem made_row (m : Int) (hm : 64 ≤ m) (hm2 : m ≤ 1024) (a : Int) (l : List (List Int)) : rowOk m (madeRow a l) = true :=
  made_rowGo m hm hm2 _ (from_range a).1 (from_range a).2 l 0 none (by omega) (.inl rfl)
theorem madeRuns_id (xs : List Int) : ∀ (j : Nat) core, j + xs.length ≤ 8 → ∀ r ∈ madeRuns xs j core, 0 ≤ r.f0 ∧ r.f0 < 256 := by
  induction xs with
  | nil => intro j core _ r hr; unfold madeRuns at hr; simp at hr
  | cons x xs ih =>
    intro j core hj r hr
    rw [List.length_cons] at hj
    unfold madeRuns at hr
    rcases List.mem_cons.1 hr with rfl | hr
    · have n7 := Int.emod_nonneg (x / 8) (show (32 : Int) ≠ 0 by decide)
      have n8 := Int.emod_lt_of_pos (x / 8) (show (0 : Int) < 32 by decide)
      show 0 ≤ x / 8 % 32 * 8 + (j : Int) ∧ x / 8 % 32 * 8 + (j : Int) < 256
      omega
    · exact ih (j + 1) _ (by omega) r hr
theorem made_ids (a : Int) (l : List (List Int)) : ∀ s ∈ madeRow a l, ∀ r ∈ s.f1, 0 ≤ r.f0 ∧ r.f0 < 256 := by
  intro s hs r hr
  obtain ⟨x, j, rfl⟩ := madeFrom_mem _ l 0 s hs
  exact madeRuns_id (x.take 8) 0 (-1) (by rw [List.length_take]; omega) r hr
def nextTo (p : Option Int) (s : S57) : Bool := match p with | none => true | some a => decide (s.f0 = a + 1)
theorem rowGo_cons (m : Int) (p : Option Int) (s : S57) (x : List S57) : rowGo m p (s :: x) = (chk m s && nextTo p s && rowGo m (some s.f0) x) := rfl
theorem rowGo_parts {m : Int} {a b : List S57} : ∀ {p : Option Int}, rowGo m p (a ++ b) = true → rowGo m p a = true ∧ rowGo m none b = true := by
  induction a with
  | nil =>
    intro p h
    refine ⟨by unfold rowGo; rfl, ?_⟩
    cases b with
    | nil => unfold rowGo; rfl
    | cons s r =>
      rw [List.nil_append] at h
      unfold rowGo at h ⊢
      rw [Bool.and_eq_true, Bool.and_eq_true] at h
      rw [h.1.1, h.2]
      rfl
  | cons s a ih =>
    intro p h
    rw [List.cons_append] at h
    rw [rowGo_cons, Bool.and_eq_true] at h
    obtain ⟨h1, h2⟩ := ih h.2
    exact ⟨by rw [rowGo_cons, h.1, h1]; rfl, h2⟩

/-! ### The chapter's example -/
theorem awake16 : Tell (fun k => regattalaw16_awake.f k) true := by
  have hs0 : SmallRow [] := ⟨by simp [Small], by simp⟩
  have hs1 : SmallRow [⟨5, [⟨3, 1, 2⟩]⟩] := ⟨by simp [Small], by intro s hs; simp at hs; subst hs; simp [Small]⟩
  unfold regattalaw16_awake.f
  have b0 : Tell (fun k => slot_Bytes.f k []) ⟨#[0, 0]⟩ := by
    unfold slot_Bytes.f
    refine Tell.bind (row_f 1024 [] hs0) ?_
    refine Tell.of (fun k => ?_) (Tell.const _)
    rw [if_pos (by rfl), if_pos (by decide)]
    simp [rowNums, MPut.vnums, MPut.vnum_lt, strOfNums]
  have b1 : Tell (fun k => slot_Bytes.f k [⟨5, [⟨3, 1, 2⟩]⟩]) ⟨#[1, 5, 1, 1, 3, 2]⟩ := by
    unfold slot_Bytes.f
    refine Tell.bind (row_f 1024 _ hs1) ?_
    refine Tell.of (fun k => ?_) (Tell.const _)
    rw [if_pos (by decide), if_pos (by decide)]
    simp [rowNums, slotsNums, slotNums, runNums, MPut.vnums, MPut.vnum_lt, strOfNums]
  have e0 : (⟨#[0, 0]⟩ : ByteArray).toList = ([0, 0] : List UInt8) := by rw [ByteArray.toList_eq]
  have e1 : (⟨#[1, 5, 1, 1, 3, 2]⟩ : ByteArray).toList = ([1, 5, 1, 1, 3, 2] : List UInt8) := by rw [ByteArray.toList_eq]
  have r2 := row_f 2 _ hs1
  have r2' : rowOk 2 [⟨5, [⟨3, 1, 2⟩]⟩] = true := by decide
  rw [r2'] at r2
  have em := empty_t 2 _ hs1
  have em' : emptyOf 2 [⟨5, [⟨3, 1, 2⟩]⟩] = 1 := by unfold emptyOf; rw [if_pos r2']; decide
  rw [em'] at em
  refine Tell.of (fun k => by rw [Option.bind_some]) ?_
  refine Tell.bind b0 ?_
  refine Tell.of (fun k => by rw [if_pos e0]) (Tell.bind b1 ?_)
  refine Tell.of (fun k => by rw [if_pos e1]) (Tell.bind r2 ?_)
  refine Tell.of (fun k => by rw [if_pos rfl]) (Tell.bind em ?_)
  exact Tell.of (fun k => by rfl) (Tell.const true)
end Go.Proofs.Ytlblianpbjhmoaa.QMade16
