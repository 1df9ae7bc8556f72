/- Plain Lean: what the document's Read tells of a text is what the program's does. -/
import Derived.Test.YtlblianpbjhmoaaXGRead
import Derived.Test.YtlblianpbjhmoaaQEmpty
import Derived.Test.YtlblianpbjhmoaaPGsx51
import Derived.Test.YtlblianpbjhmoaaPGsx52
namespace Go.Proofs.Ytlblianpbjhmoaa.QGRead
open Go.RowKit Go.Proofs.Ytlblianpbjhmoaa.PGs Go.Proofs.YtlblianpbjhmoaaW.PrintWords Go.Proofs.YtlblianpbjhmoaaW.PrintLast
open Go.Proofs.Ytlblianpbjhmoaa.QEv Go.Proofs.Ytlblianpbjhmoaa.QBits Go.Proofs.Ytlblianpbjhmoaa.QSlot Go.Proofs.Ytlblianpbjhmoaa.GLetters Go.Proofs.Ytlblianpbjhmoaa.QGantt Go.Proofs.Ytlblianpbjhmoaa.QDraw Go.Proofs.Ytlblianpbjhmoaa.QEmpty Go.Proofs.Ytlblianpbjhmoaa.XLines Go.Proofs.Ytlblianpbjhmoaa.XGRead
set_option linter.unusedVariables false
set_option linter.unusedSimpArgs false

def Bytes (xs : List Int) : Prop := ∀ x ∈ xs, 0 ≤ x ∧ x ≤ 255
def numsOf (s : ByteArray) : List Int := s.data.toList.map fun b => (b.toNat : Int)
theorem str_nums (s : ByteArray) : strOfNums (numsOf s) = s := by
  cases s with
  | mk d =>
    show (⟨((d.toList.map fun b => (b.toNat : Int)).map fun n => UInt8.ofNat n.toNat).toArray⟩ : ByteArray) = ⟨d⟩
    rw [List.map_map]
    have e : (fun b : UInt8 => UInt8.ofNat ((b.toNat : Int)).toNat) = id := by
      funext b
      simp
    show (⟨(d.toList.map (fun b : UInt8 => UInt8.ofNat ((b.toNat : Int)).toNat)).toArray⟩ : ByteArray) = _
    rw [e, List.map_id]
theorem nums_bytes (s : ByteArray) : Bytes (numsOf s) := by
  intro x hx
  obtain ⟨b, _, rfl⟩ := List.mem_map.1 hx
  have := b.toNat_lt
  omega
theorem nums_len (s : ByteArray) : (numsOf s).length = s.size := by
  unfold numsOf
  rw [List.length_map]
  simp
theorem Bytes.parts {a b : List Int} (h : Bytes (a ++ b)) : Bytes a ∧ Bytes b := ⟨fun n hn => h n (List.mem_append_left _ hn), fun n hn => h n (List.mem_append_right _ hn)⟩
theorem Bytes.cons {a : Int} {b : List Int} (h : Bytes (a :: b)) : (0 ≤ a ∧ a ≤ 255) ∧ Bytes b := ⟨h a (by simp), fun n hn => h n (List.mem_cons_of_mem _ hn)⟩
theorem idx_at (c : UInt8) (r : List UInt8) : ∀ l : List UInt8, c ∉ l → Lib.indexByte (l ++ c :: r) c = l.length
  | [], _ => by simp [Lib.indexByte]
  | b :: l, h => by
    have hb : b ≠ c := fun e => h (by rw [e]; simp)
    have ih := idx_at c r l (fun hl => h (List.mem_cons_of_mem _ hl))
    show (if b == c then 0 else if Lib.indexByte (l ++ c :: r) c == -1 then -1 else Lib.indexByte (l ++ c :: r) c + 1) = _
    rw [ih, if_neg (by simpa using hb), if_neg (by simp), List.length_cons]
    omega
theorem of_ten (x : Int) (h0 : 0 ≤ x) (h1 : x ≤ 255) (h : UInt8.ofNat x.toNat = 10) : x = 10 := by
  have := congrArg UInt8.toNat h
  simp at this
  omega
theorem nl_nums (l r : List Int) (hb : Bytes (l ++ 10 :: r)) (hl : 10 ∉ l) : nlAt (strOfNums (l ++ 10 :: r)) = l.length := by
  have e : (strOfNums (l ++ 10 :: r)).data.toList = (l.map fun n => UInt8.ofNat n.toNat) ++ 10 :: (r.map fun n => UInt8.ofNat n.toNat) := by
    show (((l ++ 10 :: r).map fun n => UInt8.ofNat n.toNat).toArray).toList = _
    simp
  unfold nlAt
  rw [e, idx_at]
  · rw [List.length_map]
  · intro hm
    obtain ⟨x, hx, hx10⟩ := List.mem_map.1 hm
    have := hb.parts.1 x hx
    have e10 := of_ten x this.1 this.2 hx10
    exact hl (by rw [← e10]; exact hx)
theorem lines_line (l r : List Int) (hb : Bytes (l ++ 10 :: r)) (hl : 10 ∉ l) : linesOf (strOfNums (l ++ 10 :: r)) = strOfNums (l ++ [10]) :: linesOf (strOfNums r) := by
  have hn := nl_nums l r hb hl
  have hsz : (strOfNums (l ++ 10 :: r)).size ≠ 0 := by rw [strOfNums_size]; simp
  have e : strOfNums (l ++ 10 :: r) = strOfNums (l ++ [10]) ++ strOfNums r := by rw [← strOf_append]; simp
  have e2 : ((l.length : Int) + 1).toNat = (strOfNums (l ++ [10])).size := by rw [strOfNums_size, List.length_append]; simp
  rw [lines_cons _ hsz]
  unfold headL restL
  rw [hn, if_pos (by omega), if_pos (by omega), e2, e]
  congr 1
  · exact ByteArray.extract_append_eq_left rfl
  · congr 1
    exact ByteArray.extract_append_eq_right rfl (by rw [ByteArray.size_append])
def okB (x : Int) : Bool := !(decide (place x = -1) && decide (x ≠ 46))
def rowL (l : List Int) : Option (List Int) := if l.all okB = true then some (l.map place) else none
theorem rowL_snoc (l : List Int) (x : Int) : rowL (l ++ [x]) = (rowL l).bind fun L => if place x = -1 ∧ x ≠ 46 then none else some (L ++ [place x]) := by
  unfold rowL
  rw [List.all_append]
  by_cases h : l.all okB = true
  · rw [h, if_pos rfl]
    by_cases hx : place x = -1 ∧ x ≠ 46
    · have : okB x = false := by unfold okB; rw [decide_eq_true hx.1, decide_eq_true hx.2]; rfl
      simp [this, hx]
    · have : okB x = true := by
        unfold okB
        by_cases h1 : place x = -1
        · have h2 : x = 46 := Decidable.of_not_not fun h => hx ⟨h1, h⟩
          simp [h2]
        · simp [h1]
      simp [this, hx]
  · have h' : l.all okB = false := by simpa using h
    rw [h', if_neg (by simp), if_neg (by simp)]
    rfl
theorem rowF_nums (l r : List Int) (hb : Bytes (l ++ r)) : ∀ n, n ≤ l.length → rowF (strOfNums (l ++ r)) n = rowL (l.take n)
  | 0, _ => rfl
  | n + 1, h => by
    have hbt : bt (strOfNums (l ++ r)) (n : Int) = l[n] := by
      rw [bt_nums _ hb n (by rw [List.length_append]; omega), List.getElem_append_left]
    show ((rowF (strOfNums (l ++ r)) n).bind _) = _
    rw [rowF_nums l r hb n (by omega), hbt, List.take_succ_eq_append_getElem (by omega), rowL_snoc]
theorem rowR_nums (l : List Int) (hb : Bytes (l ++ [10])) : rowR (strOfNums (l ++ [10])) = rowL l := by
  unfold rowR
  have e : (strOfNums (l ++ [10])).size - 1 = l.length := by rw [strOfNums_size, List.length_append]; simp
  rw [e, rowF_nums l [10] hb l.length (Nat.le_refl _), List.take_length]
/-! ### The document's loop -/
def allEq (out : List (List Int)) : Bool := out.all fun l => decide (l.length = (out.getD 0 []).length)
def finish (out : List (List Int)) (op : Bool) : List (List Int) × Bool := if allEq out = true then (if op = true then ([], false) else (out, true)) else ([], false)
def refGo : List Int → List (List Int) → List Int → Bool → List (List Int) × Bool
  | [], out, _, op => finish out op
  | x :: xs, out, line, op => if x = 10 then refGo xs (out ++ [line]) [] false else if place x = -1 ∧ x ≠ 46 then ([], false) else refGo xs out (line ++ [place x]) true
theorem go_line (r : List Int) (out : List (List Int)) : ∀ (l line : List Int) (op : Bool), 10 ∉ l → refGo (l ++ 10 :: r) out line op = if l.all okB = true then refGo r (out ++ [line ++ l.map place]) [] false else ([], false)
  | [], line, op, _ => by simp [refGo]
  | x :: l, line, op, h => by
    have hx : x ≠ 10 := fun e => h (by rw [e]; simp)
    show (if x = 10 then refGo (l ++ 10 :: r) (out ++ [line]) [] false else if place x = -1 ∧ x ≠ 46 then ([], false) else refGo (l ++ 10 :: r) out (line ++ [place x]) true) = _
    rw [if_neg hx, List.all_cons]
    by_cases hb : place x = -1 ∧ x ≠ 46
    · have : okB x = false := by unfold okB; rw [decide_eq_true hb.1, decide_eq_true hb.2]; rfl
      rw [if_pos hb, this]
      rfl
    · have : okB x = true := by
        unfold okB
        by_cases h1 : place x = -1
        · have h2 : x = 46 := Decidable.of_not_not fun h => hb ⟨h1, h⟩
          simp [h2]
        · simp [h1]
      rw [if_neg hb, this, Bool.true_and, go_line r out l _ true (fun hl => h (List.mem_cons_of_mem _ hl))]
      simp
theorem allEq_cons (a : List (List Int)) (L : List Int) (ha : allEq a = false) : allEq (a ++ [L]) = false := by
  unfold allEq at *
  cases a with
  | nil => simp at ha
  | cons x a =>
    rw [List.all_append]
    have e : ((x :: a) ++ [L]).getD 0 [] = (x :: a).getD 0 [] := rfl
    rw [e, ha]
    rfl
theorem go_uneq : ∀ (xs : List Int) (out : List (List Int)) (line : List Int) (op : Bool), allEq out = false → refGo xs out line op = ([], false)
  | [], out, line, op, h => by unfold refGo finish; rw [h]; rfl
  | x :: xs, out, line, op, h => by
    unfold refGo
    split
    · exact go_uneq xs _ _ _ (allEq_cons out line h)
    split
    · rfl
    · exact go_uneq xs _ _ _ h
theorem go_open : ∀ (xs : List Int) (out : List (List Int)) (line : List Int) (op : Bool), (∃ y, xs.getLast? = some y ∧ y ≠ 10) → refGo xs out line op = ([], false)
  | [], out, line, op, ⟨y, h, _⟩ => by simp at h
  | [x], out, line, op, ⟨y, h, hy⟩ => by
    obtain rfl : x = y := by simpa using h
    unfold refGo
    rw [if_neg hy]
    split
    · rfl
    · unfold refGo finish
      split
      · rfl
      · rfl
  | x :: x2 :: xs, out, line, op, ⟨y, h, hy⟩ => by
    have h2 : (x2 :: xs).getLast? = some y := by rw [← h]; simp [List.getLast?_cons_cons]
    unfold refGo
    split
    · exact go_open (x2 :: xs) _ _ _ ⟨y, h2, hy⟩
    split
    · rfl
    · exact go_open (x2 :: xs) _ _ _ ⟨y, h2, hy⟩
theorem allEq_snoc (a : List (List Int)) (L : List Int) (ha : allEq a = true) : allEq (a ++ [L]) = !(decide (0 < a.length ∧ L.length ≠ (a.getD 0 []).length)) := by
  cases a with
  | nil => simp [allEq]
  | cons x a =>
    unfold allEq at *
    rw [List.all_append]
    have e : ((x :: a) ++ [L]).getD 0 [] = (x :: a).getD 0 [] := rfl
    rw [e, ha]
    simp
theorem cut_ten : ∀ xs : List Int, 10 ∈ xs → ∃ l r, xs = l ++ 10 :: r ∧ 10 ∉ l
  | [], h => by simp at h
  | x :: xs, h => by
    by_cases hx : x = 10
    · exact ⟨[], xs, by rw [hx]; rfl, by simp⟩
    · obtain ⟨l, r, e, hl⟩ := cut_ten xs (by rcases List.mem_cons.1 h with h | h; exact absurd h.symm hx; exact h)
      exact ⟨x :: l, r, by rw [e]; rfl, by simp; exact ⟨fun h => hx h.symm, hl⟩⟩
theorem go_rows : ∀ (n : Nat) (xs : List Int) (acc : List (List Int)), xs.length ≤ n → Bytes xs → (xs = [] ∨ xs.getLast? = some 10) → allEq acc = true →
    refGo xs acc [] false = match (linesOf (strOfNums xs)).foldlM stepR acc with | none => ([], false) | some a => (a, true)
  | n, [], acc, _, _, _, ha => by
    have e : linesOf (strOfNums []) = [] := lines_nil _ rfl
    rw [e]
    show finish acc false = (acc, true)
    unfold finish
    rw [if_pos ha]
    rfl
  | 0, x :: xs, acc, h, _, _, _ => by simp at h
  | n + 1, x :: xs, acc, h, hb, hl, ha => by
    have hl' : (x :: xs).getLast? = some 10 := by rcases hl with h | h; simp at h; exact h
    obtain ⟨l, r, e, h10⟩ := cut_ten (x :: xs) (List.mem_of_getLast? hl')
    rw [e] at h hb hl' ⊢
    have hr : r = [] ∨ r.getLast? = some 10 := by
      cases r with
      | nil => exact .inl rfl
      | cons y r => right; simpa [List.getLast?_append, List.getLast?_cons_cons] using hl'
    have hbl : Bytes (l ++ [10]) := by
      intro y hy
      rcases List.mem_append.1 hy with hy | hy
      · exact hb y (List.mem_append_left _ hy)
      · exact hb y (List.mem_append_right _ (by rw [List.mem_singleton.1 hy]; simp))
    rw [go_line r acc l [] false h10, lines_line l r hb h10, List.foldlM_cons]
    have hstep : stepR acc (strOfNums (l ++ [10])) = (rowL l).bind fun L => if 0 < acc.length ∧ L.length ≠ (acc.getD 0 []).length then none else some (acc ++ [L]) := by
      unfold stepR
      rw [rowR_nums l hbl]
    rw [hstep]
    unfold rowL
    by_cases hok : l.all okB = true
    · rw [if_pos hok, if_pos hok, List.nil_append, Option.bind_some]
      by_cases hne : 0 < acc.length ∧ (l.map place).length ≠ (acc.getD 0 []).length
      · rw [if_pos hne, go_uneq _ _ _ _ (by rw [allEq_snoc acc _ ha, decide_eq_true hne]; rfl)]
        rfl
      · rw [if_neg hne]
        exact go_rows n r _ (by rw [List.length_append, List.length_cons] at h; omega) (hb.parts.2.cons.2) hr (by rw [allEq_snoc acc _ ha, decide_eq_false hne]; rfl)
    · rw [if_neg hok, if_neg hok]
      rfl
theorem go_all (xs : List Int) (hb : Bytes xs) (hsz : xs.length ≤ 1000000) : refGo xs [] [] false = readR (strOfNums xs) := by
  unfold readR
  have hs : (strOfNums xs).size = xs.length := strOfNums_size xs
  by_cases h0 : xs = []
  · subst h0
    rw [if_neg (by intro h; exact h.1 rfl), go_rows 0 [] [] (Nat.le_refl _) hb (.inl rfl) rfl]
    rfl
  · obtain ⟨y, hy⟩ : ∃ y, xs.getLast? = some y := ⟨_, List.getLast?_eq_some_getLast h0⟩
    have hpos : 0 < xs.length := List.length_pos_iff.2 h0
    have hlast : bt (strOfNums xs) (((strOfNums xs).size : Int) - 1) = y := by
      have e : ((strOfNums xs).size : Int) - 1 = ((xs.length - 1 : Nat) : Int) := by rw [hs]; omega
      rw [e, bt_nums xs hb (xs.length - 1) (by omega)]
      rw [List.getLast?_eq_getElem?, List.getElem?_eq_getElem (by omega)] at hy
      exact Option.some.inj hy
    have hends : endsNl (strOfNums xs) = decide (y = 10) := by
      unfold endsNl
      rw [hlast, hs, decide_eq_true hpos, Bool.true_and]
    rw [hends, hs]
    by_cases hy10 : y = 10
    · subst hy10
      rw [if_neg (by intro h; simp at h), go_rows xs.length xs [] (Nat.le_refl _) hb (.inr hy) rfl]
      rfl
    · rw [if_pos ⟨by omega, by simpa using hy10⟩, go_open xs [] [] false ⟨y, hy, hy10⟩]
/-! ### The printed functions -/
theorem rd_list (l : List (List Int)) (i : Nat) (h : i < l.length) : rd_L5 l (i : Int) = l[i] := by simp [rd_L5, List.getD, List.getElem?_eq_getElem h]
theorem read_l1 (out : List (List Int)) (hlen : out.length ≤ 1000000) (op : Bool) (d : Nat) : ∀ i : Nat, i + d = out.length → Tell (fun k => regattaref25_Read.l1 k out op (i : Int)) (if (out.drop i).all (fun l => decide (l.length = (out.getD 0 []).length)) = true then (if op = true then ([], false) else (out, true)) else ([], false)) := by
  induction d with
  | zero =>
    intro i hi
    rw [List.drop_of_length_le (by omega), List.all_nil, if_pos rfl]
    refine Tell.step (g := fun _ => some (if op = true then ([], false) else (out, true))) (fun k => ?_) (Tell.const _)
    rw [regattaref25_Read.l1, if_neg (by omega)]
    cases op <;> rfl
  | succ d ih =>
    intro i hi
    have hlt : i < out.length := by omega
    have h0 : rd_L5 out 0 = out.getD 0 [] := rfl
    rw [List.drop_eq_getElem_cons hlt, List.all_cons]
    by_cases he : out[i].length = (out.getD 0 []).length
    · rw [decide_eq_true he, Bool.true_and]
      refine Tell.step (fun k => ?_) (ih (i + 1) (by omega))
      rw [regattaref25_Read.l1, if_pos (by omega), if_pos (by omega), if_pos (by omega), rd_list out i hlt, h0, if_pos (by omega), w64 (by omega) (by omega)]
      rfl
    · rw [decide_eq_false he, Bool.false_and, if_neg (by simp)]
      refine Tell.step (g := fun _ => some ([], false)) (fun k => ?_) (Tell.const _)
      rw [regattaref25_Read.l1, if_pos (by omega), if_pos (by omega), if_pos (by omega), rd_list out i hlt, h0, if_neg (by omega)]
theorem read_l0 (xs : List Int) (hb : Bytes xs) (hsz : xs.length ≤ 1000000) (d : Nat) : ∀ (i : Nat) (out : List (List Int)) (line : List Int) (op : Bool), i + d = xs.length → out.length ≤ i → line.length ≤ i →
    Tell (fun k => regattaref25_Read.l0 k (strOfNums xs) out line op (i : Int)) (refGo (xs.drop i) out line op) := by
  induction d with
  | zero =>
    intro i out line op hi h1 h2
    rw [List.drop_of_length_le (by omega)]
    have h := read_l1 out (by omega) op out.length 0 (by omega)
    refine Tell.step (fun k => ?_) h
    rw [regattaref25_Read.l0, if_neg (by rw [strOfNums_size]; omega)]
    rfl
  | succ d ih =>
    intro i out line op hi h1 h2
    have hlt : i < xs.length := by omega
    have hbt := bt_nums xs hb i hlt
    have hrg := hb xs[i] (List.getElem_mem hlt)
    have hpl := place_range xs[i] hrg.1 (by omega)
    rw [List.drop_eq_getElem_cons hlt]
    unfold refGo
    by_cases h10 : xs[i] = 10
    · rw [if_pos h10]
      refine Tell.step (fun k => ?_) (ih (i + 1) (out ++ [line]) [] false (by omega) (by rw [List.length_append, List.length_singleton]; omega) (by simp))
      rw [regattaref25_Read.l0, if_pos (by rw [strOfNums_size]; omega), if_pos (by omega), hbt, if_pos h10, if_pos (by omega), w64 (by omega) (by omega)]
      rfl
    · rw [if_neg h10]
      have hid := refid_f xs[i] hrg.1 (by omega)
      refine Tell.step (fun k => by rw [regattaref25_Read.l0, if_pos (by rw [strOfNums_size]; omega), if_pos (by omega), hbt, if_neg h10]) ?_
      refine Tell.bind hid ?_
      by_cases hbad : place xs[i] = -1 ∧ xs[i] ≠ 46
      · rw [if_pos hbad]
        exact Tell.of (fun k => by rw [if_pos (by omega), if_neg hbad.2]) (Tell.const _)
      · rw [if_neg hbad]
        have h := ih (i + 1) out (line ++ [place xs[i]]) true (by omega) (by omega) (by rw [List.length_append, List.length_singleton]; omega)
        refine Tell.of (fun k => ?_) h
        have e1 : wrap64 ((i : Int) + 1) = ((i + 1 : Nat) : Int) := by rw [w64 (by omega) (by omega)]; omega
        by_cases hn : place xs[i] < 0
        · rw [if_pos hn, if_pos (Decidable.of_not_not fun h => hbad ⟨by omega, h⟩), if_pos (by omega), e1]
        · rw [if_neg hn, if_pos (by omega), e1]
theorem read_t (s : ByteArray) (hs : s.size ≤ 1000000) : Tell (fun k => regattaref25_Read.f k s) (readR s) := by
  have hl := nums_len s
  have h := read_l0 (numsOf s) (nums_bytes s) (by omega) (numsOf s).length 0 [] [] false (by omega) (by simp) (by simp)
  rw [List.drop_zero, go_all _ (nums_bytes s) (by omega), str_nums] at h
  exact h
theorem same_l1 (a : List (List Int)) (hlen : a.length ≤ 1000000) (i : Nat) (hi : i < a.length) (hw : a[i].length ≤ 1000000) (h : Tell (fun k => regattaref25_Same.l0 k a a ((i + 1 : Nat) : Int)) true) (d : Nat) : ∀ j : Nat, j + d = a[i].length → Tell (fun k => regattaref25_Same.l1 k a a (i : Int) (j : Int)) true := by
  induction d with
  | zero =>
    intro j hj
    refine Tell.step (fun k => ?_) h
    have e1 : wrap64 ((i : Int) + 1) = ((i + 1 : Nat) : Int) := by rw [w64 (by omega) (by omega)]; omega
    rw [regattaref25_Same.l1, if_pos (by omega), if_pos (by omega), rd_list a i hi, if_neg (by omega), e1]
  | succ d ih =>
    intro j hj
    refine Tell.step (fun k => ?_) (ih (j + 1) (by omega))
    have e1 : wrap64 ((j : Int) + 1) = ((j + 1 : Nat) : Int) := by rw [w64 (by omega) (by omega)]; omega
    rw [regattaref25_Same.l1, if_pos (by omega), if_pos (by omega), rd_list a i hi, if_pos (by omega), if_pos (by omega), if_pos (by omega), if_pos (by omega), if_pos rfl, e1]
theorem same_l0 (a : List (List Int)) (hlen : a.length ≤ 1000000) (hw : ∀ l ∈ a, l.length ≤ 1000000) (d : Nat) : ∀ i : Nat, i + d = a.length → Tell (fun k => regattaref25_Same.l0 k a a (i : Int)) true := by
  induction d with
  | zero =>
    intro i hi
    exact Tell.step (g := fun _ => some true) (fun k => by rw [regattaref25_Same.l0, if_neg (by omega)]) (Tell.const _)
  | succ d ih =>
    intro i hi
    have hlt : i < a.length := by omega
    refine Tell.step (fun k => ?_) (same_l1 a hlen i hlt (hw _ (List.getElem_mem hlt)) (ih (i + 1) (by omega)) _ 0 (Nat.zero_add _))
    rw [regattaref25_Same.l0, if_pos (by omega), if_pos (by omega), if_pos (by omega), if_pos rfl]
    rfl
theorem same_t (a : List (List Int)) (hlen : a.length ≤ 1000000) (hw : ∀ l ∈ a, l.length ≤ 1000000) : Tell (fun k => regattaref25_Same.f k a a) true :=
  Tell.of (fun k => by rw [regattaref25_Same.f, if_pos rfl]; rfl) (same_l0 a hlen hw a.length 0 (by omega))
/-! ### How great a picture is -/
theorem step_size (acc r : List (List Int)) (t : ByteArray) (M : Nat) (ht : t.size ≤ M) (ha : ∀ l ∈ acc, l.length ≤ M) (h : stepR acc t = some r) : r.length = acc.length + 1 ∧ ∀ l ∈ r, l.length ≤ M := by
  unfold stepR at h
  obtain ⟨L, hL, h1⟩ := Option.bind_eq_some_iff.1 h
  split at h1
  · cases h1
  · obtain rfl := Option.some.inj h1
    have := rowF_len t _ L hL
    refine ⟨by simp, fun l hl => ?_⟩
    rcases List.mem_append.1 hl with hl | hl
    · exact ha l hl
    · rw [List.mem_singleton.1 hl]; omega
theorem rows_size (M : Nat) : ∀ (ts : List ByteArray) (acc r : List (List Int)), (∀ t ∈ ts, t.size ≤ M) → (∀ l ∈ acc, l.length ≤ M) → ts.foldlM stepR acc = some r → r.length = acc.length + ts.length ∧ ∀ l ∈ r, l.length ≤ M
  | [], acc, r, _, ha, h => by obtain rfl := Option.some.inj h; exact ⟨rfl, ha⟩
  | t :: ts, acc, r, ht, ha, h => by
    rw [List.foldlM_cons] at h
    obtain ⟨a2, h1, h2⟩ := Option.bind_eq_some_iff.1 h
    have hs := step_size acc a2 t M (ht t (by simp)) ha h1
    have hr := rows_size M ts a2 r (fun t h => ht t (List.mem_cons_of_mem _ h)) hs.2 h2
    exact ⟨by rw [hr.1, hs.1, List.length_cons]; omega, hr.2⟩
theorem readR_size (s : ByteArray) : (readR s).1.length ≤ s.size ∧ ∀ l ∈ (readR s).1, l.length ≤ s.size := by
  unfold readR
  split
  · exact ⟨Nat.zero_le _, by simp⟩
  · cases h : rowsR (linesOf s) with
    | none => exact ⟨Nat.zero_le _, by simp⟩
    | some r =>
      have := rows_size s.size (linesOf s) [] r (fun t ht => (lines_mem _ s t ht).2) (by simp) h
      have hc := lines_count s.size s
      refine ⟨?_, this.2⟩
      show r.length ≤ s.size
      rw [this.1]
      unfold linesOf
      simpa using hc
end Go.Proofs.Ytlblianpbjhmoaa.QGRead
