/- Plain Lean: the bytes of a row, by the program and by the document; the document's counts. -/
import Derived.Test.YtlblianpbjhmoaaQMade16
import Derived.Test.YtlblianpbjhmoaaPGsx3
import Derived.Test.YtlblianpbjhmoaaPGsx23
import Derived.Test.YtlblianpbjhmoaaPGsx26
import Derived.Test.YtlblianpbjhmoaaPGsx31
import Derived.Test.YtlblianpbjhmoaaPGsx32
import Derived.Test.YtlblianpbjhmoaaPGsx33
import Derived.Test.YtlblianpbjhmoaaPGsx34
namespace Go.Proofs.Ytlblianpbjhmoaa.QBytes
open Go.RowKit Go.Proofs.Ytlblianpbjhmoaa.PGs Go.Proofs.YtlblianpbjhmoaaW.PrintWords Go.Proofs.YtlblianpbjhmoaaW.PrintLast
open Go.Proofs.Ytlblianpbjhmoaa.QEv Go.Proofs.Ytlblianpbjhmoaa.QBits Go.Proofs.Ytlblianpbjhmoaa.QSlot Go.Proofs.Ytlblianpbjhmoaa.QCount Go.Proofs.Ytlblianpbjhmoaa.QMade16 Go.Proofs.Ytlblianpbjhmoaa.MPut
set_option linter.unusedVariables false
set_option linter.unusedSimpArgs false

theorem tdiv_nat (a b : Nat) : Int.tdiv (a : Int) (b : Int) = ((a / b : Nat) : Int) := by rw [Int.tdiv_eq_ediv_of_nonneg (by omega), ← Int.natCast_ediv]
theorem tmod_nat (a b : Nat) : Int.tmod (a : Int) (b : Int) = ((a % b : Nat) : Int) := by rw [Int.tmod_eq_emod_of_nonneg (by omega), ← Int.natCast_emod]
theorem number_t (n : Nat) : n < 4611686018427387904 → Tell (fun k => regattaref16_Number.f k (n : Int)) (strOfNums (vnum n)) := by
  induction n using Nat.strongRecOn with
  | _ n ih =>
    intro hn
    by_cases h : n < 128
    · rw [vnum_lt n h]
      refine Tell.step (g := fun _ => some (strOfNums [(n : Int)])) (fun k => ?_) (Tell.const _)
      rw [regattaref16_Number.f, if_pos (by omega), show (n : Int) % 256 = n by omega]
    · rw [vnum_ge n h, strOf_cons]
      have hl := vnum_len9 (n / 128) (by omega)
      refine Tell.step (fun k => by rw [regattaref16_Number.f, if_neg (by omega), Option.bind_some, show (128 : Int) = ((128 : Nat) : Int) from rfl, tdiv_nat, w64 (x := ((n / 128 : Nat) : Int)) (by omega) (by omega)]) ?_
      refine Tell.bind (ih (n / 128) (by omega) (by omega)) ?_
      refine Tell.of (fun k => ?_) (Tell.const _)
      have e : (wrap64 (Int.tmod (n : Int) ((128 : Nat) : Int) + ((128 : Nat) : Int))) % 256 = ((n % 128 + 128 : Nat) : Int) := by
        rw [tmod_nat, w64 (by omega) (by omega)]; omega
      rw [if_pos (by rw [strOfNums_size, strOfNums_size]; simp only [List.length_singleton]; omega), e]
theorem number_i (x : Int) (h0 : 0 ≤ x) (h1 : x < 4611686018427387904) : Tell (fun k => regattaref16_Number.f k x) (strOfNums (vnum x.toNat)) := by
  have h := number_t x.toNat (by omega)
  rw [Int.toNat_of_nonneg h0] at h
  exact h
theorem vnums_cons (x : Int) (l : List Int) : vnums (x :: l) = vnum x.toNat ++ vnums l := by simp [vnums]
def Fine (l : List Int) : Prop := ∀ n ∈ l, 0 ≤ n ∧ n < 4611686018427387904
theorem Fine.cons {x : Int} {l : List Int} (h : Fine (x :: l)) : (0 ≤ x ∧ x < 4611686018427387904) ∧ Fine l := ⟨h x (by simp), fun n hn => h n (List.mem_cons_of_mem _ hn)⟩
theorem Fine.parts {a b : List Int} (h : Fine (a ++ b)) : Fine a ∧ Fine b := ⟨fun n hn => h n (List.mem_append_left _ hn), fun n hn => h n (List.mem_append_right _ hn)⟩

/-! ### A row's numbers are of their ranges -/
theorem go_nums (m : Int) (hm : m ≤ 1024) (rs : List S59) : ∀ (last base : Int) (seen : List Int), -1 ≤ last → (base = last ∨ last = -1 ∧ base = 0) → slot_Check.go m last seen rs = true → Fine (runNums base rs) := by
  induction rs with
  | nil => intro last base seen _ _ _ n hn; simp [runNums] at hn
  | cons r rs ih =>
    intro last base seen hl hb h
    unfold slot_Check.go at h
    split at h
    · cases h
    · rename_i hc
      have c1 : ¬ r.f1 ≤ last := fun e => hc (.inl e)
      have c2 : ¬ r.f1 ≥ m := fun e => hc (.inr (.inl e))
      have c3 : ¬ r.f0 < 0 := fun e => hc (.inr (.inr (.inl e)))
      have c4 : ¬ r.f0 > 1023 := fun e => hc (.inr (.inr (.inr (.inl e))))
      have c6 : ¬ r.f2 < 1 := fun e => hc (.inr (.inr (.inr (.inr (.inr (.inl e))))))
      have c7 : ¬ r.f2 > 1099511627776 := fun e => hc (.inr (.inr (.inr (.inr (.inr (.inr e))))))
      have hr := ih r.f1 r.f1 (r.f0 :: seen) (by omega) (.inl rfl) h
      intro n hn
      unfold runNums at hn
      rcases List.mem_cons.1 hn with rfl | hn
      · omega
      · rcases List.mem_cons.1 hn with rfl | hn
        · omega
        · rcases List.mem_cons.1 hn with rfl | hn
          · omega
          · exact hr n hn
theorem chk_parts {m : Int} {s : S57} (h : chk m s = true) : m ≤ 1024 ∧ 0 ≤ s.f0 ∧ s.f0 ≤ 1099511627776 ∧ slot_Check.go m (-1) [] s.f1 = true := by
  unfold chk at h
  split at h
  · cases h
  · exact ⟨by omega, by omega, by omega, h⟩
theorem slots_fine {m : Int} {l : List S57} (h : ∀ s ∈ l, chk m s = true) (hr : ∀ s ∈ l, s.f1.length ≤ 8) : Fine (slotsNums l) := by
  intro n hn
  unfold slotsNums at hn
  obtain ⟨x, hx, hnx⟩ := List.mem_flatten.1 hn
  obtain ⟨s, hs, rfl⟩ := List.mem_map.1 hx
  obtain ⟨h1, h2, h3, h4⟩ := chk_parts (h s hs)
  have := hr s hs
  unfold slotNums at hnx
  rcases List.mem_cons.1 hnx with rfl | hnx
  · omega
  · exact go_nums m h1 s.f1 (-1) 0 [] (by omega) (.inr ⟨rfl, rfl⟩) h4 n hnx
theorem runNums_len (rs : List S59) : ∀ last, (runNums last rs).length = 3 * rs.length := by
  induction rs with
  | nil => intro last; rfl
  | cons r rs ih => intro last; unfold runNums; simp only [List.length_cons, ih]; omega
theorem slots_len {l : List S57} (hr : ∀ s ∈ l, s.f1.length ≤ 8) : (slotsNums l).length ≤ 25 * l.length := by
  induction l with
  | nil => simp [slotsNums]
  | cons s l ih =>
    have h1 := hr s (by simp)
    have h2 := ih (fun x hx => hr x (List.mem_cons_of_mem _ hx))
    have e : slotsNums (s :: l) = slotNums s ++ slotsNums l := rfl
    rw [e, List.length_append, List.length_cons]
    unfold slotNums
    rw [List.length_cons, runNums_len]
    omega
theorem row_fine {l : List S57} (hT : Tiny l) (h : rowOk 1024 l = true) : Fine (rowNums l) ∧ (rowNums l).length ≤ 400 := by
  have hc := rowGo_chk h
  have hf := slots_fine hc hT.2
  have hl := slots_len hT.2
  have h12 := hT.1
  cases l with
  | nil =>
    refine ⟨?_, by simp [rowNums]⟩
    intro n hn
    simp [rowNums] at hn
    omega
  | cons s r =>
    obtain ⟨h1, h2, h3, h4⟩ := chk_parts (hc s (by simp))
    constructor
    · intro n hn
      unfold rowNums at hn
      rcases List.mem_cons.1 hn with rfl | hn
      · omega
      · rcases List.mem_cons.1 hn with rfl | hn
        · omega
        · exact hf n hn
    · unfold rowNums
      simp only [List.length_cons] at hl h12 ⊢
      omega
theorem nums_ok {l : List S57} (hT : Tiny l) (h : rowOk 1024 l = true) : numsOk l := by
  obtain ⟨h1, h2⟩ := row_fine hT h
  exact ⟨by have := hT.1; omega, fun s hs => by have := hT.2 s hs; omega, h1, by omega⟩
def bytesRow (l : List S57) : ByteArray := if rowOk 1024 l = true then strOfNums (vnums (rowNums l)) else ⟨#[]⟩
theorem bytes_t (l : List S57) (hT : Tiny l) : Tell (fun k => slot_Bytes.f k l) (bytesRow l) := by
  unfold slot_Bytes.f bytesRow
  refine Tell.bind (row_f 1024 l hT.small) ?_
  by_cases h : rowOk 1024 l = true
  · rw [if_pos h, h]
    exact Tell.of (fun k => by rw [if_pos rfl, if_pos (nums_ok hT h)]) (Tell.const _)
  · rw [if_neg h]
    exact Tell.of (fun k => by rw [if_neg h]) (Tell.const _)

/-! ### The document's bytes -/
theorem vn_size (l : List Int) (h : Fine l) : (strOfNums (vnums l)).size ≤ 9 * l.length := by
  rw [strOfNums_size]
  exact vnums_len l (fun n hn => by have := h n hn; omega)
theorem rbytes_l1 (l : List S57) (i : Nat) (hi : i < l.length) (hl : l.length ≤ 100000) (hr : (rd_T57 l i).f1.length ≤ 1000) (r : ByteArray) (d : Nat) : ∀ (j : Nat) (last : Int) (acc : ByteArray), j + d = (rd_T57 l i).f1.length → acc.size + 27 * d ≤ 1000000000 → Fine (runNums last ((rd_T57 l i).f1.drop j)) →
    Tell (fun k => regattaref16_Bytes.l0 k l (acc ++ strOfNums (vnums (runNums last ((rd_T57 l i).f1.drop j)))) ((i + 1 : Nat) : Int)) r → Tell (fun k => regattaref16_Bytes.l1 k l acc (i : Int) last (j : Int)) r := by
  generalize hx : (rd_T57 l i).f1 = xs at *
  induction d with
  | zero =>
    intro j last acc hj _ _ h
    rw [List.drop_of_length_le (by omega)] at h
    have e : acc ++ strOfNums (vnums (runNums last [])) = acc := by apply ByteArray.ext; simp [runNums, vnums, strOfNums]
    rw [e] at h
    refine Tell.step (fun k => ?_) h
    rw [regattaref16_Bytes.l1, if_pos (by omega), if_pos (by omega), hx, if_neg (by omega), w64 (by omega) (by omega)]
    rfl
  | succ d ih =>
    intro j last acc hj ha hf h
    have hlt : j < xs.length := by omega
    have hd := runNums_drop last xs j hlt
    rw [hd] at hf h
    obtain ⟨f1, f2⟩ := hf.parts
    obtain ⟨⟨a0, a1⟩, f3⟩ := f1.cons
    obtain ⟨⟨b0, b1⟩, f4⟩ := f3.cons
    obtain ⟨⟨c0, c1⟩, _⟩ := f4.cons
    generalize hX0 : (rd_T59 xs j).f0 = X0 at *
    generalize hX1 : (rd_T59 xs j).f1 = X1 at *
    generalize hX2 : (rd_T59 xs j).f2 = X2 at *
    have s0 := vnum_len9 (X1 - last).toNat (by omega)
    have s1 := vnum_len9 X0.toNat (by omega)
    have s2 := vnum_len9 X2.toNat (by omega)
    have e : acc ++ strOfNums (vnums ([X1 - last, X0, X2] ++ runNums X1 (xs.drop (j + 1)))) = acc ++ strOfNums (vnum (X1 - last).toNat) ++ strOfNums (vnum X0.toNat) ++ strOfNums (vnum X2.toNat) ++ strOfNums (vnums (runNums X1 (xs.drop (j + 1)))) := by
      rw [vnums_append, strOf_append, vnums_cons, vnums_cons, vnums_cons, strOf_append, strOf_append, strOf_append]
      apply ByteArray.ext
      simp [vnums, strOfNums]
    rw [e] at h
    have h2 := ih (j + 1) X1 _ (by omega) (by simp only [ByteArray.size_append, strOfNums_size]; omega) f2 h
    refine Tell.step (fun k => by rw [regattaref16_Bytes.l1, if_pos (by omega), if_pos (by omega), hx, if_pos (by omega), if_pos (by omega), hX0, hX1, hX2, w64 (x := X1 - last) (by omega) (by omega)]) ?_
    refine Tell.bind (number_i _ a0 a1) ?_
    refine Tell.of (fun k => by rw [if_pos (by rw [strOfNums_size]; omega)]) (Tell.bind (number_i _ b0 b1) ?_)
    refine Tell.of (fun k => by rw [if_pos (by rw [strOfNums_size, strOfNums_size]; omega)]) (Tell.bind (number_i _ c0 c1) ?_)
    refine Tell.of (fun k => ?_) h2
    rw [if_pos (by rw [strOfNums_size, strOfNums_size, strOfNums_size]; omega), w64 (x := (j : Int) + 1) (by omega) (by omega)]
    rfl
theorem rbytes_l0 (l : List S57) (hT : Tiny l) (d : Nat) : ∀ (i : Nat) (acc : ByteArray), i + d = l.length → acc.size + 1000 * d ≤ 1000000 → Fine (slotsNums (l.drop i)) →
    Tell (fun k => regattaref16_Bytes.l0 k l acc (i : Int)) (acc ++ strOfNums (vnums (slotsNums (l.drop i)))) := by
  have hl := hT.1
  induction d with
  | zero =>
    intro i acc hi _ _
    rw [List.drop_of_length_le (by omega)]
    have e : acc ++ strOfNums (vnums (slotsNums [])) = acc := by apply ByteArray.ext; simp [slotsNums, vnums, strOfNums]
    rw [e]
    exact Tell.step (g := fun _ => some acc) (fun k => by rw [regattaref16_Bytes.l0, if_neg (by omega)]) (Tell.const _)
  | succ d ih =>
    intro i acc hi ha hf
    have hlt : i < l.length := by omega
    have hrd : rd_T57 l (i : Int) = l[i] := rd57 l i hlt
    have hr : (rd_T57 l (i : Int)).f1.length ≤ 8 := by rw [hrd]; exact hT.2 _ (List.getElem_mem hlt)
    have hd := slotsNums_drop l i hlt
    rw [hd] at hf ⊢
    obtain ⟨⟨a0, a1⟩, f1⟩ := hf.cons
    obtain ⟨f2, f3⟩ := f1.parts
    generalize hrs : (rd_T57 l (i : Int)).f1 = runs at *
    have s0 := vnum_len9 (runs.length : Int).toNat (by omega)
    have s1 := vn_size _ f2
    rw [runNums_len] at s1
    have e : acc ++ strOfNums (vnums ((runs.length : Int) :: (runNums 0 runs ++ slotsNums (l.drop (i + 1))))) = acc ++ strOfNums (vnum (runs.length : Int).toNat) ++ strOfNums (vnums (runNums 0 runs)) ++ strOfNums (vnums (slotsNums (l.drop (i + 1)))) := by
      rw [vnums_cons, vnums_append, strOf_append, strOf_append, ByteArray.append_assoc, ByteArray.append_assoc]
    rw [e]
    have h := ih (i + 1) (acc ++ strOfNums (vnum (runs.length : Int).toNat) ++ strOfNums (vnums (runNums 0 runs))) (by omega) (by rw [ByteArray.size_append, ByteArray.size_append, strOfNums_size]; omega) f3
    have h2 := rbytes_l1 l i hlt (by omega) (by rw [hrs]; omega) _ runs.length 0 0 (acc ++ strOfNums (vnum (runs.length : Int).toNat)) (by rw [hrs]; omega) (by rw [ByteArray.size_append, strOfNums_size]; omega) (by rw [hrs]; exact f2) (by rw [hrs]; exact h)
    refine Tell.step (fun k => by rw [regattaref16_Bytes.l0, if_pos (by omega), if_pos (by omega), hrs]) ?_
    refine Tell.bind (number_i _ a0 a1) ?_
    exact Tell.of (fun k => by rw [if_pos (by rw [strOfNums_size]; omega)]; rfl) h2
theorem rbytes_t (l : List S57) (hT : Tiny l) : Tell (fun k => regattaref16_Bytes.f k l) (bytesRow l) := by
  unfold regattaref16_Bytes.f bytesRow
  refine Tell.bind (refrow_f 1024 l hT.small) ?_
  by_cases h : rowOk 1024 l = true
  · rw [if_pos h, h]
    obtain ⟨hf, hlen⟩ := row_fine hT h
    have h12 := hT.1
    have hsl := slots_len hT.2
    have hj : ∀ a : Int, 0 ≤ a → a < 4611686018427387904 → Fine (slotsNums l) → Tell (fun k => regattaref16_Bytes.j0 k l a) (strOfNums (vnums ((l.length : Int) :: a :: slotsNums l))) := by
      intro a a0 a1 hfs
      have s0 := vnum_len9 (l.length : Int).toNat (by omega)
      have s1 := vnum_len9 a.toNat (by omega)
      have h2 := rbytes_l0 l hT l.length 0 (strOfNums (vnum (l.length : Int).toNat) ++ strOfNums (vnum a.toNat)) (by omega) (by rw [ByteArray.size_append, strOfNums_size, strOfNums_size]; omega) hfs
      rw [List.drop_zero] at h2
      have e : strOfNums (vnums ((l.length : Int) :: a :: slotsNums l)) = strOfNums (vnum (l.length : Int).toNat) ++ strOfNums (vnum a.toNat) ++ strOfNums (vnums (slotsNums l)) := by
        rw [vnums_cons, vnums_cons, strOf_append, strOf_append, ByteArray.append_assoc]
      rw [e]
      refine Tell.step (fun k => by rw [regattaref16_Bytes.j0]) ?_
      refine Tell.bind (number_i _ (by omega) (by omega)) (Tell.bind (number_i _ a0 a1) ?_)
      exact Tell.of (fun k => by rw [if_pos (by rw [strOfNums_size, strOfNums_size]; omega)]; rfl) h2
    cases l with
    | nil =>
      have h3 := hj 0 (by omega) (by omega) (fun n hn => by simp [slotsNums] at hn)
      refine Tell.of (fun k => ?_) h3
      rw [if_pos rfl, if_neg (by simp)]
    | cons s r =>
      have h4 := hf.cons.2.cons
      have h3 := hj s.f0 h4.1.1 h4.1.2 h4.2
      refine Tell.of (fun k => ?_) h3
      rw [if_pos rfl, if_pos (by simp only [List.length_cons]; omega), if_pos (by simp only [List.length_cons]; omega)]
      rfl
  · rw [if_neg h]
    exact Tell.of (fun k => by rw [if_neg h]) (Tell.const _)

/-! ### The document's counts -/
theorem rquanta_l1 (id : Int) (l : List S57) (i : Nat) (hi : i < l.length) (hl : l.length ≤ 100000) (hr : (rd_T57 l i).f1.length ≤ 1000) (r : Int) (d : Nat) : ∀ (j : Nat) (n : Int), j + d = (rd_T57 l i).f1.length → 0 ≤ n → n + d ≤ 1000000 →
    Tell (fun k => regattaref16_Quanta.l0 k l id (n + ((coresRun id ((rd_T57 l i).f1.drop j)).length : Int)) ((i + 1 : Nat) : Int)) r → Tell (fun k => regattaref16_Quanta.l1 k l id n (i : Int) (j : Int)) r := by
  generalize hx : (rd_T57 l i).f1 = xs at *
  induction d with
  | zero =>
    intro j n hj _ _ h
    rw [List.drop_of_length_le (by omega)] at h
    have e : n + ((coresRun id []).length : Int) = n := by simp [coresRun]
    rw [e] at h
    refine Tell.step (fun k => ?_) h
    rw [regattaref16_Quanta.l1, if_pos (by omega), if_pos (by omega), hx, if_neg (by omega), w64 (by omega) (by omega)]
    rfl
  | succ d ih =>
    intro j n hj h0 h1 h
    have hlt : j < xs.length := by omega
    rw [List.drop_eq_getElem_cons hlt, coresRun_cons] at h
    by_cases hid : xs[j].f0 = id
    · rw [if_pos hid] at h
      have h2 := ih (j + 1) (n + 1) (by omega) (by omega) (by omega) (by
        have e : n + 1 + ((coresRun id (xs.drop (j + 1))).length : Int) = n + (([xs[j].f1] ++ coresRun id (xs.drop (j + 1))).length : Int) := by simp; omega
        rw [e]; exact h)
      refine Tell.step (fun k => ?_) h2
      rw [regattaref16_Quanta.l1, if_pos (by omega), if_pos (by omega), hx, if_pos (by omega), if_pos (by omega), rd59 xs j hlt, if_pos hid, w64 (x := n + 1) (by omega) (by omega), w64 (x := (j : Int) + 1) (by omega) (by omega)]
      rfl
    · rw [if_neg hid, List.nil_append] at h
      have h2 := ih (j + 1) n (by omega) (by omega) (by omega) h
      refine Tell.step (fun k => ?_) h2
      rw [regattaref16_Quanta.l1, if_pos (by omega), if_pos (by omega), hx, if_pos (by omega), if_pos (by omega), rd59 xs j hlt, if_neg hid, w64 (x := (j : Int) + 1) (by omega) (by omega)]
      rfl
theorem rquanta_l0 (id : Int) (l : List S57) (hT : Tiny l) (d : Nat) : ∀ (i : Nat) (n : Int), i + d = l.length → 0 ≤ n → n + 8 * d ≤ 10000 →
    Tell (fun k => regattaref16_Quanta.l0 k l id n (i : Int)) (n + ((coresOf id (l.drop i)).length : Int)) := by
  have hl := hT.1
  induction d with
  | zero =>
    intro i n hi _ _
    rw [List.drop_of_length_le (by omega)]
    have e : n + ((coresOf id []).length : Int) = n := by simp [coresOf]
    rw [e]
    exact Tell.step (g := fun _ => some n) (fun k => by rw [regattaref16_Quanta.l0, if_neg (by omega)]) (Tell.const _)
  | succ d ih =>
    intro i n hi h0 h1
    have hlt : i < l.length := by omega
    have hrd : rd_T57 l (i : Int) = l[i] := rd57 l i hlt
    have hr := hT.2 _ (List.getElem_mem hlt)
    have hc := coresRun_len id l[i].f1
    rw [List.drop_eq_getElem_cons hlt, coresOf_cons, List.length_append]
    have h := ih (i + 1) (n + ((coresRun id l[i].f1).length : Int)) (by omega) (by omega) (by omega)
    have e : n + (((coresRun id l[i].f1).length + (coresOf id (l.drop (i + 1))).length : Nat) : Int) = n + ((coresRun id l[i].f1).length : Int) + ((coresOf id (l.drop (i + 1))).length : Int) := by omega
    rw [e]
    have h2 := rquanta_l1 id l i hlt (by omega) (by rw [hrd]; omega) _ l[i].f1.length 0 n (by rw [hrd]; omega) h0 (by omega) (by rw [hrd]; exact h)
    exact Tell.step (fun k => by rw [regattaref16_Quanta.l0, if_pos (by omega)]; rfl) h2
theorem rquanta_t (id : Int) (l : List S57) (hT : Tiny l) : Tell (fun k => regattaref16_Quanta.f k l id) ((coresOf id l).length : Int) := by
  have hl := hT.1
  have h := rquanta_l0 id l hT l.length 0 0 (by omega) (by omega) (by omega)
  rw [List.drop_zero, Int.zero_add] at h
  exact h
/-- Moves from here on: the last core, if it has run. -/
def restMoves (n : Int) (p : Option Int) (rest : List Int) : Int := match p with
  | some y => n + (chg (some y) rest : Int)
  | none => n + mx ((chg none rest : Int) - 1) 0
theorem chg_cons (p : Option Int) (y : Int) (r : List Int) : chg p (y :: r) = (if p = some y then 0 else 1) + chg (some y) r := rfl
theorem restMoves_cons (n : Int) (p : Option Int) (y : Int) (rest : List Int) : restMoves n p (y :: rest) = restMoves (if p = none ∨ p = some y then n else n + 1) (some y) rest := by
  cases p with
  | none =>
    unfold restMoves
    rw [chg_cons]
    unfold mx
    simp only [reduceCtorEq, if_false, true_or, if_true]
    split <;> omega
  | some z =>
    unfold restMoves
    simp only [chg_cons]
    by_cases h : z = y
    · subst h; simp
    · simp [h]; omega
theorem restMoves_nil (n : Int) (p : Option Int) : restMoves n p [] = n := by
  cases p with
  | none => unfold restMoves chg mx; simp
  | some y => unfold restMoves chg; simp
def lastNum (p : Option Int) : Int := p.getD (-1)
theorem rmoves_l1 (id : Int) (l : List S57) (i : Nat) (hi : i < l.length) (hl : l.length ≤ 100000) (hr : (rd_T57 l i).f1.length ≤ 1000) (R : List Int) (r : Int) (d : Nat) : ∀ (j : Nat) (n : Int) (p : Option Int), j + d = (rd_T57 l i).f1.length → 0 ≤ n → n + d ≤ 1000000 →
    (∀ (n' : Int) (p' : Option Int), 0 ≤ n' → n' ≤ n + d → restMoves n' p' R = restMoves n p (coresRun id ((rd_T57 l i).f1.drop j) ++ R) → Tell (fun k => regattaref16_Moves.l0 k l id n' (lastNum p') p'.isSome ((i + 1 : Nat) : Int)) r) →
    Tell (fun k => regattaref16_Moves.l1 k l id n (lastNum p) p.isSome (i : Int) (j : Int)) r := by
  generalize hx : (rd_T57 l i).f1 = xs at *
  induction d with
  | zero =>
    intro j n p hj h0 _ h
    rw [List.drop_of_length_le (by omega)] at h
    have h2 := h n p h0 (by omega) (by simp [coresRun])
    refine Tell.step (fun k => ?_) h2
    rw [regattaref16_Moves.l1, if_pos (by omega), if_pos (by omega), hx, if_neg (by omega), w64 (by omega) (by omega)]
    rfl
  | succ d ih =>
    intro j n p hj h0 h1 h
    have hlt : j < xs.length := by omega
    rw [List.drop_eq_getElem_cons hlt, coresRun_cons] at h
    have e1 : wrap64 ((j : Int) + 1) = ((j + 1 : Nat) : Int) := by rw [w64 (by omega) (by omega)]; omega
    by_cases hid : xs[j].f0 = id
    · rw [if_pos hid, List.cons_append, List.nil_append, List.cons_append, restMoves_cons] at h
      have h2 := ih (j + 1) (if p = none ∨ p = some xs[j].f1 then n else n + 1) (some xs[j].f1) (by omega) (by split <;> omega) (by split <;> omega) (fun n' p' a b c => h n' p' a (by split at b <;> omega) c)
      refine Tell.step (fun k => ?_) h2
      rw [regattaref16_Moves.l1, if_pos (by omega), if_pos (by omega), hx, if_pos (by omega), if_pos (by omega), rd59 xs j hlt, if_pos hid, e1]
      cases p with
      | none => simp [lastNum]
      | some z =>
        by_cases hz : xs[j].f1 = z
        · subst hz; simp [lastNum]
        · have hz' : ¬ z = xs[j].f1 := fun e => hz e.symm
          have e9 : wrap64 (n + 1) = n + 1 := w64 (by omega) (by omega)
          simp [lastNum, hz, hz', e9]
    · rw [if_neg hid, List.nil_append] at h
      have h2 := ih (j + 1) n p (by omega) (by omega) (by omega) (fun n' p' a b c => h n' p' a (by omega) c)
      refine Tell.step (fun k => ?_) h2
      rw [regattaref16_Moves.l1, if_pos (by omega), if_pos (by omega), hx, if_pos (by omega), if_pos (by omega), rd59 xs j hlt, if_neg hid, e1]
theorem rmoves_l0 (id : Int) (l : List S57) (hT : Tiny l) (d : Nat) : ∀ (i : Nat) (n : Int) (p : Option Int), i + d = l.length → 0 ≤ n → n + 8 * d ≤ 10000 →
    Tell (fun k => regattaref16_Moves.l0 k l id n (lastNum p) p.isSome (i : Int)) (restMoves n p (coresOf id (l.drop i))) := by
  have hl := hT.1
  induction d with
  | zero =>
    intro i n p hi _ _
    rw [List.drop_of_length_le (by omega)]
    have e : coresOf id [] = [] := rfl
    rw [e, restMoves_nil]
    exact Tell.step (g := fun _ => some n) (fun k => by rw [regattaref16_Moves.l0, if_neg (by omega)]) (Tell.const _)
  | succ d ih =>
    intro i n p hi h0 h1
    have hlt : i < l.length := by omega
    have hrd : rd_T57 l (i : Int) = l[i] := rd57 l i hlt
    have hr := hT.2 _ (List.getElem_mem hlt)
    rw [List.drop_eq_getElem_cons hlt, coresOf_cons]
    refine Tell.step (fun k => by rw [regattaref16_Moves.l0, if_pos (by omega)]) ?_
    refine rmoves_l1 id l i hlt (by omega) (by rw [hrd]; omega) (coresOf id (l.drop (i + 1))) _ l[i].f1.length 0 n p (by rw [hrd]; omega) h0 (by omega) ?_
    intro n' p' a b c
    rw [hrd, List.drop_zero] at c
    rw [← c]
    exact ih (i + 1) n' p' (by omega) a (by omega)
theorem rmoves_t (id : Int) (l : List S57) (hT : Tiny l) : Tell (fun k => regattaref16_Moves.f k l id) (movesOf id l) := by
  have hl := hT.1
  have h := rmoves_l0 id l hT l.length 0 0 none (by omega) (by omega) (by omega)
  have e : restMoves 0 none (coresOf id l) = movesOf id l := by unfold restMoves movesOf; simp
  rw [List.drop_zero, e] at h
  exact h
theorem rempty_l0 (m : Int) (hm : 0 ≤ m) (hm2 : m ≤ 100000) (l : List S57) (hl : SmallRow l) (hl2 : l.length ≤ 1000) (d : Nat) : ∀ (i : Nat) (n : Int), i + d = l.length → -(100000 * (i : Int)) ≤ n → n ≤ 100000 * (i : Int) →
    Tell (fun k => regattaref16_Empty.l0 k l m true n (i : Int)) (n + ((l.drop i).map (fun s => m - (s.f1.length : Int))).sum) := by
  induction d with
  | zero =>
    intro i n hi _ _
    rw [List.drop_of_length_le (by omega)]
    simp only [List.map_nil, List.sum_nil, Int.add_zero]
    exact Tell.step (g := fun _ => some n) (fun k => by rw [regattaref16_Empty.l0, if_neg (by omega)]) (Tell.const _)
  | succ d ih =>
    intro i n hi h0 h1
    have hlt : i < l.length := by omega
    have hs : l[i].f1.length ≤ 100000 := hl.2 l[i] (List.getElem_mem hlt)
    rw [List.drop_eq_getElem_cons hlt, List.map_cons, List.sum_cons]
    have h := ih (i + 1) (n + (m - (l[i].f1.length : Int))) (by omega) (by omega) (by omega)
    rw [Int.add_assoc] at h
    refine Tell.step (fun k => ?_) h
    rw [regattaref16_Empty.l0, if_pos (by omega), if_pos rfl, if_pos (by omega), rd57 l i hlt, w64 (x := m - (l[i].f1.length : Int)) (by omega) (by omega), w64 (x := n + (m - (l[i].f1.length : Int))) (by omega) (by omega), w64 (x := (i : Int) + 1) (by omega) (by omega)]
    rfl
theorem sum_free (m : Int) (l : List S57) : (l.map (fun s => m - (s.f1.length : Int))).sum = (l.length : Int) * m - total l := by
  induction l with
  | nil => simp [total]
  | cons s l ih =>
    rw [List.map_cons, List.sum_cons, ih, total_cons, List.length_cons]
    have : ((l.length + 1 : Nat) : Int) * m = (l.length : Int) * m + m := by
      rw [Int.natCast_add, Int.add_mul]; simp
    omega
theorem rempty_t (m : Int) (l : List S57) (hT : Tiny l) : Tell (fun k => regattaref16_Empty.f k l m) (emptyOf m l) := by
  have hl := hT.1
  unfold regattaref16_Empty.f emptyOf
  refine Tell.bind (refrow_f m l hT.small) ?_
  by_cases h : rowOk m l = true
  · rw [if_pos h, h]
    cases l with
    | nil =>
      have e : (([] : List S57).length : Int) * m - (total [] : Nat) = 0 := by simp [total]
      rw [e]
      exact Tell.step (g := fun _ => some 0) (fun k => by rw [regattaref16_Empty.l0, if_neg (by simp)]) (Tell.const _)
    | cons s r =>
      have hm := chk_m (rowGo_chk h s (by simp))
      have h2 := rempty_l0 m (by omega) (by omega) (s :: r) hT.small (by omega) (s :: r).length 0 0 (by omega) (by omega) (by omega)
      rw [List.drop_zero, sum_free, Int.zero_add] at h2
      exact h2
  · rw [if_neg h]
    have h' : rowOk m l = false := by simpa using h
    rw [h']
    refine Tell.step (g := fun _ => some 0) (fun k => ?_) (Tell.const _)
    rw [regattaref16_Empty.l0]
    by_cases c : (0 : Int) < (l.length : Int)
    · rw [if_pos c, if_neg (by simp)]
    · rw [if_neg c]
end Go.Proofs.Ytlblianpbjhmoaa.QBytes
