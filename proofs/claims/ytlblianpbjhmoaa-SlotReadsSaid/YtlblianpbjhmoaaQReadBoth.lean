/- Plain Lean: the program's Read and the document's tell the same of any bytes. -/
import Derived.Test.YtlblianpbjhmoaaQReadRow
import Derived.Test.YtlblianpbjhmoaaPGsx4
import Derived.Test.YtlblianpbjhmoaaPGsx32
import Derived.Test.YtlblianpbjhmoaaPGsx41
import Derived.Test.YtlblianpbjhmoaaPGsx43
import Derived.Test.YtlblianpbjhmoaaPGsx44
namespace Go.Proofs.Ytlblianpbjhmoaa.QReadBoth
open Go.RowKit Go.Proofs.Ytlblianpbjhmoaa.PGs Go.Proofs.YtlblianpbjhmoaaW.PrintWords Go.Proofs.YtlblianpbjhmoaaW.PrintLast
open Go.Proofs.Ytlblianpbjhmoaa.QEv Go.Proofs.Ytlblianpbjhmoaa.QBits Go.Proofs.Ytlblianpbjhmoaa.QSlot Go.Proofs.Ytlblianpbjhmoaa.QCount Go.Proofs.Ytlblianpbjhmoaa.QMade16 Go.Proofs.Ytlblianpbjhmoaa.QBytes Go.Proofs.Ytlblianpbjhmoaa.QBack Go.Proofs.Ytlblianpbjhmoaa.MPut Go.Proofs.Ytlblianpbjhmoaa.MNext Go.Proofs.Ytlblianpbjhmoaa.QReads Go.Proofs.Ytlblianpbjhmoaa.QReadGo Go.Proofs.Ytlblianpbjhmoaa.QReadRow
set_option linter.unusedVariables false
set_option linter.unusedSimpArgs false

/-- Rows as they can be read. -/
def Mid (l : List S57) : Prop := l.length ≤ 4096 ∧ ∀ s ∈ l, s.f1.length ≤ 1024
theorem Mid.small {l : List S57} (h : Mid l) : SmallRow l := ⟨by have := h.1; unfold Small; omega, fun s hs => by have := h.2 s hs; unfold Small; omega⟩
theorem Mid.nil : Mid [] := ⟨by simp, by simp⟩
theorem slots_fine' {m : Int} {l : List S57} (h : ∀ s ∈ l, chk m s = true) (hr : ∀ s ∈ l, s.f1.length ≤ 1024) : Fine (slotsNums l) := by
  intro n hn
  unfold slotsNums at hn
  obtain ⟨x, hx, hnx⟩ := List.mem_flatten.1 hn
  obtain ⟨s, hs, rfl⟩ := List.mem_map.1 hx
  obtain ⟨h1, h2, h3, h4⟩ := chk_parts (h s hs)
  have := hr s hs
  unfold slotNums at hnx
  rcases List.mem_cons.1 hnx with rfl | hnx
  · omega
  · exact go_nums m h1 s.f1 (-1) 0 [] (by omega) (.inr ⟨rfl, rfl⟩) h4 n hnx
theorem rbytes_l1' (l : List S57) (i : Nat) (hi : i < l.length) (hl : l.length ≤ 100000) (hr : (rd_T57 l i).f1.length ≤ 1024) (r : ByteArray) (d : Nat) : ∀ (j : Nat) (last : Int) (acc : ByteArray), j + d = (rd_T57 l i).f1.length → acc.size + 27 * d ≤ 1000000000 → Fine (runNums last ((rd_T57 l i).f1.drop j)) →
    Tell (fun k => regattaref16_Bytes.l0 k l (acc ++ strOfNums (vnums (runNums last ((rd_T57 l i).f1.drop j)))) ((i + 1 : Nat) : Int)) r → Tell (fun k => regattaref16_Bytes.l1 k l acc (i : Int) last (j : Int)) r := by
  generalize hx : (rd_T57 l i).f1 = xs at *
  induction d with
  | zero =>
    intro j last acc hj _ _ h
    rw [List.drop_of_length_le (by omega)] at h
    have e : acc ++ strOfNums (vnums (runNums last [])) = acc := by apply ByteArray.ext; simp [runNums, vnums, strOfNums]
    rw [e] at h
    refine Tell.step (fun k => ?_) h
    rw [regattaref16_Bytes.l1, if_pos (by omega), if_pos (by omega), hx, if_neg (by omega), w64 (by omega) (by omega)]
    rfl
  | succ d ih =>
    intro j last acc hj ha hf h
    have hlt : j < xs.length := by omega
    have hd := runNums_drop last xs j hlt
    rw [hd] at hf h
    obtain ⟨f1, f2⟩ := hf.parts
    obtain ⟨⟨a0, a1⟩, f3⟩ := f1.cons
    obtain ⟨⟨b0, b1⟩, f4⟩ := f3.cons
    obtain ⟨⟨c0, c1⟩, _⟩ := f4.cons
    generalize hX0 : (rd_T59 xs j).f0 = X0 at *
    generalize hX1 : (rd_T59 xs j).f1 = X1 at *
    generalize hX2 : (rd_T59 xs j).f2 = X2 at *
    have s0 := vnum_len9 (X1 - last).toNat (by omega)
    have s1 := vnum_len9 X0.toNat (by omega)
    have s2 := vnum_len9 X2.toNat (by omega)
    have e : acc ++ strOfNums (vnums ([X1 - last, X0, X2] ++ runNums X1 (xs.drop (j + 1)))) = acc ++ strOfNums (vnum (X1 - last).toNat) ++ strOfNums (vnum X0.toNat) ++ strOfNums (vnum X2.toNat) ++ strOfNums (vnums (runNums X1 (xs.drop (j + 1)))) := by
      rw [vnums_append, strOf_append, vnums_cons, vnums_cons, vnums_cons, strOf_append, strOf_append, strOf_append]
      apply ByteArray.ext
      simp [vnums, strOfNums]
    rw [e] at h
    have h2 := ih (j + 1) X1 _ (by omega) (by simp only [ByteArray.size_append, strOfNums_size]; omega) f2 h
    refine Tell.step (fun k => by rw [regattaref16_Bytes.l1, if_pos (by omega), if_pos (by omega), hx, if_pos (by omega), if_pos (by omega), hX0, hX1, hX2, w64 (x := X1 - last) (by omega) (by omega)]) ?_
    refine Tell.bind (number_i _ a0 a1) ?_
    refine Tell.of (fun k => by rw [if_pos (by rw [strOfNums_size]; omega)]) (Tell.bind (number_i _ b0 b1) ?_)
    refine Tell.of (fun k => by rw [if_pos (by rw [strOfNums_size, strOfNums_size]; omega)]) (Tell.bind (number_i _ c0 c1) ?_)
    refine Tell.of (fun k => ?_) h2
    rw [if_pos (by rw [strOfNums_size, strOfNums_size, strOfNums_size]; omega), w64 (x := (j : Int) + 1) (by omega) (by omega)]
    rfl
theorem rbytes_l0' (l : List S57) (hT : Mid l) (d : Nat) : ∀ (i : Nat) (acc : ByteArray), i + d = l.length → acc.size + 30000 * d ≤ 900000000 → Fine (slotsNums (l.drop i)) →
    Tell (fun k => regattaref16_Bytes.l0 k l acc (i : Int)) (acc ++ strOfNums (vnums (slotsNums (l.drop i)))) := by
  have hl := hT.1
  induction d with
  | zero =>
    intro i acc hi _ _
    rw [List.drop_of_length_le (by omega)]
    have e : acc ++ strOfNums (vnums (slotsNums [])) = acc := by apply ByteArray.ext; simp [slotsNums, vnums, strOfNums]
    rw [e]
    exact Tell.step (g := fun _ => some acc) (fun k => by rw [regattaref16_Bytes.l0, if_neg (by omega)]) (Tell.const _)
  | succ d ih =>
    intro i acc hi ha hf
    have hlt : i < l.length := by omega
    have hrd : rd_T57 l (i : Int) = l[i] := rd57 l i hlt
    have hr : (rd_T57 l (i : Int)).f1.length ≤ 1024 := by rw [hrd]; exact hT.2 _ (List.getElem_mem hlt)
    have hd := slotsNums_drop l i hlt
    rw [hd] at hf ⊢
    obtain ⟨⟨a0, a1⟩, f1⟩ := hf.cons
    obtain ⟨f2, f3⟩ := f1.parts
    generalize hrs : (rd_T57 l (i : Int)).f1 = runs at *
    have s0 := vnum_len9 (runs.length : Int).toNat (by omega)
    have s1 := vn_size _ f2
    rw [runNums_len] at s1
    have e : acc ++ strOfNums (vnums ((runs.length : Int) :: (runNums 0 runs ++ slotsNums (l.drop (i + 1))))) = acc ++ strOfNums (vnum (runs.length : Int).toNat) ++ strOfNums (vnums (runNums 0 runs)) ++ strOfNums (vnums (slotsNums (l.drop (i + 1)))) := by
      rw [vnums_cons, vnums_append, strOf_append, strOf_append, ByteArray.append_assoc, ByteArray.append_assoc]
    rw [e]
    have h := ih (i + 1) (acc ++ strOfNums (vnum (runs.length : Int).toNat) ++ strOfNums (vnums (runNums 0 runs))) (by omega) (by rw [ByteArray.size_append, ByteArray.size_append, strOfNums_size]; omega) f3
    have h2 := rbytes_l1' l i hlt (by omega) (by rw [hrs]; omega) _ runs.length 0 0 (acc ++ strOfNums (vnum (runs.length : Int).toNat)) (by rw [hrs]; omega) (by rw [ByteArray.size_append, strOfNums_size]; omega) (by rw [hrs]; exact f2) (by rw [hrs]; exact h)
    refine Tell.step (fun k => by rw [regattaref16_Bytes.l0, if_pos (by omega), if_pos (by omega), hrs]) ?_
    refine Tell.bind (number_i _ a0 a1) ?_
    exact Tell.of (fun k => by rw [if_pos (by rw [strOfNums_size]; omega)]; rfl) h2
theorem rbytes_m (l : List S57) (hT : Mid l) : Tell (fun k => regattaref16_Bytes.f k l) (QBytes.bytesRow l) := by
  unfold regattaref16_Bytes.f QBytes.bytesRow
  refine Tell.bind (refrow_f 1024 l hT.small) ?_
  by_cases h : rowOk 1024 l = true
  · rw [if_pos h, h]
    have hc := rowGo_chk h
    have hfs := slots_fine' hc hT.2
    have h12 := hT.1
    have hj : ∀ a : Int, 0 ≤ a → a < 4611686018427387904 → Tell (fun k => regattaref16_Bytes.j0 k l a) (strOfNums (vnums ((l.length : Int) :: a :: slotsNums l))) := by
      intro a a0 a1
      have s0 := vnum_len9 (l.length : Int).toNat (by omega)
      have s1 := vnum_len9 a.toNat (by omega)
      have h2 := rbytes_l0' l hT l.length 0 (strOfNums (vnum (l.length : Int).toNat) ++ strOfNums (vnum a.toNat)) (by omega) (by rw [ByteArray.size_append, strOfNums_size, strOfNums_size]; omega) hfs
      rw [List.drop_zero] at h2
      have e : strOfNums (vnums ((l.length : Int) :: a :: slotsNums l)) = strOfNums (vnum (l.length : Int).toNat) ++ strOfNums (vnum a.toNat) ++ strOfNums (vnums (slotsNums l)) := by
        rw [vnums_cons, vnums_cons, strOf_append, strOf_append, ByteArray.append_assoc]
      rw [e]
      refine Tell.step (fun k => by rw [regattaref16_Bytes.j0]) ?_
      refine Tell.bind (number_i _ (by omega) (by omega)) (Tell.bind (number_i _ a0 a1) ?_)
      exact Tell.of (fun k => by rw [if_pos (by rw [strOfNums_size, strOfNums_size]; omega)]; rfl) h2
    cases l with
    | nil =>
      have h3 := hj 0 (by omega) (by omega)
      refine Tell.of (fun k => ?_) h3
      rw [if_pos rfl, if_neg (by simp)]
    | cons s r =>
      have h4 := chk_parts (hc s (by simp))
      have h3 := hj s.f0 (by omega) (by omega)
      refine Tell.of (fun k => ?_) h3
      rw [if_pos rfl, if_pos (by simp only [List.length_cons]; omega), if_pos (by simp only [List.length_cons]; omega)]
      rfl
  · rw [if_neg h]
    exact Tell.of (fun k => by rw [if_neg h]) (Tell.const _)
/-! ### The two readings -/
theorem list_size {a b : ByteArray} (h : a.toList = b.toList) : a.size = b.size := by
  have h1 := congrArg List.length h
  rw [ByteArray.toList_eq, ByteArray.toList_eq, Array.length_toList, Array.length_toList] at h1
  exact h1
theorem list_ext {a b : ByteArray} (h : a.toList = b.toList) : a = b := by
  rw [ByteArray.toList_eq, ByteArray.toList_eq] at h
  exact ByteArray.ext (Array.ext' h)
theorem vnum_pos (n : Nat) : 0 < (vnum n).length := by
  rw [vnum]
  split <;> simp
theorem nums_eq (l : List S57) (n at0 : Int) (t3 s : ByteArray) (hn : 0 ≤ n) (hl : l.length = n.toNat) (ha0 : 0 ≤ at0) (hf : ∀ y ys, l = y :: ys → y.f0 = at0) (hs : s = strOfNums (vnums (n :: at0 :: slotsNums l)) ++ t3) :
    (strOfNums (vnums (rowNums l))).toList = s.toList ↔ t3 = ⟨#[]⟩ ∧ ¬ (n = 0 ∧ at0 ≠ 0) := by
  have hln : (l.length : Int) = n := by omega
  cases l with
  | nil =>
    have hn0 : n = 0 := by simpa using hln.symm
    subst hn0
    have e1 : strOfNums (vnums (rowNums [])) = strOfNums (vnum 0 ++ vnum 0) := by simp [rowNums, vnums_cons, vnums]
    have e2 : s = strOfNums (vnum 0) ++ (strOfNums (vnum at0.toNat) ++ t3) := by
      rw [hs, vnums_cons, vnums_cons, strOf_append, strOf_append]
      have : strOfNums (vnums (slotsNums [])) = ⟨#[]⟩ := rfl
      rw [this]
      apply ByteArray.ext
      simp
    constructor
    · intro h
      have h1 := list_size h
      have h3 := vnum_pos at0.toNat
      rw [e1, e2, ByteArray.size_append, ByteArray.size_append, strOfNums_size, strOfNums_size, strOfNums_size] at h1
      have h5 : (vnum 0).length = 1 := by rw [vnum_lt 0 (by omega)]; rfl
      have h4 : (vnum 0 ++ vnum 0).length = 2 := by rw [List.length_append, h5]
      have h6 : t3.size = 0 := by omega
      have ht : t3 = ⟨#[]⟩ := ByteArray.ext (Array.eq_empty_of_size_eq_zero h6)
      refine ⟨ht, fun hh => ?_⟩
      subst ht
      have h7 : at0.toNat < 128 := by
        rcases Nat.lt_or_ge at0.toNat 128 with h8 | h8
        · exact h8
        · rw [vnum_ge at0.toNat (by omega)] at h1
          have := vnum_pos (at0.toNat / 128)
          rw [List.length_cons] at h1
          omega
      have h9 := list_ext h
      rw [e1, e2, vnum_lt _ h7, strOf_append] at h9
      have ha := congrArg (fun b : ByteArray => b.data.toList) h9
      simp only [ByteArray.data_append, Array.toList_append] at ha
      have hb := List.append_cancel_left ha
      rw [vnum_lt 0 (by omega), strOf_nat, strOf_nat] at hb
      have hc : ([UInt8.ofNat 0] : List UInt8) = [UInt8.ofNat at0.toNat] := by simpa using hb
      injection hc with hc _
      have hd := congrArg UInt8.toNat hc
      simp at hd
      omega
    · rintro ⟨ht, hz⟩
      have ha : at0 = 0 := Classical.byContradiction fun h => hz ⟨rfl, h⟩
      subst ht
      subst ha
      rw [e1, e2, strOf_append]
      congr 1
      apply ByteArray.ext
      simp
  | cons y ys =>
    have e1 : rowNums (y :: ys) = n :: at0 :: slotsNums (y :: ys) := by
      show ((y :: ys).length : Int) :: y.f0 :: slotsNums (y :: ys) = _
      rw [hln, hf y ys rfl]
    rw [e1, hs]
    constructor
    · intro h
      have h1 := list_size h
      rw [ByteArray.size_append] at h1
      have h6 : t3.size = 0 := by omega
      refine ⟨ByteArray.ext (Array.eq_empty_of_size_eq_zero h6), fun hh => ?_⟩
      have : ((y :: ys).length : Int) = 0 := by rw [hln]; exact hh.1
      simp only [List.length_cons] at this
      omega
    · rintro ⟨ht, _⟩
      subst ht
      congr 1
      apply ByteArray.ext
      simp
theorem read_both (s : ByteArray) (hs : s.size ≤ 1000000000) : ∃ (l : List S57) (b : Bool), Tell (fun k => slot_Read.f k s) (l, b) ∧ Tell (fun k => regattaref16_Read.f k s) (l, b) ∧ Mid l := by
  have e0 : s = (⟨#[]⟩ : ByteArray) ++ s := by apply ByteArray.ext; simp
  have hbad : ∀ (P t : ByteArray) (p2 at2 : Int) (n2 : Nat) (acc : List S57), Tell (fun k => (rslotsP k s at2 n2 p2 true 0 acc).bind (rfin k s)) ([], false) := fun P t p2 at2 n2 acc =>
    Tell.of (fun k => by rw [rslots_bad]; rfl) (Tell.const _)
  cases n1 : nextP s 4096 with
  | none =>
    refine ⟨[], false, ?_, ?_, Mid.nil⟩
    · refine Tell.of (fun k => ?_) (Tell.const _)
      unfold slot_Read.f rowP
      rw [if_neg (by omega), n1]
    · unfold regattaref16_Read.f
      exact Tell.bind (rn_none hs e0 (by omega) n1) (Tell.bind (rn_bad hs e0) (hbad s s _ _ _ _))
  | some q =>
    obtain ⟨n, t1⟩ := q
    obtain ⟨e1, r1⟩ := rn_some hs e0 (by omega) n1
    have b1 := nextP_bound n1
    cases n2 : nextP t1 1099511627776 with
    | none =>
      refine ⟨[], false, ?_, ?_, Mid.nil⟩
      · refine Tell.of (fun k => ?_) (Tell.const _)
        unfold slot_Read.f rowP
        rw [if_neg (by omega), n1]
        simp only [n2]
      · unfold regattaref16_Read.f
        exact Tell.bind r1 (Tell.bind (rn_none hs e1 (by omega) n2) (hbad s s _ _ _ _))
    | some q =>
      obtain ⟨at0, t2⟩ := q
      obtain ⟨e2, r2⟩ := rn_some hs e1 (by omega) n2
      have b2 := nextP_bound n2
      cases n3 : slotsP n.toNat t2 at0 0 [] with
      | none =>
        obtain ⟨l, p, ht⟩ := slots_none hs at0 n.toNat _ _ 0 [] e2 n3
        refine ⟨[], false, ?_, ?_, Mid.nil⟩
        · refine Tell.of (fun k => ?_) (Tell.const _)
          unfold slot_Read.f rowP
          rw [if_neg (by omega), n1]
          simp only [n2, n3]
        · unfold regattaref16_Read.f
          refine Tell.bind r1 (Tell.bind r2 (Tell.bind ht (Tell.of (fun k => ?_) (Tell.const _))))
          unfold rfin
          rw [if_pos rfl]
      | some q =>
        obtain ⟨l, t3⟩ := q
        obtain ⟨ys, hy, hlen, hall, hfst, hse, ht⟩ := slots_some hs at0 n.toNat _ _ 0 [] l t3 e2 n3
        rw [List.nil_append] at hy
        subst hy
        have hM : Mid l := ⟨by omega, hall⟩
        have hR := row_f 1024 l hM.small
        have hB := rbytes_m l hM
        have hsl : Tell (fun k => slot_Read.f k s) (if t3 ≠ ⟨#[]⟩ ∨ n = 0 ∧ at0 ≠ 0 then ([], false) else if rowOk 1024 l = true then (l, true) else ([], false)) := by
          refine Tell.of (g := fun k => if t3 ≠ ⟨#[]⟩ ∨ n = 0 ∧ at0 ≠ 0 then some ([], false) else (slot_Row.f k l 1024).bind fun b => some (if b = true then (l, true) else ([], false))) (fun k => ?_) ?_
          · unfold slot_Read.f rowP
            rw [if_neg (by omega), n1]
            simp only [n2, n3]
          · by_cases hc : t3 ≠ ⟨#[]⟩ ∨ n = 0 ∧ at0 ≠ 0
            · exact Tell.of (fun k => by rw [if_pos hc, if_pos hc]) (Tell.const _)
            · exact Tell.of (fun k => by rw [if_neg hc]) (by rw [if_neg hc]; exact Tell.bind hR (Tell.const _))
        have href : Tell (fun k => regattaref16_Read.f k s) (if (QBytes.bytesRow l).toList = s.toList then (l, true) else ([], false)) := by
          unfold regattaref16_Read.f
          refine Tell.bind r1 (Tell.bind r2 (Tell.bind ht ?_))
          exact Tell.of (fun k => by rw [rfin, if_neg (fun h => Bool.false_ne_true h)]) (Tell.bind hB (Tell.const _))
        have hst : s = strOfNums (vnums (n :: at0 :: slotsNums l)) ++ t3 := by
          have e4 : strOfNums (vnums (n :: at0 :: slotsNums l)) = (⟨#[]⟩ : ByteArray) ++ strOfNums (vnum n.toNat) ++ strOfNums (vnum at0.toNat) ++ strOfNums (vnums (slotsNums l)) := by
            rw [vnums_cons, vnums_cons, strOf_append, strOf_append]
            apply ByteArray.ext
            simp
          rw [e4]
          exact hse
        have hw0 : wrap64 (at0 + 0) = at0 := by rw [Int.add_zero]; exact w64 (by omega) (by omega)
        have hiff := nums_eq l n at0 t3 s b1.1 hlen b2.1 (fun y ys h => by rw [hfst y ys h, hw0]) hst
        have hsame : (if t3 ≠ ⟨#[]⟩ ∨ n = 0 ∧ at0 ≠ 0 then (([], false) : List S57 × Bool) else if rowOk 1024 l = true then (l, true) else ([], false)) = (if (QBytes.bytesRow l).toList = s.toList then (l, true) else ([], false)) := by
          unfold QBytes.bytesRow
          by_cases hr : rowOk 1024 l = true
          · rw [if_pos hr, if_pos hr]
            by_cases hc : t3 ≠ ⟨#[]⟩ ∨ n = 0 ∧ at0 ≠ 0
            · rw [if_pos hc, if_neg]
              intro h
              have := hiff.1 h
              rcases hc with hc | hc
              · exact hc this.1
              · exact this.2 hc
            · rw [if_neg hc, if_pos]
              refine hiff.2 ⟨Classical.byContradiction fun h => hc (.inl h), fun h => hc (.inr h)⟩
          · have hne : ¬ (⟨#[]⟩ : ByteArray).toList = s.toList := by
              intro h
              have h1 := list_size h
              have h2 : (⟨#[]⟩ : ByteArray).size = 0 := rfl
              omega
            rw [if_neg hr, if_neg hr, if_neg hne]
            split <;> rfl
        rw [hsame] at hsl
        by_cases hc : (QBytes.bytesRow l).toList = s.toList
        · rw [if_pos hc] at hsl href
          exact ⟨l, true, hsl, href, hM⟩
        · rw [if_neg hc] at hsl href
          exact ⟨[], false, hsl, href, Mid.nil⟩
/-! ### Same, of rows as they can be read -/
theorem same_l1' (l : List S57) (hT : Mid l) (i : Nat) (hi : i < l.length) (hn : Tell (fun k => regattaref16_Same.l0 k l l ((i + 1 : Nat) : Int)) true) (d : Nat) : ∀ j, j + d = l[i].f1.length → Tell (fun k => regattaref16_Same.l1 k l l (i : Int) (j : Int)) true := by
  have hl := hT.1
  have hr := hT.2 _ (List.getElem_mem hi)
  have hrd : rd_T57 l (i : Int) = l[i] := rd57 l i hi
  induction d with
  | zero =>
    intro j hj
    refine Tell.step (fun k => ?_) hn
    rw [regattaref16_Same.l1, if_pos (by omega), if_pos (by omega), hrd, if_neg (by omega), w64 (x := (i : Int) + 1) (by omega) (by omega)]
    rfl
  | succ d ih =>
    intro j hj
    refine Tell.step (fun k => ?_) (ih (j + 1) (by omega))
    rw [regattaref16_Same.l1, if_pos (by omega), if_pos (by omega), hrd, if_pos (by omega), if_pos (by omega), if_pos (by omega), if_pos (by omega), if_neg (by simp), w64 (x := (j : Int) + 1) (by omega) (by omega)]
    rfl
theorem same_l0' (l : List S57) (hT : Mid l) (d : Nat) : ∀ i, i + d = l.length → Tell (fun k => regattaref16_Same.l0 k l l (i : Int)) true := by
  have hl := hT.1
  induction d with
  | zero =>
    intro i hi
    exact Tell.step (g := fun _ => some true) (fun k => by rw [regattaref16_Same.l0, if_neg (by omega)]) (Tell.const _)
  | succ d ih =>
    intro i hi
    have hlt : i < l.length := by omega
    have h1 := same_l1' l hT i hlt (ih (i + 1) (by omega)) l[i].f1.length 0 (by omega)
    refine Tell.step (g := fun k => regattaref16_Same.j1 k l l (i : Int) false) (fun k => ?_) (Tell.step (fun k => ?_) h1)
    · rw [regattaref16_Same.l0, if_pos (by omega), if_pos (by omega), if_pos (by omega), if_pos rfl]
      simp
    · rw [regattaref16_Same.j1, if_neg (by decide)]
      rfl
theorem same_mid (l : List S57) (hT : Mid l) : Tell (fun k => regattaref16_Same.f k l l) true := by
  have h := same_l0' l hT l.length 0 (by omega)
  exact Tell.of (fun k => by rw [regattaref16_Same.f, if_pos rfl]; rfl) h
end Go.Proofs.Ytlblianpbjhmoaa.QReadBoth
