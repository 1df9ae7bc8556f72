/- Plain Lean: a row that was written is read; the document's Same. -/
import Derived.Test.YtlblianpbjhmoaaQBytes
import Derived.Test.YtlblianpbjhmoaaMNext
import Derived.Test.YtlblianpbjhmoaaPGsx3
import Derived.Test.YtlblianpbjhmoaaPGsx4
import Derived.Test.YtlblianpbjhmoaaPGsx41
import Derived.Test.YtlblianpbjhmoaaPGsx44
namespace Go.Proofs.Ytlblianpbjhmoaa.QBack
open Go.RowKit Go.Proofs.Ytlblianpbjhmoaa.PGs Go.Proofs.YtlblianpbjhmoaaW.PrintWords Go.Proofs.YtlblianpbjhmoaaW.PrintLast
open Go.Proofs.Ytlblianpbjhmoaa.QEv Go.Proofs.Ytlblianpbjhmoaa.QBits Go.Proofs.Ytlblianpbjhmoaa.QSlot Go.Proofs.Ytlblianpbjhmoaa.QCount Go.Proofs.Ytlblianpbjhmoaa.QMade16 Go.Proofs.Ytlblianpbjhmoaa.QBytes Go.Proofs.Ytlblianpbjhmoaa.MPut Go.Proofs.Ytlblianpbjhmoaa.MNext
set_option linter.unusedVariables false
set_option linter.unusedSimpArgs false

/-! ### A number that was written is read -/
theorem one_size (c : Nat) : (strOfNums [(c : Int)]).size = 1 := by rw [strOf_nat]; rfl
theorem bt_mid (P R : ByteArray) (c : Nat) (hc : c < 256) : bt (P ++ (strOfNums [(c : Int)] ++ R)) (P.size : Int) = (c : Int) := by
  rw [strOf_nat]
  have e : (P ++ ((⟨#[UInt8.ofNat c]⟩ : ByteArray) ++ R)).data = P.data ++ (#[UInt8.ofNat c] ++ R.data) := by simp
  have h2 : ((P ++ ((⟨#[UInt8.ofNat c]⟩ : ByteArray) ++ R)).data[P.size]? ) = some (UInt8.ofNat c) := by
    rw [e, Array.getElem?_append_right (by exact Nat.le_refl _)]
    have e0 : P.size - P.data.size = 0 := Nat.sub_self _
    rw [e0, Array.getElem?_append_left (by show 0 < 1; omega)]
    rfl
  obtain ⟨h, h3⟩ := Array.getElem?_eq_some_iff.1 h2
  have h1 := bt_at (P ++ ((⟨#[UInt8.ofNat c]⟩ : ByteArray) ++ R)) (P.size : Int) h
  rw [← h1]
  have h4 : (P ++ ((⟨#[UInt8.ofNat c]⟩ : ByteArray) ++ R))[(P.size : Int).toNat]'h = UInt8.ofNat c := h3
  rw [h4]
  simp
  omega
theorem cut_mid (P R : ByteArray) (c : Nat) : (P ++ (strOfNums [(c : Int)] ++ R)).extract (P.size + 1) (P ++ (strOfNums [(c : Int)] ++ R)).size = R := by
  rw [← ByteArray.append_assoc]
  have e : P.size + 1 = (P ++ strOfNums [(c : Int)]).size := by rw [ByteArray.size_append, one_size]
  rw [e]
  exact ByteArray.extract_append_eq_right rfl (by rw [ByteArray.size_append])
theorem next_go (most : Int) (rest : List Int) : ∀ (f i : Nat) (P : ByteArray) (n x : Nat), P.size = i → i ≤ 6 → x < 128 ^ (6 - i) → 6 - i < f → (0 < i → x ≠ 0) →
    nextGo (P ++ strOfNums (vnum x ++ rest)) most f i n = if most < ((n + x * 128 ^ i : Nat) : Int) then none else some (((n + x * 128 ^ i : Nat) : Int), strOfNums rest) := by
  intro f
  induction f with
  | zero => intro i P n x _ _ _ h; omega
  | succ f ih =>
    intro i P n x hP hi hx hf hx0
    have hi6 : i < 6 := by
      rcases Nat.lt_or_ge i 6 with h | h
      · exact h
      · have e : i = 6 := by omega
        subst e
        have : x < 1 := hx
        have := hx0 (by omega)
        omega
    by_cases h128 : x < 128
    · rw [vnum_lt x h128, strOf_append]
      have hb := bt_mid P (strOfNums rest) x (by omega)
      have hc := cut_mid P (strOfNums rest) x
      have hsz : i < (P ++ (strOfNums [(x : Int)] ++ strOfNums rest)).size := by
        rw [ByteArray.size_append, ByteArray.size_append, one_size]
        omega
      rw [hP] at hb hc
      generalize P ++ (strOfNums [(x : Int)] ++ strOfNums rest) = s at *
      simp only [nextGo]
      rw [if_pos ⟨hsz, hi6⟩, hb, Int.toNat_natCast, if_pos h128, hc, Nat.mod_eq_of_lt h128]
      by_cases hm : most < ((n + x * 128 ^ i : Nat) : Int)
      · rw [if_pos (Or.inr hm), if_pos hm]
      · rw [if_neg (fun h => h.elim (fun h => hx0 h.2 h.1) hm), if_neg hm]
    · have hrw : strOfNums (vnum x ++ rest) = strOfNums [((x % 128 + 128 : Nat) : Int)] ++ strOfNums (vnum (x / 128) ++ rest) := by
        rw [vnum_ge x h128, List.cons_append, strOf_cons]
      rw [hrw]
      have hb := bt_mid P (strOfNums (vnum (x / 128) ++ rest)) (x % 128 + 128) (by omega)
      have hsz : i < (P ++ (strOfNums [((x % 128 + 128 : Nat) : Int)] ++ strOfNums (vnum (x / 128) ++ rest))).size := by
        rw [ByteArray.size_append, ByteArray.size_append, one_size]
        omega
      have hpow : (128 : Nat) ^ (6 - i) = 128 ^ (6 - (i + 1)) * 128 := by rw [← Nat.pow_succ, show (6 - (i + 1)).succ = 6 - i by omega]
      have h2 := ih (i + 1) (P ++ strOfNums [((x % 128 + 128 : Nat) : Int)]) (n + x % 128 * 128 ^ i) (x / 128) (by rw [ByteArray.size_append, one_size]; omega) (by omega) (by rw [hpow] at hx; exact Nat.div_lt_of_lt_mul (by rw [Nat.mul_comm]; exact hx)) (by omega) (fun _ => by omega)
      rw [ByteArray.append_assoc] at h2
      rw [hP] at hb
      have e : n + x % 128 * 128 ^ i + x / 128 * 128 ^ (i + 1) = n + x * 128 ^ i := by
        have h3 : x / 128 * 128 ^ (i + 1) = (x / 128 * 128) * 128 ^ i := by rw [Nat.pow_succ, Nat.mul_comm (128 ^ i) 128, Nat.mul_assoc]
        rw [h3, Nat.add_assoc, ← Nat.add_mul]
        congr 2
        omega
      rw [e] at h2
      generalize P ++ (strOfNums [((x % 128 + 128 : Nat) : Int)] ++ strOfNums (vnum (x / 128) ++ rest)) = s at *
      simp only [nextGo]
      rw [if_pos ⟨hsz, hi6⟩, hb, Int.toNat_natCast, if_neg (by omega), show (x % 128 + 128) % 128 = x % 128 by omega]
      exact h2
theorem next_num (most x : Int) (rest : List Int) (h0 : 0 ≤ x) (h1 : x ≤ most) (h2 : x < 4398046511104) : nextP (strOfNums (vnum x.toNat ++ rest)) most = some (x, strOfNums rest) := by
  have h := next_go most rest 7 0 ⟨#[]⟩ 0 x.toNat rfl (by omega) (by have : (128 : Nat) ^ (6 - 0) = 4398046511104 := by decide
                                                                     omega) (by omega) (by omega)
  have e1 : (⟨#[]⟩ : ByteArray) ++ strOfNums (vnum x.toNat ++ rest) = strOfNums (vnum x.toNat ++ rest) := by
    apply ByteArray.ext
    simp
  have e2 : ((0 + x.toNat * 128 ^ 0 : Nat) : Int) = x := by simp; omega
  rw [e1, e2, if_neg (by omega)] at h
  exact h
/-! ### Runs, slots, rows -/
theorem runs_back (rest : List Int) (rs : List S59) : ∀ (last base : Int) (seen : List Int) (acc : List S59), -1 ≤ last → last ≤ 1024 → 0 ≤ base → (base = last ∨ last = -1 ∧ base = 0) → slot_Check.go 1024 last seen rs = true →
    runsP rs.length (strOfNums (vnums (runNums base rs) ++ rest)) base acc = some (acc ++ rs, strOfNums rest) := by
  induction rs with
  | nil => intro last base seen acc _ _ _ _ _; simp [runsP, runNums, vnums]
  | cons r rs ih =>
    intro last base seen acc hl hl2 hb0 hb h
    unfold slot_Check.go at h
    split at h
    · cases h
    · rename_i hc
      have c1 : ¬ r.f1 ≤ last := fun e => hc (.inl e)
      have c2 : ¬ r.f1 ≥ 1024 := fun e => hc (.inr (.inl e))
      have c3 : ¬ r.f0 < 0 := fun e => hc (.inr (.inr (.inl e)))
      have c4 : ¬ r.f0 > 1023 := fun e => hc (.inr (.inr (.inr (.inl e))))
      have c6 : ¬ r.f2 < 1 := fun e => hc (.inr (.inr (.inr (.inr (.inr (.inl e))))))
      have c7 : ¬ r.f2 > 1099511627776 := fun e => hc (.inr (.inr (.inr (.inr (.inr (.inr e))))))
      clear hc
      have e : vnums (runNums base (r :: rs)) ++ rest = vnum (r.f1 - base).toNat ++ (vnum r.f0.toNat ++ (vnum r.f2.toNat ++ (vnums (runNums r.f1 rs) ++ rest))) := by
        simp [runNums, vnums_cons]
      have hw : wrap64 (base + (r.f1 - base)) = r.f1 := by unfold wrap64; omega
      rw [e]
      simp only [List.length_cons, runsP]
      rw [next_num 1023 (r.f1 - base) _ (by omega) (by omega) (by omega)]
      simp only []
      rw [next_num 1023 r.f0 _ (by omega) (by omega) (by omega)]
      simp only []
      rw [next_num 1099511627776 r.f2 _ (by omega) (by omega) (by omega)]
      simp only []
      rw [hw, ih r.f1 r.f1 (r.f0 :: seen) _ (by omega) (by omega) (by omega) (.inl rfl) h]
      simp
theorem slot_back (s : S57) (rest : List Int) (h : chk 1024 s = true) (hs : s.f1.length ≤ 8) : slotP (strOfNums (vnums (slotNums s) ++ rest)) s.f0 = some (s, strOfNums rest) := by
  obtain ⟨_, _, _, hg⟩ := chk_parts h
  have e : vnums (slotNums s) ++ rest = vnum ((s.f1.length : Int)).toNat ++ (vnums (runNums 0 s.f1) ++ rest) := by simp [slotNums, vnums_cons]
  unfold slotP
  rw [e, next_num 1024 (s.f1.length : Int) _ (by omega) (by omega) (by omega)]
  simp only [Int.toNat_natCast]
  rw [runs_back rest s.f1 (-1) 0 [] [] (by omega) (by omega) (by omega) (.inr ⟨rfl, rfl⟩) hg]
  simp
theorem slots_back (rest : List Int) (l : List S57) : ∀ (at0 i : Int) (acc : List S57), (∀ s ∈ l, s.f1.length ≤ 8) → rowGo 1024 (some (at0 + i - 1)) l = true →
    slotsP l.length (strOfNums (vnums (slotsNums l) ++ rest)) at0 i acc = some (acc ++ l, strOfNums rest) := by
  induction l with
  | nil => intro at0 i acc _ _; simp [slotsP, slotsNums, vnums]
  | cons s l ih =>
    intro at0 i acc hr h
    rw [rowGo_cons] at h
    simp only [Bool.and_eq_true] at h
    obtain ⟨⟨hc, hn⟩, hg⟩ := h
    have hn2 : s.f0 = at0 + i := by
      have := of_decide_eq_true (show decide (s.f0 = at0 + i - 1 + 1) = true from hn)
      omega
    obtain ⟨_, h1, h2, _⟩ := chk_parts hc
    have hw : wrap64 (at0 + i) = s.f0 := by unfold wrap64; omega
    have e : vnums (slotsNums (s :: l)) ++ rest = vnums (slotNums s) ++ (vnums (slotsNums l) ++ rest) := by simp [slotsNums, vnums_append]
    rw [e]
    simp only [List.length_cons, slotsP]
    rw [hw, slot_back s _ hc (hr s (by simp))]
    simp only []
    rw [ih at0 (i + 1) (acc ++ [s]) (fun x hx => hr x (by simp [hx])) (by rw [show at0 + (i + 1) - 1 = s.f0 by omega]; exact hg)]
    simp
def firstAt (l : List S57) : Int := match l with | [] => 0 | s :: _ => s.f0
theorem row_back (l : List S57) (rest : List Int) (hT : Tiny l) (h : rowOk 1024 l = true) : rowP (strOfNums (vnums (rowNums l) ++ rest)) = some (l, strOfNums rest, (l.length : Int), firstAt l) := by
  have hl := hT.1
  unfold rowP
  cases l with
  | nil =>
    have e : vnums (rowNums []) ++ rest = vnum (0 : Int).toNat ++ (vnum (0 : Int).toNat ++ rest) := by simp [rowNums, vnums_cons, vnums]
    rw [e, next_num 4096 0 _ (by omega) (by omega) (by omega)]
    simp only []
    rw [next_num 1099511627776 0 _ (by omega) (by omega) (by omega)]
    rfl
  | cons s l =>
    have hg : rowGo 1024 none (s :: l) = true := h
    rw [rowGo_cons] at hg
    simp only [Bool.and_eq_true] at hg
    obtain ⟨⟨hc, _⟩, hg2⟩ := hg
    obtain ⟨_, h1, h2, _⟩ := chk_parts hc
    have e : vnums (rowNums (s :: l)) ++ rest = vnum (((s :: l).length : Int)).toNat ++ (vnum s.f0.toNat ++ (vnums (slotsNums (s :: l)) ++ rest)) := by simp [rowNums, vnums_cons]
    rw [e, next_num 4096 ((s :: l).length : Int) _ (by omega) (by omega) (by omega)]
    simp only []
    rw [next_num 1099511627776 s.f0 _ (by omega) (by omega) (by omega)]
    simp only [Int.toNat_natCast]
    rw [slots_back rest (s :: l) s.f0 0 [] hT.2 (by rw [rowGo_cons, hc, hg2]; simp [nextTo])]
    rfl
theorem nums_size (l : List S57) (c : List Int) (hc : c.length ≤ 1) (hT : Tiny l) (h : rowOk 1024 l = true) : (strOfNums (vnums (rowNums l) ++ c)).size ≤ 10000 := by
  obtain ⟨h1, h2⟩ := row_fine hT h
  have h3 := vn_size _ h1
  rw [strOf_append, ByteArray.size_append, strOfNums_size c]
  omega
theorem read_t (l : List S57) (hT : Tiny l) (h : rowOk 1024 l = true) : Tell (fun k => slot_Read.f k (strOfNums (vnums (rowNums l)))) (l, true) := by
  have hr := row_back l [] hT h
  have hs := nums_size l [] (by simp) hT h
  rw [List.append_nil] at hr hs
  have hrow := row_f 1024 l hT.small
  rw [h] at hrow
  have hn : ¬ (strOfNums [] ≠ ⟨#[]⟩ ∨ (l.length : Int) = 0 ∧ firstAt l ≠ 0) := by
    rintro (h | ⟨h1, h2⟩)
    · exact h rfl
    · have e : l = [] := List.eq_nil_of_length_eq_zero (by omega)
      subst e
      exact h2 rfl
  refine Tell.of (g := fun k => (slot_Row.f k l 1024).bind fun b => some (if b = true then (l, true) else ([], false))) (fun k => ?_) (Tell.bind hrow (Tell.of (fun _ => by rw [if_pos rfl]) (Tell.const _)))
  unfold slot_Read.f
  rw [if_neg (by omega), hr]
  simp only []
  rw [if_neg hn]
theorem read_more (l : List S57) (c : Int) (hT : Tiny l) (h : rowOk 1024 l = true) : Tell (fun k => slot_Read.f k (strOfNums (vnums (rowNums l) ++ [c]))) ([], false) := by
  have hr := row_back l [c] hT h
  have hs := nums_size l [c] (by simp) hT h
  have hn : strOfNums [c] ≠ ⟨#[]⟩ ∨ (l.length : Int) = 0 ∧ firstAt l ≠ 0 := Or.inl (fun e => by
    have e2 := congrArg ByteArray.size e
    rw [strOfNums_size] at e2
    exact absurd e2 (show ¬ (([c] : List Int).length = (⟨#[]⟩ : ByteArray).size) from fun h => by cases h))
  refine Tell.of (g := fun _ => some ([], false)) (fun k => ?_) (Tell.const _)
  unfold slot_Read.f
  rw [if_neg (by omega), hr]
  simp only []
  rw [if_pos hn]
/-! ### Same -/
theorem same_l1 (l : List S57) (hT : Tiny l) (i : Nat) (hi : i < l.length) (hn : Tell (fun k => regattaref16_Same.l0 k l l ((i + 1 : Nat) : Int)) true) (d : Nat) : ∀ j, j + d = l[i].f1.length → Tell (fun k => regattaref16_Same.l1 k l l (i : Int) (j : Int)) true := by
  have hl := hT.1
  have hr := hT.2 _ (List.getElem_mem hi)
  have hrd : rd_T57 l (i : Int) = l[i] := rd57 l i hi
  induction d with
  | zero =>
    intro j hj
    refine Tell.step (fun k => ?_) hn
    rw [regattaref16_Same.l1, if_pos (by omega), if_pos (by omega), hrd, if_neg (by omega), w64 (x := (i : Int) + 1) (by omega) (by omega)]
    rfl
  | succ d ih =>
    intro j hj
    refine Tell.step (fun k => ?_) (ih (j + 1) (by omega))
    rw [regattaref16_Same.l1, if_pos (by omega), if_pos (by omega), hrd, if_pos (by omega), if_pos (by omega), if_pos (by omega), if_pos (by omega), if_neg (by simp), w64 (x := (j : Int) + 1) (by omega) (by omega)]
    rfl
theorem same_l0 (l : List S57) (hT : Tiny l) (d : Nat) : ∀ i, i + d = l.length → Tell (fun k => regattaref16_Same.l0 k l l (i : Int)) true := by
  have hl := hT.1
  induction d with
  | zero =>
    intro i hi
    exact Tell.step (g := fun _ => some true) (fun k => by rw [regattaref16_Same.l0, if_neg (by omega)]) (Tell.const _)
  | succ d ih =>
    intro i hi
    have hlt : i < l.length := by omega
    have h1 := same_l1 l hT i hlt (ih (i + 1) (by omega)) l[i].f1.length 0 (by omega)
    refine Tell.step (g := fun k => regattaref16_Same.j1 k l l (i : Int) false) (fun k => ?_) (Tell.step (fun k => ?_) h1)
    · rw [regattaref16_Same.l0, if_pos (by omega), if_pos (by omega), if_pos (by omega), if_pos rfl]
      simp
    · rw [regattaref16_Same.j1, if_neg (by decide)]
      rfl
theorem same_self (l : List S57) (hT : Tiny l) : Tell (fun k => regattaref16_Same.f k l l) true := by
  have h := same_l0 l hT l.length 0 (by omega)
  exact Tell.of (fun k => by rw [regattaref16_Same.f, if_pos rfl]; rfl) h
end Go.Proofs.Ytlblianpbjhmoaa.QBack
