/- Plain Lean, the document's ReadNumber (regattaref16_Read.f) tells what nextGo does. -/
import Derived.Test.YtlblianpbjhmoaaQReads
import Derived.Test.YtlblianpbjhmoaaPGsx42
import Derived.Test.YtlblianpbjhmoaaPGsx43
namespace Go.Proofs.Ytlblianpbjhmoaa.QReadGo
open Go.RowKit Go.Proofs.Ytlblianpbjhmoaa.PGs Go.Proofs.YtlblianpbjhmoaaW.PrintWords Go.Proofs.YtlblianpbjhmoaaW.PrintLast
open Go.Proofs.Ytlblianpbjhmoaa.QEv Go.Proofs.Ytlblianpbjhmoaa.QBits Go.Proofs.Ytlblianpbjhmoaa.QSlot Go.Proofs.Ytlblianpbjhmoaa.QCount Go.Proofs.Ytlblianpbjhmoaa.QMade16 Go.Proofs.Ytlblianpbjhmoaa.QBytes Go.Proofs.Ytlblianpbjhmoaa.QBack Go.Proofs.Ytlblianpbjhmoaa.MPut Go.Proofs.Ytlblianpbjhmoaa.MNext Go.Proofs.Ytlblianpbjhmoaa.QReads
set_option linter.unusedVariables false
set_option linter.unusedSimpArgs false

/-- What the document's ReadNumber tells at the place behind P. -/
def gotOf (P t : ByteArray) (r : Option (Int × ByteArray)) : Int × Int := match r with | none => (0, 0) | some (m, t2) => (m, ((P.size + (t.size - t2.size) : Nat) : Int))
theorem f_step (y : Nat) (h : y * 128 ≤ 4398046511104) : wrap64 ((y : Int) * 128) = ((y * 128 : Nat) : Int) := by
  rw [w64 (by omega) (by omega)]
  omega
theorem read_go (P t : ByteArray) (hP : P.size ≤ 1000000000) (ht : t.size ≤ 1000000000) : ∀ d j, j + d = 6 → (∀ l, l < j → l < t.size ∧ 128 ≤ (bt t (l : Int)).toNat) →
    Tell (fun k => regattaref16_ReadNumber.l0 k (P ++ t) (P.size : Int) ((val (digs t j) 0 : Nat) : Int) ((128 ^ j : Nat) : Int) ((P.size + j : Nat) : Int)) (gotOf P t (nextGo t 4398046511104 (7 - j) j (val (digs t j) 0))) := by
  intro d
  have hsz : (P ++ t).size = P.size + t.size := ByteArray.size_append
  induction d with
  | zero =>
    intro j hj _
    have e : j = 6 := by omega
    subst e
    rw [nextGo_end t _ 6 _ (by omega)]
    refine Tell.step (g := fun k => regattaref16_ReadNumber.j1 k (P ++ t) (P.size : Int) ((val (digs t 6) 0 : Nat) : Int) ((128 ^ 6 : Nat) : Int) ((P.size + 6 : Nat) : Int) false) (fun k => ?_) (Tell.step (g := fun _ => some (0, 0)) (fun k => ?_) (Tell.const _))
    · rw [regattaref16_ReadNumber.l0, if_pos (by omega)]
      by_cases h : ((P.size + 6 : Nat) : Int) < (((P ++ t).size : Nat) : Int)
      · rw [if_pos h, decide_eq_false (by rw [w64 (by omega) (by omega)]; omega)]
      · rw [if_neg h]
    · rw [regattaref16_ReadNumber.j1, if_neg (by decide)]
  | succ d ih =>
    intro j hj hm
    by_cases hlt : j < t.size
    case neg =>
      rw [nextGo_end t _ j _ (by omega)]
      refine Tell.step (g := fun k => regattaref16_ReadNumber.j1 k (P ++ t) (P.size : Int) ((val (digs t j) 0 : Nat) : Int) ((128 ^ j : Nat) : Int) ((P.size + j : Nat) : Int) false) (fun k => ?_) (Tell.step (g := fun _ => some (0, 0)) (fun k => ?_) (Tell.const _))
      · rw [regattaref16_ReadNumber.l0, if_pos (by omega), if_neg (by rw [hsz]; omega)]
      · rw [regattaref16_ReadNumber.j1, if_neg (by decide)]
    have hb := bt_right P t j hlt
    have hlt2 : ((P.size + j : Nat) : Int) < (((P ++ t).size : Nat) : Int) := by rw [hsz]; omega
    have hle2 : ((P.size + (j + 1) : Nat) : Int) ≤ (((P ++ t).size : Nat) : Int) := by rw [hsz]; omega
    have hge : (0 : Int) ≤ ((P.size + j : Nat) : Int) := Int.natCast_nonneg _
    have hP0 : (0 : Int) ≤ (P.size : Int) := Int.natCast_nonneg _
    have hlt6 : ((P.size + j : Nat) : Int) < (P.size : Int) + 6 := by omega
    have hw1 : wrap64 (((P.size + j : Nat) : Int) + 1) = ((P.size + (j + 1) : Nat) : Int) := by rw [w64 (by omega) (by omega)]; omega
    have hw6 : wrap64 ((P.size : Int) + 6) = (P.size : Int) + 6 := w64 (by omega) (by omega)
    have HW1 := Aside0.mk hw1
    have HW6 := Aside0.mk hw6
    clear hw1 hw6
    have hPj : (P.size : Int) ≤ ((P.size + (j + 1) : Nat) : Int) := by omega
    have hr := bt_range t (j : Int)
    obtain ⟨c, hc⟩ : ∃ c : Nat, c = (bt t (j : Int)).toNat := ⟨_, rfl⟩
    have hbc : bt t (j : Int) = (c : Int) := by omega
    have hc256 : c < 256 := by omega
    have hv := val_lt (digs t j) (c % 128) (by omega)
    have hs := val_split (digs t j) (c % 128)
    rw [digs_len] at hv hs
    have hpw : 128 ^ (j + 1) ≤ 128 ^ 6 := Nat.pow_le_pow_right (by decide) (by omega)
    have h6 : (128 : Nat) ^ 6 = 4398046511104 := by decide
    have hpj : 128 ^ j ≤ 128 ^ 6 := Nat.pow_le_pow_right (by decide) (by omega)
    have hmod : Int.tmod (c : Int) 128 = ((c % 128 : Nat) : Int) := tmod_nat c 128
    have hmul : ((128 ^ j : Nat) : Int) * ((c % 128 : Nat) : Int) = ((c % 128 * 128 ^ j : Nat) : Int) := by rw [← Int.natCast_mul, Nat.mul_comm]
    have hnum : ∀ x : Nat, x = val (digs t j) (c % 128) → wrap64 (((val (digs t j) 0 : Nat) : Int) + wrap64 (((128 ^ j : Nat) : Int) * wrap64 (Int.tmod (bt (P ++ t) ((P.size + j : Nat) : Int)) 128))) = ((x : Nat) : Int) := by
      intro x hx
      rw [hx, hb, hbc, hmod, w64 (x := ((c % 128 : Nat) : Int)) (by omega) (by omega), hmul, w64 (x := ((c % 128 * 128 ^ j : Nat) : Int)) (by omega) (by omega), w64 (by omega) (by omega), hs]
      omega
    have HNUM := Aside0.mk (hnum _ rfl)
    clear hnum
    refine Tell.step (g := fun k => regattaref16_ReadNumber.j1 k (P ++ t) (P.size : Int) ((val (digs t j) 0 : Nat) : Int) ((128 ^ j : Nat) : Int) ((P.size + j : Nat) : Int) true) (fun k => ?_) ?_
    · rw [regattaref16_ReadNumber.l0, if_pos hge, if_pos hlt2, HW6.out, decide_eq_true hlt6]
    have hat := nextGo_at t 4398046511104 j (val (digs t j) 0) (by omega) hlt
    rw [← hc] at hat
    by_cases h128 : c < 128
    · have hcm : c % 128 = c := Nat.mod_eq_of_lt h128
      rw [hcm] at HNUM hv hs hat
      rw [if_pos h128, ← hs] at hat
      have hext : (P ++ t).extract P.size (P.size + (j + 1)) = strOfNums ((digs t (j + 1)).map fun d : Nat => (d : Int)) := by
        rw [← ext_digs t (j + 1) hlt]
        have := ByteArray.extract_append_size_add (a := P) (b := t) (i := 0) (j := j + 1)
        rw [Nat.add_zero] at this
        exact this
      have hvc : val (digs t j) c < 4398046511104 := by omega
      have hvb : val (digs t j) c < 4611686018427387904 := by omega
      clear hpw h6 hpj hmod hmul ih
      have hnt := number_t (val (digs t j) c) hvb
      have hbit : bt (P ++ t) ((P.size + j : Nat) : Int) < 128 := by rw [hb, hbc]; exact Int.ofNat_lt.mpr h128
      have hcut : (strOfNums ((digs t (j + 1)).map fun d : Nat => (d : Int))).size = j + 1 := by rw [strOfNums_size, List.length_map, digs_len]
      have hrest : ∀ r : Int × Int, gotOf P t (nextGo t 4398046511104 (7 - j) j (val (digs t j) 0)) = r → (if (strOfNums (vnum (val (digs t j) c))).toList = (strOfNums ((digs t (j + 1)).map fun d : Nat => (d : Int))).toList then (((val (digs t j) c : Nat) : Int), ((P.size + (j + 1) : Nat) : Int)) else (0, 0)) = r → Tell (fun k => regattaref16_ReadNumber.j1 k (P ++ t) (P.size : Int) ((val (digs t j) 0 : Nat) : Int) ((128 ^ j : Nat) : Int) ((P.size + j : Nat) : Int) true) (gotOf P t (nextGo t 4398046511104 (7 - j) j (val (digs t j) 0))) := by
        intro r h1 h2
        rw [h1]
        refine Tell.step (fun k => by
          rw [regattaref16_ReadNumber.j1, if_pos rfl, if_pos hge, if_pos hlt2, HNUM.out, if_pos hbit]) (Tell.bind hnt ?_)
        refine Tell.of (g := fun _ => some r) (fun k => ?_) (Tell.const _)
        rw [if_pos hP0, HW1.out, if_pos hPj, if_pos hle2, Int.toNat_natCast, Int.toNat_natCast, hext, ← h2]
        by_cases he : (strOfNums (vnum (val (digs t j) c))).toList = (strOfNums ((digs t (j + 1)).map fun d : Nat => (d : Int))).toList
        · rw [if_pos he, if_pos he]
        · rw [if_neg he, if_neg he]
      clear hlt2 hle2 hbit HNUM hnt hext HW1
      by_cases hcan : c ≠ 0 ∨ j = 0
      · have hd0 : c ≠ 0 ∨ digs t j = [] := hcan.imp id (fun h => by rw [h]; rfl)
        have hvn := vnum_val (digs t j) c (fun x hx => by
          obtain ⟨l, hl, rfl⟩ := List.mem_map.1 hx
          have h1 := hm l (List.mem_range.1 hl)
          have h2 := bt_range t (l : Int)
          omega) h128 hd0
        have e2 : strOfNums (vnum (val (digs t j) c)) = strOfNums ((digs t (j + 1)).map fun d : Nat => (d : Int)) := by
          rw [hvn, digs_succ, List.map_append, ← hc]
          rfl
        refine hrest (((val (digs t j) c : Nat) : Int), ((P.size + (j + 1) : Nat) : Int)) ?_ (if_pos (congrArg ByteArray.toList e2))
        rw [hat, if_neg (by rintro (⟨h1, h2⟩ | h1) <;> omega)]
        unfold gotOf
        simp only [ByteArray.size_extract]
        congr 2
        omega
      · have hc0 : c = 0 := Classical.byContradiction fun h => hcan (.inl h)
        have hj0 : 0 < j := Nat.pos_of_ne_zero fun h => hcan (.inr h)
        subst hc0
        have hlen := vnum_len (val (digs t j) 0) j (by have := val0_lt (digs t j); rwa [digs_len] at this) hj0
        refine hrest (0, 0) (by rw [hat, if_pos (.inl ⟨rfl, hj0⟩)]; rfl) (if_neg fun h => ?_)
        have h1 := congrArg List.length h
        rw [ByteArray.toList_eq, ByteArray.toList_eq, Array.length_toList, Array.length_toList] at h1
        have h2 : (strOfNums (vnum (val (digs t j) 0))).size = (strOfNums ((digs t (j + 1)).map fun d : Nat => (d : Int))).size := h1
        rw [strOfNums_size, hcut] at h2
        omega
    · rw [if_neg h128] at hat
      have h3 := ih (j + 1) (by omega) (fun l hl => by
        by_cases e : l = j
        · subst e
          exact ⟨hlt, by omega⟩
        · exact hm l (by omega))
      have hn2 : val (digs t (j + 1)) 0 = val (digs t j) (c % 128) := by rw [digs_succ, val_snoc, ← hc]
      rw [hn2] at h3
      rw [hat, ← hs]
      have hbit : ¬ bt (P ++ t) ((P.size + j : Nat) : Int) < 128 := by rw [hb, hbc]; exact fun h => h128 (Int.ofNat_lt.mp h)
      have hq : 128 ^ j * 128 ≤ 4398046511104 := by
        rw [← Nat.pow_succ]
        exact Nat.le_trans hpw (Nat.le_of_eq h6)
      have hf2 : wrap64 (((128 ^ j : Nat) : Int) * 128) = ((128 ^ (j + 1) : Nat) : Int) := by
        rw [Nat.pow_succ]
        exact f_step _ hq
      clear hq hpw h6 hpj
      refine Tell.step (fun k => by
        rw [regattaref16_ReadNumber.j1, if_pos rfl, if_pos hge, if_pos hlt2, HNUM.out, if_neg hbit, hf2, HW1.out]) h3
/-! ### What is read is written so -/
theorem nextGo_inv (t : ByteArray) (most : Int) : ∀ d j, j + d = 6 → (∀ l, l < j → l < t.size ∧ 128 ≤ (bt t (l : Int)).toNat) → ∀ m t2, nextGo t most (7 - j) j (val (digs t j) 0) = some (m, t2) → t = strOfNums (vnum m.toNat) ++ t2 := by
  intro d
  induction d with
  | zero =>
    intro j hj _ m t2 h
    rw [nextGo_end t _ j _ (by omega)] at h
    cases h
  | succ d ih =>
    intro j hj hm m t2 h
    by_cases hlt : j < t.size
    case neg =>
      rw [nextGo_end t _ j _ (by omega)] at h
      cases h
    obtain ⟨c, hc⟩ : ∃ c : Nat, c = (bt t (j : Int)).toNat := ⟨_, rfl⟩
    have hr := bt_range t (j : Int)
    have hs := val_split (digs t j) (c % 128)
    rw [digs_len] at hs
    rw [nextGo_at t most j _ (by omega) hlt, ← hc] at h
    by_cases h128 : c < 128
    · have hcm : c % 128 = c := Nat.mod_eq_of_lt h128
      rw [hcm] at hs h
      rw [if_pos h128, ← hs] at h
      by_cases hbad : c = 0 ∧ 0 < j ∨ most < ((val (digs t j) c : Nat) : Int)
      · rw [if_pos hbad] at h
        cases h
      · rw [if_neg hbad] at h
        have e := Option.some.inj h
        injection e with e1 e2
        subst e1
        subst e2
        rw [Int.toNat_natCast]
        have hcan : c ≠ 0 ∨ digs t j = [] := by
          by_cases h0 : c = 0
          · have hj0 : j = 0 := Nat.eq_zero_of_not_pos (fun h1 => hbad (.inl ⟨h0, h1⟩))
            exact .inr (by rw [hj0]; rfl)
          · exact .inl h0
        have hvn := vnum_val (digs t j) c (fun x hx => by
          obtain ⟨l, hl, rfl⟩ := List.mem_map.1 hx
          have h1 := hm l (List.mem_range.1 hl)
          have h2 := bt_range t (l : Int)
          omega) h128 hcan
        have e2 : strOfNums (vnum (val (digs t j) c)) = t.extract 0 (j + 1) := by
          rw [ext_digs t (j + 1) hlt, hvn, digs_succ, List.map_append, ← hc]
          rfl
        rw [e2, ByteArray.extract_append_extract, Nat.min_eq_left (by omega), Nat.max_eq_right (by omega), ByteArray.extract_zero_size]
    · rw [if_neg h128, ← hs] at h
      have hn2 : val (digs t (j + 1)) 0 = val (digs t j) (c % 128) := by rw [digs_succ, val_snoc, ← hc]
      rw [← hn2] at h
      exact ih (j + 1) (by omega) (fun l hl => by
        by_cases e : l = j
        · subst e
          exact ⟨hlt, by omega⟩
        · exact hm l (by omega)) m t2 h
theorem next_inv {t : ByteArray} {most m : Int} {t2 : ByteArray} (h : nextP t most = some (m, t2)) : t = strOfNums (vnum m.toNat) ++ t2 :=
  nextGo_inv t most 6 0 rfl (fun l hl => absurd hl (by omega)) m t2 h
theorem readNumber_t {s P t : ByteArray} (hs : s.size ≤ 1000000000) (e : s = P ++ t) : Tell (fun k => regattaref16_ReadNumber.f k s (P.size : Int)) (gotOf P t (nextGo t 4398046511104 7 0 0)) := by
  subst e
  rw [ByteArray.size_append] at hs
  exact Tell.of (fun k => by rw [regattaref16_ReadNumber.f]; rfl) (read_go P t (by omega) (by omega) 6 0 rfl (fun l hl => absurd hl (by omega)))
theorem rn_some {s P t t2 : ByteArray} {most m : Int} (hs : s.size ≤ 1000000000) (e : s = P ++ t) (hmo : most ≤ 4398046511104) (h : nextP t most = some (m, t2)) :
    s = (P ++ strOfNums (vnum m.toNat)) ++ t2 ∧ Tell (fun k => rn k s (P.size : Int) false most) (m, ((P ++ strOfNums (vnum m.toNat)).size : Int), false) := by
  have hi := next_inv h
  have hb := nextP_bound h
  refine ⟨by rw [e, ByteArray.append_assoc, ← hi], ?_⟩
  unfold rn
  refine Tell.bind (readNumber_t hs e) (Tell.of (g := fun _ => some (m, ((P ++ strOfNums (vnum m.toNat)).size : Int), false)) (fun k => ?_) (Tell.const _))
  cases hg : nextGo t 4398046511104 7 0 0 with
  | none =>
    have h2 := (nextGo_most t most 4398046511104 7 0 0).2 (fun m' t' h => by have := nextGo_bound t most 7 0 0 m' t' h; omega) hg
    unfold nextP at h
    rw [h2] at h
    cases h
  | some q =>
    obtain ⟨m', t'⟩ := q
    have h2 := (nextGo_most t most 4398046511104 7 0 0).1 m' t' hg
    unfold nextP at h
    rw [h] at h2
    by_cases hm : most < m'
    · rw [if_pos hm] at h2
      cases h2
    · rw [if_neg hm] at h2
      have e1 := Option.some.inj h2
      injection e1 with e1 e2
      subst e1
      subst e2
      have hsz : t.size = (strOfNums (vnum m.toNat)).size + t2.size := by
        have := congrArg ByteArray.size hi
        rw [ByteArray.size_append] at this
        exact this
      have hE : ((P.size + (t.size - t2.size) : Nat) : Int) = ((P ++ strOfNums (vnum m.toNat)).size : Int) := by rw [ByteArray.size_append]; omega
      show some (if false = true ∨ ((P.size + (t.size - t2.size) : Nat) : Int) = 0 ∨ m > most then (0, (P.size : Int), true) else (m, ((P.size + (t.size - t2.size) : Nat) : Int), false)) = _
      rw [if_neg (by rintro (h | h | h) <;> first | cases h | omega), hE]
theorem rn_none {s P t : ByteArray} {most : Int} (hs : s.size ≤ 1000000000) (e : s = P ++ t) (hmo : most ≤ 4398046511104) (h : nextP t most = none) : Tell (fun k => rn k s (P.size : Int) false most) (0, (P.size : Int), true) := by
  unfold rn
  refine Tell.bind (readNumber_t hs e) (Tell.of (g := fun _ => some (0, (P.size : Int), true)) (fun k => ?_) (Tell.const _))
  cases hg : nextGo t 4398046511104 7 0 0 with
  | none =>
    unfold rnext gotOf
    rw [if_pos (.inr (.inl rfl))]
  | some q =>
    obtain ⟨m', t'⟩ := q
    have h2 := (nextGo_most t most 4398046511104 7 0 0).1 m' t' hg
    unfold nextP at h
    rw [h] at h2
    by_cases hm : most < m'
    · unfold rnext gotOf
      rw [if_pos (.inr (.inr hm))]
    · rw [if_neg hm] at h2
      cases h2
theorem rn_bad {s P t : ByteArray} {most : Int} (hs : s.size ≤ 1000000000) (e : s = P ++ t) : Tell (fun k => rn k s (P.size : Int) true most) (0, (P.size : Int), true) := by
  unfold rn
  refine Tell.bind (readNumber_t hs e) (Tell.of (g := fun _ => some (0, (P.size : Int), true)) (fun k => ?_) (Tell.const _))
  unfold rnext
  rw [if_pos (.inl rfl)]
end Go.Proofs.Ytlblianpbjhmoaa.QReadGo
