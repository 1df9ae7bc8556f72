/- Plain Lean, towards SlotReads: a number's digits. Not finished: see NOTES. -/
import Derived.Test.YtlblianpbjhmoaaQBack

namespace Go.Proofs.Ytlblianpbjhmoaa.QReads
open Go.RowKit Go.Proofs.Ytlblianpbjhmoaa.PGs Go.Proofs.YtlblianpbjhmoaaW.PrintWords Go.Proofs.YtlblianpbjhmoaaW.PrintLast
open Go.Proofs.Ytlblianpbjhmoaa.QEv Go.Proofs.Ytlblianpbjhmoaa.QBits Go.Proofs.Ytlblianpbjhmoaa.QSlot Go.Proofs.Ytlblianpbjhmoaa.QCount Go.Proofs.Ytlblianpbjhmoaa.QMade16 Go.Proofs.Ytlblianpbjhmoaa.QBytes Go.Proofs.Ytlblianpbjhmoaa.QBack Go.Proofs.Ytlblianpbjhmoaa.MPut Go.Proofs.Ytlblianpbjhmoaa.MNext
set_option linter.unusedVariables false
set_option linter.unusedSimpArgs false

/-- The number that digits tell: all but the last bear a mark. -/
def val : List Nat → Nat → Nat
  | [], c => c
  | d :: ds, c => d % 128 + 128 * val ds c
theorem val_pos : ∀ (ds : List Nat) (c : Nat), c ≠ 0 → val ds c ≠ 0
  | [], c, h => h
  | d :: ds, c, h => by
    have := val_pos ds c h
    unfold val
    omega
theorem vnum_val : ∀ (ds : List Nat) (c : Nat), (∀ d ∈ ds, 128 ≤ d ∧ d < 256) → c < 128 → (c ≠ 0 ∨ ds = []) → vnum (val ds c) = ds.map (fun d : Nat => (d : Int)) ++ [(c : Int)]
  | [], c, _, hc, _ => by
    show vnum c = _
    rw [vnum_lt c hc]
    rfl
  | d :: ds, c, hd, hc, h0 => by
    have hc0 : c ≠ 0 := by
      rcases h0 with h | h
      · exact h
      · cases h
    have hv := val_pos ds c hc0
    have hd1 := hd d (by simp)
    have ih := vnum_val ds c (fun x hx => hd x (by simp [hx])) hc (.inl hc0)
    show vnum (d % 128 + 128 * val ds c) = _
    rw [vnum_ge _ (by omega), show (d % 128 + 128 * val ds c) / 128 = val ds c by omega, show (d % 128 + 128 * val ds c) % 128 + 128 = d by omega, ih]
    rfl
theorem vnum_last (n : Nat) : ∃ (ds : List Int) (c : Nat), vnum n = ds ++ [(c : Int)] ∧ (c ≠ 0 ∨ ds = []) := by
  induction n using Nat.strongRecOn with
  | _ n ih =>
    by_cases h : n < 128
    · exact ⟨[], n, by rw [vnum_lt n h]; rfl, .inr rfl⟩
    · obtain ⟨ds, c, e, hc⟩ := ih (n / 128) (by omega)
      have hne : n / 128 ≠ 0 := by omega
      refine ⟨((n % 128 + 128 : Nat) : Int) :: ds, c, by rw [vnum_ge n h, e]; rfl, .inl ?_⟩
      rcases hc with hc | hc
      · exact hc
      · subst hc
        intro h0
        subst h0
        rw [List.nil_append] at e
        by_cases h2 : n / 128 < 128
        · rw [vnum_lt _ h2] at e
          injection e with e _
          omega
        · rw [vnum_ge _ h2] at e
          injection e with _ e
          have : (vnum (n / 128 / 128)).length = 0 := by rw [e]; rfl
          rw [vnum] at this
          split at this <;> simp at this
/-! ### The bound of next, apart -/
theorem nextGo_most (s : ByteArray) (most big : Int) : ∀ (f i n : Nat), (∀ m t, nextGo s big f i n = some (m, t) → nextGo s most f i n = if most < m then none else some (m, t)) ∧ ((∀ m : Int, ∀ t, nextGo s most f i n = some (m, t) → m ≤ big) → nextGo s big f i n = none → nextGo s most f i n = none) := by
  intro f
  induction f with
  | zero => intro i n; exact ⟨fun m t h => absurd h (by simp [nextGo]), fun _ _ => rfl⟩
  | succ f ih =>
    intro i n
    refine ⟨fun m t h => ?_, fun hm h => ?_⟩
    · simp only [nextGo] at h ⊢
      split at h
      · rename_i hc
        rw [if_pos hc]
        split at h
        · rename_i hc2
          rw [if_pos hc2]
          split at h
          · cases h
          · rename_i hc3
            have e := Option.some.inj h
            injection e with e1 e2
            subst e1
            subst e2
            by_cases hmo : most < ((n + (bt s i).toNat % 128 * 128 ^ i : Nat) : Int)
            · rw [if_pos (Or.inr hmo), if_pos hmo]
            · rw [if_neg (fun h => h.elim (fun h => hc3 (Or.inl h)) hmo), if_neg hmo]
        · rename_i hc2
          rw [if_neg hc2]
          exact (ih _ _).1 m t h
      · cases h
    · simp only [nextGo] at h hm ⊢
      split at h
      · rename_i hc
        rw [if_pos hc] at hm ⊢
        split at h
        · rename_i hc2
          rw [if_pos hc2] at hm ⊢
          split at h
          · rename_i hc3
            by_cases hc4 : (bt s i).toNat = 0 ∧ 0 < i ∨ most < ((n + (bt s i).toNat % 128 * 128 ^ i : Nat) : Int)
            · rw [if_pos hc4]
            · rw [if_neg hc4] at hm
              have h5 := hm _ _ rfl
              rcases hc3 with h6 | h6
              · exact absurd (Or.inl h6) hc4
              · omega
          · cases h
        · rename_i hc2
          rw [if_neg hc2] at hm ⊢
          exact (ih _ _).2 hm h
      · rename_i hc
        rw [if_neg hc]
/-! ### Bytes behind a place -/
theorem bt_right (P t : ByteArray) (i : Nat) (h : i < t.size) : bt (P ++ t) ((P.size + i : Nat) : Int) = bt t (i : Int) := by
  have h1 : P.size + i < (P ++ t).size := by rw [ByteArray.size_append]; omega
  rw [← bt_at (P ++ t) ((P.size + i : Nat) : Int) h1, ← bt_at t (i : Int) h]
  have h2 : (P ++ t)[P.size + i]'h1 = t[i]'h := by
    rw [ByteArray.getElem_append_right (by omega)]
    congr 1
    omega
  show (((P ++ t)[P.size + i]'h1).toNat : Int) = ((t[i]'h).toNat : Int)
  rw [h2]
def digs (t : ByteArray) (i : Nat) : List Nat := (List.range i).map fun l : Nat => (bt t (l : Int)).toNat
theorem digs_succ (t : ByteArray) (i : Nat) : digs t (i + 1) = digs t i ++ [(bt t (i : Int)).toNat] := by simp [digs, List.range_succ]
theorem one_ext (t : ByteArray) (i : Nat) (h : i < t.size) : t.extract i (i + 1) = strOfNums [(((bt t (i : Int)).toNat : Nat) : Int)] := by
  rw [strOf_nat]
  have h1 := bt_at t (i : Int) h
  have h2 : (bt t (i : Int)).toNat = (t[i]'h).toNat := by
    rw [← h1]
    rfl
  rw [h2]
  apply ByteArray.ext
  rw [ByteArray.data_extract]
  have hs : i + 1 ≤ t.data.size := h
  apply Array.ext
  · rw [Array.size_extract]
    show _ = 1
    omega
  · intro k hk1 hk2
    have hk2' : k < 1 := hk2
    have hk : k = 0 := by omega
    subst hk
    rw [Array.getElem_extract]
    show t.data[i + 0]'_ = UInt8.ofNat (t.data[i]'_).toNat
    rw [UInt8.ofNat_toNat]
    rfl
theorem ext_digs (t : ByteArray) : ∀ i, i ≤ t.size → t.extract 0 i = strOfNums ((digs t i).map fun d : Nat => (d : Int))
  | 0, _ => by
    apply ByteArray.ext
    simp [digs, strOfNums]
  | i + 1, h => by
    rw [digs_succ, List.map_append, strOf_append, ← ext_digs t i (by omega)]
    show _ = t.extract 0 i ++ strOfNums [(((bt t (i : Int)).toNat : Nat) : Int)]
    rw [← one_ext t i (by omega), ByteArray.extract_append_extract]
    congr 1 <;> omega
/-! ### The document's number, from a place on -/
theorem val_split : ∀ (ds : List Nat) (c : Nat), val ds c = val ds 0 + c * 128 ^ ds.length
  | [], c => by simp [val]
  | d :: ds, c => by
    unfold val
    rw [val_split ds c, List.length_cons, Nat.pow_succ, Nat.mul_add, Nat.add_assoc]
    congr 2
    rw [Nat.mul_comm (128 ^ ds.length) 128, ← Nat.mul_assoc, ← Nat.mul_assoc, Nat.mul_comm 128 c]
theorem val_lt : ∀ (ds : List Nat) (c : Nat), c < 128 → val ds c < 128 ^ (ds.length + 1)
  | [], c, h => by simpa [val] using h
  | d :: ds, c, h => by
    have ih := val_lt ds c h
    unfold val
    rw [List.length_cons, Nat.pow_succ]
    omega
theorem val_snoc (ds : List Nat) (d : Nat) : val (ds ++ [d]) 0 = val ds (d % 128) := by
  induction ds with
  | nil => simp [val]
  | cons x ds ih => simp only [List.cons_append, val, ih]
theorem val0_lt : ∀ (ds : List Nat), val ds 0 < 128 ^ ds.length
  | [] => by simp [val]
  | d :: ds => by
    have ih := val0_lt ds
    unfold val
    rw [List.length_cons, Nat.pow_succ]
    omega
theorem digs_len (t : ByteArray) (i : Nat) : (digs t i).length = i := by simp [digs]
end Go.Proofs.Ytlblianpbjhmoaa.QReads
