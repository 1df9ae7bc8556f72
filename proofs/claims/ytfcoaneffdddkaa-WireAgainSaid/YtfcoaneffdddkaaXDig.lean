/- Plain Lean: the next number of some bytes, its digits. (Lines of the gs texts MNext, QBack, QReads, QReadGo.) -/
import Derived.Test.YtfcoaneffdddkaaMPut
import Derived.Test.YtfcoaneffdddkaaQBits
namespace Go.Proofs.Ytfcoaneffdddkaa.XDig
open Go.RowKit Go.Proofs.YtfcoaneffdddkaaW.PrintWords Go.Proofs.YtfcoaneffdddkaaW.PrintLast
open Go.Proofs.Ytfcoaneffdddkaa.QBits Go.Proofs.Ytfcoaneffdddkaa.MPut
set_option linter.unusedVariables false
set_option linter.unusedSimpArgs false
/-- From the place i on, n read so far. -/
def nextGo (s : ByteArray) (most : Int) : Nat → Nat → Nat → Option (Int × ByteArray)
  | 0, _, _ => none
  | f + 1, i, n =>
    if i < s.size ∧ i < 6 then
      let c := (bt s i).toNat
      let m := n + c % 128 * 128 ^ i
      if c < 128 then (if c = 0 ∧ 0 < i ∨ most < (m : Int) then none else some ((m : Int), s.extract (i + 1) s.size)) else nextGo s most f (i + 1) m
    else none
theorem nextGo_at (s : ByteArray) (most : Int) (i n : Nat) (hi : i < 6) (h : i < s.size) : nextGo s most (7 - i) i n = if (bt s i).toNat < 128 then (if (bt s i).toNat = 0 ∧ 0 < i ∨ most < ((n + (bt s i).toNat % 128 * 128 ^ i : Nat) : Int) then none else some (((n + (bt s i).toNat % 128 * 128 ^ i : Nat) : Int), s.extract (i + 1) s.size)) else nextGo s most (7 - (i + 1)) (i + 1) (n + (bt s i).toNat % 128 * 128 ^ i) := by
  obtain ⟨f, hf⟩ : ∃ f, 7 - i = f + 1 := ⟨6 - i, by omega⟩
  rw [hf, show 7 - (i + 1) = f by omega]
  show (if i < s.size ∧ i < 6 then _ else _) = _
  rw [if_pos ⟨h, hi⟩]
theorem nextGo_end (s : ByteArray) (most : Int) (i n : Nat) (h : ¬ (i < s.size ∧ i < 6)) : nextGo s most (7 - i) i n = none := by
  cases hf : 7 - i with
  | zero => rfl
  | succ f =>
    show (if i < s.size ∧ i < 6 then _ else _) = _
    rw [if_neg h]
def nextP (s : ByteArray) (most : Int) : Option (Int × ByteArray) := nextGo s most 7 0 0

theorem or_sh (k : Nat) (hk : k ≤ 40) (n x : Nat) (hn : n < 2 ^ k) (hx : x < 256) : bits .or .i64 (n : Int) ((x : Int) * ((2 ^ k : Nat) : Int)) = ((n + x * 2 ^ k : Nat) : Int) := by
  have hp : (2 : Nat) ^ k ≤ 2 ^ 40 := Nat.pow_le_pow_right (by decide) hk
  have h40 : (2 : Nat) ^ 40 = 1099511627776 := by decide
  have h64 : (2 : Nat) ^ 64 = 18446744073709551616 := by decide
  have hx2 : x * 2 ^ k ≤ 255 * 2 ^ 40 := Nat.mul_le_mul (by omega) hp
  have e : (x : Int) * ((2 ^ k : Nat) : Int) = ((x * 2 ^ k : Nat) : Int) := by simp
  rw [e]
  show IntKind.i64.wrap (((BitVec.ofInt 64 (n : Int) ||| BitVec.ofInt 64 ((x * 2 ^ k : Nat) : Int)).toNat : Nat) : Int) = _
  rw [BitVec.toNat_or, BitVec.ofInt_natCast, BitVec.ofInt_natCast, BitVec.toNat_ofNat, BitVec.toNat_ofNat, Nat.mod_eq_of_lt (by omega), Nat.mod_eq_of_lt (by omega), Nat.or_comm, Nat.mul_comm x, ← Nat.two_pow_add_eq_or_of_lt hn, IntKind.wrap_i64, Nat.mul_comm, Nat.add_comm]
  generalize x * 2 ^ k = y at *
  omega
theorem nextGo_bound (s : ByteArray) (most : Int) : ∀ (f i n : Nat) (m : Int) (t : ByteArray), nextGo s most f i n = some (m, t) → 0 ≤ m ∧ m ≤ most ∧ t.size < s.size := by
  intro f
  induction f with
  | zero => intro i n m t h; cases h
  | succ f ih =>
    intro i n m t h
    simp only [nextGo] at h
    split at h
    · split at h
      · split at h
        · cases h
        · have e := Option.some.inj h
          injection e with e1 e2
          subst e1
          subst e2
          refine ⟨by omega, by omega, ?_⟩
          rw [ByteArray.size_extract]
          omega
      · exact ih _ _ _ _ h
    · cases h
theorem nextP_bound {s : ByteArray} {most m : Int} {t : ByteArray} (h : nextP s most = some (m, t)) : 0 ≤ m ∧ m ≤ most ∧ t.size < s.size := nextGo_bound s most _ _ _ _ _ h
theorem one_size (c : Nat) : (strOfNums [(c : Int)]).size = 1 := by rw [strOf_nat]; rfl
theorem bt_mid (P R : ByteArray) (c : Nat) (hc : c < 256) : bt (P ++ (strOfNums [(c : Int)] ++ R)) (P.size : Int) = (c : Int) := by
  rw [strOf_nat]
  have e : (P ++ ((⟨#[UInt8.ofNat c]⟩ : ByteArray) ++ R)).data = P.data ++ (#[UInt8.ofNat c] ++ R.data) := by simp
  have h2 : ((P ++ ((⟨#[UInt8.ofNat c]⟩ : ByteArray) ++ R)).data[P.size]? ) = some (UInt8.ofNat c) := by
    rw [e, Array.getElem?_append_right (by exact Nat.le_refl _)]
    have e0 : P.size - P.data.size = 0 := Nat.sub_self _
    rw [e0, Array.getElem?_append_left (by show 0 < 1; omega)]
    rfl
  obtain ⟨h, h3⟩ := Array.getElem?_eq_some_iff.1 h2
  have h1 := bt_at (P ++ ((⟨#[UInt8.ofNat c]⟩ : ByteArray) ++ R)) (P.size : Int) h
  rw [← h1]
  have h4 : (P ++ ((⟨#[UInt8.ofNat c]⟩ : ByteArray) ++ R))[(P.size : Int).toNat]'h = UInt8.ofNat c := h3
  rw [h4]
  simp
  omega
theorem cut_mid (P R : ByteArray) (c : Nat) : (P ++ (strOfNums [(c : Int)] ++ R)).extract (P.size + 1) (P ++ (strOfNums [(c : Int)] ++ R)).size = R := by
  rw [← ByteArray.append_assoc]
  have e : P.size + 1 = (P ++ strOfNums [(c : Int)]).size := by rw [ByteArray.size_append, one_size]
  rw [e]
  exact ByteArray.extract_append_eq_right rfl (by rw [ByteArray.size_append])
theorem next_go (most : Int) (rest : List Int) : ∀ (f i : Nat) (P : ByteArray) (n x : Nat), P.size = i → i ≤ 6 → x < 128 ^ (6 - i) → 6 - i < f → (0 < i → x ≠ 0) →
    nextGo (P ++ strOfNums (vnum x ++ rest)) most f i n = if most < ((n + x * 128 ^ i : Nat) : Int) then none else some (((n + x * 128 ^ i : Nat) : Int), strOfNums rest) := by
  intro f
  induction f with
  | zero => intro i P n x _ _ _ h; omega
  | succ f ih =>
    intro i P n x hP hi hx hf hx0
    have hi6 : i < 6 := by
      rcases Nat.lt_or_ge i 6 with h | h
      · exact h
      · have e : i = 6 := by omega
        subst e
        have : x < 1 := hx
        have := hx0 (by omega)
        omega
    by_cases h128 : x < 128
    · rw [vnum_lt x h128, strOf_append]
      have hb := bt_mid P (strOfNums rest) x (by omega)
      have hc := cut_mid P (strOfNums rest) x
      have hsz : i < (P ++ (strOfNums [(x : Int)] ++ strOfNums rest)).size := by
        rw [ByteArray.size_append, ByteArray.size_append, one_size]
        omega
      rw [hP] at hb hc
      generalize P ++ (strOfNums [(x : Int)] ++ strOfNums rest) = s at *
      simp only [nextGo]
      rw [if_pos ⟨hsz, hi6⟩, hb, Int.toNat_natCast, if_pos h128, hc, Nat.mod_eq_of_lt h128]
      by_cases hm : most < ((n + x * 128 ^ i : Nat) : Int)
      · rw [if_pos (Or.inr hm), if_pos hm]
      · rw [if_neg (fun h => h.elim (fun h => hx0 h.2 h.1) hm), if_neg hm]
    · have hrw : strOfNums (vnum x ++ rest) = strOfNums [((x % 128 + 128 : Nat) : Int)] ++ strOfNums (vnum (x / 128) ++ rest) := by
        rw [vnum_ge x h128, List.cons_append, strOf_cons]
      rw [hrw]
      have hb := bt_mid P (strOfNums (vnum (x / 128) ++ rest)) (x % 128 + 128) (by omega)
      have hsz : i < (P ++ (strOfNums [((x % 128 + 128 : Nat) : Int)] ++ strOfNums (vnum (x / 128) ++ rest))).size := by
        rw [ByteArray.size_append, ByteArray.size_append, one_size]
        omega
      have hpow : (128 : Nat) ^ (6 - i) = 128 ^ (6 - (i + 1)) * 128 := by rw [← Nat.pow_succ, show (6 - (i + 1)).succ = 6 - i by omega]
      have h2 := ih (i + 1) (P ++ strOfNums [((x % 128 + 128 : Nat) : Int)]) (n + x % 128 * 128 ^ i) (x / 128) (by rw [ByteArray.size_append, one_size]; omega) (by omega) (by rw [hpow] at hx; exact Nat.div_lt_of_lt_mul (by rw [Nat.mul_comm]; exact hx)) (by omega) (fun _ => by omega)
      rw [ByteArray.append_assoc] at h2
      rw [hP] at hb
      have e : n + x % 128 * 128 ^ i + x / 128 * 128 ^ (i + 1) = n + x * 128 ^ i := by
        have h3 : x / 128 * 128 ^ (i + 1) = (x / 128 * 128) * 128 ^ i := by rw [Nat.pow_succ, Nat.mul_comm (128 ^ i) 128, Nat.mul_assoc]
        rw [h3, Nat.add_assoc, ← Nat.add_mul]
        congr 2
        omega
      rw [e] at h2
      generalize P ++ (strOfNums [((x % 128 + 128 : Nat) : Int)] ++ strOfNums (vnum (x / 128) ++ rest)) = s at *
      simp only [nextGo]
      rw [if_pos ⟨hsz, hi6⟩, hb, Int.toNat_natCast, if_neg (by omega), show (x % 128 + 128) % 128 = x % 128 by omega]
      exact h2
theorem next_num (most x : Int) (rest : List Int) (h0 : 0 ≤ x) (h1 : x ≤ most) (h2 : x < 4398046511104) : nextP (strOfNums (vnum x.toNat ++ rest)) most = some (x, strOfNums rest) := by
  have h := next_go most rest 7 0 ⟨#[]⟩ 0 x.toNat rfl (by omega) (by have : (128 : Nat) ^ (6 - 0) = 4398046511104 := by decide
                                                                     omega) (by omega) (by omega)
  have e1 : (⟨#[]⟩ : ByteArray) ++ strOfNums (vnum x.toNat ++ rest) = strOfNums (vnum x.toNat ++ rest) := by
    apply ByteArray.ext
    simp
  have e2 : ((0 + x.toNat * 128 ^ 0 : Nat) : Int) = x := by simp; omega
  rw [e1, e2, if_neg (by omega)] at h
  exact h
/-- The number that digits tell: all but the last bear a mark. -/
def val : List Nat → Nat → Nat
  | [], c => c
  | d :: ds, c => d % 128 + 128 * val ds c
theorem val_pos : ∀ (ds : List Nat) (c : Nat), c ≠ 0 → val ds c ≠ 0
  | [], c, h => h
  | d :: ds, c, h => by
    have := val_pos ds c h
    unfold val
    omega
theorem vnum_val : ∀ (ds : List Nat) (c : Nat), (∀ d ∈ ds, 128 ≤ d ∧ d < 256) → c < 128 → (c ≠ 0 ∨ ds = []) → vnum (val ds c) = ds.map (fun d : Nat => (d : Int)) ++ [(c : Int)]
  | [], c, _, hc, _ => by
    show vnum c = _
    rw [vnum_lt c hc]
    rfl
  | d :: ds, c, hd, hc, h0 => by
    have hc0 : c ≠ 0 := by
      rcases h0 with h | h
      · exact h
      · cases h
    have hv := val_pos ds c hc0
    have hd1 := hd d (by simp)
    have ih := vnum_val ds c (fun x hx => hd x (by simp [hx])) hc (.inl hc0)
    show vnum (d % 128 + 128 * val ds c) = _
    rw [vnum_ge _ (by omega), show (d % 128 + 128 * val ds c) / 128 = val ds c by omega, show (d % 128 + 128 * val ds c) % 128 + 128 = d by omega, ih]
    rfl
theorem vnum_last (n : Nat) : ∃ (ds : List Int) (c : Nat), vnum n = ds ++ [(c : Int)] ∧ (c ≠ 0 ∨ ds = []) := by
  induction n using Nat.strongRecOn with
  | _ n ih =>
    by_cases h : n < 128
    · exact ⟨[], n, by rw [vnum_lt n h]; rfl, .inr rfl⟩
    · obtain ⟨ds, c, e, hc⟩ := ih (n / 128) (by omega)
      have hne : n / 128 ≠ 0 := by omega
      refine ⟨((n % 128 + 128 : Nat) : Int) :: ds, c, by rw [vnum_ge n h, e]; rfl, .inl ?_⟩
      rcases hc with hc | hc
      · exact hc
      · subst hc
        intro h0
        subst h0
        rw [List.nil_append] at e
        by_cases h2 : n / 128 < 128
        · rw [vnum_lt _ h2] at e
          injection e with e _
          omega
        · rw [vnum_ge _ h2] at e
          injection e with _ e
          have : (vnum (n / 128 / 128)).length = 0 := by rw [e]; rfl
          rw [vnum] at this
          split at this <;> simp at this
/-! ### The bound of next, apart -/
theorem nextGo_most (s : ByteArray) (most big : Int) : ∀ (f i n : Nat), (∀ m t, nextGo s big f i n = some (m, t) → nextGo s most f i n = if most < m then none else some (m, t)) ∧ ((∀ m : Int, ∀ t, nextGo s most f i n = some (m, t) → m ≤ big) → nextGo s big f i n = none → nextGo s most f i n = none) := by
  intro f
  induction f with
  | zero => intro i n; exact ⟨fun m t h => absurd h (by simp [nextGo]), fun _ _ => rfl⟩
  | succ f ih =>
    intro i n
    refine ⟨fun m t h => ?_, fun hm h => ?_⟩
    · simp only [nextGo] at h ⊢
      split at h
      · rename_i hc
        rw [if_pos hc]
        split at h
        · rename_i hc2
          rw [if_pos hc2]
          split at h
          · cases h
          · rename_i hc3
            have e := Option.some.inj h
            injection e with e1 e2
            subst e1
            subst e2
            by_cases hmo : most < ((n + (bt s i).toNat % 128 * 128 ^ i : Nat) : Int)
            · rw [if_pos (Or.inr hmo), if_pos hmo]
            · rw [if_neg (fun h => h.elim (fun h => hc3 (Or.inl h)) hmo), if_neg hmo]
        · rename_i hc2
          rw [if_neg hc2]
          exact (ih _ _).1 m t h
      · cases h
    · simp only [nextGo] at h hm ⊢
      split at h
      · rename_i hc
        rw [if_pos hc] at hm ⊢
        split at h
        · rename_i hc2
          rw [if_pos hc2] at hm ⊢
          split at h
          · rename_i hc3
            by_cases hc4 : (bt s i).toNat = 0 ∧ 0 < i ∨ most < ((n + (bt s i).toNat % 128 * 128 ^ i : Nat) : Int)
            · rw [if_pos hc4]
            · rw [if_neg hc4] at hm
              have h5 := hm _ _ rfl
              rcases hc3 with h6 | h6
              · exact absurd (Or.inl h6) hc4
              · omega
          · cases h
        · rename_i hc2
          rw [if_neg hc2] at hm ⊢
          exact (ih _ _).2 hm h
      · rename_i hc
        rw [if_neg hc]
/-! ### Bytes behind a place -/
theorem bt_right (P t : ByteArray) (i : Nat) (h : i < t.size) : bt (P ++ t) ((P.size + i : Nat) : Int) = bt t (i : Int) := by
  have h1 : P.size + i < (P ++ t).size := by rw [ByteArray.size_append]; omega
  rw [← bt_at (P ++ t) ((P.size + i : Nat) : Int) h1, ← bt_at t (i : Int) h]
  have h2 : (P ++ t)[P.size + i]'h1 = t[i]'h := by
    rw [ByteArray.getElem_append_right (by omega)]
    congr 1
    omega
  show (((P ++ t)[P.size + i]'h1).toNat : Int) = ((t[i]'h).toNat : Int)
  rw [h2]
def digs (t : ByteArray) (i : Nat) : List Nat := (List.range i).map fun l : Nat => (bt t (l : Int)).toNat
theorem digs_succ (t : ByteArray) (i : Nat) : digs t (i + 1) = digs t i ++ [(bt t (i : Int)).toNat] := by simp [digs, List.range_succ]
theorem one_ext (t : ByteArray) (i : Nat) (h : i < t.size) : t.extract i (i + 1) = strOfNums [(((bt t (i : Int)).toNat : Nat) : Int)] := by
  rw [strOf_nat]
  have h1 := bt_at t (i : Int) h
  have h2 : (bt t (i : Int)).toNat = (t[i]'h).toNat := by
    rw [← h1]
    rfl
  rw [h2]
  apply ByteArray.ext
  rw [ByteArray.data_extract]
  have hs : i + 1 ≤ t.data.size := h
  apply Array.ext
  · rw [Array.size_extract]
    show _ = 1
    omega
  · intro k hk1 hk2
    have hk2' : k < 1 := hk2
    have hk : k = 0 := by omega
    subst hk
    rw [Array.getElem_extract]
    show t.data[i + 0]'_ = UInt8.ofNat (t.data[i]'_).toNat
    rw [UInt8.ofNat_toNat]
    rfl
theorem ext_digs (t : ByteArray) : ∀ i, i ≤ t.size → t.extract 0 i = strOfNums ((digs t i).map fun d : Nat => (d : Int))
  | 0, _ => by
    apply ByteArray.ext
    simp [digs, strOfNums]
  | i + 1, h => by
    rw [digs_succ, List.map_append, strOf_append, ← ext_digs t i (by omega)]
    show _ = t.extract 0 i ++ strOfNums [(((bt t (i : Int)).toNat : Nat) : Int)]
    rw [← one_ext t i (by omega), ByteArray.extract_append_extract]
    congr 1 <;> omega
/-! ### The document's number, from a place on -/
theorem val_split : ∀ (ds : List Nat) (c : Nat), val ds c = val ds 0 + c * 128 ^ ds.length
  | [], c => by simp [val]
  | d :: ds, c => by
    unfold val
    rw [val_split ds c, List.length_cons, Nat.pow_succ, Nat.mul_add, Nat.add_assoc]
    congr 2
    rw [Nat.mul_comm (128 ^ ds.length) 128, ← Nat.mul_assoc, ← Nat.mul_assoc, Nat.mul_comm 128 c]
theorem val_lt : ∀ (ds : List Nat) (c : Nat), c < 128 → val ds c < 128 ^ (ds.length + 1)
  | [], c, h => by simpa [val] using h
  | d :: ds, c, h => by
    have ih := val_lt ds c h
    unfold val
    rw [List.length_cons, Nat.pow_succ]
    omega
theorem val_snoc (ds : List Nat) (d : Nat) : val (ds ++ [d]) 0 = val ds (d % 128) := by
  induction ds with
  | nil => simp [val]
  | cons x ds ih => simp only [List.cons_append, val, ih]
theorem val0_lt : ∀ (ds : List Nat), val ds 0 < 128 ^ ds.length
  | [] => by simp [val]
  | d :: ds => by
    have ih := val0_lt ds
    unfold val
    rw [List.length_cons, Nat.pow_succ]
    omega
theorem digs_len (t : ByteArray) (i : Nat) : (digs t i).length = i := by simp [digs]
theorem nextGo_inv (t : ByteArray) (most : Int) : ∀ d j, j + d = 6 → (∀ l, l < j → l < t.size ∧ 128 ≤ (bt t (l : Int)).toNat) → ∀ m t2, nextGo t most (7 - j) j (val (digs t j) 0) = some (m, t2) → t = strOfNums (vnum m.toNat) ++ t2 := by
  intro d
  induction d with
  | zero =>
    intro j hj _ m t2 h
    rw [nextGo_end t _ j _ (by omega)] at h
    cases h
  | succ d ih =>
    intro j hj hm m t2 h
    by_cases hlt : j < t.size
    case neg =>
      rw [nextGo_end t _ j _ (by omega)] at h
      cases h
    obtain ⟨c, hc⟩ : ∃ c : Nat, c = (bt t (j : Int)).toNat := ⟨_, rfl⟩
    have hr := bt_range t (j : Int)
    have hs := val_split (digs t j) (c % 128)
    rw [digs_len] at hs
    rw [nextGo_at t most j _ (by omega) hlt, ← hc] at h
    by_cases h128 : c < 128
    · have hcm : c % 128 = c := Nat.mod_eq_of_lt h128
      rw [hcm] at hs h
      rw [if_pos h128, ← hs] at h
      by_cases hbad : c = 0 ∧ 0 < j ∨ most < ((val (digs t j) c : Nat) : Int)
      · rw [if_pos hbad] at h
        cases h
      · rw [if_neg hbad] at h
        have e := Option.some.inj h
        injection e with e1 e2
        subst e1
        subst e2
        rw [Int.toNat_natCast]
        have hcan : c ≠ 0 ∨ digs t j = [] := by
          by_cases h0 : c = 0
          · have hj0 : j = 0 := Nat.eq_zero_of_not_pos (fun h1 => hbad (.inl ⟨h0, h1⟩))
            exact .inr (by rw [hj0]; rfl)
          · exact .inl h0
        have hvn := vnum_val (digs t j) c (fun x hx => by
          obtain ⟨l, hl, rfl⟩ := List.mem_map.1 hx
          have h1 := hm l (List.mem_range.1 hl)
          have h2 := bt_range t (l : Int)
          omega) h128 hcan
        have e2 : strOfNums (vnum (val (digs t j) c)) = t.extract 0 (j + 1) := by
          rw [ext_digs t (j + 1) hlt, hvn, digs_succ, List.map_append, ← hc]
          rfl
        rw [e2, ByteArray.extract_append_extract, Nat.min_eq_left (by omega), Nat.max_eq_right (by omega), ByteArray.extract_zero_size]
    · rw [if_neg h128, ← hs] at h
      have hn2 : val (digs t (j + 1)) 0 = val (digs t j) (c % 128) := by rw [digs_succ, val_snoc, ← hc]
      rw [← hn2] at h
      exact ih (j + 1) (by omega) (fun l hl => by
        by_cases e : l = j
        · subst e
          exact ⟨hlt, by omega⟩
        · exact hm l (by omega)) m t2 h
theorem next_inv {t : ByteArray} {most m : Int} {t2 : ByteArray} (h : nextP t most = some (m, t2)) : t = strOfNums (vnum m.toNat) ++ t2 :=
  nextGo_inv t most 6 0 rfl (fun l hl => absurd hl (by omega)) m t2 h
end Go.Proofs.Ytfcoaneffdddkaa.XDig
