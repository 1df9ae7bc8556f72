/- Plain: what a ledger holds, when one joins, asks, settles, is freed. -/
import Derived.Test.YtfldklimlcnnnaaXAwake
import Derived.Test.YtfldklimlcnnnaaXNew
import Derived.Test.YtfldklimlcnnnaaPHqx37
namespace Go.Proofs.Ytfldklimlcnnnaa.QHold
open Go.RowKit Go.Shelf Go.Proofs.Ytfldklimlcnnnaa.PHq Go.Proofs.YtfldklimlcnnnaaW.PrintWords Go.Proofs.YtfldklimlcnnnaaW.PrintLast Go.Proofs.YtfldklimlcnnnaaW.PrintMore Go.Proofs.Ytfldklimlcnnnaa.MWords
open Go.Proofs.Ytfldklimlcnnnaa.MNat Go.Proofs.Ytfldklimlcnnnaa.QNat Go.Proofs.Ytfldklimlcnnnaa.QText Go.Proofs.Ytfldklimlcnnnaa.QEv Go.Proofs.Ytfldklimlcnnnaa.QRatio Go.Proofs.Ytfldklimlcnnnaa.XRV Go.Proofs.Ytfldklimlcnnnaa.XHold Go.Proofs.Ytfldklimlcnnnaa.XWts Go.Proofs.Ytfldklimlcnnnaa.XLed Go.Proofs.Ytfldklimlcnnnaa.XPuts Go.Proofs.Ytfldklimlcnnnaa.XFits Go.Proofs.Ytfldklimlcnnnaa.XJoin Go.Proofs.Ytfldklimlcnnnaa.XMeth Go.Proofs.Ytfldklimlcnnnaa.XAsk Go.Proofs.Ytfldklimlcnnnaa.XEnd Go.Proofs.Ytfldklimlcnnnaa.XAwake
set_option linter.unusedVariables false
set_option linter.unusedSimpArgs false

theorem rat_le_iff {a b : Rat} : a ≤ b ↔ ¬ b < a := Rat.not_lt.symm
theorem held_app (a b : List (Int × Hd)) : heldL (a ++ b) = heldL a + heldL b := by
  unfold heldL
  rw [List.map_append, sumR_append]
theorem held_cons (y : Int × Hd) (a : List (Int × Hd)) : heldL (y :: a) = wt (hv y.2) + heldL a := rfl
theorem wt_nonneg (x : S34) : 0 ≤ wt x := mk_nonneg _ _
theorem held_nonneg : ∀ l : List (Int × Hd), 0 ≤ heldL l
  | [] => Rat.le_refl
  | y :: l => Rat.add_nonneg (wt_nonneg _) (held_nonneg l)
theorem set_new {l : List (Int × Hd)} {z : Int} (h : hasL l z = false) (k : Hd) : setL l z k = l ++ [(z, k)] := by
  unfold setL
  rw [if_neg (by simp [h])]
theorem held_new {l : List (Int × Hd)} {z : Int} (h : hasL l z = false) (k : Hd) : heldL (setL l z k) = heldL l + wt (hv k) := by
  rw [set_new h, held_app, held_cons]
  show heldL l + (wt (hv k) + 0) = _
  rw [Rat.add_zero]
def NodK (l : List (Int × Hd)) : Prop := (l.map (·.1)).Nodup
theorem Led.nodk {W : World} {g b : Nat} {all q : Rat} {l : List (Int × Hd)} (h : Led W g b all q l) : NodK l := by
  obtain ⟨D, _, v⟩ := h.map
  exact v.nodup
theorem get_split {l : List (Int × Hd)} (hn : NodK l) {z : Int} {h : Hd} (e : getL l z = some h) : ∃ a b, l = a ++ (z, h) :: b ∧ (∀ y ∈ a, y.1 ≠ z) ∧ ∀ y ∈ b, y.1 ≠ z := by
  obtain ⟨a, b, rfl⟩ := List.append_of_mem (getL_mem e)
  refine ⟨a, b, rfl, fun y hy hz => ?_, fun y hy hz => ?_⟩
  · unfold NodK at hn
    rw [List.map_append, List.nodup_append] at hn
    exact hn.2.2 y.1 (List.mem_map.2 ⟨y, hy, rfl⟩) z (by simp) hz
  · unfold NodK at hn
    rw [List.map_append, List.nodup_append] at hn
    have := hn.2.1
    rw [List.map_cons, List.nodup_cons] at this
    exact this.1 (List.mem_map.2 ⟨y, hy, hz⟩)
theorem map_far {a : List (Int × Hd)} {z : Int} (h : ∀ y ∈ a, y.1 ≠ z) (k : Hd) : a.map (fun y => if y.1 = z then (z, k) else y) = a := by
  induction a with
  | nil => rfl
  | cons y a ih =>
    rw [List.map_cons, if_neg (h y (by simp)), ih (fun x hx => h x (by simp [hx]))]
theorem filter_far {a : List (Int × Hd)} {z : Int} (h : ∀ y ∈ a, y.1 ≠ z) : a.filter (fun y => decide (y.1 ≠ z)) = a := by
  rw [List.filter_eq_self]
  intro y hy
  simpa using h y hy
theorem set_split {l : List (Int × Hd)} (hn : NodK l) {z : Int} {h : Hd} (e : getL l z = some h) (k : Hd) : ∃ a b, l = a ++ (z, h) :: b ∧ setL l z k = a ++ (z, k) :: b ∧ delL l z = a ++ b := by
  obtain ⟨a, b, rfl, ha, hb⟩ := get_split hn e
  refine ⟨a, b, rfl, ?_, ?_⟩
  · unfold setL
    rw [if_pos (by rw [getL_has, e]; rfl), List.map_append, List.map_cons, map_far ha, map_far hb]
    simp
  · unfold delL
    rw [List.filter_append, List.filter_cons, filter_far ha, filter_far hb]
    simp
theorem held_old {l : List (Int × Hd)} (hn : NodK l) {z : Int} {h : Hd} (e : getL l z = some h) (k : Hd) : heldL (setL l z k) + wt (hv h) = heldL l + wt (hv k) := by
  obtain ⟨a, b, h1, h2, _⟩ := set_split hn e k
  rw [h2, h1, held_app, held_app, held_cons, held_cons]
  show heldL a + (wt (hv k) + heldL b) + wt (hv h) = heldL a + (wt (hv h) + heldL b) + wt (hv k)
  generalize heldL a = A
  generalize heldL b = B
  generalize wt (hv h) = X
  generalize wt (hv k) = Y
  grind
theorem held_gone {l : List (Int × Hd)} (hn : NodK l) {z : Int} {h : Hd} (e : getL l z = some h) : heldL (delL l z) + wt (hv h) = heldL l := by
  obtain ⟨a, b, h1, _, h2⟩ := set_split hn e h
  rw [h2, h1, held_app, held_app, held_cons]
  show heldL a + heldL b + wt (hv h) = heldL a + (wt (hv h) + heldL b)
  rw [Rat.add_assoc, Rat.add_comm (heldL b)]
theorem held_szN {l : List (Int × Hd)} (hG : GoodL l) : Sz (1 + 2 * l.length) (heldL l) := by
  have h := (sum_t (l.map fun z => hv z.2) (by rw [List.length_map]; have := hG.len; omega) (fun z hz => by
    obtain ⟨y, hy, rfl⟩ := List.mem_map.1 hz
    exact hv_ok (hG.ok y hy))).2
  rwa [List.length_map] at h
/-- A weight fits, with nothing less, if so much more is not above all. -/
theorem fits_new {all q : Rat} {x : S34} (hq : 0 ≤ q) (hm : mayW x = true) : fitsW all q x ⟨0, 0⟩ = decide (q + wt x ≤ all) := by
  unfold fitsW fitsQ
  rw [hm, if_neg (by decide), Bool.true_and, show q + wt x - 0 = q + wt x by grind, decide_eq_true (Rat.add_nonneg hq (wt_nonneg x)), Bool.true_and]
theorem join_new {all q : Rat} {l : List (Int × Hd)} {z : Int} {x : S34} (hq : 0 ≤ q) (hm : mayW x = true) (hz : hasL l z = false) :
    joinE all q l z x = if q + wt x ≤ all then 0 else 18 := by
  unfold joinE
  rw [if_neg (by simp [hm]), if_neg (by simp [hz]), fits_new hq hm]
  by_cases h : q + wt x ≤ all
  · rw [decide_eq_true h, if_neg (by decide), if_pos h]
  · rw [decide_eq_false h, if_pos rfl, if_neg h]
theorem mk_addD (s e d : Nat) (h0 : 0 < d) : mkRat (s : Int) d + mkRat (e : Int) d = mkRat ((s + e : Nat) : Int) d := by
  rw [mk_add s d e d h0 h0, mk_eq _ _ _ _ (Nat.mul_pos h0 h0) h0, ← Nat.add_mul, Nat.mul_assoc]
theorem le_whole (s d c : Nat) (h0 : 0 < d) : mkRat (s : Int) d ≤ mkRat (c : Int) 1 ↔ s ≤ c * d := by
  rw [rat_le_iff, mk_lt c 1 s d (by omega) h0]
  omega
theorem zero_mk (d : Nat) : (0 : Rat) = mkRat ((0 : Nat) : Int) d := by
  show (0 : Rat) = mkRat 0 d
  rw [Rat.zero_mkRat]
/-- Behind a method's call a block of cells, that is no ledger, stands. -/
theorem Led.keep {X Y : World} {g b m : Nat} {all q : Rat} {l : List (Int × Hd)} {t : TypeId} {cs : Array Value} (h : Led X g b all q l) (hk : Kp g b X Y) (hm : MBlk X m t cs) (ht : t ≠ 97) : MBlk Y m t cs := by
  obtain ⟨_, _, _, _, h1, _⟩ := h.cells
  obtain ⟨es, c, h2⟩ := h.map.obj
  exact (hk.same m (mblk_lt hm) (mblk_ne hm h1 ht) (fun e => by subst e; rw [show X.heap[m]? = _ from hm] at h2; cases h2)).trans hm
theorem one_any (q m : Int) (h0 : 1 ≤ m) (h1 : m ≤ 1000000) : ∃ n : Nat, wrap64 (1 + (wrap64 (q.tmod m + m)).tmod m) = (n : Int) ∧ 1 ≤ n ∧ (n : Int) ≤ m := by
  have a1 := Int.tmod_lt_of_pos q (show (0 : Int) < m by omega)
  have a2 : -m < q.tmod m := by
    rcases Int.le_total 0 q with h | h
    · have := Int.tmod_nonneg m h
      omega
    · have e : q.tmod m = -((-q).tmod m) := by rw [Int.neg_tmod, Int.neg_neg]
      have := Int.tmod_lt_of_pos (-q) (show (0 : Int) < m by omega)
      omega
  have e : wrap64 (q.tmod m + m) = q.tmod m + m := QBits.w64 (by omega) (by omega)
  rw [e, Int.tmod_eq_emod_of_nonneg (by omega)]
  have b1 := Int.emod_nonneg (q.tmod m + m) (show m ≠ 0 by omega)
  have b2 := Int.emod_lt_of_pos (q.tmod m + m) (show (0 : Int) < m by omega)
  obtain ⟨n, hn⟩ := Int.eq_ofNat_of_zero_le b1
  rw [hn] at b2 ⊢
  exact ⟨1 + n, by rw [QBits.w64 (by omega) (by omega)]; omega, by omega, by omega⟩
/-- A held ratio and a ratio of two numbers, compared. -/
theorem cmp_held {l : List (Int × Hd)} (hG : GoodL l) (hl : l.length ≤ 500) (n d : Nat) (hn : n < 18446744073709551616) (hd : d < 18446744073709551616) (h0 : 0 < d) :
    ∃ k, regattaref03_Cmp.f k (L (heldL l)).1 (L (heldL l)).2 (limbs n) (limbs d) = some (cmpR (heldL l) (mkRat (n : Int) d)) := by
  have hs := held_szN hG
  have h := r3cmp_t (1 + 2 * l.length) 2 (heldL l).num.natAbs (heldL l).den n d hs.2.1 hs.2.2 (F_u64 hn) (F_u64 hd) (by omega) (Rat.den_pos _) h0
  rw [self_mk _ hs.1] at h
  exact h.get
/-! What a step leaves. -/
theorem joinE_zero {all q : Rat} {l : List (Int × Hd)} {z : Int} {x : S34} (h : joinE all q l z x = 0) : mayW x = true ∧ hasL l z = false ∧ fitsW all q x ⟨0, 0⟩ = true := by
  unfold joinE at h
  by_cases h1 : mayW x = false
  · rw [if_pos h1] at h; cases h
  rw [if_neg h1] at h
  by_cases h2 : hasL l z = true
  · rw [if_pos h2] at h; cases h
  rw [if_neg h2] at h
  by_cases h3 : fitsW all q x ⟨0, 0⟩ = false
  · rw [if_pos h3] at h; cases h
  exact ⟨by simpa using h1, by simpa using h2, by simpa using h3⟩
theorem askE_zero {all q : Rat} {l : List (Int × Hd)} {z : Int} {x : S34} (h : askE all q l z x = 0) : mayW x = true ∧ ∃ k, getL l z = some k ∧ k.a = false ∧ fitsQ all q (wt (hv (asks k x))) (wt (wN k)) = true := by
  unfold askE at h
  by_cases h1 : mayW x = false
  · rw [if_pos h1] at h; cases h
  rw [if_neg h1] at h
  cases hg : getL l z with
  | none => rw [hg] at h; cases h
  | some k =>
    rw [hg] at h
    simp only at h
    by_cases h2 : k.a = true
    · rw [if_pos h2] at h; cases h
    rw [if_neg h2] at h
    by_cases h3 : fitsQ all q (wt (hv (asks k x))) (wt (wN k)) = false
    · rw [if_pos h3] at h; cases h
    exact ⟨by simpa using h1, k, rfl, by simpa using h2, by simpa using h3⟩
theorem settleE_zero {l : List (Int × Hd)} {z : Int} (h : settleE l z = 0) : ∃ k, getL l z = some k ∧ k.a = true := by
  unfold settleE at h
  cases hg : getL l z with
  | none => rw [hg] at h; cases h
  | some k =>
    rw [hg] at h
    simp only at h
    by_cases h2 : k.a = true
    · exact ⟨k, rfl, h2⟩
    · rw [if_neg h2] at h; cases h
theorem hv_plain {h : Hd} (ha : h.a = false) : hv h = wN h := by
  unfold hv
  rw [if_neg (by simp [ha])]
theorem hv_next {h : Hd} (ha : h.a = true) : wt (wX h) ≤ wt (hv h) := by
  unfold hv
  by_cases hl : wt (wN h) < wt (wX h)
  · rw [if_pos ⟨ha, hl⟩]
    exact Rat.le_refl
  · rw [if_neg (fun c => hl c.2)]
    exact Rat.not_lt.1 hl
theorem le_of_add {a b c d : Rat} (h : a + b = c + d) (hd : d ≤ b) : a ≤ c := by grind
/-- What stands at each step: the holders may be, so much is held. -/
structure Ok (all : Rat) (l : List (Int × Hd)) (n : Nat) : Prop where
  good : GoodL l
  len : l.length ≤ n
  le : heldL l ≤ all
theorem Ok.mono {all : Rat} {l : List (Int × Hd)} {m n : Nat} (h : Ok all l m) (hmn : m ≤ n) : Ok all l n := ⟨h.good, Nat.le_trans h.len hmn, h.le⟩
theorem ok_join {all : Rat} {l : List (Int × Hd)} {n : Nat} (h : Ok all l n) (hn : n < 500) (z : Int) (x : S34) : Ok all (joinL all (heldL l) l z x) (n + 1) := by
  unfold joinL
  by_cases he : joinE all (heldL l) l z x = 0
  · rw [if_pos he]
    obtain ⟨h1, h2, h3⟩ := joinE_zero he
    refine ⟨set_good h.good (by have := h.len; omega) ⟨may_ok h1, fun k => by cases k⟩, ?_, ?_⟩
    · rw [set_len]
      have := h.len
      split <;> omega
    · rw [held_new h2]
      rw [fits_new (held_nonneg l) h1] at h3
      exact of_decide_eq_true h3
  · rw [if_neg he]
    exact h.mono (by omega)
theorem ok_ask {all : Rat} {l : List (Int × Hd)} {n : Nat} (h : Ok all l n) (hn : n < 500) (hd : NodK l) (z : Int) (x : S34) : Ok all (askL all (heldL l) l z x) (n + 1) := by
  unfold askL
  by_cases he : askE all (heldL l) l z x = 0
  · rw [if_pos he]
    obtain ⟨h1, k, hk, ha, h3⟩ := askE_zero he
    rw [hk]
    show Ok all (setL l z (asks k x)) (n + 1)
    refine ⟨set_good h.good (by have := h.len; omega) ⟨(h.good.ok _ (getL_mem hk)).1, fun _ => may_ok h1⟩, ?_, ?_⟩
    · rw [set_len]
      have := h.len
      split <;> omega
    · have e := held_old hd hk (asks k x)
      rw [hv_plain ha] at e
      unfold fitsQ at h3
      rw [Bool.and_eq_true] at h3
      have h4 := of_decide_eq_true h3.2
      grind
  · rw [if_neg he]
    exact h.mono (by omega)
theorem ok_settle {all : Rat} {l : List (Int × Hd)} {n : Nat} (h : Ok all l n) (hn : n < 500) (hd : NodK l) (z : Int) : Ok all (settleL l z) (n + 1) := by
  unfold settleL
  by_cases he : settleE l z = 0
  · rw [if_pos he]
    obtain ⟨k, hk, ha⟩ := settleE_zero he
    rw [hk]
    show Ok all (setL l z (settled k)) (n + 1)
    refine ⟨set_good h.good (by have := h.len; omega) ⟨(h.good.ok _ (getL_mem hk)).2 ha, fun k => by cases k⟩, ?_, ?_⟩
    · rw [set_len]
      have := h.len
      split <;> omega
    · have e := held_old hd hk (settled k)
      exact Rat.le_trans (le_of_add e (hv_next ha)) h.le
  · rw [if_neg he]
    exact h.mono (by omega)
theorem ok_free {all : Rat} {l : List (Int × Hd)} {n : Nat} (h : Ok all l n) (hd : NodK l) (z : Int) : Ok all (freeL l z) (n + 1) := by
  unfold freeL
  by_cases he : hasL l z = true
  · rw [if_pos he]
    rw [getL_has] at he
    obtain ⟨k, hk⟩ := Option.isSome_iff_exists.1 he
    refine ⟨del_good h.good, Nat.le_trans (List.length_filter_le _ _) (by have := h.len; omega), ?_⟩
    have e := held_gone hd hk
    have := wt_nonneg (hv k)
    have := h.le
    grind
  · rw [if_neg he]
    exact h.mono (by omega)
theorem joinL_same {all q : Rat} {l : List (Int × Hd)} {z : Int} {x : S34} (h : joinE all q l z x ≠ 0) : joinL all q l z x = l := by unfold joinL; rw [if_neg h]
theorem askL_same {all q : Rat} {l : List (Int × Hd)} {z : Int} {x : S34} (h : askE all q l z x ≠ 0) : askL all q l z x = l := by unfold askL; rw [if_neg h]
theorem settleL_same {l : List (Int × Hd)} {z : Int} (h : settleE l z ≠ 0) : settleL l z = l := by unfold settleL; rw [if_neg h]
theorem freeL_same {l : List (Int × Hd)} {z : Int} (h : freeE l z ≠ 0) : freeL l z = l := by
  unfold freeE at h
  unfold freeL
  by_cases he : hasL l z = true
  · rw [if_pos he] at h; exact absurd rfl h
  · rw [if_neg he]
theorem le_cmp {p q : Rat} (h : p ≤ q) : ¬ cmpR p q > 0 := by
  unfold cmpR
  by_cases h1 : p < q
  · rw [if_pos h1]; decide
  · rw [if_neg h1, if_pos (by grind)]; decide
end Go.Proofs.Ytfldklimlcnnnaa.QHold
