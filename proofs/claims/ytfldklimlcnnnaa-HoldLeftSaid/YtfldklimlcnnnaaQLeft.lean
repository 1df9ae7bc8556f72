/- Plain: what is left, with what is held, is all; who comes and goes leaves all as it was. -/
import Derived.Test.YtfldklimlcnnnaaXLeft
import Derived.Test.YtfldklimlcnnnaaPHqx37
namespace Go.Proofs.Ytfldklimlcnnnaa.QLeft
open Go.RowKit Go.Shelf Go.Proofs.Ytfldklimlcnnnaa.PHq Go.Proofs.YtfldklimlcnnnaaW.PrintWords Go.Proofs.YtfldklimlcnnnaaW.PrintLast Go.Proofs.YtfldklimlcnnnaaW.PrintMore Go.Proofs.Ytfldklimlcnnnaa.MWords
open Go.Proofs.Ytfldklimlcnnnaa.MNat Go.Proofs.Ytfldklimlcnnnaa.QNat Go.Proofs.Ytfldklimlcnnnaa.QText Go.Proofs.Ytfldklimlcnnnaa.QEv Go.Proofs.Ytfldklimlcnnnaa.QRatio Go.Proofs.Ytfldklimlcnnnaa.XRV Go.Proofs.Ytfldklimlcnnnaa.XHold Go.Proofs.Ytfldklimlcnnnaa.XWts Go.Proofs.Ytfldklimlcnnnaa.XLed Go.Proofs.Ytfldklimlcnnnaa.XPuts Go.Proofs.Ytfldklimlcnnnaa.XFits Go.Proofs.Ytfldklimlcnnnaa.XJoin Go.Proofs.Ytfldklimlcnnnaa.XMeth Go.Proofs.Ytfldklimlcnnnaa.XAsk Go.Proofs.Ytfldklimlcnnnaa.XEnd Go.Proofs.Ytfldklimlcnnnaa.XAwake Go.Proofs.Ytfldklimlcnnnaa.QHold
set_option linter.unusedVariables false
set_option linter.unusedSimpArgs false
-- regattaref03_Cmp.f regattaref03_Plus.f regattaref03_Of.f

/-- All, c by d, less what is held. -/
theorem left_sz {j c d : Nat} {q : Rat} (hq : Sz j q) (h0 : 0 < d) (hc : c < 4294967296) (hd : d < 4294967296) (hle : q ≤ mkRat (c : Int) d) : Sz (j + 1) (mkRat (c : Int) d - q) := by
  have e := self_mk q hq.1
  have hx : q.num.natAbs * d ≤ c * q.den := by
    rw [← e, rat_le_iff, mk_lt c d _ _ h0 (Rat.den_pos _)] at hle
    omega
  rw [← e, mk_sub c d _ _ h0 (Rat.den_pos _) hx]
  have h1 := (F.one hc).mul hq.2.2
  have h2 := (F.one hd).mul hq.2.2
  rw [Nat.add_comm 1 j] at h1 h2
  exact mk_sz _ _ _ (h1.le (Nat.sub_le _ _)) h2 (Nat.mul_pos h0 (Rat.den_pos _))
/-- The sum of two ratios in their least numbers, and its comparison with c by d. -/
theorem plus_cmp {i j : Nat} {p q : Rat} (hp : Sz i p) (hq : Sz j q) (hij : i + j ≤ 1900) (c d : Nat) (hc : c < 18446744073709551616) (hd : d < 18446744073709551616) (h0 : 0 < d) :
    (∃ k, regattaref03_Plus.f k (L p).1 (L p).2 (L q).1 (L q).2 = some (limbs (p.num.natAbs * q.den + q.num.natAbs * p.den), limbs (p.den * q.den)))
      ∧ ∃ k, regattaref03_Cmp.f k (limbs (p.num.natAbs * q.den + q.num.natAbs * p.den)) (limbs (p.den * q.den)) (limbs c) (limbs d) = some (cmpR (p + q) (mkRat (c : Int) d)) := by
  refine ⟨(r3plus_t i j _ _ _ _ hp.2.1 hp.2.2 hq.2.1 hq.2.2 (by omega)).get, ?_⟩
  have h := r3cmp_t (i + j + 1) 2 (p.num.natAbs * q.den + q.num.natAbs * p.den) (p.den * q.den) c d (F_cross hp.2.1 hp.2.2 hq.2.1 hq.2.2) ((hp.2.2.mul hq.2.2).mono (by omega)) (F_u64 hc) (F_u64 hd) (by omega) (Nat.mul_pos p.den_pos q.den_pos) h0
  rw [← mk_add _ _ _ _ p.den_pos q.den_pos, self_mk p hp.1, self_mk q hq.1] at h
  exact h.get
/-- A weight against a ratio in its least numbers. -/
theorem of_cmp {x : S34} (hx : okW x) {j : Nat} {q : Rat} (hq : Sz j q) (hj : j ≤ 1900) :
    ∃ k, regattaref03_Cmp.f k (limbs x.f0.toNat) (limbs x.f1.toNat) (L q).1 (L q).2 = some (cmpR (wt x) q) := by
  have h := r3cmp_t 1 j x.f0.toNat x.f1.toNat _ _ (okW_F hx).1 (okW_F hx).2 hq.2.1 hq.2.2 (by omega) (okW_pos hx) q.den_pos
  rw [self_mk q hq.1] at h
  exact h.get
theorem cmp_le {p q : Rat} : decide (cmpR p q ≤ 0) = decide (p ≤ q) := by
  unfold cmpR
  by_cases h1 : p < q
  · rw [if_pos h1]
    exact (decide_eq_true (by omega)).trans (decide_eq_true (by grind)).symm
  · rw [if_neg h1]
    by_cases h2 : p = q
    · rw [if_pos h2]
      exact (decide_eq_true (by omega)).trans (decide_eq_true (by grind)).symm
    · rw [if_neg h2]
      exact (decide_eq_false (by omega)).trans (decide_eq_false (by grind)).symm
/-- There is room just if it fits. -/
theorem room_fits {all q : Rat} {x : S34} (hq : 0 ≤ q) (hm : mayW x = true) : decide (cmpR (wt x) (all - q) ≤ 0) = fitsW all q x ⟨0, 0⟩ := by
  rw [cmp_le, fits_new hq hm]
  exact decide_eq_decide.2 (by constructor <;> intro h <;> grind)
theorem has_set (l : List (Int × Hd)) (z : Int) (k : Hd) (h : hasL l z = false) : hasL (setL l z k) z = true := by
  rw [set_new h]
  unfold hasL
  simp
theorem del_set (l : List (Int × Hd)) (z : Int) (k : Hd) (h : hasL l z = false) : delL (setL l z k) z = l := by
  rw [set_new h]
  unfold delL
  rw [List.filter_append]
  have h2 : ∀ y ∈ l, y.1 ≠ z := fun y hy e => by
    unfold hasL at h
    rw [List.any_eq_false] at h
    exact h y hy (by simp [e])
  rw [filter_far h2]
  simp
/-- Who joined is freed: all is as it was. -/
theorem free_set (l : List (Int × Hd)) (z : Int) (k : Hd) (h : hasL l z = false) : freeE (setL l z k) z = 0 ∧ freeL (setL l z k) z = l := by
  unfold freeE freeL
  rw [if_pos (has_set l z k h), if_pos (has_set l z k h)]
  exact ⟨rfl, del_set l z k h⟩
theorem mayP {e p : Nat} (h0 : 1 ≤ e) (h1 : e ≤ p) (h2 : p ≤ 64) : mayW ⟨(e : Int), (p : Int)⟩ = true := by
  unfold mayW
  simp
  omega
end Go.Proofs.Ytfldklimlcnnnaa.QLeft
