/- Plain Lean: the document's ratios, as they come, not the least: numbers of which they are quotients. -/
import Derived.Test.YtcfliceeablckaaQSum
import Derived.Test.YtcfliceeablckaaQRefB
import Derived.Test.YtcfliceeablckaaPNrx8
import Derived.Test.YtcfliceeablckaaPNrx10
import Derived.Test.YtcfliceeablckaaPNrx16
import Derived.Test.YtcfliceeablckaaPNrx25
namespace Go.Proofs.Ytcfliceeablckaa.QRatio
open Go.RowKit Go.Proofs.YtcfliceeablckaaW.PrintWords Go.Proofs.YtcfliceeablckaaW.PrintLast Go.Proofs.YtcfliceeablckaaW.PrintMore
open Go.Proofs.Ytcfliceeablckaa.MNat Go.Proofs.Ytcfliceeablckaa.QNat Go.Proofs.Ytcfliceeablckaa.QText Go.Proofs.Ytcfliceeablckaa.QRef Go.Proofs.Ytcfliceeablckaa.QEv Go.Proofs.Ytcfliceeablckaa.PNr
set_option linter.unusedVariables false
set_option linter.unusedSimpArgs false

theorem r2of_t (n : Nat) (h : n < 18446744073709551616) : Tell (fun k => regattaref02_Of.f k (n : Int)) (limbs n) := ⟨5, fun k hk => rof_f k n h hk⟩
theorem r2mul_t (i j a b : Nat) (ha : F i a) (hb : F j b) (hij : i + j ≤ 2000) : Tell (fun k => regattaref02_Mul.f k (limbs a) (limbs b)) (limbs (a * b)) :=
  ⟨5 * (10 * i + 10 * j) + 401, fun k hk => rmul_f k (10 * i) (10 * j) a b (F_ten ha) (F_ten hb) (by omega) (by omega)⟩
theorem r2cmp_t (j a b : Nat) (ha : F j a) (hb : F j b) (hj : j ≤ 2000) : Tell (fun k => regattaref02_Cmp.f k (limbs a) (limbs b)) (cmpI a b) :=
  ⟨5 * (10 * j) + 401, fun k hk => rcmp_f k (10 * j) a b (F_ten ha) (F_ten hb) (by omega) (by omega)⟩
theorem r2add_t (j a b : Nat) (ha : F j a) (hb : F j b) (hj : j ≤ 2000) : Tell (fun k => regattaref02_Add.f k (limbs a) (limbs b)) (limbs (a + b)) :=
  ⟨5 * (10 * j) + 401, fun k hk => radd_f k (10 * j) a b (F_ten ha) (F_ten hb) (by omega) (by omega)⟩
theorem r3of_t (x : S57) (h : okW x) : Tell (fun k => regattaref03_Of.f k x.f0 x.f1) (limbs x.f0.toNat, limbs x.f1.toNat) := by
  obtain ⟨h0, h1, h2, h3⟩ := h
  unfold regattaref03_Of.f
  have e0 : IntKind.u64.wrap x.f0 = (x.f0.toNat : Int) := by rw [IntKind.wrap_u64]; omega
  have e1 : IntKind.u64.wrap x.f1 = (x.f1.toNat : Int) := by rw [IntKind.wrap_u64]; omega
  rw [e0, e1]
  exact Tell.bind (r2of_t _ (by omega)) (Tell.bind (r2of_t _ (by omega)) (Tell.const _))
theorem r3cmp_t (i j n d m e : Nat) (hn : F i n) (hd : F i d) (hm : F j m) (he : F j e) (hij : i + j ≤ 2000) (h0 : 0 < d) (h1 : 0 < e) :
    Tell (fun k => regattaref03_Cmp.f k (limbs n) (limbs d) (limbs m) (limbs e)) (cmpR (mkRat (n : Int) d) (mkRat (m : Int) e)) := by
  unfold regattaref03_Cmp.f
  have h2 := hm.mul hd
  rw [Nat.add_comm j i] at h2
  rw [← cmp_cross n d m e h0 h1]
  exact Tell.bind (r2mul_t i j n e hn he hij) (Tell.bind (r2mul_t j i m d hm hd (by omega)) (Tell.bind (r2cmp_t (i + j) _ _ (hn.mul he) h2 hij) (Tell.const _)))
theorem r3plus_t (i j n d m e : Nat) (hn : F i n) (hd : F i d) (hm : F j m) (he : F j e) (hij : i + j ≤ 2000) :
    Tell (fun k => regattaref03_Plus.f k (limbs n) (limbs d) (limbs m) (limbs e)) (limbs (n * e + m * d), limbs (d * e)) := by
  unfold regattaref03_Plus.f
  have h2 := hm.mul hd
  rw [Nat.add_comm j i] at h2
  exact Tell.bind (r2mul_t i j n e hn he hij) (Tell.bind (r2mul_t j i m d hm hd (by omega)) (Tell.bind (r2add_t (i + j) _ _ (hn.mul he) h2 hij) (Tell.bind (r2mul_t i j d e hd he hij) (Tell.const _))))
theorem cmpR_zero {p q : Rat} : cmpR p q = 0 ↔ p = q := by
  unfold cmpR
  by_cases h : p < q
  · simp [h]
    intro e; subst e; exact Rat.lt_irrefl h
  · by_cases h2 : p = q <;> simp [h, h2]
theorem cmpR_neg {p q : Rat} : cmpR p q < 0 ↔ p < q := by
  unfold cmpR
  by_cases h : p < q
  · simp [h]
  · by_cases h2 : p = q <;> simp [h, h2]
theorem cmpR_self (p : Rat) : cmpR p p = 0 := cmpR_zero.2 rfl
end Go.Proofs.Ytcfliceeablckaa.QRatio
