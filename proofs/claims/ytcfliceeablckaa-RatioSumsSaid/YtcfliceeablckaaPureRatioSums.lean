/- RatioSums: sums, and what is left, are as much as the document says; they may be. -/
import Derived.Test.YtcfliceeablckaaQRef3
import Derived.Test.YtcfliceeablckaaPNrx14
import Derived.Test.YtcfliceeablckaaPNrx25
import Derived.Test.YtcfliceeablckaaPNrx27
namespace Go.Proofs.Ytcfliceeablckaa.Pure
open Go.RowKit Go.Proofs.YtcfliceeablckaaW.PrintWords Go.Proofs.YtcfliceeablckaaW.PrintLast Go.Proofs.YtcfliceeablckaaW.PrintMore
open Go.Proofs.Ytcfliceeablckaa.MNat Go.Proofs.Ytcfliceeablckaa.QNat Go.Proofs.Ytcfliceeablckaa.QText Go.Proofs.Ytcfliceeablckaa.QEv Go.Proofs.Ytcfliceeablckaa.QRatio Go.Proofs.Ytcfliceeablckaa.PNr
set_option linter.unusedVariables false
set_option linter.unusedSimpArgs false

theorem rsum_l (l : List S57) (hl : l.length ≤ 8) (ho : ∀ x ∈ l, okW x) (d : Nat) : ∀ (i j n e : Nat), i + d = l.length → F j n → F j e → 0 < e → j + 3 * d ≤ 100 →
    ∃ N E, Tell (fun k => regattaref03_Sum.l0 k l (i : Int) (limbs n) (limbs e)) (limbs N, limbs E) ∧ F (j + 3 * d) N ∧ F (j + 3 * d) E ∧ 0 < E ∧ mkRat (N : Int) E = mkRat (n : Int) e + sumR (l.drop i) := by
  induction d with
  | zero =>
    intro i j n e hi hn he h0 _
    rw [List.drop_of_length_le (by omega)]
    exact ⟨n, e, Tell.step (g := fun _ => some (limbs n, limbs e)) (fun k => by rw [regattaref03_Sum.l0, if_neg (by omega)]) (Tell.const _), hn, he, h0, (Rat.add_zero _).symm⟩
  | succ d ih =>
    intro i j n e hi hn he h0 hj
    have hlt : i < l.length := by omega
    have hx := ho l[i] (List.getElem_mem hlt)
    obtain ⟨f0, f1⟩ := okW_F hx
    have hp := okW_pos hx
    have hc := F_cross hn he f0 f1
    have hm := he.mul f1
    obtain ⟨N, E, h1, h2, h3, h4, h5⟩ := ih (i + 1) (j + 3) _ _ (by omega) (hc.mono (by omega)) (hm.mono (by omega)) (Nat.mul_pos h0 hp) (by omega)
    refine ⟨N, E, ?_, by rw [show j + 3 * (d + 1) = j + 3 + 3 * d by omega]; exact h2, by rw [show j + 3 * (d + 1) = j + 3 + 3 * d by omega]; exact h3, h4, ?_⟩
    · refine Tell.step (fun k => by rw [regattaref03_Sum.l0, if_pos (by omega), if_pos (by omega), rdW l i hlt, w64 (by omega) (by omega)]) ?_
      exact Tell.bind (r3of_t _ hx) (Tell.bind (r3plus_t j 1 n e _ _ hn he f0 f1 (by omega)) h1)
    · rw [h5, List.drop_eq_getElem_cons hlt, ← mk_add n e _ _ h0 hp]
      exact Rat.add_assoc _ _ _
theorem rsum_t (l : List S57) (hl : l.length ≤ 8) (ho : ∀ x ∈ l, okW x) : ∃ N E, Tell (fun k => regattaref03_Sum.f k l) (limbs N, limbs E) ∧ F 30 N ∧ F 30 E ∧ 0 < E ∧ mkRat (N : Int) E = sumR l := by
  obtain ⟨N, E, h1, h2, h3, h4, h5⟩ := rsum_l l hl ho l.length 0 1 0 1 (by omega) (F.one (by omega)) (F.one (by omega)) (by omega) (by omega)
  refine ⟨N, E, Tell.of (fun k => by rw [regattaref03_Sum.f, show limbs 0 = [] by unfold limbs; rfl, show limbs 1 = [1] by unfold limbs; unfold limbs; rfl]; rfl) h1, h2.mono (by omega), h3.mono (by omega), h4, ?_⟩
  rw [h5, List.drop_zero]
  exact Rat.zero_add _
theorem sz_sub (i : Nat) (p q : Rat) (hp : Sz i p) (hq : Sz i q) (h : q ≤ p) : Sz (i + i) (p - q) := by
  have e1 := self_mk p hp.1
  have e2 := self_mk q hq.1
  have hd1 := Rat.den_pos p
  have hd2 := Rat.den_pos q
  have hc : q.num.natAbs * p.den ≤ p.num.natAbs * q.den := by
    rcases Nat.lt_or_ge (p.num.natAbs * q.den) (q.num.natAbs * p.den) with h1 | h1
    · exact absurd ((lt_cross p q hp.1 hq.1).2 h1) (fun h2 => (Rat.lt_iff_le_and_not_ge.1 h2).2 h)
    · exact h1
  have h2 := mk_sub p.num.natAbs p.den q.num.natAbs q.den hd1 hd2 hc
  rw [e1, e2] at h2
  rw [h2]
  exact mk_sz (i + i) _ _ ((hp.2.1.mul hq.2.2).le (by omega)) (hp.2.2.mul hq.2.2) (Nat.mul_pos hd1 hd2)
theorem cmp_mk (j : Nat) (p : Rat) (n d : Nat) (hp : Sz j p) (hn : F j n) (hd : F j d) (h0 : 0 < d) (hj : j + j ≤ 2000) : Tell (fun k => regattaref03_Cmp.f k (L p).1 (L p).2 (limbs n) (limbs d)) (cmpR p (mkRat (n : Int) d)) := by
  have h := r3cmp_t j j p.num.natAbs p.den n d hp.2.1 hp.2.2 hn hd hj (Rat.den_pos p) h0
  rw [self_mk p hp.1] at h
  exact h
theorem sz_mono {i j : Nat} {p : Rat} (h : Sz i p) (hij : i ≤ j) : Sz j p := ⟨h.1, h.2.1.mono hij, h.2.2.mono hij⟩
theorem check_L (j : Nat) (p : Rat) (h : Sz j p) (hj : j ≤ 1000000) : ratio_Check.f (L p).1 (L p).2 = some true := check_n j _ _ h.2.1 h.2.2 hj (Rat.den_pos p)
theorem sums_j (a b : List S57) (ha : a.length ≤ 8) (hb : b.length ≤ 8) (oa : ∀ x ∈ a, okW x) (ob : ∀ x ∈ b, okW x) (N E M D : Nat) (hN : F 30 N) (hE : F 30 E) (hM : F 30 M) (hD : F 30 D) (h0 : 0 < E) (h1 : 0 < D) (ex : mkRat (N : Int) E = sumR a) (ey : mkRat (M : Int) D = sumR b) :
    Tell (fun k => regattalaw03_RatioSums.j0 k true false (L (sumR a)).1 (L (sumR a)).2 (L (sumR b)).1 (L (sumR b)).2 (limbs N) (limbs E) (limbs M) (limbs D)) true := by
  obtain ⟨a1, a2⟩ := sum_t a (by omega) oa
  obtain ⟨b1, b2⟩ := sum_t b (by omega) ob
  clear a1 b1
  generalize sumR a = p at *
  generalize sumR b = q at *
  replace a2 : Sz 30 p := sz_mono a2 (by omega)
  replace b2 : Sz 30 q := sz_mono b2 (by omega)
  obtain ⟨s1, s2⟩ := addL 30 30 p q a2 b2 (by omega)
  have d1 := subL 30 30 p q a2 b2 (by omega)
  have hx := r3plus_t 30 30 N E M D hN hE hM hD (by omega)
  have fc := F_cross hN hE hM hD
  have fm := hE.mul hD
  have hpq : mkRat ((N * D + M * E : Nat) : Int) (E * D) = p + q := by rw [← mk_add N E M D h0 h1, ex, ey]
  have hc1 := cmp_mk 61 (p + q) _ _ s2 fc (fm.mono (by omega)) (Nat.mul_pos h0 h1) (by omega)
  rw [hpq, cmpR_self] at hc1
  have hc2 := r3cmp_t 30 30 N E M D hN hE hM hD (by omega) h0 h1
  rw [ex, ey] at hc2
  refine Tell.step (fun k => by rw [regattalaw03_RatioSums.j0, if_neg (by decide)]) ?_
  refine Tell.bind s1 (Tell.bind d1 (Tell.bind hx (Tell.bind hc1 ?_)))
  refine Tell.of (fun k => by rw [if_pos rfl]) (Tell.bind hc2 ?_)
  by_cases hlt : p < q
  · refine Tell.of (g := fun _ => some true) (fun k => ?_) (Tell.const _)
    rw [if_pos (cmpR_neg.2 hlt), if_pos rfl, if_pos hlt]
    rfl
  · have hle : q ≤ p := Rat.not_lt.1 hlt
    have hs := sz_sub 30 p q a2 b2 hle
    have hy := r3plus_t 60 30 (p - q).num.natAbs (p - q).den M D hs.2.1 hs.2.2 hM hD (by omega)
    have gc := F_cross hs.2.1 hs.2.2 hM hD
    have gm := hs.2.2.mul hD
    have hd0 := Rat.den_pos (p - q)
    have hyq : mkRat (((p - q).num.natAbs * D + M * (p - q).den : Nat) : Int) ((p - q).den * D) = p := by
      rw [← mk_add _ _ M D hd0 h1, self_mk _ hs.1, ey, Rat.sub_add_cancel]
    have hc3 := r3cmp_t 91 91 _ _ N E gc (gm.mono (by omega)) (hN.mono (by omega)) (hE.mono (by omega)) (by omega) (Nat.mul_pos hd0 h1) h0
    rw [hyq, ex, cmpR_self] at hc3
    refine Tell.of (fun k => by rw [if_neg (fun h => hlt (cmpR_neg.1 h)), if_pos rfl, if_neg hlt, if_pos rfl]) ?_
    refine Tell.bind hy (Tell.bind hc3 ?_)
    refine Tell.of (g := fun _ => some true) (fun k => ?_) (Tell.const _)
    rw [if_pos rfl, check_L 61 _ s2 (by omega), Option.bind_some]
theorem RatioSums : regattalaw03_RatioSums.Pure := by
  intro x0 x1 h0 h1
  have hall : Tell (fun k => regattalaw03_RatioSums.f k x0 x1) true := by
    obtain ⟨a1, a2⟩ := sum_t (wsOf x0) (by have := ws_len x0; omega) (ws_ok x0)
    obtain ⟨b1, b2⟩ := sum_t (wsOf x1) (by have := ws_len x1; omega) (ws_ok x1)
    obtain ⟨N, E, x1_, hN, hE, h0', ex⟩ := rsum_t (wsOf x0) (ws_len x0) (ws_ok x0)
    obtain ⟨M, D, y1_, hM, hD, h1', ey⟩ := rsum_t (wsOf x1) (ws_len x1) (ws_ok x1)
    have la := ws_len x0
    have lb := ws_len x1
    have hj := sums_j (wsOf x0) (wsOf x1) la lb (ws_ok x0) (ws_ok x1) N E M D hN hE hM hD h0' h1' ex ey
    have ca := check_L _ _ a2 (by omega)
    have cb := check_L _ _ b2 (by omega)
    have k1 := cmp_mk 30 _ N E (sz_mono a2 (by omega)) hN hE h0' (by omega)
    have k2 := cmp_mk 30 _ M D (sz_mono b2 (by omega)) hM hD h1' (by omega)
    rw [ex, cmpR_self] at k1
    rw [ey, cmpR_self] at k2
    have k3 := cmpL _ _ _ _ a2 b2 (by omega)
    have k4 := r3cmp_t 30 30 N E M D hN hE hM hD (by omega) h0' h1'
    rw [ex, ey] at k4
    unfold regattalaw03_RatioSums.f
    refine Tell.bind awake03 (Tell.bind (weights_t x0 h0.1) (Tell.bind a1 (Tell.bind (weights_t x1 h1.1) (Tell.bind b1 (Tell.bind (weights_t x0 h0.1) (Tell.bind x1_ (Tell.bind (weights_t x1 h1.1) (Tell.bind y1_ ?_))))))))
    refine Tell.of (fun k => by rw [ca, Option.bind_some, if_pos rfl, cb, Option.bind_some, if_pos rfl]) ?_
    refine Tell.bind k1 (Tell.of (fun k => by rw [if_pos rfl]) (Tell.bind k2 (Tell.of (fun k => by rw [if_pos rfl]) (Tell.bind k3 (Tell.bind k4 ?_)))))
    refine Tell.of (fun k => ?_) hj
    simp
  exact hall.get
end Go.Proofs.Ytcfliceeablckaa.Pure
