/- RatioChecks: which ratios may be is as Words say; shares come as they are. -/
import Derived.Test.YtcfliceeablckaaQRef3
import Derived.Test.YtcfliceeablckaaPNrx12
import Derived.Test.YtcfliceeablckaaPNrx14
import Derived.Test.YtcfliceeablckaaPNrx20
import Derived.Test.YtcfliceeablckaaPNrx21
import Derived.Test.YtcfliceeablckaaPNrx22
namespace Go.Proofs.Ytcfliceeablckaa.Pure
open Go.RowKit Go.Proofs.YtcfliceeablckaaW.PrintWords Go.Proofs.YtcfliceeablckaaW.PrintLast Go.Proofs.YtcfliceeablckaaW.PrintMore
open Go.Proofs.Ytcfliceeablckaa.MNat Go.Proofs.Ytcfliceeablckaa.QNat Go.Proofs.Ytcfliceeablckaa.QText Go.Proofs.Ytcfliceeablckaa.QRef Go.Proofs.Ytcfliceeablckaa.QEv Go.Proofs.Ytcfliceeablckaa.QRatio Go.Proofs.Ytcfliceeablckaa.PNr
set_option linter.unusedVariables false
set_option linter.unusedSimpArgs false

def lastOk (l : List Int) : Bool := if (l.length : Int) = 0 then true else rd l (l.length - 1 : Int) != 0
theorem ncheck_n (l : List Int) (h : l.length ≤ 1000) : nat_Check.f l = some (lastOk l) := by
  unfold nat_Check.f lastOk
  by_cases h0 : (l.length : Int) = 0
  · rw [if_pos h0, if_pos h0]
  · rw [if_neg h0, if_neg h0, w64 (by omega) (by omega), if_pos (by omega), if_pos (by omega)]
theorem rcheck_n (l : List Int) (h : l.length ≤ 1000) : regattaref02_Check.f l = some (lastOk l) := by
  unfold regattaref02_Check.f lastOk
  by_cases h0 : (l.length : Int) = 0
  · rw [if_pos h0, if_pos h0]
  · rw [if_neg h0, if_neg h0, w64 (by omega) (by omega), if_pos (by omega), if_pos (by omega)]
theorem checks_eq (a b : List Int) (ha : a.length ≤ 1000) (hb : b.length ≤ 1000) : ∃ r, ratio_Check.f a b = some r ∧ regattaref03_Check.f a b = some r := by
  unfold ratio_Check.f regattaref03_Check.f
  rw [ncheck_n a ha, ncheck_n b hb, rcheck_n a ha, rcheck_n b hb]
  cases lastOk a <;> cases lastOk b <;> exact ⟨_, rfl, rfl⟩
theorem checks_j1 (a b : List Int) (ha : a.length ≤ 1000) (hb : b.length ≤ 1000) (x y : Int) : Tell (fun k => regattalaw03_RatioChecks.j1 k a b true x y) true := by
  obtain ⟨r, r1, r2⟩ := checks_eq a b ha hb
  have hw := weights_t [⟨x, y⟩] (by simp)
  have hok := wOf_ok ⟨x, y⟩
  have e : wsOf [⟨x, y⟩] = [wOf ⟨x, y⟩] := rfl
  rw [e] at hw
  refine Tell.step (fun k => by rw [regattalaw03_RatioChecks.j1]) ?_
  refine Tell.bind hw ?_
  have e0 : rd_T57 [wOf ⟨x, y⟩] 0 = wOf ⟨x, y⟩ := rfl
  generalize wOf ⟨x, y⟩ = w at *
  have hF := okW_F hok
  have hp := okW_pos hok
  refine Tell.of (fun k => by rw [if_pos (by simp), if_pos rfl, r1, Option.bind_some, r2, Option.bind_some, beq_self_eq_true, if_pos rfl, e0, of_w _ hok, Option.bind_some]) ?_
  refine Tell.bind (r3of_t w hok) ?_
  refine Tell.bind (r3cmp_t 1 1 _ _ _ _ hF.1 hF.2 hF.1 hF.2 (by omega) hp hp) ?_
  refine Tell.of (fun k => ?_) (Tell.const true)
  rw [cmpR_self, if_pos rfl, Option.bind_some, check_n 1 _ _ hF.1 hF.2 (by omega) hp]
  rfl
theorem checks_j0 (a b : List Int) (ha : a.length ≤ 1000) (hb : b.length ≤ 9223372036854775807) (x y : Int) : Tell (fun k => regattalaw03_RatioChecks.j0 k a b true x y) true := by
  by_cases h : (b.length : Int) > 4
  · exact Tell.step (fun k => by rw [regattalaw03_RatioChecks.j0, if_pos h, if_pos (by omega)]) (checks_j1 a (b.take 4) ha (by rw [List.length_take]; omega) x y)
  · exact Tell.step (fun k => by rw [regattalaw03_RatioChecks.j0, if_neg h]) (checks_j1 a b ha (by omega) x y)
theorem RatioChecks : regattalaw03_RatioChecks.Pure := by
  intro x0 x1 x2 h0 h1 h2
  have hall : Tell (fun k => regattalaw03_RatioChecks.f k x0 x1 x2.f0 x2.f1) true := by
    unfold regattalaw03_RatioChecks.f
    refine Tell.bind awake03 ?_
    by_cases h : (x0.length : Int) > 4
    · exact Tell.of (fun k => by rw [if_pos h, if_pos (by omega)]) (checks_j0 (x0.take 4) x1 (by rw [List.length_take]; omega) h1.1 x2.f0 x2.f1)
    · exact Tell.of (fun k => by rw [if_neg h]) (checks_j0 x0 x1 (by omega) h1.1 x2.f0 x2.f1)
  exact hall.get
end Go.Proofs.Ytcfliceeablckaa.Pure
