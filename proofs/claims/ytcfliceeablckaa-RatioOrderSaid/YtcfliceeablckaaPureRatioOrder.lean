/- RatioOrder: sums of weights hang on no order, nor on how they are put together; what was added is taken away again. -/
import Derived.Test.YtcfliceeablckaaQSum
import Derived.Test.YtcfliceeablckaaPNrx67
namespace Go.Proofs.Ytcfliceeablckaa.Pure
open Go.RowKit Go.Proofs.YtcfliceeablckaaW.PrintWords Go.Proofs.YtcfliceeablckaaW.PrintLast Go.Proofs.YtcfliceeablckaaW.PrintMore
open Go.Proofs.Ytcfliceeablckaa.MNat Go.Proofs.Ytcfliceeablckaa.QNat Go.Proofs.Ytcfliceeablckaa.QText Go.Proofs.Ytcfliceeablckaa.QEv Go.Proofs.Ytcfliceeablckaa.QRatio Go.Proofs.Ytcfliceeablckaa.PNr
set_option linter.unusedVariables false
set_option linter.unusedSimpArgs false

theorem order_end (a b : List S57) (ha : a.length ≤ 8) (hb : b.length ≤ 8) (oa : ∀ x ∈ a, okW x) (ob : ∀ x ∈ b, okW x) : Tell (fun k => regattalaw03_RatioOrder.l0 k true a b a.reverse (-1)) true := by
  obtain ⟨a1, a2⟩ := sum_t a (by omega) oa
  obtain ⟨b1, b2⟩ := sum_t b (by omega) ob
  obtain ⟨r1, _⟩ := sum_t a.reverse (by simp; omega) (fun x hx => oa x (by simpa using hx))
  obtain ⟨c1, _⟩ := sum_t (a ++ b) (by simp; omega) (fun x hx => by rcases List.mem_append.1 hx with h | h; exact oa x h; exact ob x h)
  rw [sumR_reverse] at r1
  rw [sumR_append] at c1
  generalize sumR a = x at *
  generalize sumR b = y at *
  replace a2 : Sz 17 x := ⟨a2.1, a2.2.1.mono (by omega), a2.2.2.mono (by omega)⟩
  replace b2 : Sz 17 y := ⟨b2.1, b2.2.1.mono (by omega), b2.2.2.mono (by omega)⟩
  obtain ⟨s1, s2⟩ := addL 17 17 x y a2 b2 (by omega)
  obtain ⟨t1, t2⟩ := addL 17 17 y x b2 a2 (by omega)
  have d1 := subL 35 17 (x + y) y s2 b2 (by omega)
  have hge : y ≤ x + y := by
    have := (Rat.add_le_add_right (c := y)).2 a2.1
    rwa [Rat.zero_add] at this
  have hxge : x ≤ x + y := by
    have := (Rat.add_le_add_left (c := x)).2 b2.1
    rwa [Rat.add_zero] at this
  rw [if_neg (fun h => (Rat.lt_iff_le_and_not_ge.1 h).2 hge), Rat.add_sub_cancel] at d1
  have m1 := cmpL 35 17 (x + y) x s2 a2 (by omega)
  have hm : cmpR (x + y) x ≥ 0 := by
    unfold cmpR
    rw [if_neg (fun h => (Rat.lt_iff_le_and_not_ge.1 h).2 hxge)]
    split <;> decide
  refine Tell.step (fun k => by rw [regattalaw03_RatioOrder.l0, if_neg (by omega)]) ?_
  refine Tell.bind a1 (Tell.bind b1 ?_)
  refine Tell.of (fun k => by rw [if_pos (by simp; omega), Option.bind_some, if_pos (by simp; omega)]) ?_
  refine Tell.bind s1 (Tell.bind d1 ?_)
  refine Tell.of (fun k => by rw [if_pos rfl]) ?_
  refine Tell.bind r1 (Tell.bind (sameL x 17 a2 (by omega)) ?_)
  refine Tell.of (fun k => by rw [if_pos rfl]) ?_
  refine Tell.bind t1 ?_
  rw [Rat.add_comm y x]
  refine Tell.bind (sameL _ 35 s2 (by omega)) ?_
  refine Tell.of (fun k => by rw [if_pos rfl, List.nil_append]) ?_
  refine Tell.bind c1 (Tell.bind (sameL _ 35 s2 (by omega)) ?_)
  refine Tell.of (fun k => by rw [if_pos rfl, if_pos rfl]) ?_
  refine Tell.bind (sameL x 17 a2 (by omega)) ?_
  refine Tell.of (fun k => by rw [if_pos rfl]) ?_
  refine Tell.bind m1 ?_
  exact Tell.of (fun k => by rw [decide_eq_true hm]) (Tell.const true)
theorem order_l (a b : List S57) (ha : a.length ≤ 8) (hb : b.length ≤ 8) (oa : ∀ x ∈ a, okW x) (ob : ∀ x ∈ b, okW x) (i : Nat) : ∀ acc, i ≤ a.length → acc = (a.drop i).reverse →
    Tell (fun k => regattalaw03_RatioOrder.l0 k true a b acc ((i : Int) - 1)) true := by
  induction i with
  | zero =>
    intro acc _ he
    rw [List.drop_zero] at he
    subst he
    exact order_end a b ha hb oa ob
  | succ i ih =>
    intro acc hi he
    have hlt : i < a.length := by omega
    have h := ih (acc ++ [a[i]]) (by omega) (by rw [List.drop_eq_getElem_cons hlt, List.reverse_cons, he])
    have hal : acc.length ≤ 8 := by rw [he, List.length_reverse, List.length_drop]; omega
    refine Tell.step (fun k => ?_) h
    have e : ((i + 1 : Nat) : Int) - 1 = (i : Int) := by omega
    rw [regattalaw03_RatioOrder.l0, e, if_pos (by omega), if_pos (by omega), if_pos (by omega), if_pos (by omega), rdW a i hlt, w64 (by omega) (by omega)]
theorem RatioOrder : regattalaw03_RatioOrder.Pure := by
  intro x0 x1 h0 h1
  have hall : Tell (fun k => regattalaw03_RatioOrder.f k x0 x1) true := by
    unfold regattalaw03_RatioOrder.f
    refine Tell.bind awake03 (Tell.bind (weights_t x0 h0.1) (Tell.bind (weights_t x1 h1.1) ?_))
    have l0 := ws_len x0
    have h := order_l (wsOf x0) (wsOf x1) (ws_len x0) (ws_len x1) (ws_ok x0) (ws_ok x1) (wsOf x0).length [] (Nat.le_refl _) (by simp)
    rw [w64 (by omega) (by omega)]
    exact h
  exact hall.get
end Go.Proofs.Ytcfliceeablckaa.Pure
