/- RatioWhole: a share of one, its period's times, is so many; whole numbers are in their order. -/
import Derived.Test.YtcfliceeablckaaQSum
import Derived.Test.YtcfliceeablckaaPNrx62
namespace Go.Proofs.Ytcfliceeablckaa.Pure
open Go.RowKit Go.Proofs.YtcfliceeablckaaW.PrintWords Go.Proofs.YtcfliceeablckaaW.PrintLast Go.Proofs.YtcfliceeablckaaW.PrintMore
open Go.Proofs.Ytcfliceeablckaa.MNat Go.Proofs.Ytcfliceeablckaa.QNat Go.Proofs.Ytcfliceeablckaa.QText Go.Proofs.Ytcfliceeablckaa.QEv Go.Proofs.Ytcfliceeablckaa.QRatio Go.Proofs.Ytcfliceeablckaa.PNr
set_option linter.unusedVariables false
set_option linter.unusedSimpArgs false

theorem sum_rep (e p : Nat) (hp : 0 < p) (n : Nat) : sumR (List.replicate n ⟨(e : Int), (p : Int)⟩) = mkRat ((n * e : Nat) : Int) p := by
  induction n with
  | zero => rw [Nat.zero_mul]; exact (Rat.zero_mkRat p).symm
  | succ n ih =>
    rw [List.replicate_succ]
    show mkRat ((e : Int).toNat : Int) (p : Int).toNat + sumR _ = _
    rw [ih, Int.toNat_natCast, Int.toNat_natCast, mk_add _ _ _ _ hp hp, mk_eq _ _ _ _ (Nat.mul_pos hp hp) hp, Nat.succ_mul, ← Nat.add_mul, Nat.add_comm e, Nat.mul_assoc]
theorem cmp_nat (a b : Nat) : cmpR (a : Rat) (b : Rat) = cmpI a b := by
  unfold cmpR cmpI
  by_cases h : a < b
  · rw [if_pos h, if_pos (Rat.natCast_lt_natCast.2 h)]
  · rw [if_neg h, if_neg (fun h' => h (Rat.natCast_lt_natCast.1 h'))]
    by_cases h2 : a = b
    · subst h2; rw [if_pos rfl, if_pos rfl]
    · rw [if_neg h2, if_neg (fun h' => h2 (Rat.natCast_inj.1 h'))]
theorem whole_j (e p a b : Nat) (he : e ≤ 30) (hp : 0 < p) (hp2 : p ≤ 30) (ha : a < 1048576) (hb : b < 1048576) :
    Tell (fun k => regattalaw03_RatioWhole.j1 k true (e : Int) (List.replicate p ⟨(e : Int), (p : Int)⟩) (a : Int) (b : Int) (cmpI a b)) true := by
  have hok : ∀ x ∈ List.replicate p (⟨(e : Int), (p : Int)⟩ : S57), okW x := by
    intro x hx
    rw [List.eq_of_mem_replicate hx]
    unfold okW
    simp only
    omega
  obtain ⟨s1, _⟩ := sum_t (List.replicate p (⟨(e : Int), (p : Int)⟩ : S57)) (by simp; omega) hok
  have es : sumR (List.replicate p ⟨(e : Int), (p : Int)⟩) = (e : Rat) := by
    rw [sum_rep e p hp p]
    have h : (mkRat ((p * e : Nat) : Int) p) = mkRat (e : Int) 1 := by
      rw [mk_eq _ _ _ _ hp (by omega), Nat.mul_one, Nat.mul_comm]
    rw [h]
    exact (Rat.mkRat_one e)
  rw [es] at s1
  obtain ⟨t1, t2⟩ := addL 2 2 (a : Rat) (b : Rat) (natSz a (by omega)) (natSz b (by omega)) (by omega)
  have ew : IntKind.u64.wrap ((a : Int) + (b : Int)) = ((a + b : Nat) : Int) := by rw [IntKind.wrap_u64]; omega
  have ee : IntKind.u64.wrap (e : Int) = (e : Int) := by rw [IntKind.wrap_u64]; omega
  have m1 := cmpL 2 2 (a : Rat) (b : Rat) (natSz a (by omega)) (natSz b (by omega)) (by omega)
  rw [cmp_nat] at m1
  rw [← Rat.natCast_add] at t1 t2
  refine Tell.step (fun k => by rw [regattalaw03_RatioWhole.j1, if_pos rfl, ee, ew]) ?_
  refine Tell.bind s1 ?_
  refine Tell.of (fun k => by rw [whole_n e (by omega), Option.bind_some]) ?_
  refine Tell.bind (sameL _ 2 (natSz e (by omega)) (by omega)) ?_
  refine Tell.of (fun k => by rw [if_pos rfl, whole_n a (by omega), Option.bind_some, whole_n b (by omega), Option.bind_some]) ?_
  refine Tell.bind m1 ?_
  refine Tell.of (fun k => by rw [if_pos rfl, Option.bind_some, Option.bind_some]) ?_
  refine Tell.bind t1 ?_
  refine Tell.of (fun k => by rw [whole_n (a + b) (by omega), Option.bind_some]) ?_
  exact Tell.bind (sameL _ 5 t2 (by omega)) (Tell.const _)
theorem and20u (x : Int) (h0 : 0 ≤ x) (h1 : x < 4294967296) : Go.bits .and .u32 x 1048575 = x % 1048576 := by
  show IntKind.u32.wrap (((BitVec.ofInt 32 x &&& BitVec.ofInt 32 1048575).toNat : Nat) : Int) = _
  have e1 : (BitVec.ofInt 32 1048575).toNat = 2 ^ 20 - 1 := by decide
  rw [BitVec.toNat_and, e1, Nat.and_two_pow_sub_one_eq_mod, BitVec.toNat_ofInt, IntKind.wrap_u32]
  have e2 : (x % ((2 ^ 32 : Nat) : Int)).toNat = x.toNat := by
    rw [Int.emod_eq_of_lt h0 (by simpa using h1)]
  rw [e2]
  omega
theorem whole_l (e p x1 x2 : Nat) (he : e ≤ 30) (hp : 0 < p) (hp2 : p ≤ 30) (h1 : x1 < 4294967296) (h2 : x2 < 4294967296) (d : Nat) : ∀ i, i + d = p →
    Tell (fun k => regattalaw03_RatioWhole.l0 k (x1 : Int) (x2 : Int) true (e : Int) (p : Int) (List.replicate i ⟨(e : Int), (p : Int)⟩) (i : Int)) true := by
  induction d with
  | zero =>
    intro i hi
    obtain rfl : i = p := by omega
    have ew : ∀ x : Nat, x < 4294967296 → IntKind.u64.wrap (Go.bits .and .u32 (x : Int) 1048575) = ((x % 1048576 : Nat) : Int) := by
      intro x hx
      rw [and20u _ (by omega) (by omega), IntKind.wrap_u64]; omega
    have h := whole_j e i (x1 % 1048576) (x2 % 1048576) he hp hp2 (Nat.mod_lt _ (by omega)) (Nat.mod_lt _ (by omega))
    refine Tell.step (fun k => ?_) h
    rw [regattalaw03_RatioWhole.l0, if_neg (by omega), ew x1 h1, ew x2 h2]
    unfold cmpI
    by_cases c : x1 % 1048576 < x2 % 1048576
    · rw [if_pos (by omega), if_pos c]
    · rw [if_neg (by omega), if_neg c]
      by_cases c2 : x1 % 1048576 = x2 % 1048576
      · rw [if_neg (by omega), if_pos c2]
      · rw [if_pos (by omega), if_neg c2]
  | succ d ih =>
    intro i hi
    have h := ih (i + 1) (by omega)
    refine Tell.step (fun k => ?_) h
    rw [regattalaw03_RatioWhole.l0, if_pos (by omega), if_pos (by simp; omega), w64 (by omega) (by omega), ← List.replicate_succ']
    rfl
theorem wf_u32 {x : Int} (h : (Lit.int .u32 x).wf = true) : 0 ≤ x ∧ x < 4294967296 := by
  have h' : (decide (IntKind.u32.min ≤ x) && decide (x ≤ IntKind.u32.max)) = true := h
  have e1 : IntKind.u32.min = 0 := by decide
  have e2 : IntKind.u32.max = 4294967295 := by decide
  rw [e1, e2] at h'
  simp at h'
  omega
theorem rest_by (x m : Int) (hm : 0 < m) (hm2 : m ≤ 1000) : ∃ n : Nat, (n : Int) < m ∧ Int.tmod (wrap64 (Int.tmod x m + m)) m = (n : Int) := by
  have h1 := Int.tmod_lt_of_pos x hm
  have h2 : -m < Int.tmod x m := by
    have h3 := Int.lt_tmod_of_pos x hm
    exact h3
  rw [QNat.w64 (by omega) (by omega), Int.tmod_eq_emod_of_nonneg (by omega)]
  have h4 := Int.emod_nonneg (Int.tmod x m + m) (show m ≠ 0 by omega)
  have h5 := Int.emod_lt_of_pos (Int.tmod x m + m) hm
  exact ⟨((Int.tmod x m + m) % m).toNat, by omega, by omega⟩
theorem RatioWhole : regattalaw03_RatioWhole.Pure := by
  intro x0 x1 x2 h0 h1 h2
  obtain ⟨a0, a1⟩ := wf_u32 h1
  obtain ⟨b0, b1⟩ := wf_u32 h2
  obtain ⟨e, he, ee⟩ := rest_by x0.f0 31 (by omega) (by omega)
  obtain ⟨p, hp, ep⟩ := rest_by x0.f1 30 (by omega) (by omega)
  have hall : Tell (fun k => regattalaw03_RatioWhole.f k x0.f0 x0.f1 x1 x2) true := by
    unfold regattalaw03_RatioWhole.f
    refine Tell.bind awake03 ?_
    rw [ee, ep, QNat.w64 (by omega) (by omega)]
    have h := whole_l e (1 + p) x1.toNat x2.toNat (by omega) (by omega) (by omega) (by omega) (by omega) (1 + p) 0 (by omega)
    rw [Int.toNat_of_nonneg a0, Int.toNat_of_nonneg b0] at h
    have e1 : ((1 + p : Nat) : Int) = 1 + (p : Int) := by omega
    rw [e1] at h
    exact h
  exact hall.get
end Go.Proofs.Ytcfliceeablckaa.Pure
