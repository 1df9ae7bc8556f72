/- RatioLeast: the least ratio is as much, and nothing but 1 divides its numbers; texts are its own. -/
import Derived.Test.YtcfliceeablckaaQSum
import Derived.Test.YtcfliceeablckaaQRef
import Derived.Test.YtcfliceeablckaaPNrx7
import Derived.Test.YtcfliceeablckaaPNrx14
import Derived.Test.YtcfliceeablckaaPNrx16
import Derived.Test.YtcfliceeablckaaPNrx17
import Derived.Test.YtcfliceeablckaaPNrx18
namespace Go.Proofs.Ytcfliceeablckaa.Pure
open Go.RowKit Go.Proofs.YtcfliceeablckaaW.PrintWords Go.Proofs.YtcfliceeablckaaW.PrintLast Go.Proofs.YtcfliceeablckaaW.PrintMore
open Go.Proofs.Ytcfliceeablckaa.MNat Go.Proofs.Ytcfliceeablckaa.MDec Go.Proofs.Ytcfliceeablckaa.QNat Go.Proofs.Ytcfliceeablckaa.QText Go.Proofs.Ytcfliceeablckaa.QRef Go.Proofs.Ytcfliceeablckaa.QEv Go.Proofs.Ytcfliceeablckaa.QRatio Go.Proofs.Ytcfliceeablckaa.PNr
set_option linter.unusedVariables false
set_option linter.unusedSimpArgs false

theorem strOf_append (a b : List Int) : strOfNums (a ++ b) = strOfNums a ++ strOfNums b := by
  apply ByteArray.ext
  simp [strOfNums]
theorem dig_decs (n : Nat) : dig n = (decs n).map (fun x => 48 + x) := by
  induction n using Nat.strongRecOn with
  | _ n ih =>
    by_cases h : n = 0
    · subst h; rw [dig_zero, decs_zero]; rfl
    · rw [dig_pos n h, decs_pos n h, List.map_cons, ih (n / 10) (by omega)]
      congr 1
theorem rtext_l (l : List Int) (hl : Dgt l) (h1000 : l.length ≤ 1000000) (i : Nat) : ∀ (acc : ByteArray), i ≤ l.length → acc.size + i ≤ 2000000 →
    Tell (fun k => regattaref02_Text.l0 k l acc ((i : Int) - 1)) (acc ++ strOfNums ((l.take i).map (fun x => 48 + x)).reverse) := by
  induction i with
  | zero =>
    intro acc _ _
    have e : acc ++ strOfNums ((l.take 0).map (fun x => 48 + x)).reverse = acc := by apply ByteArray.ext; simp [strOfNums]
    rw [e]
    exact Tell.step (g := fun _ => some acc) (fun k => by rw [regattaref02_Text.l0, if_neg (by omega)]) (Tell.const _)
  | succ i ih =>
    intro acc hi hs
    have hlt : i < l.length := by omega
    obtain ⟨d, hd, h10⟩ := dig_at hl i
    have e1 : strOfNums [(48 : Int) + (d : Int)] = strOfNums [(48 + (d : Int))] := rfl
    have h := ih (acc ++ strOfNums [48 + (d : Int)]) (by omega) (by rw [ByteArray.size_append, strOfNums_size]; simp; omega)
    have e2 : acc ++ strOfNums [48 + (d : Int)] ++ strOfNums ((l.take i).map (fun x => 48 + x)).reverse = acc ++ strOfNums ((l.take (i + 1)).map (fun x => 48 + x)).reverse := by
      rw [take_succ_rd _ _ hlt, hd, List.map_append, List.reverse_append, strOf_append, ByteArray.append_assoc]
      rfl
    rw [e2] at h
    have e3 : ((i + 1 : Nat) : Int) - 1 = (i : Int) := by omega
    have e4 : (wrap64 (48 + (d : Int))) % 256 = 48 + (d : Int) := by rw [w64 (by omega) (by omega)]; omega
    refine Tell.step (fun k => ?_) h
    rw [regattaref02_Text.l0, e3, if_pos (by omega), if_pos (by omega), if_pos (by omega), rd_nat, hd, Option.bind_some, e4, if_pos (by rw [strOfNums_size]; simp; omega), w64 (x := (i : Int) - 1) (by omega) (by omega)]
theorem rtext_t (n : Nat) (h : n < 4294967296) : Tell (fun k => regattaref02_Text.f k (limbs n)) (strOfNums (txt n)) := by
  unfold regattaref02_Text.f
  have hf : Tell (fun k => regattaref02_FromLimbs.f k (limbs n)) (decs n) := ⟨201, fun k hk => by
    show regattaref02_FromLimbs.f k (limbs n) = _
    rw [from_f k 20 (limbs n) (lim_limbs n) (by omega) (by rw [nval_limbs]; omega) (Nat.le_trans (limbs_len n 1 (by simpa using h)) (by omega)) (by omega) (by omega), nval_limbs]⟩
  refine Tell.bind hf ?_
  unfold txt
  by_cases h0 : n = 0
  · subst h0
    rw [if_pos rfl, decs_zero]
    exact Tell.of (fun k => by rw [if_pos (by simp)]; rfl) (Tell.const _)
  · have hlen : (decs n).length ≤ 10 := decs_len n 10 (by omega)
    have hpos : 0 < (decs n).length := List.length_pos_iff.2 (decs_ne n h0)
    have hl := rtext_l (decs n) (dgt_decs n) (by omega) (decs n).length ⟨#[]⟩ (Nat.le_refl _) (by simp [ByteArray.size]; omega)
    rw [if_neg h0, dig_decs]
    rw [List.take_of_length_le (Nat.le_refl _)] at hl
    have e : (⟨#[]⟩ : ByteArray) ++ strOfNums ((decs n).map (fun x => 48 + x)).reverse = strOfNums ((decs n).map (fun x => 48 + x)).reverse := by apply ByteArray.ext; simp
    rw [e] at hl
    refine Tell.of (fun k => ?_) hl
    rw [if_neg (by omega), w64 (by omega) (by omega)]
theorem limbs_small (n : Nat) (h : n < 4294967296) : limbs n = if n = 0 then [] else [(n : Int)] := by
  by_cases h0 : n = 0
  · subst h0; rw [if_pos rfl, limbs_zero]
  · rw [if_neg h0, limbs_pos n h0, Nat.div_eq_of_lt h, limbs_zero, Nat.mod_eq_of_lt h]
theorem little_t (n d : Nat) (hn : n < 4294967296) (hd : d < 4294967296) (h0 : 0 < d) : Tell (fun k => regattaref03_Little.f k (limbs n) (limbs d)) ((n : Int), (d : Int), true) := by
  unfold regattaref03_Little.f
  have ed : limbs d = [(d : Int)] := by rw [limbs_small d hd, if_neg (by omega)]
  have w1 : IntKind.u64.wrap (d : Int) = (d : Int) := by rw [IntKind.wrap_u64]; omega
  have w2 : IntKind.u64.wrap (n : Int) = (n : Int) := by rw [IntKind.wrap_u64]; omega
  rw [ed, limbs_small n hn]
  by_cases hz : n = 0
  · subst hz
    rw [if_pos rfl]
    refine Tell.of (fun k => by rw [if_neg (by simp)]) ?_
    refine Tell.step (g := fun _ => some ((0 : Int), (d : Int), true)) (fun k => ?_) (Tell.const _)
    rw [regattaref03_Little.j0, if_neg (by simp), if_pos (by simp), if_neg (by simp)]
    simp [rd, w1]
  · rw [if_neg hz]
    refine Tell.of (fun k => by rw [if_neg (by simp)]) ?_
    refine Tell.step (g := fun _ => some ((n : Int), (d : Int), true)) (fun k => ?_) (Tell.const _)
    rw [regattaref03_Little.j0, if_neg (by simp), if_pos (by simp), if_pos (by simp), if_pos (by simp)]
    simp [rd, w1, w2]
theorem rgcd_t (b : Nat) : ∀ a : Nat, Tell (fun k => regattaref03_gcd.f k (a : Int) (b : Int)) ((Nat.gcd a b : Nat) : Int) := by
  induction b using Nat.strongRecOn with
  | _ b ih =>
    intro a
    by_cases h0 : b = 0
    · subst h0
      exact Tell.step (g := fun _ => some (a : Int)) (fun k => by rw [regattaref03_gcd.f, if_pos (by omega)]) (by rw [Nat.gcd_zero_right]; exact Tell.const _)
    · have h := ih (a % b) (Nat.mod_lt a (by omega)) b
      rw [show Nat.gcd b (a % b) = Nat.gcd a b by rw [Nat.gcd_comm a b, Nat.gcd_rec b a, Nat.gcd_comm]] at h
      refine Tell.step (fun k => by rw [regattaref03_gcd.f, if_neg (by omega), tmod_nat]) (Tell.bind h (Tell.const _))
theorem rleast_t (n d : Nat) (hn : n < 4294967296) (hd : d < 4294967296) (h0 : 0 < d) : Tell (fun k => regattaref03_Least.f k (n : Int) (d : Int) true) (((mkRat (n : Int) d).num.natAbs : Int), ((mkRat (n : Int) d).den : Int), true) := by
  obtain ⟨e1, e2⟩ := mk_num n d h0
  unfold regattaref03_Least.f
  have hg : 0 < Nat.gcd n d := Nat.gcd_pos_of_pos_right _ h0
  refine Tell.bind (rgcd_t d n) ?_
  rw [e1, e2]
  have b1 := Nat.div_le_self n (Nat.gcd n d)
  have b2 := Nat.div_le_self d (Nat.gcd n d)
  refine Tell.of (fun k => ?_) (Tell.const _)
  rw [if_neg (by omega), tdiv_nat, tdiv_nat, IntKind.wrap_u64, IntKind.wrap_u64]
  generalize n / Nat.gcd n d = x at *
  generalize d / Nat.gcd n d = y at *
  rw [show (x : Int) % 18446744073709551616 = x by omega, show (y : Int) % 18446744073709551616 = y by omega]
theorem least_self (j : Nat) (q : Rat) (h : Sz j q) (hj : j + 2 ≤ 1000000) : Tell (fun k => ratio_Least.f k (L q).1 (L q).2) (L q) := by
  have := least_t j _ _ h.2.1 h.2.2 hj q.den_pos
  rwa [self_mk q h.1] at this
theorem rof_t (n : Nat) (h : n < 18446744073709551616) : Tell (fun k => regattaref02_Of.f k (n : Int)) (limbs n) := ⟨5, fun k hk => rof_f k n h hk⟩
theorem least_j (n d : Nat) (hn : n < 4294967296) (hd : d < 4294967296) (h0 : 0 < d) : Tell (fun k => regattalaw03_RatioLeast.j0 k (n : Int) (d : Int) true) true := by
  have w1 : IntKind.u64.wrap (d : Int) = (d : Int) := by rw [IntKind.wrap_u64]; omega
  have w2 : IntKind.u64.wrap (n : Int) = (n : Int) := by rw [IntKind.wrap_u64]; omega
  have hs := mk_sz 1 n d (F.one hn) (F.one hd) h0
  obtain ⟨e1, e2⟩ := mk_num n d h0
  have b1 := Nat.div_le_self n (Nat.gcd n d)
  have b2 := Nat.div_le_self d (Nat.gcd n d)
  rw [← e1] at b1
  rw [← e2] at b2
  have hq := least_t 1 n d (F.one hn) (F.one hd) (by omega) h0
  have ht := text_t 1 n d (F.one hn) (F.one hd) (by omega) h0
  have hr := rleast_t n d hn hd h0
  have hdp := (mkRat (n : Int) d).den_pos
  clear e1 e2
  generalize mkRat (n : Int) d = q at *
  have hlq := textL 1 q hs (by omega)
  have hend : Tell (fun k => regattalaw03_RatioLeast.j1 k true (txtR q) (limbs n) (limbs d) (L q).1 (L q).2 (q.num.natAbs : Int) (q.den : Int) true (q.num.natAbs : Int) (q.den : Int) true) true := by
    refine Tell.step (fun k => by rw [regattalaw03_RatioLeast.j1, if_pos rfl, if_pos rfl, if_pos rfl, if_pos rfl]) ?_
    refine Tell.bind ht ?_
    refine Tell.of (fun k => by rw [if_pos rfl]) (Tell.bind hlq ?_)
    refine Tell.of (fun k => by rw [if_pos rfl]) (Tell.bind (least_self 1 q hs (by omega)) ?_)
    exact Tell.bind (sameL q 1 hs (by omega)) (Tell.const _)
  have l1 := txt_len 1 _ hs.2.1
  have l2 := txt_len 1 _ hs.2.2
  refine Tell.step (fun k => by rw [regattalaw03_RatioLeast.j0, w1, w2]) ?_
  refine Tell.bind (rof_t n (by omega)) (Tell.bind (rof_t d (by omega)) (Tell.bind hq ?_))
  refine Tell.bind (little_t q.num.natAbs q.den (by omega) (by omega) hdp) (Tell.bind (little_t n d hn hd h0) (Tell.bind hr ?_))
  refine Tell.bind (rof_t q.num.natAbs (by omega)) (Tell.bind (rtext_t q.num.natAbs (by omega)) ?_)
  by_cases h1 : q.den = 1
  · have et : txtR q = strOfNums (txt q.num.natAbs) := by unfold txtR; rw [if_pos h1]
    rw [et] at hend
    refine Tell.of (fun k => by rw [if_pos (by simp only; omega)]) hend
  · have et : txtR q = strOfNums (txt q.num.natAbs) ++ ⟨#[47]⟩ ++ strOfNums (txt q.den) := by unfold txtR; rw [if_neg h1]
    rw [et] at hend
    refine Tell.of (fun k => by rw [if_neg (by simp only; omega), if_pos (by rw [strOfNums_size]; omega)]) ?_
    refine Tell.bind (rof_t q.den (by omega)) (Tell.bind (rtext_t q.den (by omega)) ?_)
    refine Tell.of (fun k => by rw [if_pos (by rw [strOfNums_size, strOfNums_size]; omega)]) hend
theorem wf_u32 {x : Int} (h : (Lit.int .u32 x).wf = true) : 0 ≤ x ∧ x < 4294967296 := by
  have h' : (decide (IntKind.u32.min ≤ x) && decide (x ≤ IntKind.u32.max)) = true := h
  have e1 : IntKind.u32.min = 0 := by decide
  have e2 : IntKind.u32.max = 4294967295 := by decide
  rw [e1, e2] at h'
  simp at h'
  omega
theorem RatioLeast : regattalaw03_RatioLeast.Pure := by
  intro a0 a1 h0 h1
  obtain ⟨n0, n1⟩ := wf_u32 h0
  obtain ⟨d0, d1⟩ := wf_u32 h1
  have hall : Tell (fun k => regattalaw03_RatioLeast.f k a0 a1) true := by
    unfold regattalaw03_RatioLeast.f
    refine Tell.bind awake03 ?_
    by_cases hz : a1 = 0
    · have h := least_j a0.toNat 1 (by omega) (by omega) (by omega)
      rw [Int.toNat_of_nonneg n0] at h
      exact Tell.of (fun k => by rw [if_pos hz]; rfl) h
    · have h := least_j a0.toNat a1.toNat (by omega) (by omega) (by omega)
      rw [Int.toNat_of_nonneg n0, Int.toNat_of_nonneg d0] at h
      exact Tell.of (fun k => by rw [if_neg hz]) h
  exact hall.get
end Go.Proofs.Ytcfliceeablckaa.Pure
