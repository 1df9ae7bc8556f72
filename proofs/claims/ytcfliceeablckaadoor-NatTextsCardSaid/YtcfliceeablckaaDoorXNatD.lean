/- The contracts of the document's texts, in words of readable numbers (for NatTexts). -/
import Derived.Test.YtcfliceeablckaaDoorQNTexts
import Derived.Test.YtcfliceeablckaaDoorPNdx4
import Derived.Test.YtcfliceeablckaaDoorPNdx30
import Derived.Test.YtcfliceeablckaaDoorPNdx31
import Derived.Test.YtcfliceeablckaaDoorPNdx33
import Derived.Test.YtcfliceeablckaaDoorPNdx34
namespace Go.Proofs.YtcfliceeablckaaDoor.XNatD
open Go.RowKit Go.Proofs.YtcfliceeablckaaDoor.PNd Go.Proofs.YtcfliceeablckaaDoorW.PrintWords Go.Proofs.YtcfliceeablckaaDoorW.PrintLast Go.Proofs.YtcfliceeablckaaDoorW.PrintMore Go.Proofs.YtcfliceeablckaaDoor.MWords
open Go.Proofs.YtcfliceeablckaaDoor.MNat Go.Proofs.YtcfliceeablckaaDoor.QNat Go.Proofs.YtcfliceeablckaaDoor.QText Go.Proofs.YtcfliceeablckaaDoor.QNText Go.Proofs.YtcfliceeablckaaDoor.QRef Go.Proofs.YtcfliceeablckaaDoor.XParse Go.Proofs.YtcfliceeablckaaDoor.XNText Go.Proofs.YtcfliceeablckaaDoor.XNatC Go.Proofs.YtcfliceeablckaaDoor.QNTexts
set_option linter.unusedVariables false
set_option linter.unusedSimpArgs false
-- regattaref02_Of.calls regattaref02_Text.calls regattaref02_Parse.calls regattaref02_Check.calls nat_Check.calls
theorem NV.ofR {W : World} {v : Value} {a : List Int} {e base : Nat} {ok : Nat → Prop} (h : Kd.R (Kd.int .u32) e W base ok v a) : NV W v a := by
  obtain ⟨A, c, rfl⟩ := Kd.R_slice h
  exact ⟨A, c, rfl, (Kd.R_reads' h).2.1, (Kd.R_reads' h).2.2⟩
theorem NV.take8 {W : World} {A : Option Addr} {c : Nat} {a : List Int} (m : Nat) (hm : m ≤ a.length) (hc : a.length ≤ c) (h : Kd.C (Kd.int .u32) W A a.length a) : NV W (.slice A (a.take m).length c) (a.take m) :=
  ⟨A, c, rfl, by rw [List.length_take]; omega, Kd.C_take h hm⟩
theorem rof_rv (x : Int) (n : Nat) (hn : n < 18446744073709551616) (W : World) (hx : x = (n : Int)) : Calls Tryd.prog 11 #[.int .u64 x] W fun e w' => ∃ v : Value, e = .returned v ∧ NV w' v (limbs n) ∧ Below W.heap.size W w' := by
  subst hx
  exact (regattaref02_Of.calls 5 (n : Int) _ W (rof_f 5 n hn (Nat.le_refl _))).mono fun e w' ⟨v, he, h1, hb⟩ => ⟨v, he, NV.ofR h1, hb⟩
theorem rtext_rv (n m : Nat) (v : Value) (W : World) (hm : n < 10 ^ m) (hm2 : m ≤ 20000) (h : NV W v (limbs n)) :
    Calls Tryd.prog 13 #[v] W fun e w' => e = .returned (.string (strOfNums (txt n))) ∧ Below W.heap.size W w' := by
  obtain ⟨A, c, rfl, hc, hC⟩ := h
  exact regattaref02_Text.calls _ A c _ _ W hC hc (rtext_f _ m n hm hm2 (Nat.lt_succ_self _))
open Classical in
noncomputable def parseL (s : ByteArray) : List Int := if goodS s then limbs (valT s s.size) else []
open Classical in
noncomputable def parseE (s : ByteArray) : Int := if goodS s then 0 else 10
theorem parse_rv (s : ByteArray) (hs : s.size ≤ 60) (W : World) : Calls Tryd.prog 7 #[.string s] W fun e w' => ∃ v, e = .returned (.tuple #[v, .int .i64 (parseE s)]) ∧ NV w' v (parseL s) ∧ Below W.heap.size W w' := by
  refine (parse_calls s W (by omega)).mono ?_
  rintro e w' ⟨hb, ⟨hg, v, he, hv⟩ | ⟨hn, he⟩⟩
  · unfold parseE parseL
    rw [if_pos hg, if_pos hg]
    exact ⟨v, he, hv, hb⟩
  · unfold parseE parseL
    rw [if_neg hn, if_neg hn]
    exact ⟨_, he, ⟨none, 0, rfl, Nat.le_refl _, Kd.C_nil _ _⟩, hb⟩
theorem rparse_rv (s : ByteArray) (hs : s.size ≤ 60) (W : World) : Calls Tryd.prog 8 #[.string s] W fun e w' => ∃ v, e = .returned (.tuple #[v, .int .i64 (parseE s)]) ∧ NV w' v (parseL s) ∧ Below W.heap.size W w' := by
  have h : regattaref02_Parse.f 5001 s = some (parseL s, parseE s) := by
    rw [rparse_f s (by omega) 5001 (Nat.lt_succ_self _)]
    unfold parseE parseL
    by_cases hg : goodS s
    · rw [if_pos hg, if_pos hg, if_pos hg]
    · rw [if_neg hg, if_neg hg, if_neg hg]
  exact (regattaref02_Parse.calls 5001 s (parseL s) (parseE s) W h).mono fun e w' ⟨v, he, h1, hb⟩ => ⟨v, he, NV.ofR h1, hb⟩
theorem parseL_len (s : ByteArray) (hs : s.size ≤ 60) : (parseL s).length ≤ 1000 := by
  unfold parseL
  by_cases hg : goodS s
  · rw [if_pos hg]
    have h1 := valT_lt s hg.2.2 s.size (Nat.le_refl _)
    exact Nat.le_trans (limbs_len10 (Nat.lt_of_lt_of_le h1 (Nat.pow_le_pow_right (by omega) hs))) (by omega)
  · rw [if_neg hg]; simp
def lastOk (l : List Int) : Bool := if (l.length : Int) = 0 then true else rd l (l.length - 1 : Int) != 0
theorem ncheck_n (l : List Int) (h : l.length ≤ 1000) : nat_Check.f l = some (lastOk l) := by
  unfold nat_Check.f lastOk
  by_cases h0 : (l.length : Int) = 0
  · rw [if_pos h0, if_pos h0]
  · rw [if_neg h0, if_neg h0, w64 (by omega) (by omega), if_pos (by omega), if_pos (by omega)]
theorem rcheck_n (l : List Int) (h : l.length ≤ 1000) : regattaref02_Check.f l = some (lastOk l) := by
  unfold regattaref02_Check.f lastOk
  by_cases h0 : (l.length : Int) = 0
  · rw [if_pos h0, if_pos h0]
  · rw [if_neg h0, if_neg h0, w64 (by omega) (by omega), if_pos (by omega), if_pos (by omega)]
theorem check_rv (v : Value) (l : List Int) (W : World) (hl : l.length ≤ 1000) (h : NV W v l) : Calls Tryd.prog 14 #[v] W fun e w' => e = .returned (.bool (lastOk l)) ∧ Drawn0 W w' := by
  obtain ⟨A, c, rfl, hc, hC⟩ := h
  exact nat_Check.calls A c l _ W hC hc (ncheck_n l hl)
theorem rcheck_rv (v : Value) (l : List Int) (W : World) (hl : l.length ≤ 1000) (h : NV W v l) : Calls Tryd.prog 15 #[v] W fun e w' => e = .returned (.bool (lastOk l)) ∧ Drawn0 W w' := by
  obtain ⟨A, c, rfl, hc, hC⟩ := h
  exact regattaref02_Check.calls A c l _ W hC hc (rcheck_n l hl)
end Go.Proofs.YtcfliceeablckaaDoor.XNatD
