/- The contracts of nat's functions in the words of NV (seat Door). -/
import Derived.Test.YtcfliceeablckaaDoorXNText
import Derived.Test.YtcfliceeablckaaDoorQMade
import Derived.Test.YtcfliceeablckaaDoorPNdx1
import Derived.Test.YtcfliceeablckaaDoorPNdx2
import Derived.Test.YtcfliceeablckaaDoorPNdx3
import Derived.Test.YtcfliceeablckaaDoorPNdx27
import Derived.Test.YtcfliceeablckaaDoorPNdx33
namespace Go.Proofs.YtcfliceeablckaaDoor.XNatC
open Go.RowKit Go.Proofs.YtcfliceeablckaaDoor.PNd Go.Proofs.YtcfliceeablckaaDoorW.PrintWords Go.Proofs.YtcfliceeablckaaDoorW.PrintLast Go.Proofs.YtcfliceeablckaaDoorW.PrintMore Go.Proofs.YtcfliceeablckaaDoor.MWords
open Go.Proofs.YtcfliceeablckaaDoor.MNat Go.Proofs.YtcfliceeablckaaDoor.QNat Go.Proofs.YtcfliceeablckaaDoor.QText Go.Proofs.YtcfliceeablckaaDoor.QNText Go.Proofs.YtcfliceeablckaaDoor.XParse Go.Proofs.YtcfliceeablckaaDoor.XNText
set_option linter.unusedVariables false
-- regattalaw02_made.calls nat_Text.calls regattaref02_Same.calls nat_Cmp.calls regattalaw02_awake.calls
theorem F_heap {α : Type} {d : Kd α} (hd : Kd.Heap d) {W : World} {A : Option Addr} {n : Nat} {xs : List α} (h : d.C W A n xs) : Kd.F d W (fun _ => True) A n xs := fun W' hW => hd.C (fun k hk => hW k trivial hk) h
theorem made_rv (A : Option Addr) (c : Nat) (xs : List Int) (W : World) (hc : xs.length ≤ c) (hC : Kd.C (Kd.int .u32) W A xs.length xs) :
    Calls Tryd.prog 6 #[.slice A xs.length c] W fun e w' => ∃ v, e = .returned v ∧ NV w' v (trim (xs.take 6)) ∧ Below W.heap.size W w' :=
  (regattalaw02_made.calls 9 (fun _ => True) A c xs _ W (Kd.V_mk hc (F_heap (Kd.heap_int .u32) hC)) (made_f 9 xs (by omega))).mono fun e w' ⟨v, he, h1, hb⟩ => ⟨v, he, NV.ofV h1, hb⟩
theorem text_rv (n m : Nat) (v : Value) (W : World) (hm : n < 10 ^ m) (hm2 : m ≤ 100000000) (hN : isN (limbs n)) (h : NV W v (limbs n)) :
    Calls Tryd.prog 12 #[v] W fun e w' => e = .returned (.string (strOfNums (txt n))) ∧ Below W.heap.size W w' := by
  obtain ⟨A, c, rfl, hc, hC⟩ := h
  exact nat_Text.calls _ (fun _ => True) A c _ _ W (Kd.V_mk hc (F_heap (Kd.heap_int .u32) hC)) (text_f m _ n hm hN hm2 (Nat.lt_succ_self _))
theorem same_rv (a b : List Int) (x y : Value) (W : World) (ha : a.length ≤ 1000000000) (h : NV W x a) (g : NV W y b) :
    Calls Tryd.prog 9 #[x, y] W fun e w' => e = .returned (.bool (decide (a = b))) ∧ Drawn0 W w' := by
  obtain ⟨A, c, rfl, h1, h2⟩ := h
  obtain ⟨A', c', rfl, h3, h4⟩ := g
  exact regattaref02_Same.calls _ A c a A' c' b _ W h2 h1 h4 h3 (same_f _ a b (Nat.lt_succ_self _) ha)
theorem cmp_rv (a b : Nat) (x y : Value) (W : World) (ha : isN (limbs a)) (hb : isN (limbs b)) (h : NV W x (limbs a)) (g : NV W y (limbs b)) :
    Calls Tryd.prog 16 #[x, y] W fun e w' => e = .returned (.int .i64 (cmpI a b)) ∧ Drawn0 W w' := by
  obtain ⟨A, c, rfl, h1, h2⟩ := h
  obtain ⟨A', c', rfl, h3, h4⟩ := g
  have hf := cmp_f _ (limbs a) (limbs b) ha hb (Nat.lt_succ_self _)
  rw [nval_limbs, nval_limbs] at hf
  exact nat_Cmp.calls _ A c _ A' c' _ _ W h2 h1 h4 h3 hf
theorem awake_rv (W : World) : Calls Tryd.prog 5 #[] W fun e w' => e = .returned (.bool true) ∧ Below W.heap.size W w' :=
  regattalaw02_awake.calls 100 true W (awake02 100 (by omega))
theorem txt_len (n : Nat) (h : n < 10 ^ 58) : (txt n).length ≤ 58 := by
  unfold txt
  by_cases h0 : n = 0
  · rw [if_pos h0]; decide
  · rw [if_neg h0, List.length_reverse]
    exact dig_length n 58 h
theorem parse_txt (n : Nat) (h : n < 10 ^ 58) (W : World) : Calls Tryd.prog 7 #[.string (strOfNums (txt n))] W fun e w' => ∃ v, e = .returned (.tuple #[v, .int .i64 0]) ∧ NV w' v (limbs n) ∧ Below W.heap.size W w' := by
  obtain ⟨g1, g2⟩ := txt_good n
  refine (parse_calls (strOfNums (txt n)) W (by rw [str_size]; have := txt_len n h; omega)).mono ?_
  rintro e w' ⟨hb, ⟨_, v, he, hv⟩ | ⟨hn, _⟩⟩
  · rw [g2] at hv
    exact ⟨v, he, hv, hb⟩
  · exact absurd g1 hn
theorem parse_bad (s : ByteArray) (hs : s.size ≤ 1000) (hn : ¬ goodS s) (W : World) : Calls Tryd.prog 7 #[.string s] W fun e w' => e = .returned (.tuple #[.slice none 0 0, .int .i64 10]) ∧ Below W.heap.size W w' := by
  refine (parse_calls s W hs).mono ?_
  rintro e w' ⟨hb, ⟨hg, _⟩ | ⟨_, he⟩⟩
  · exact absurd hg hn
  · exact ⟨he, hb⟩
theorem nought_eq (l : List Int) : (⟨#[48]⟩ : ByteArray) ++ strOfNums l = strOfNums (48 :: l) := by
  apply ByteArray.ext
  simp [strOfNums]
theorem nought_bad (n : Nat) : ¬ goodS ((⟨#[48]⟩ : ByteArray) ++ strOfNums (txt n)) := by
  rw [nought_eq]
  rintro ⟨_, h, _⟩
  refine h ⟨?_, ?_⟩
  · rw [str_size]
    have := List.length_pos_iff.2 (txt_ne n)
    simp
    omega
  · exact str_bt (48 :: txt n) (fun b hb => by
      rcases List.mem_cons.1 hb with rfl | hb
      · omega
      · have := txt_range n b hb; omega) 0 (by simp)
theorem none_bad : ¬ goodS (⟨#[]⟩ : ByteArray) := by
  rintro ⟨h, _⟩
  exact absurd h (by decide)
end Go.Proofs.YtcfliceeablckaaDoor.XNatC
