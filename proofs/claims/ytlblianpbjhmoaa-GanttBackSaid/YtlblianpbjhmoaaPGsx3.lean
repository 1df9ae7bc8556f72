-- Written by wip/rprint.py of this session's repo (the kit's printer with patches), out of the translation. Not trusted: Lean checks it.
import Derived.Test.YtlblianpbjhmoaaPGsx0
namespace Go.Proofs.Ytlblianpbjhmoaa.PGs
open Go.RowKit Go.Proofs.YtlblianpbjhmoaaW.PrintWords Go.Proofs.YtlblianpbjhmoaaW.PrintLast Go.Proofs.YtlblianpbjhmoaaW.PrintMore Go.Proofs.Ytlblianpbjhmoaa.MWords
attribute [local go_sem] max2_int min2_int max_two min_two max_three min_three max_four min_four   -- for this text's walks alone
set_option linter.unusedVariables false
set_option linter.unusedSimpArgs false

/-! ### slot_Check: function 48 -/
def slot_Check.go (m : Int) : Int → List Int → List S59 → Bool
  | _, _, [] => true
  | last, seen, r :: rs => if r.f1 ≤ last ∨ r.f1 ≥ m ∨ r.f0 < 0 ∨ r.f0 > 1023 ∨ r.f0 ∈ seen ∨ r.f2 < 1 ∨ r.f2 > 1099511627776 then false else slot_Check.go m r.f1 (r.f0 :: seen) rs
def slot_Check.f (a0_0 : Int) (l0_1 : List S59) (a1 : Int) : Option Bool := if l0_1.length ≤ 100000 then some (if a1 < 1 ∨ a1 > 1024 ∨ a0_0 < 0 ∨ a0_0 > 1099511627776 then false else slot_Check.go a1 (-1) [] l0_1) else none

section
open Go.Proofs.Ytlblianpbjhmoaa.MWords Go.Proofs.Ytlblianpbjhmoaa.MSeen
set_option maxRecDepth 100000 in
set_option maxHeartbeats 400000 in
theorem slot_Check.calls (a0_0 : Int) (A0_1 : Option Addr) (c0_1 : Nat) (l0_1 : List S59) (a1 : Int) (r : Bool) (w : World) (hr0_1 : Kd.C k59 w A0_1 l0_1.length l0_1) (hc0_1 : l0_1.length ≤ c0_1) (h : slot_Check.f a0_0 l0_1 a1 = some r) :
    Calls Try.prog 48 #[.agg #[.int .i64 a0_0, .slice A0_1 l0_1.length c0_1], .int .i64 a1] w fun e w' => e = .returned (.bool r) ∧ Below w.heap.size w w' := by
  unfold slot_Check.f at h
  split at h
  case isFalse => cases h
  rename_i hlen
  have HR := Aside0.mk hr0_1
  clear hr0_1
  by_cases c1 : a1 < 1
  · rw [if_pos (.inl c1)] at h
    obtain rfl := Option.some.inj h
    clear h
    go_enter Try.func48, Try.ntmps48
    go_wp2_with fail
    go_ret
    exact ⟨rfl, (Below.refl _ _).alloc (Nat.le_refl _) _⟩
  by_cases c2 : a1 > 1024
  · rw [if_pos (.inr (.inl c2))] at h
    obtain rfl := Option.some.inj h
    clear h
    go_enter Try.func48, Try.ntmps48
    go_wp2_with fail
    go_ret
    exact ⟨rfl, (Below.refl _ _).alloc (Nat.le_refl _) _⟩
  by_cases c3 : a0_0 < 0
  · rw [if_pos (.inr (.inr (.inl c3)))] at h
    obtain rfl := Option.some.inj h
    clear h
    go_enter Try.func48, Try.ntmps48
    go_wp2_with fail
    go_ret
    exact ⟨rfl, (Below.refl _ _).alloc (Nat.le_refl _) _⟩
  by_cases c4 : a0_0 > 1099511627776
  · rw [if_pos (.inr (.inr (.inr c4)))] at h
    obtain rfl := Option.some.inj h
    clear h
    go_enter Try.func48, Try.ntmps48
    go_wp2_with fail
    go_ret
    exact ⟨rfl, (Below.refl _ _).alloc (Nat.le_refl _) _⟩
  rw [if_neg (by omega)] at h
  have H := Aside0.mk (Option.some.inj h)
  clear h
  go_enter Try.func48, Try.ntmps48
  go_wp2_with fail
  rw [show ∀ W : World, (Instr.makeMap 95 none).run Try.prog W = .ok (.map (some W.heap.size)) (W.alloc (.map #[] 0)) from fun W => rfl]
  simp only [Result.andThen]
  rw [Oper.upon_value]
  go_wp2_with fail
  go_loopw [5, 29] (fun v5 v29 wr => ∃ (i : Nat) (last : Int) (seen : List Int), v5 = .int .i64 last ∧ v29 = .int .i64 i ∧ i ≤ l0_1.length ∧ Aside0 (slot_Check.go a1 last seen (l0_1.drop i) = r) ∧ Aside0 (Seen wr (w.heap.size + 1) seen ∧ seen.length ≤ i) ∧ Aside0 (MBlk wr w.heap.size 57 #[.int .i64 a0_0, .slice A0_1 l0_1.length c0_1]) ∧ Aside0 (Below w.heap.size w wr)) (fun _ v _ => l0_1.length - (intOf v).toNat)
  case atStart =>
    refine ⟨0, -1, [], rfl, rfl, Nat.zero_le _, H, ⟨by simpa using Seen.made (w.alloc (.cells #[.int .i64 a0_0, .slice A0_1 l0_1.length c0_1] 57)), Nat.le_refl _⟩, ⟨mblk_alloc (mblk_new w 57 _) _⟩, ⟨((Below.refl _ _).alloc (Nat.le_refl _) _).alloc (by simp) _⟩⟩
  case round =>
    obtain ⟨i, last, seen, rfl, rfl, hi, HH, HS, HM, HB⟩ := hrel
    clear H
    by_cases hlt : i < l0_1.length
    · obtain ⟨ad, e, hx0, hx1, hx2⟩ := at_T59 (Kd.C_below HR.out HB.out) (i : Int) (by omega) (by omega)
      have hd : l0_1.drop i = rd_T59 l0_1 i :: l0_1.drop (i + 1) := by
        rw [List.drop_eq_getElem_cons hlt]
        simp [rd_T59, List.getD, List.getElem?_eq_getElem hlt]
      have HH := HH.out
      rw [hd] at HH
      clear hd
      unfold slot_Check.go at HH
      generalize (rd_T59 l0_1 (i : Int)).f0 = X0 at HH hx0
      generalize (rd_T59 l0_1 (i : Int)).f1 = X1 at HH hx1
      generalize (rd_T59 l0_1 (i : Int)).f2 = X2 at HH hx2
      subst e
      simp only [Int.toNat_natCast] at hx0 hx1 hx2
      by_cases b0 : X1 ≤ last
      · rw [if_pos (.inl b0)] at HH
        obtain rfl := HH
        go_wp2_with fail
        go_ret
        exact ⟨rfl, HB.out.alloc HB.out.size _⟩
      by_cases b1 : X1 ≥ a1
      · rw [if_pos (.inr (.inl b1))] at HH
        obtain rfl := HH
        go_wp2_with fail
        go_ret
        exact ⟨rfl, HB.out.alloc HB.out.size _⟩
      by_cases b2 : X0 < 0
      · rw [if_pos (.inr (.inr (.inl b2)))] at HH
        obtain rfl := HH
        go_wp2_with fail
        go_ret
        exact ⟨rfl, HB.out.alloc HB.out.size _⟩
      by_cases b3 : X0 > 1023
      · rw [if_pos (.inr (.inr (.inr (.inl b3))))] at HH
        obtain rfl := HH
        go_wp2_with fail
        go_ret
        exact ⟨rfl, HB.out.alloc HB.out.size _⟩
      by_cases b4 : X0 ∈ seen
      · rw [if_pos (.inr (.inr (.inr (.inr (.inl b4)))))] at HH
        obtain rfl := HH
        go_wp2_with fail
        rw [Seen.look (HS.out.1.alloc _) (wfI_of (by omega) (by omega))]
        simp only [Result.andThen]
        rw [Oper.upon_value]
        simp only [b4, decide_true]
        go_wp2_with fail
        go_ret
        exact ⟨rfl, HB.out.alloc HB.out.size _⟩
      by_cases b5 : X2 < 1
      · rw [if_pos (.inr (.inr (.inr (.inr (.inr (.inl b5))))))] at HH
        obtain rfl := HH
        go_wp2_with fail
        rw [Seen.look (HS.out.1.alloc _) (wfI_of (by omega) (by omega))]
        simp only [Result.andThen]
        rw [Oper.upon_value]
        simp only [b4, decide_false]
        go_wp2_with fail
        go_ret
        exact ⟨rfl, HB.out.alloc HB.out.size _⟩
      by_cases b6 : X2 > 1099511627776
      · rw [if_pos (.inr (.inr (.inr (.inr (.inr (.inr b6))))))] at HH
        obtain rfl := HH
        go_wp2_with fail
        rw [Seen.look (HS.out.1.alloc _) (wfI_of (by omega) (by omega))]
        simp only [Result.andThen]
        rw [Oper.upon_value]
        simp only [b4, decide_false]
        go_wp2_with fail
        go_ret
        exact ⟨rfl, HB.out.alloc HB.out.size _⟩
      rw [if_neg (by simp only [b0, b1, b2, b3, b4, b5, b6, or_self, not_false_eq_true])] at HH
      have HH := Aside0.mk HH
      go_wp2_with fail
      rw [Seen.look (HS.out.1.alloc _) (wfI_of (by omega) (by omega))]
      simp only [Result.andThen]
      rw [Oper.upon_value]
      simp only [b4, decide_false]
      go_wp2_with fail
      obtain ⟨w2, hrun, hs2, hg2⟩ := Seen.put_run (HS.out.1.alloc (.cells #[.int .i64 X0, .int .i64 X1, .int .i64 X2] 59)) (k := X0) (wfI_of (by omega) (by omega)) (by have := HS.out.2; omega)
      rw [hrun]
      clear hrun
      have HM2 := Aside0.mk (grown_mblk (mblk_alloc HM.out _) hg2 (by omega))
      have HB2 := Aside0.mk (grown_below (HB.out.alloc HB.out.size _) hg2 (by have := HB.out.size; simp; omega) (by omega))
      have HS2 := Aside0.mk hs2
      clear hs2 hg2
      simp only [Result.andThen]
      rw [Oper.upon_skip]
      go_wp2_with fail
      go_round
      case rel => exact ⟨i + 1, X1, X0 :: seen, rfl, by go_num, by omega, HH, ⟨HS2.out, by have := HS.out.2; simp; omega⟩, HM2, HB2⟩
      case measure => simp [intOf]; omega
    · have hie : i = l0_1.length := by omega
      subst hie
      have HH := HH.out
      rw [List.drop_length] at HH
      unfold slot_Check.go at HH
      subst HH
      go_wp2_with fail
      go_ret
      exact ⟨rfl, HB.out⟩
end

end Go.Proofs.Ytlblianpbjhmoaa.PGs
