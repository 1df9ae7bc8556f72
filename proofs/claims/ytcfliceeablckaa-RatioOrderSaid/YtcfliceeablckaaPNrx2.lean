-- Written by wip/rprint.py of this session's repo (the kit's printer with patches), out of the translation. Not trusted: Lean checks it.
import Derived.Test.YtcfliceeablckaaPNrx0
namespace Go.Proofs.Ytcfliceeablckaa.PNr
open Go.RowKit Go.Proofs.YtcfliceeablckaaW.PrintWords Go.Proofs.YtcfliceeablckaaW.PrintLast Go.Proofs.YtcfliceeablckaaW.PrintMore Go.Proofs.Ytcfliceeablckaa.MWords
attribute [local go_sem] max2_int min2_int max_two min_two max_three min_three max_four min_four   -- for this text's walks alone
set_option linter.unusedVariables false
set_option linter.unusedSimpArgs false

/-! ### nat_cut: function 52 -/
open Go.Proofs.Ytcfliceeablckaa.MNat Go.Proofs.Ytcfliceeablckaa.MWords in
def nat_cut.f (l0 : List Int) : Option (List Int) := some (MNat.trim l0)
section
open Go.Proofs.Ytcfliceeablckaa.MNat Go.Proofs.Ytcfliceeablckaa.MWords
set_option maxHeartbeats 400000 in
theorem cut_any (A : Option Addr) (n c : Nat) (xs : List Int) (w : World) (hr : ReadsInt w .u32 A n xs) (hc : n ≤ c) :
    Calls Try.prog 52 #[.slice A n c] w fun e w' => ∃ m, e = .returned (.slice A m m) ∧ trim xs = xs.take m ∧ m ≤ n ∧ w' = w := by
  obtain ⟨hl, hn, hx⟩ := hr
  have hl' := Aside0.mk hl
  have hx' := Aside0.mk hx
  clear hx
  go_enter Try.func52, Try.ntmps52
  go_wp2_with (go_step3)
  go_loop [3] (fun v => ∃ k : Nat, k ≤ n ∧ v = .int .i64 k ∧ Aside0 (trim xs = trim (xs.take k))) (fun v => (intOf v).toNat)
  case atStart => exact ⟨n, Nat.le_refl _, rfl, ⟨by rw [List.take_of_length_le (by omega)]⟩⟩
  case round =>
    obtain ⟨k, hk, rfl, ht⟩ := hrel
    by_cases h0 : k = 0
    · subst h0
      go_wp2_with (first | go_step3 | (with_reducible refine noGoto_exit_i ?_) | (with_reducible refine noGoto_ret_i ?_))
      go_ret
      exact ⟨0, rfl, by rw [ht.out]; rfl, by omega, rfl⟩
    · obtain ⟨j, rfl⟩ : ∃ j, k = j + 1 := ⟨k - 1, by omega⟩
      obtain ⟨ad, rfl, hcell⟩ := hx'.out (by omega)
      have hc1 := hcell j (by omega)
      clear hcell
      by_cases hz : xs.getD j 0 = 0
      · have ht' := Aside0.mk (show trim xs = trim (xs.take j) by rw [ht.out, take_succ_rd _ _ (by omega), hz, trim_snoc0])
        rw [hz] at hc1
        clear hz
        go_wp2_with (first | go_step3 | (with_reducible refine noGoto_exit_i ?_) | (with_reducible refine noGoto_ret_i ?_))
        go_round
        case rel => exact ⟨j, by omega, by go_num, ht'⟩
        case measure => simp [intOf]
      · have ht' := Aside0.mk (show trim xs = xs.take (j + 1) by rw [ht.out, take_succ_rd _ _ (by omega), trim_snoc _ _ hz])
        have hz1 : ((xs.getD j 0) == 0) = false := by simpa using hz
        have hz2 : ((xs.getD j 0) != 0) = true := by simpa using hz
        generalize hX : xs.getD j 0 = X at *
        clear hX hz
        go_wp2_with (first | go_step3 | (with_reducible refine noGoto_exit_i ?_) | (with_reducible refine noGoto_ret_i ?_))
        go_ret
        exact ⟨j + 1, rfl, ht'.out, by omega, rfl⟩
theorem nat_cut.calls (P0_ : Nat → Prop) (A0 : Option Addr) (c0 : Nat) (l0 : List Int) (r : List Int) (w : World) (hs0 : Kd.V (Kd.int .u32) 30 w w.heap.size (fun k_ => P0_ k_) (.slice A0 l0.length c0) l0) (h : nat_cut.f l0 = some r) :
    Calls Try.prog 52 #[.slice A0 l0.length c0] w fun e w' => ∃ v0_ : Value, e = .returned (v0_) ∧ Kd.V (Kd.int .u32) 30 w' w.heap.size (fun k_ => (P0_ k_ ∨ w.heap.size ≤ k_)) v0_ r ∧ Below w.heap.size w w' := by
  obtain rfl := Option.some.inj h
  have hv := Kd.V_reads' hs0
  refine (cut_any A0 l0.length c0 l0 w (Kd.reads_of_C (d := (0 : Int)) (h1 := fun _ => rfl) hv.2.2) hv.2.1).mono ?_
  rintro e w' ⟨m, rfl, hm, hml, rfl⟩
  refine ⟨_, rfl, ?_, Below.refl _ _⟩
  have h1 := Kd.F_take (m := m) (Kd.V_F hs0) hml
  have h2 : (l0.take m).length = m := by rw [List.length_take]; omega
  rw [hm]
  exact ⟨_, m, by rw [h2], by omega, Kd.F_mono h1 (fun _ hk => .inl hk)⟩
end

end Go.Proofs.Ytcfliceeablckaa.PNr
