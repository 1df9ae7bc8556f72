-- Written by wip/rprint.py of this session's repo (the kit's printer with patches), out of the translation. Not trusted: Lean checks it.
import Derived.Test.YtlblianpbjhmoaaPGsx0
import Derived.Test.YtlblianpbjhmoaaPGsx6
import Derived.Test.YtlblianpbjhmoaaPGsx7
namespace Go.Proofs.Ytlblianpbjhmoaa.PGs
open Go.RowKit Go.Proofs.YtlblianpbjhmoaaW.PrintWords Go.Proofs.YtlblianpbjhmoaaW.PrintLast Go.Proofs.YtlblianpbjhmoaaW.PrintMore Go.Proofs.Ytlblianpbjhmoaa.MWords
attribute [local go_sem] max2_int min2_int max_two min_two max_three min_three max_four min_four   -- for this text's walks alone
set_option linter.unusedVariables false
set_option linter.unusedSimpArgs false

/-! ### gantt_Core: function 42 -/
section
open Go.Proofs.Ytlblianpbjhmoaa.MWords Go.Proofs.Ytlblianpbjhmoaa.MBuild
theorem strOf_one (u : UInt8) : strOfNums [(u.toNat : Int)] = ⟨#[u]⟩ := by
  simp [strOfNums]
def gantt_Core.go (k : Nat) (a1 : Int) : ByteArray → List S57 → Option ByteArray
  | s, [] => some s
  | s, x :: xs => (gantt_runs.f k x.f0 x.f1 a1).bind fun id => (gantt_Letter.f id).bind fun c => if 0 ≤ c ∧ c < 256 then gantt_Core.go k a1 (s ++ strOfNums [c]) xs else none
def gantt_Core.f (k : Nat) (l0 : List S57) (a1 : Int) : Option ByteArray := if l0.length ≤ 1000000 then gantt_Core.go k a1 ⟨#[]⟩ l0 else none

set_option maxHeartbeats 400000 in
theorem gantt_Core.calls (k : Nat) (A0 : Option Addr) (c0 : Nat) (l0 : List S57) (a1 : Int) (r : ByteArray) (w : World) (hr0 : Kd.C k57 w A0 l0.length l0) (hc0 : l0.length ≤ c0) (h : gantt_Core.f k l0 a1 = some r) :
    Calls Try.prog 42 #[.slice A0 l0.length c0, .int .i64 a1] w fun e w' => e = .returned (.string r) ∧ Below w.heap.size w w' := by
  have HR := Aside0.mk hr0
  clear hr0
  unfold gantt_Core.f at h
  split at h
  case isFalse => cases h
  rename_i hlen
  have H := Aside0.mk h
  clear h
  go_enter Try.func42, Try.ntmps42
  go_wp2_with fail
  go_loopw [10] (fun v wr => ∃ (i : Nat) (s : ByteArray), v = .int .i64 i ∧ i ≤ l0.length ∧ s.size = i ∧ Aside0 (gantt_Core.go k a1 s (l0.drop i) = some r) ∧ Aside0 (Bld w.heap.size w.heap.size s wr) ∧ Aside0 (Below w.heap.size w wr)) (fun v _ => l0.length - (intOf v).toNat)
  case atStart => exact ⟨0, ⟨#[]⟩, rfl, by omega, rfl, H, ⟨Bld.new w⟩, ⟨(Below.refl _ _).alloc (Nat.le_refl _) _⟩⟩
  case round =>
    obtain ⟨i, s, rfl, hi, hsz, HH, HS, HB⟩ := hrel
    clear H
    by_cases hlt : i < l0.length
    · obtain ⟨ad, A1, c1, e, hx0, hx1, hl1, hr1⟩ := at_T57 (Kd.C_below HR.out HB.out) (i : Int) (by omega) (by omega)
      subst e
      simp only [Int.toNat_natCast] at hx0 hx1
      have hd : l0.drop i = rd_T57 l0 i :: l0.drop (i + 1) := by
        rw [List.drop_eq_getElem_cons hlt]
        simp [rd_T57, List.getD, List.getElem?_eq_getElem hlt]
      have HH := HH.out
      rw [hd] at HH
      clear hd
      unfold gantt_Core.go at HH
      obtain ⟨id, h1, HH⟩ := Option.bind_eq_some_iff.1 HH
      obtain ⟨c, h2, HH⟩ := Option.bind_eq_some_iff.1 HH
      split at HH
      case isFalse => cases HH
      rename_i hc
      obtain ⟨u, rfl⟩ : ∃ u : UInt8, c = (u.toNat : Int) := ⟨UInt8.ofNat c.toNat, by simp; omega⟩
      have H1 := Aside0.mk h1
      have H2 := Aside0.mk h2
      have HH := Aside0.mk HH
      have HR1 := Aside0.mk hr1
      clear hr1 h1 h2 hc
      go_wp2_with fail
      refine (gantt_runs.calls k _ _ _ _ a1 id _ (Kd.C_below HR1.out ((Below.refl wr.heap.size wr).alloc (Nat.le_refl _) _)) hl1 H1.out).mono ?_
      rintro e w1 ⟨rfl, hb⟩
      have HB1 := Aside0.mk (hb)
      clear hb
      go_wp2_with fail
      refine (gantt_Letter.calls id _ _ H2.out).mono ?_
      rintro e w2 ⟨rfl, hd⟩
      obtain ⟨n1, rfl⟩ := hd
      go_wp2_with fail
      refine (write_byte w.heap.size w.heap.size s u _ (((HS.out.alloc _).below (Nat.le_refl _) HB1.out).drewN _) (by omega) ?_).mono ?_
      · exact (pw_below_drewN (below_step (HB.out.alloc HB.out.size _) HB1.out) n1).size
      rintro e w3 ⟨rfl, h3, h4, h5⟩
      have H3 := Aside0.mk h3
      have H4 := Aside0.mk ((pw_below_drewN (below_step (HB.out.alloc HB.out.size _) HB1.out) n1).trans h4)
      clear h3 h4 h5
      go_wp2_with fail
      go_round
      case rel =>
        refine ⟨i + 1, s ++ strOfNums [(u.toNat : Int)], by go_num, by omega, ?_, HH, ?_, H4⟩
        · rw [strOf_one, ByteArray.size_append, hsz]; rfl
        · rw [strOf_one]; exact H3
      case measure => simp [intOf]; omega
    · have hie : i = l0.length := by omega
      have HH := HH.out
      rw [hie, List.drop_length] at HH
      unfold gantt_Core.go at HH
      obtain rfl := Option.some.inj HH
      clear HH
      go_wp2_with fail
      refine (text_any w.heap.size w.heap.size s _ HS.out HB.out.size).mono ?_
      rintro e w1 ⟨rfl, hb⟩
      have HB1 := Aside0.mk (HB.out.trans hb)
      clear hb
      go_wp2_with fail
      go_ret
      exact ⟨rfl, HB1.out⟩

theorem gantt_Core.mono_go : ∀ a1 s xs k, LeO (gantt_Core.go k a1 s xs) (gantt_Core.go (k + 1) a1 s xs) := by
  intro a1 s xs
  induction xs generalizing s with
  | nil => intro k; exact LeO.refl _
  | cons x xs ih =>
    intro k
    unfold gantt_Core.go
    exact LeO.bind (gantt_runs.mono _ _ _ _) (fun _ => LeO.bind (LeO.refl _) (fun _ => LeO.ite (ih _ _) (LeO.refl _)))
theorem gantt_Core.mono : ∀ a0 a1 k, LeO (gantt_Core.f k a0 a1) (gantt_Core.f (k + 1) a0 a1) := fun _ _ _ => LeO.ite (gantt_Core.mono_go _ _ _ _) (LeO.refl _)
end

end Go.Proofs.Ytlblianpbjhmoaa.PGs
