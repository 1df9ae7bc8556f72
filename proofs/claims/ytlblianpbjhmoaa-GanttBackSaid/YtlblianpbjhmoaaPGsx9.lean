-- Written by wip/rprint.py of this session's repo (the kit's printer with patches), out of the translation. Not trusted: Lean checks it.
import Derived.Test.YtlblianpbjhmoaaPGsx0
import Derived.Test.YtlblianpbjhmoaaPGsx5
import Derived.Test.YtlblianpbjhmoaaPGsx8
namespace Go.Proofs.Ytlblianpbjhmoaa.PGs
open Go.RowKit Go.Proofs.YtlblianpbjhmoaaW.PrintWords Go.Proofs.YtlblianpbjhmoaaW.PrintLast Go.Proofs.YtlblianpbjhmoaaW.PrintMore Go.Proofs.Ytlblianpbjhmoaa.MWords
attribute [local go_sem] max2_int min2_int max_two min_two max_three min_three max_four min_four   -- for this text's walks alone
set_option linter.unusedVariables false
set_option linter.unusedSimpArgs false

/-! ### gantt_Draw: function 21 -/
section
open Go.Proofs.Ytlblianpbjhmoaa.MWords Go.Proofs.Ytlblianpbjhmoaa.MBuild
def gantt_Draw.go (k : Nat) (l0 : List S57) : Nat → Int → ByteArray → Option ByteArray
  | 0, _, s => some s
  | n + 1, c, s => (gantt_Core.f k l0 c).bind fun t => if s.size + t.size + 1 ≤ 100000000 then gantt_Draw.go k l0 n (c + 1) (s ++ (t ++ ⟨#[10]⟩)) else none
def gantt_Draw.f (k : Nat) (l0 : List S57) (a1 : Int) : Option ByteArray :=
  (gantt_Check.f k l0 a1).bind fun b => if b = true then (if a1 ≤ 64 then gantt_Draw.go k l0 a1.toNat 0 ⟨#[]⟩ else none) else some ⟨#[]⟩

set_option maxHeartbeats 400000 in
theorem gantt_Draw.calls (k : Nat) (A0 : Option Addr) (c0 : Nat) (l0 : List S57) (a1 : Int) (r : ByteArray) (w : World) (hr0 : Kd.C k57 w A0 l0.length l0) (hc0 : l0.length ≤ c0) (h : gantt_Draw.f k l0 a1 = some r) :
    Calls Try.prog 21 #[.slice A0 l0.length c0, .int .i64 a1] w fun e w' => e = .returned (.string r) ∧ Below w.heap.size w w' := by
  have HR := Aside0.mk hr0
  clear hr0
  unfold gantt_Draw.f at h
  obtain ⟨b, hb, h⟩ := Option.bind_eq_some_iff.1 h
  have HC := Aside0.mk hb
  clear hb
  cases b with
  | false =>
    rw [if_neg (by simp)] at h
    obtain rfl := Option.some.inj h
    clear h
    go_enter Try.func21, Try.ntmps21
    go_wp2_with fail
    refine (gantt_Check.calls k A0 c0 l0 a1 false _ HR.out hc0 HC.out).mono ?_
    rintro e w1 ⟨rfl, hb⟩
    have HB := Aside0.mk hb
    clear hb
    go_wp2_with fail
    go_ret
    exact ⟨rfl, HB.out⟩
  | true =>
    rw [if_pos rfl] at h
    split at h
    case isFalse => cases h
    rename_i hm
    have H := Aside0.mk h
    clear h
    go_enter Try.func21, Try.ntmps21
    go_wp2_with fail
    refine (gantt_Check.calls k A0 c0 l0 a1 true _ HR.out hc0 HC.out).mono ?_
    rintro e w1 ⟨rfl, hb⟩
    have HB1 := Aside0.mk hb
    clear hb
    go_wp2_with fail
    go_loopw [12] (fun v wr => ∃ (i : Nat) (s : ByteArray), v = .int .i64 i ∧ (i ≤ a1.toNat) ∧ s.size ≤ 100000000 ∧ Aside0 (gantt_Draw.go k l0 (a1.toNat - i) i s = some r) ∧ Aside0 (Bld w1.heap.size w1.heap.size s wr) ∧ Aside0 (Below w1.heap.size w1 wr)) (fun v _ => a1.toNat - (intOf v).toNat)
    case atStart => exact ⟨0, ⟨#[]⟩, rfl, by omega, by simp [ByteArray.size], H, ⟨Bld.new w1⟩, ⟨(Below.refl _ _).alloc (Nat.le_refl _) _⟩⟩
    case round =>
      obtain ⟨i, s, rfl, hi, hsz, HH, HS, HB⟩ := hrel
      clear H
      by_cases hlt : (i : Int) < a1
      · have HH := HH.out
        rw [show a1.toNat - i = (a1.toNat - (i + 1)) + 1 by omega] at HH
        unfold gantt_Draw.go at HH
        obtain ⟨t, h1, HH⟩ := Option.bind_eq_some_iff.1 HH
        split at HH
        case isFalse => cases HH
        rename_i hts
        have h10 : (⟨#[10]⟩ : ByteArray).size = 1 := rfl
        have hlen := Aside0.mk (show s.size + (t ++ (⟨#[10]⟩ : ByteArray)).size ≤ 140737488355328 by rw [ByteArray.size_append, h10]; omega)
        have hlen2 := Aside0.mk (show (s ++ (t ++ (⟨#[10]⟩ : ByteArray))).size ≤ 100000000 by rw [ByteArray.size_append, ByteArray.size_append, h10]; omega)
        have H1 := Aside0.mk h1
        have HH := Aside0.mk HH
        clear h1 h10
        go_wp2_with fail
        refine (gantt_Core.calls k A0 c0 l0 i t _ (Kd.C_below HR.out (below_step HB1.out HB.out)) hc0 H1.out).mono ?_
        rintro e w2 ⟨rfl, hb⟩
        have HB2 := Aside0.mk (below_step HB.out hb)
        have HS2 := Aside0.mk (HS.out.below (Nat.le_refl _) hb)
        clear hb
        go_wp2_with fail
        have HW := write_string w1.heap.size w1.heap.size s (t ++ ⟨#[10]⟩) w2 HS2.out hlen.out HB2.out.size
        refine HW.mono ?_
        clear HW
        rintro e w3 ⟨rfl, h3, h4, h5⟩
        have H3 := Aside0.mk h3
        have H4 := Aside0.mk (HB2.out.trans h4)
        clear h3 h4 h5
        go_wp2_with fail
        go_round
        case rel =>
          exact ⟨i + 1, _, by go_num, by omega, hlen2.out, HH, H3, H4⟩
        case measure => simp [intOf]; omega
      · have HH := HH.out
        rw [show a1.toNat - i = 0 by omega] at HH
        unfold gantt_Draw.go at HH
        obtain rfl := Option.some.inj HH
        clear HH
        go_wp2_with fail
        refine (text_any w1.heap.size w1.heap.size s _ HS.out HB.out.size).mono ?_
        rintro e w2 ⟨rfl, hb⟩
        have HB2 := Aside0.mk (below_step HB1.out (HB.out.trans hb))
        clear hb
        go_wp2_with fail
        go_ret
        exact ⟨rfl, HB2.out⟩
theorem gantt_Draw.mono_go : ∀ l0 n c s k, LeO (gantt_Draw.go k l0 n c s) (gantt_Draw.go (k + 1) l0 n c s) := by
  intro l0 n
  induction n with
  | zero => intro c s k; exact LeO.refl _
  | succ n ih =>
    intro c s k
    unfold gantt_Draw.go
    exact LeO.bind (gantt_Core.mono _ _ _) (fun _ => LeO.ite (ih _ _ _) (LeO.refl _))
theorem gantt_Draw.mono : ∀ a0 a1 k, LeO (gantt_Draw.f k a0 a1) (gantt_Draw.f (k + 1) a0 a1) := fun _ _ _ => LeO.bind (gantt_Check.mono _ _ _) (fun _ => LeO.ite (LeO.ite (gantt_Draw.mono_go _ _ _ _ _) (LeO.refl _)) (LeO.refl _))
end

end Go.Proofs.Ytlblianpbjhmoaa.PGs
