/- GanttReads: any bytes are read as a picture, or not, by the program as by the document. The walk of the law. -/
import Derived.Test.YtlblianpbjhmoaaQGRead
import Derived.Laws.IdiomStrings
import Derived.Test.YtlblianpbjhmoaaPGsx10
import Derived.Test.YtlblianpbjhmoaaPGsx51
import Derived.Test.YtlblianpbjhmoaaPGsx52
namespace Go.Proofs.Ytlblianpbjhmoaa.PureGanttReads
open Go.RowKit Go.Proofs.Ytlblianpbjhmoaa.PGs Go.Proofs.YtlblianpbjhmoaaW.PrintWords Go.Proofs.YtlblianpbjhmoaaW.PrintLast Go.Proofs.YtlblianpbjhmoaaW.PrintMore Go.Proofs.Ytlblianpbjhmoaa.MWords
open Go.Proofs.Ytlblianpbjhmoaa.QEv Go.Proofs.Ytlblianpbjhmoaa.QBits Go.Proofs.Ytlblianpbjhmoaa.GLetters Go.Proofs.Ytlblianpbjhmoaa.XLines Go.Proofs.Ytlblianpbjhmoaa.XGRead Go.Proofs.Ytlblianpbjhmoaa.QGRead
set_option linter.unusedVariables false
set_option linter.unusedSimpArgs false
-- regattalaw25_awake.calls regattaref25_Read.calls regattaref25_Same.calls

set_option maxHeartbeats 4000000 in
set_option maxRecDepth 100000 in
theorem reads_calls (s : ByteArray) (w : World) :
    Calls Try.prog 11 #[.string s] w fun e w' => e = .returned (.bool true) ∧ Below w.heap.size w w' := by
  go_enter Try.func11, Try.ntmps11
  go_upto_if 12 with (refine (regattalaw25_awake.calls 20 true _ (awake25 20 (Nat.le_refl _))).mono ?_; rintro e w1 ⟨rfl, hb⟩; have HB1 := Aside0.mk hb; clear hb)
  go_cut [0] (fun v0 wc => ∃ s1 : ByteArray, v0 = .string s1 ∧ s1.size ≤ 80 ∧ Aside0 (Below w.heap.size w wc))
  case first =>
    by_cases h80 : 80 < s.size
    · have d1 : decide (80 < (s.size : Int)) = true := decide_eq_true (by omega)
      go_wp2_with fail
      go_meet
      case rel => exact ⟨_, rfl, by rw [ByteArray.size_extract]; simp; omega, HB1⟩
    · have d1 : decide (80 < (s.size : Int)) = false := decide_eq_false (by omega)
      go_wp2_with fail
      go_meet
      case rel => exact ⟨_, rfl, by omega, HB1⟩
  case rest =>
    obtain ⟨s1, rfl, h80, HB2⟩ := hcut
    have HS := Aside0.mk h80
    have HZ := Aside0.mk (readR_size s1)
    clear h80 HB1
    obtain ⟨a, y, hay⟩ : ∃ a y, readR s1 = (a, y) := ⟨_, _, rfl⟩
    have HAY := Aside0.mk hay
    go_wp2_with fail
    refine (XGRead.read_calls s1 _ (by have := HS.out; omega)).mono ?_
    rw [hay] at HZ ⊢
    clear hay
    rintro e w3 ⟨v3, rfl, hR, hb⟩
    obtain ⟨A3, c3, rfl⟩ := Kd.R_slice hR
    have HR3 := Aside0.mk (Kd.R_reads' hR)
    have HB3 := Aside0.mk (below_step HB2.out hb)
    clear hb hR HB2
    go_wp2_with fail
    obtain ⟨k, hk⟩ := (read_t s1 (by have := HS.out; omega)).get
    rw [HAY.out] at hk
    refine (regattaref25_Read.calls k s1 a y _ hk).mono ?_
    clear hk
    rintro e w4 ⟨v4, rfl, hS, hb⟩
    obtain ⟨A4, c4, rfl⟩ := Kd.S_slice hS
    have HR4 := Aside0.mk (Kd.S_reads' hS)
    have HR5 := Aside0.mk (Kd.C_below HR3.out.2.2 hb)
    have HB4 := Aside0.mk (below_step HB3.out hb)
    clear hb hS HB3
    go_wp2_with fail
    obtain ⟨k, hk⟩ := (same_t a (by have := HZ.out.1; have := HS.out; omega) (fun l hl => by have := HZ.out.2 l hl; have := HS.out; omega)).get
    refine (regattaref25_Same.calls k A3 c3 a A4 c4 a true _ HR5.out HR3.out.2.1 HR4.out.2.2 HR4.out.2.1 hk).mono ?_
    clear hk
    rintro e w5 ⟨rfl, nd, rfl⟩
    have HB5 := Aside0.mk (pw_below_drewN HB4.out nd)
    go_wp2_with fail
    refine bodyPost_ret (results_tmp rfl _ _ _) rfl ⟨by simp, HB5.out⟩
end Go.Proofs.Ytlblianpbjhmoaa.PureGanttReads
