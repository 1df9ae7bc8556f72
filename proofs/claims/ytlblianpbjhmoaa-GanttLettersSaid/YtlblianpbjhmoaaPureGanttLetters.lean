import Derived.Test.YtlblianpbjhmoaaGLetters
import Derived.Test.YtlblianpbjhmoaaPGsx9
namespace Go.Proofs.Ytlblianpbjhmoaa.Pure
open Go.RowKit Go.Proofs.Ytlblianpbjhmoaa.PGs Go.Proofs.YtlblianpbjhmoaaW.PrintWords Go.Proofs.YtlblianpbjhmoaaW.PrintLast
open Go.Proofs.Ytlblianpbjhmoaa.GLetters Go.Proofs.Ytlblianpbjhmoaa.QBits

theorem GanttLetters : regattalaw25_GanttLetters.Pure := by
  intro a0 a1 w0 w1
  refine ⟨20, ?_⟩
  unfold regattalaw25_GanttLetters.f
  have hx0 := Int.emod_nonneg a0 (show (64 : Int) ≠ 0 by decide)
  have hx1 := Int.emod_lt_of_pos a0 (show (0 : Int) < 64 by decide)
  have hy0 := Int.emod_nonneg a1 (show (64 : Int) ≠ 0 by decide)
  have hy1 := Int.emod_lt_of_pos a1 (show (0 : Int) < 64 by decide)
  rw [awake25 20 (by omega), and63, and63]
  generalize a0 % 64 = x at *
  generalize a1 % 64 = y at *
  simp only [Option.bind_some, if_true, letter_f, id_f]
  rw [if_pos (place_letter x hx0 hx1), if_pos (by rw [letter_inj x y hx0 hx1 hy0 hy1]; simp), w64 (by omega) (by omega), if_pos (letter_out _ (by omega)), w64 (by omega) (by omega), if_pos (letter_out _ (by omega)), if_pos (by kernel_rfl)]
  simp [letter_ne]
end Go.Proofs.Ytlblianpbjhmoaa.Pure
