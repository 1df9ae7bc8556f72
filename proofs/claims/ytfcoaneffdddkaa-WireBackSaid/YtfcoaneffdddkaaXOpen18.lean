/- How a command is opened. -/
import Derived.Test.YtfcoaneffdddkaaMOpen
import Derived.Test.YtfcoaneffdddkaaQWireGood

namespace Go.Proofs.Ytfcoaneffdddkaa.XOpen18
open Go.RowKit Go.Proofs.Ytfcoaneffdddkaa.PWt Go.Proofs.YtfcoaneffdddkaaW.PrintWords Go.Proofs.YtfcoaneffdddkaaW.PrintLast Go.Proofs.Ytfcoaneffdddkaa.MOpen Go.Proofs.Ytfcoaneffdddkaa.QWireGood
def okPart (x : S67) : Prop := (Lit.int .i64 x.f0).wf = true ∧ (Lit.int .i64 x.f1).wf = true
def okWeight (x : S28) : Prop := (Lit.int .i64 x.f0).wf = true ∧ (Lit.int .i64 x.f1).wf = true
theorem opensPart : Opens Try.prog 67 k67 okPart := Opens.struct Try.underlying67 (Ts := [2, 2]) (OpensL.iso (OpensL.cons (Opens.int Try.underlying2) (OpensL.one (Opens.int Try.underlying2))) (fun x : S67 => (x.f0, x.f1)) (fun p => ⟨p.1, p.2⟩) (fun _ => rfl)) rfl (by kernel_rfl) (by kernel_rfl)
theorem opensWeight : Opens Try.prog 28 k28 okWeight := Opens.struct Try.underlying28 (Ts := [2, 2]) (OpensL.iso (OpensL.cons (Opens.int Try.underlying2) (OpensL.one (Opens.int Try.underlying2))) (fun x : S28 => (x.f0, x.f1)) (fun p => ⟨p.1, p.2⟩) (fun _ => rfl)) rfl (by kernel_rfl) (by kernel_rfl)
def okCmd (x : S31) : Prop := (Lit.int .i64 x.f0).wf = true ∧ (Lit.int .i64 x.f1).wf = true ∧ (Lit.int .i64 x.f2).wf = true ∧ (Lit.int .i64 x.f3).wf = true ∧ (Lit.int .i64 x.f4).wf = true ∧ okWeight x.f5 ∧ True ∧ (x.f7.length ≤ 9223372036854775807 ∧ ∀ y ∈ x.f7, okPart y)
theorem opensCmd : Opens Try.prog 31 k31 okCmd := Opens.struct Try.underlying31 (Ts := [3, 3, 3, 3, 3, 28, 4, 29])
  (OpensL.iso (OpensL.cons (Opens.int Try.underlying3) (OpensL.cons (Opens.int Try.underlying3) (OpensL.cons (Opens.int Try.underlying3) (OpensL.cons (Opens.int Try.underlying3) (OpensL.cons (Opens.int Try.underlying3) (OpensL.cons opensWeight (OpensL.cons (Opens.bool Try.underlying4) (OpensL.one (Opens.slice Try.underlying29 (by kernel_rfl) opensPart))))))))) (fun x : S31 => (x.f0, (x.f1, (x.f2, (x.f3, (x.f4, (x.f5, (x.f6, x.f7)))))))) (fun p => ⟨p.1, p.2.1, p.2.2.1, p.2.2.2.1, p.2.2.2.2.1, p.2.2.2.2.2.1, p.2.2.2.2.2.2.1, p.2.2.2.2.2.2.2⟩) (fun _ => rfl)) rfl (by kernel_rfl) (by kernel_rfl)
theorem okCmd_wf {x : S31} (h : okCmd x) : Wf x := by
  have h2 := h.2.2.1
  simp [Lit.wf, IntKind.min, IntKind.max, IntKind.signed, IntKind.bits] at h2
  unfold Wf
  omega
end Go.Proofs.Ytfcoaneffdddkaa.XOpen18
