-- Written by wip/rprint.py of this session's repo (the kit's printer with patches), out of the translation. Not trusted: Lean checks it.
import Derived.Test.YtcfliceeablckaaPNrx0
namespace Go.Proofs.Ytcfliceeablckaa.PNr
open Go.RowKit Go.Proofs.YtcfliceeablckaaW.PrintWords Go.Proofs.YtcfliceeablckaaW.PrintLast Go.Proofs.YtcfliceeablckaaW.PrintMore Go.Proofs.Ytcfliceeablckaa.MWords
attribute [local go_sem] max2_int min2_int max_two min_two max_three min_three max_four min_four   -- for this text's walks alone
set_option linter.unusedVariables false
set_option linter.unusedSimpArgs false

def ok40 (x : S40) : Prop := (((Lit.int .u32 x.f0).wf = true)) ∧ (((Lit.int .u32 x.f1).wf = true))
open Go.Proofs.Ytcfliceeablckaa.MOpen in
theorem opens40 : Opens Try.prog 40 k40 ok40 := Opens.array Try.underlying40 (Ts := [30, 30]) (OpensL.iso (OpensL.cons (Opens.int Try.underlying30) (OpensL.one (Opens.int Try.underlying30))) (fun x : S40 => (x.f0, x.f1)) (fun p => ⟨p.1, p.2⟩) (fun _ => rfl)) rfl (by kernel_rfl) (by kernel_rfl)
def ok55 (x : S55) : Prop := (((Lit.int .i64 x.f0).wf = true)) ∧ (((Lit.int .i64 x.f1).wf = true))
open Go.Proofs.Ytcfliceeablckaa.MOpen in
theorem opens55 : Opens Try.prog 55 k55 ok55 := Opens.array Try.underlying55 (Ts := [3, 3]) (OpensL.iso (OpensL.cons (Opens.int Try.underlying3) (OpensL.one (Opens.int Try.underlying3))) (fun x : S55 => (x.f0, x.f1)) (fun p => ⟨p.1, p.2⟩) (fun _ => rfl)) rfl (by kernel_rfl) (by kernel_rfl)
end Go.Proofs.Ytcfliceeablckaa.PNr
