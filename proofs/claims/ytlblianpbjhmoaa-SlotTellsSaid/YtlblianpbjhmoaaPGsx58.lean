-- Written by wip/rprint.py of this session's repo (the kit's printer with patches), out of the translation. Not trusted: Lean checks it.
import Derived.Test.YtlblianpbjhmoaaPGsx0
namespace Go.Proofs.Ytlblianpbjhmoaa.PGs
open Go.RowKit Go.Proofs.YtlblianpbjhmoaaW.PrintWords Go.Proofs.YtlblianpbjhmoaaW.PrintLast Go.Proofs.YtlblianpbjhmoaaW.PrintMore Go.Proofs.Ytlblianpbjhmoaa.MWords
attribute [local go_sem] max2_int min2_int max_two min_two max_three min_three max_four min_four   -- for this text's walks alone
set_option linter.unusedVariables false
set_option linter.unusedSimpArgs false

def ok59 (x : S59) : Prop := (((Lit.int .i64 x.f0).wf = true)) ∧ (((Lit.int .i64 x.f1).wf = true)) ∧ (((Lit.int .i64 x.f2).wf = true))
open Go.Proofs.Ytlblianpbjhmoaa.MOpen in
theorem opens59 : Opens Try.prog 59 k59 ok59 := Opens.struct Try.underlying59 (Ts := [3, 3, 2]) (OpensL.iso (OpensL.cons (Opens.int Try.underlying3) (OpensL.cons (Opens.int Try.underlying3) (OpensL.one (Opens.int Try.underlying2)))) (fun x : S59 => (x.f0, (x.f1, x.f2))) (fun p => ⟨p.1, p.2.1, p.2.2⟩) (fun _ => rfl)) rfl (by kernel_rfl) (by kernel_rfl)
def ok57 (x : S57) : Prop := (((Lit.int .i64 x.f0).wf = true)) ∧ ((x.f1.length ≤ 9223372036854775807 ∧ ∀ y ∈ x.f1, ok59 y))
open Go.Proofs.Ytlblianpbjhmoaa.MOpen in
theorem opens57 : Opens Try.prog 57 k57 ok57 := Opens.struct Try.underlying57 (Ts := [2, 55]) (OpensL.iso (OpensL.cons (Opens.int Try.underlying2) (OpensL.one (Opens.slice Try.underlying55 (by kernel_rfl) opens59))) (fun x : S57 => (x.f0, x.f1)) (fun p => ⟨p.1, p.2⟩) (fun _ => rfl)) rfl (by kernel_rfl) (by kernel_rfl)
def ok24 (x : S24) : Prop := (((Lit.int .i64 x.f0).wf = true)) ∧ (((Lit.int .i64 x.f1).wf = true))
open Go.Proofs.Ytlblianpbjhmoaa.MOpen in
theorem opens24 : Opens Try.prog 24 k24 ok24 := Opens.array Try.underlying24 (Ts := [3, 3]) (OpensL.iso (OpensL.cons (Opens.int Try.underlying3) (OpensL.one (Opens.int Try.underlying3))) (fun x : S24 => (x.f0, x.f1)) (fun p => ⟨p.1, p.2⟩) (fun _ => rfl)) rfl (by kernel_rfl) (by kernel_rfl)
end Go.Proofs.Ytlblianpbjhmoaa.PGs
