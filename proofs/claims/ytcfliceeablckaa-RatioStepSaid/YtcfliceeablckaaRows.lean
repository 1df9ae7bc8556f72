/-
  No cell of these rows narrows 'for every input' (looked for: loops, veiled, ifaces, maps, wideKeys, modest, calm, conditions, laid).
  DERIVED. THE GIVEN ROWS OF THIS SEAT. 10 by the template 'for every input the law returns true; each argument reads behind the call as it read before'; 0 by the template 'total and deterministic' (their statements: YtcfliceeablckaaTotals.lean).
  GIVEN WITH THE SEED: the statements are not yours to turn. If you find one false, say at which input.
  Laid BY PROGRAM, IN A SANDBOX (cutbox-rows.mjs): the forced cells as the released guide's own fill.sh prints them over the translation adb51078ae01b4f7… (all of the seat's roots in one cut). By AI agents, Wed Nov 11 2026. No macro, syntax, notation, axiom, sorry.
-/
import Derived.Test.YtcfliceeablckaaChecked
import GoSem.Claim
import GoSem.ClaimJoined
import GoSem.ClaimMapViews
import Derived.JoinedTies
import Derived.KernelRfl
namespace Go.Proofs.Ytcfliceeablckaa
/- THE CELL 'sum', in the pinned program and in every row, IS THE sha256 OF THE DUMP (.gsa) THAT YtcfliceeablckaaProg.lean LOADS. Nothing in Lean hashes anything: it is a label: what it is worth is what the hold of that sum in a sandbox is worth. -/
noncomputable def Try.pinned : Pinned := { name := "ytcfliceeablckaa", sum := "adb51078ae01b4f72d330f178062e8b439ba378dd039848bbf0ae3262931b836", checked := Try.checked }
namespace Rows
def none {H : Type} : Left H := { results := [], args := [] }

/-- 'regattalaw02.NatTurns': WHATEVER THE INPUT: true; the input reads as it did. -/
def natTurnsSpec : ChangeSpec := { name := "natTurns", fn := fun _ => fun
  | [d1, d2, d3] => { results := [.lit (.bool true)], args := [d1, d2, d3] }
  | _ => none }
def natTurnsRow : OpenClaim := { program := "ytcfliceeablckaa", sum := "adb51078ae01b4f72d330f178062e8b439ba378dd039848bbf0ae3262931b836", func := "regatta/regattalaw02.NatTurns", spec := "natTurns", unfollowed := true, recurses := true, apart := false }
def NatTurnsSaid : Prop := natTurnsRow.holds Try.pinned (OpenSpec.ofChange natTurnsSpec)

/-- ITS FALSE NEIGHBOUR: 'it returns false'. Refute it at one input. -/
def natTurnsWrong : ChangeSpec := { name := "natTurns", fn := fun _ => fun
  | [d1, d2, d3] => { results := [.lit (.bool false)], args := [d1, d2, d3] }
  | _ => none }
def NatTurnsWrongFalsely : Prop := natTurnsRow.holds Try.pinned (OpenSpec.ofChange natTurnsWrong)

/-- 'regattalaw02.NatOrder': WHATEVER THE INPUT: true; the input reads as it did. -/
def natOrderSpec : ChangeSpec := { name := "natOrder", fn := fun _ => fun
  | [d1, d2, d3] => { results := [.lit (.bool true)], args := [d1, d2, d3] }
  | _ => none }
def natOrderRow : OpenClaim := { program := "ytcfliceeablckaa", sum := "adb51078ae01b4f72d330f178062e8b439ba378dd039848bbf0ae3262931b836", func := "regatta/regattalaw02.NatOrder", spec := "natOrder", unfollowed := true, recurses := true, apart := false }
def NatOrderSaid : Prop := natOrderRow.holds Try.pinned (OpenSpec.ofChange natOrderSpec)

/-- ITS FALSE NEIGHBOUR: 'it returns false'. Refute it at one input. -/
def natOrderWrong : ChangeSpec := { name := "natOrder", fn := fun _ => fun
  | [d1, d2, d3] => { results := [.lit (.bool false)], args := [d1, d2, d3] }
  | _ => none }
def NatOrderWrongFalsely : Prop := natOrderRow.holds Try.pinned (OpenSpec.ofChange natOrderWrong)

/-- 'regattalaw02.NatSums': WHATEVER THE INPUT: true; the input reads as it did. -/
def natSumsSpec : ChangeSpec := { name := "natSums", fn := fun _ => fun
  | [d1, d2, d3] => { results := [.lit (.bool true)], args := [d1, d2, d3] }
  | _ => none }
def natSumsRow : OpenClaim := { program := "ytcfliceeablckaa", sum := "adb51078ae01b4f72d330f178062e8b439ba378dd039848bbf0ae3262931b836", func := "regatta/regattalaw02.NatSums", spec := "natSums", unfollowed := true, recurses := true, apart := false }
def NatSumsSaid : Prop := natSumsRow.holds Try.pinned (OpenSpec.ofChange natSumsSpec)

/-- ITS FALSE NEIGHBOUR: 'it returns false'. Refute it at one input. -/
def natSumsWrong : ChangeSpec := { name := "natSums", fn := fun _ => fun
  | [d1, d2, d3] => { results := [.lit (.bool false)], args := [d1, d2, d3] }
  | _ => none }
def NatSumsWrongFalsely : Prop := natSumsRow.holds Try.pinned (OpenSpec.ofChange natSumsWrong)

/-- 'regattalaw02.NatBack': WHATEVER THE INPUT: true; the input reads as it did. -/
def natBackSpec : ChangeSpec := { name := "natBack", fn := fun _ => fun
  | [d1, d2, d3] => { results := [.lit (.bool true)], args := [d1, d2, d3] }
  | _ => none }
def natBackRow : OpenClaim := { program := "ytcfliceeablckaa", sum := "adb51078ae01b4f72d330f178062e8b439ba378dd039848bbf0ae3262931b836", func := "regatta/regattalaw02.NatBack", spec := "natBack", unfollowed := true, recurses := true, apart := false }
def NatBackSaid : Prop := natBackRow.holds Try.pinned (OpenSpec.ofChange natBackSpec)

/-- ITS FALSE NEIGHBOUR: 'it returns false'. Refute it at one input. -/
def natBackWrong : ChangeSpec := { name := "natBack", fn := fun _ => fun
  | [d1, d2, d3] => { results := [.lit (.bool false)], args := [d1, d2, d3] }
  | _ => none }
def NatBackWrongFalsely : Prop := natBackRow.holds Try.pinned (OpenSpec.ofChange natBackWrong)

/-- 'regattalaw03.RatioLeast': WHATEVER THE INPUT: true; the input reads as it did. -/
def ratioLeastSpec : ChangeSpec := { name := "ratioLeast", fn := fun _ => fun
  | [d1, d2] => { results := [.lit (.bool true)], args := [d1, d2] }
  | _ => none }
def ratioLeastRow : OpenClaim := { program := "ytcfliceeablckaa", sum := "adb51078ae01b4f72d330f178062e8b439ba378dd039848bbf0ae3262931b836", func := "regatta/regattalaw03.RatioLeast", spec := "ratioLeast", unfollowed := true, recurses := true, apart := false }
def RatioLeastSaid : Prop := ratioLeastRow.holds Try.pinned (OpenSpec.ofChange ratioLeastSpec)

/-- ITS FALSE NEIGHBOUR: 'it returns false'. Refute it at one input. -/
def ratioLeastWrong : ChangeSpec := { name := "ratioLeast", fn := fun _ => fun
  | [d1, d2] => { results := [.lit (.bool false)], args := [d1, d2] }
  | _ => none }
def RatioLeastWrongFalsely : Prop := ratioLeastRow.holds Try.pinned (OpenSpec.ofChange ratioLeastWrong)

/-- 'regattalaw03.RatioChecks': WHATEVER THE INPUT: true; the input reads as it did. -/
def ratioChecksSpec : ChangeSpec := { name := "ratioChecks", fn := fun _ => fun
  | [d1, d2, d3] => { results := [.lit (.bool true)], args := [d1, d2, d3] }
  | _ => none }
def ratioChecksRow : OpenClaim := { program := "ytcfliceeablckaa", sum := "adb51078ae01b4f72d330f178062e8b439ba378dd039848bbf0ae3262931b836", func := "regatta/regattalaw03.RatioChecks", spec := "ratioChecks", unfollowed := true, recurses := true, apart := false }
def RatioChecksSaid : Prop := ratioChecksRow.holds Try.pinned (OpenSpec.ofChange ratioChecksSpec)

/-- ITS FALSE NEIGHBOUR: 'it returns false'. Refute it at one input. -/
def ratioChecksWrong : ChangeSpec := { name := "ratioChecks", fn := fun _ => fun
  | [d1, d2, d3] => { results := [.lit (.bool false)], args := [d1, d2, d3] }
  | _ => none }
def RatioChecksWrongFalsely : Prop := ratioChecksRow.holds Try.pinned (OpenSpec.ofChange ratioChecksWrong)

/-- 'regattalaw03.RatioWhole': WHATEVER THE INPUT: true; the input reads as it did. -/
def ratioWholeSpec : ChangeSpec := { name := "ratioWhole", fn := fun _ => fun
  | [d1, d2, d3] => { results := [.lit (.bool true)], args := [d1, d2, d3] }
  | _ => none }
def ratioWholeRow : OpenClaim := { program := "ytcfliceeablckaa", sum := "adb51078ae01b4f72d330f178062e8b439ba378dd039848bbf0ae3262931b836", func := "regatta/regattalaw03.RatioWhole", spec := "ratioWhole", unfollowed := true, recurses := true, apart := false }
def RatioWholeSaid : Prop := ratioWholeRow.holds Try.pinned (OpenSpec.ofChange ratioWholeSpec)

/-- ITS FALSE NEIGHBOUR: 'it returns false'. Refute it at one input. -/
def ratioWholeWrong : ChangeSpec := { name := "ratioWhole", fn := fun _ => fun
  | [d1, d2, d3] => { results := [.lit (.bool false)], args := [d1, d2, d3] }
  | _ => none }
def RatioWholeWrongFalsely : Prop := ratioWholeRow.holds Try.pinned (OpenSpec.ofChange ratioWholeWrong)

/-- 'regattalaw03.RatioSums': WHATEVER THE INPUT: true; the input reads as it did. -/
def ratioSumsSpec : ChangeSpec := { name := "ratioSums", fn := fun _ => fun
  | [d1, d2] => { results := [.lit (.bool true)], args := [d1, d2] }
  | _ => none }
def ratioSumsRow : OpenClaim := { program := "ytcfliceeablckaa", sum := "adb51078ae01b4f72d330f178062e8b439ba378dd039848bbf0ae3262931b836", func := "regatta/regattalaw03.RatioSums", spec := "ratioSums", unfollowed := true, recurses := true, apart := false }
def RatioSumsSaid : Prop := ratioSumsRow.holds Try.pinned (OpenSpec.ofChange ratioSumsSpec)

/-- ITS FALSE NEIGHBOUR: 'it returns false'. Refute it at one input. -/
def ratioSumsWrong : ChangeSpec := { name := "ratioSums", fn := fun _ => fun
  | [d1, d2] => { results := [.lit (.bool false)], args := [d1, d2] }
  | _ => none }
def RatioSumsWrongFalsely : Prop := ratioSumsRow.holds Try.pinned (OpenSpec.ofChange ratioSumsWrong)

/-- 'regattalaw03.RatioOrder': WHATEVER THE INPUT: true; the input reads as it did. -/
def ratioOrderSpec : ChangeSpec := { name := "ratioOrder", fn := fun _ => fun
  | [d1, d2] => { results := [.lit (.bool true)], args := [d1, d2] }
  | _ => none }
def ratioOrderRow : OpenClaim := { program := "ytcfliceeablckaa", sum := "adb51078ae01b4f72d330f178062e8b439ba378dd039848bbf0ae3262931b836", func := "regatta/regattalaw03.RatioOrder", spec := "ratioOrder", unfollowed := true, recurses := true, apart := false }
def RatioOrderSaid : Prop := ratioOrderRow.holds Try.pinned (OpenSpec.ofChange ratioOrderSpec)

/-- ITS FALSE NEIGHBOUR: 'it returns false'. Refute it at one input. -/
def ratioOrderWrong : ChangeSpec := { name := "ratioOrder", fn := fun _ => fun
  | [d1, d2] => { results := [.lit (.bool false)], args := [d1, d2] }
  | _ => none }
def RatioOrderWrongFalsely : Prop := ratioOrderRow.holds Try.pinned (OpenSpec.ofChange ratioOrderWrong)

/-- 'regattalaw03.RatioStep': WHATEVER THE INPUT: true; the input reads as it did. -/
def ratioStepSpec : ChangeSpec := { name := "ratioStep", fn := fun _ => fun
  | [d1, d2] => { results := [.lit (.bool true)], args := [d1, d2] }
  | _ => none }
def ratioStepRow : OpenClaim := { program := "ytcfliceeablckaa", sum := "adb51078ae01b4f72d330f178062e8b439ba378dd039848bbf0ae3262931b836", func := "regatta/regattalaw03.RatioStep", spec := "ratioStep", unfollowed := true, recurses := true, apart := false }
def RatioStepSaid : Prop := ratioStepRow.holds Try.pinned (OpenSpec.ofChange ratioStepSpec)

/-- ITS FALSE NEIGHBOUR: 'it returns false'. Refute it at one input. -/
def ratioStepWrong : ChangeSpec := { name := "ratioStep", fn := fun _ => fun
  | [d1, d2] => { results := [.lit (.bool false)], args := [d1, d2] }
  | _ => none }
def RatioStepWrongFalsely : Prop := ratioStepRow.holds Try.pinned (OpenSpec.ofChange ratioStepWrong)

/- THE SECOND FORM. 'bulk': how many values and letters a reading holds, each counted each time it is reached (what is shared counts as often as it is met; a slice's spare places count too). A statement '..UptoSaid' is the law's where the arguments, and the package variables that the reading takes, are together of bulk at most 1048576: NARROWER than '..Said'. Prove '..Said' where nothing that the law and all that it calls make is longer than what came in: it says more and counts as full. Else prove '..UptoSaid'. A law counts once. -/
mutual
def uptoBulk {H : Type} : DataW H → Nat
  | .lit (.string bytes) => bytes.length + 1
  | .lit _ => 1
  | .nil => 1
  | .ptr d => uptoBulk d + 1
  | .slice elems spare => uptoBulkAll elems + uptoBulkAll spare + 1
  | .agg parts => uptoBulkAll parts + 1
  | .iface _ d => uptoBulk d + 1
  | .map entries => uptoBulkEntries entries + 1
  | .held _ => 1
def uptoBulkAll {H : Type} : List (DataW H) → Nat
  | [] => 0
  | d :: r => uptoBulk d + uptoBulkAll r
def uptoBulkEntries {H : Type} : List (Lit × DataW H) → Nat
  | [] => 0
  | x :: r => uptoBulkEntry x + uptoBulkEntries r
def uptoBulkEntry {H : Type} : Lit × DataW H → Nat
  | (.string bytes, d) => bytes.length + uptoBulk d + 1
  | (_, d) => uptoBulk d + 1
 end
def uptoSmall : (H : Type) → List (DataW H) → Bool := fun _ ds => decide (uptoBulkAll ds ≤ 1048576)
def OpenSpec.upto (s : _root_.Go.ChangeSpec) : _root_.Go.OpenSpec := { _root_.Go.OpenSpec.ofChange s with cond := some uptoSmall }

/-- 'regattalaw02.NatTurns', WHERE WHAT IT READS IS OF BULK AT MOST 1048576: true; the input reads as it did. -/
def natTurnsUptoRow : OpenClaim := { program := "ytcfliceeablckaa", sum := "adb51078ae01b4f72d330f178062e8b439ba378dd039848bbf0ae3262931b836", func := "regatta/regattalaw02.NatTurns", spec := "natTurns", unfollowed := true, recurses := true, apart := false, narrowed := true }
def NatTurnsUptoSaid : Prop := natTurnsUptoRow.holds Try.pinned (OpenSpec.upto natTurnsSpec)

/-- 'regattalaw02.NatOrder', WHERE WHAT IT READS IS OF BULK AT MOST 1048576: true; the input reads as it did. -/
def natOrderUptoRow : OpenClaim := { program := "ytcfliceeablckaa", sum := "adb51078ae01b4f72d330f178062e8b439ba378dd039848bbf0ae3262931b836", func := "regatta/regattalaw02.NatOrder", spec := "natOrder", unfollowed := true, recurses := true, apart := false, narrowed := true }
def NatOrderUptoSaid : Prop := natOrderUptoRow.holds Try.pinned (OpenSpec.upto natOrderSpec)

/-- 'regattalaw02.NatSums', WHERE WHAT IT READS IS OF BULK AT MOST 1048576: true; the input reads as it did. -/
def natSumsUptoRow : OpenClaim := { program := "ytcfliceeablckaa", sum := "adb51078ae01b4f72d330f178062e8b439ba378dd039848bbf0ae3262931b836", func := "regatta/regattalaw02.NatSums", spec := "natSums", unfollowed := true, recurses := true, apart := false, narrowed := true }
def NatSumsUptoSaid : Prop := natSumsUptoRow.holds Try.pinned (OpenSpec.upto natSumsSpec)

/-- 'regattalaw02.NatBack', WHERE WHAT IT READS IS OF BULK AT MOST 1048576: true; the input reads as it did. -/
def natBackUptoRow : OpenClaim := { program := "ytcfliceeablckaa", sum := "adb51078ae01b4f72d330f178062e8b439ba378dd039848bbf0ae3262931b836", func := "regatta/regattalaw02.NatBack", spec := "natBack", unfollowed := true, recurses := true, apart := false, narrowed := true }
def NatBackUptoSaid : Prop := natBackUptoRow.holds Try.pinned (OpenSpec.upto natBackSpec)

/-- 'regattalaw03.RatioLeast', WHERE WHAT IT READS IS OF BULK AT MOST 1048576: true; the input reads as it did. -/
def ratioLeastUptoRow : OpenClaim := { program := "ytcfliceeablckaa", sum := "adb51078ae01b4f72d330f178062e8b439ba378dd039848bbf0ae3262931b836", func := "regatta/regattalaw03.RatioLeast", spec := "ratioLeast", unfollowed := true, recurses := true, apart := false, narrowed := true }
def RatioLeastUptoSaid : Prop := ratioLeastUptoRow.holds Try.pinned (OpenSpec.upto ratioLeastSpec)

/-- 'regattalaw03.RatioChecks', WHERE WHAT IT READS IS OF BULK AT MOST 1048576: true; the input reads as it did. -/
def ratioChecksUptoRow : OpenClaim := { program := "ytcfliceeablckaa", sum := "adb51078ae01b4f72d330f178062e8b439ba378dd039848bbf0ae3262931b836", func := "regatta/regattalaw03.RatioChecks", spec := "ratioChecks", unfollowed := true, recurses := true, apart := false, narrowed := true }
def RatioChecksUptoSaid : Prop := ratioChecksUptoRow.holds Try.pinned (OpenSpec.upto ratioChecksSpec)

/-- 'regattalaw03.RatioWhole', WHERE WHAT IT READS IS OF BULK AT MOST 1048576: true; the input reads as it did. -/
def ratioWholeUptoRow : OpenClaim := { program := "ytcfliceeablckaa", sum := "adb51078ae01b4f72d330f178062e8b439ba378dd039848bbf0ae3262931b836", func := "regatta/regattalaw03.RatioWhole", spec := "ratioWhole", unfollowed := true, recurses := true, apart := false, narrowed := true }
def RatioWholeUptoSaid : Prop := ratioWholeUptoRow.holds Try.pinned (OpenSpec.upto ratioWholeSpec)

/-- 'regattalaw03.RatioSums', WHERE WHAT IT READS IS OF BULK AT MOST 1048576: true; the input reads as it did. -/
def ratioSumsUptoRow : OpenClaim := { program := "ytcfliceeablckaa", sum := "adb51078ae01b4f72d330f178062e8b439ba378dd039848bbf0ae3262931b836", func := "regatta/regattalaw03.RatioSums", spec := "ratioSums", unfollowed := true, recurses := true, apart := false, narrowed := true }
def RatioSumsUptoSaid : Prop := ratioSumsUptoRow.holds Try.pinned (OpenSpec.upto ratioSumsSpec)

/-- 'regattalaw03.RatioOrder', WHERE WHAT IT READS IS OF BULK AT MOST 1048576: true; the input reads as it did. -/
def ratioOrderUptoRow : OpenClaim := { program := "ytcfliceeablckaa", sum := "adb51078ae01b4f72d330f178062e8b439ba378dd039848bbf0ae3262931b836", func := "regatta/regattalaw03.RatioOrder", spec := "ratioOrder", unfollowed := true, recurses := true, apart := false, narrowed := true }
def RatioOrderUptoSaid : Prop := ratioOrderUptoRow.holds Try.pinned (OpenSpec.upto ratioOrderSpec)

/-- 'regattalaw03.RatioStep', WHERE WHAT IT READS IS OF BULK AT MOST 1048576: true; the input reads as it did. -/
def ratioStepUptoRow : OpenClaim := { program := "ytcfliceeablckaa", sum := "adb51078ae01b4f72d330f178062e8b439ba378dd039848bbf0ae3262931b836", func := "regatta/regattalaw03.RatioStep", spec := "ratioStep", unfollowed := true, recurses := true, apart := false, narrowed := true }
def RatioStepUptoSaid : Prop := ratioStepUptoRow.holds Try.pinned (OpenSpec.upto ratioStepSpec)

end Rows
end Go.Proofs.Ytcfliceeablckaa
