/-
  No cell of these rows narrows 'for every input' (looked for: loops, veiled, ifaces, maps, wideKeys, modest, calm, conditions, laid).
  DERIVED. THE GIVEN ROWS OF THIS SEAT. 12 by the template 'for every input the law returns true; each argument reads behind the call as it read before'; 0 by the template 'total and deterministic' (their statements: YtfldklimlcnnnaaTotals.lean).
  GIVEN WITH THE SEED: the statements are not yours to turn. If you find one false, say at which input.
  Laid BY PROGRAM, IN A SANDBOX (cutbox-rows.mjs): the forced cells as the released guide's own fill.sh prints them over the translation 73008ef7476e5138… (all of the seat's roots in one cut). By AI agents, Wed Nov 11 2026. No macro, syntax, notation, axiom, sorry.
-/
import Derived.Test.YtfldklimlcnnnaaChecked
import GoSem.Claim
import GoSem.ClaimJoined
import GoSem.ClaimMapViews
import Derived.JoinedTies
import Derived.KernelRfl
namespace Go.Proofs.Ytfldklimlcnnnaa
/- THE CELL 'sum', in the pinned program and in every row, IS THE sha256 OF THE DUMP (.gsa) THAT YtfldklimlcnnnaaProg.lean LOADS. Nothing in Lean hashes anything: it is a label: what it is worth is what the hold of that sum in a sandbox is worth. -/
noncomputable def Try.pinned : Pinned := { name := "ytfldklimlcnnnaa", sum := "73008ef7476e5138f96def581be3d45b6a680cdd3e1fc4d8139ca3838d619ee6", checked := Try.checked }
namespace Rows
def none {H : Type} : Left H := { results := [], args := [] }

/-- 'regattalaw12.HoldJust': WHATEVER THE INPUT: true; the input reads as it did. -/
def holdJustSpec : ChangeSpec := { name := "holdJust", fn := fun _ => fun
  | [d1, d2, d3] => { results := [.lit (.bool true)], args := [d1, d2, d3] }
  | _ => none }
def holdJustRow : OpenClaim := { program := "ytfldklimlcnnnaa", sum := "73008ef7476e5138f96def581be3d45b6a680cdd3e1fc4d8139ca3838d619ee6", func := "regatta/regattalaw12.HoldJust", spec := "holdJust", unfollowed := true, recurses := true, apart := false }
def HoldJustSaid : Prop := holdJustRow.holds Try.pinned (OpenSpec.ofChange holdJustSpec)

/-- ITS FALSE NEIGHBOUR: 'it returns false'. Refute it at one input. -/
def holdJustWrong : ChangeSpec := { name := "holdJust", fn := fun _ => fun
  | [d1, d2, d3] => { results := [.lit (.bool false)], args := [d1, d2, d3] }
  | _ => none }
def HoldJustWrongFalsely : Prop := holdJustRow.holds Try.pinned (OpenSpec.ofChange holdJustWrong)

/-- 'regattalaw12.HoldLeft': WHATEVER THE INPUT: true; the input reads as it did. -/
def holdLeftSpec : ChangeSpec := { name := "holdLeft", fn := fun _ => fun
  | [d1, d2, d3] => { results := [.lit (.bool true)], args := [d1, d2, d3] }
  | _ => none }
def holdLeftRow : OpenClaim := { program := "ytfldklimlcnnnaa", sum := "73008ef7476e5138f96def581be3d45b6a680cdd3e1fc4d8139ca3838d619ee6", func := "regatta/regattalaw12.HoldLeft", spec := "holdLeft", unfollowed := true, recurses := true, apart := false }
def HoldLeftSaid : Prop := holdLeftRow.holds Try.pinned (OpenSpec.ofChange holdLeftSpec)

/-- ITS FALSE NEIGHBOUR: 'it returns false'. Refute it at one input. -/
def holdLeftWrong : ChangeSpec := { name := "holdLeft", fn := fun _ => fun
  | [d1, d2, d3] => { results := [.lit (.bool false)], args := [d1, d2, d3] }
  | _ => none }
def HoldLeftWrongFalsely : Prop := holdLeftRow.holds Try.pinned (OpenSpec.ofChange holdLeftWrong)

/-- 'regattalaw12.HoldNever': WHATEVER THE INPUT: true; the input reads as it did. -/
def holdNeverSpec : ChangeSpec := { name := "holdNever", fn := fun _ => fun
  | [d1, d2] => { results := [.lit (.bool true)], args := [d1, d2] }
  | _ => none }
def holdNeverRow : OpenClaim := { program := "ytfldklimlcnnnaa", sum := "73008ef7476e5138f96def581be3d45b6a680cdd3e1fc4d8139ca3838d619ee6", func := "regatta/regattalaw12.HoldNever", spec := "holdNever", unfollowed := true, recurses := true, apart := false }
def HoldNeverSaid : Prop := holdNeverRow.holds Try.pinned (OpenSpec.ofChange holdNeverSpec)

/-- ITS FALSE NEIGHBOUR: 'it returns false'. Refute it at one input. -/
def holdNeverWrong : ChangeSpec := { name := "holdNever", fn := fun _ => fun
  | [d1, d2] => { results := [.lit (.bool false)], args := [d1, d2] }
  | _ => none }
def HoldNeverWrongFalsely : Prop := holdNeverRow.holds Try.pinned (OpenSpec.ofChange holdNeverWrong)

/-- 'regattalaw12.HoldMax': WHATEVER THE INPUT: true; the input reads as it did. -/
def holdMaxSpec : ChangeSpec := { name := "holdMax", fn := fun _ => fun
  | [d1, d2, d3] => { results := [.lit (.bool true)], args := [d1, d2, d3] }
  | _ => none }
def holdMaxRow : OpenClaim := { program := "ytfldklimlcnnnaa", sum := "73008ef7476e5138f96def581be3d45b6a680cdd3e1fc4d8139ca3838d619ee6", func := "regatta/regattalaw12.HoldMax", spec := "holdMax", unfollowed := true, recurses := true, apart := false }
def HoldMaxSaid : Prop := holdMaxRow.holds Try.pinned (OpenSpec.ofChange holdMaxSpec)

/-- ITS FALSE NEIGHBOUR: 'it returns false'. Refute it at one input. -/
def holdMaxWrong : ChangeSpec := { name := "holdMax", fn := fun _ => fun
  | [d1, d2, d3] => { results := [.lit (.bool false)], args := [d1, d2, d3] }
  | _ => none }
def HoldMaxWrongFalsely : Prop := holdMaxRow.holds Try.pinned (OpenSpec.ofChange holdMaxWrong)

/-- 'regattalaw12.HoldPlays': WHATEVER THE INPUT: true; the input reads as it did. -/
def holdPlaysSpec : ChangeSpec := { name := "holdPlays", fn := fun _ => fun
  | [d1, d2] => { results := [.lit (.bool true)], args := [d1, d2] }
  | _ => none }
def holdPlaysRow : OpenClaim := { program := "ytfldklimlcnnnaa", sum := "73008ef7476e5138f96def581be3d45b6a680cdd3e1fc4d8139ca3838d619ee6", func := "regatta/regattalaw12.HoldPlays", spec := "holdPlays", unfollowed := true, recurses := true, apart := false }
def HoldPlaysSaid : Prop := holdPlaysRow.holds Try.pinned (OpenSpec.ofChange holdPlaysSpec)

/-- ITS FALSE NEIGHBOUR: 'it returns false'. Refute it at one input. -/
def holdPlaysWrong : ChangeSpec := { name := "holdPlays", fn := fun _ => fun
  | [d1, d2] => { results := [.lit (.bool false)], args := [d1, d2] }
  | _ => none }
def HoldPlaysWrongFalsely : Prop := holdPlaysRow.holds Try.pinned (OpenSpec.ofChange holdPlaysWrong)

/-- 'regattalaw12.HoldNil': WHATEVER THE INPUT: true; the input reads as it did. -/
def holdNilSpec : ChangeSpec := { name := "holdNil", fn := fun _ => fun
  | [d1, d2] => { results := [.lit (.bool true)], args := [d1, d2] }
  | _ => none }
def holdNilRow : OpenClaim := { program := "ytfldklimlcnnnaa", sum := "73008ef7476e5138f96def581be3d45b6a680cdd3e1fc4d8139ca3838d619ee6", func := "regatta/regattalaw12.HoldNil", spec := "holdNil", unfollowed := true, recurses := true, apart := false }
def HoldNilSaid : Prop := holdNilRow.holds Try.pinned (OpenSpec.ofChange holdNilSpec)

/-- ITS FALSE NEIGHBOUR: 'it returns false'. Refute it at one input. -/
def holdNilWrong : ChangeSpec := { name := "holdNil", fn := fun _ => fun
  | [d1, d2] => { results := [.lit (.bool false)], args := [d1, d2] }
  | _ => none }
def HoldNilWrongFalsely : Prop := holdNilRow.holds Try.pinned (OpenSpec.ofChange holdNilWrong)

/-- 'regattalaw13.QuotaPath': WHATEVER THE INPUT: true; the input reads as it did. -/
def quotaPathSpec : ChangeSpec := { name := "quotaPath", fn := fun _ => fun
  | [d1, d2] => { results := [.lit (.bool true)], args := [d1, d2] }
  | _ => none }
def quotaPathRow : OpenClaim := { program := "ytfldklimlcnnnaa", sum := "73008ef7476e5138f96def581be3d45b6a680cdd3e1fc4d8139ca3838d619ee6", func := "regatta/regattalaw13.QuotaPath", spec := "quotaPath", unfollowed := true, recurses := true, apart := false }
def QuotaPathSaid : Prop := quotaPathRow.holds Try.pinned (OpenSpec.ofChange quotaPathSpec)

/-- ITS FALSE NEIGHBOUR: 'it returns false'. Refute it at one input. -/
def quotaPathWrong : ChangeSpec := { name := "quotaPath", fn := fun _ => fun
  | [d1, d2] => { results := [.lit (.bool false)], args := [d1, d2] }
  | _ => none }
def QuotaPathWrongFalsely : Prop := quotaPathRow.holds Try.pinned (OpenSpec.ofChange quotaPathWrong)

/-- 'regattalaw13.QuotaSums': WHATEVER THE INPUT: true; the input reads as it did. -/
def quotaSumsSpec : ChangeSpec := { name := "quotaSums", fn := fun _ => fun
  | [d1, d2] => { results := [.lit (.bool true)], args := [d1, d2] }
  | _ => none }
def quotaSumsRow : OpenClaim := { program := "ytfldklimlcnnnaa", sum := "73008ef7476e5138f96def581be3d45b6a680cdd3e1fc4d8139ca3838d619ee6", func := "regatta/regattalaw13.QuotaSums", spec := "quotaSums", unfollowed := true, recurses := true, apart := false }
def QuotaSumsSaid : Prop := quotaSumsRow.holds Try.pinned (OpenSpec.ofChange quotaSumsSpec)

/-- ITS FALSE NEIGHBOUR: 'it returns false'. Refute it at one input. -/
def quotaSumsWrong : ChangeSpec := { name := "quotaSums", fn := fun _ => fun
  | [d1, d2] => { results := [.lit (.bool false)], args := [d1, d2] }
  | _ => none }
def QuotaSumsWrongFalsely : Prop := quotaSumsRow.holds Try.pinned (OpenSpec.ofChange quotaSumsWrong)

/-- 'regattalaw13.QuotaPlays': WHATEVER THE INPUT: true; the input reads as it did. -/
def quotaPlaysSpec : ChangeSpec := { name := "quotaPlays", fn := fun _ => fun
  | [d1, d2] => { results := [.lit (.bool true)], args := [d1, d2] }
  | _ => none }
def quotaPlaysRow : OpenClaim := { program := "ytfldklimlcnnnaa", sum := "73008ef7476e5138f96def581be3d45b6a680cdd3e1fc4d8139ca3838d619ee6", func := "regatta/regattalaw13.QuotaPlays", spec := "quotaPlays", unfollowed := true, recurses := true, apart := false }
def QuotaPlaysSaid : Prop := quotaPlaysRow.holds Try.pinned (OpenSpec.ofChange quotaPlaysSpec)

/-- ITS FALSE NEIGHBOUR: 'it returns false'. Refute it at one input. -/
def quotaPlaysWrong : ChangeSpec := { name := "quotaPlays", fn := fun _ => fun
  | [d1, d2] => { results := [.lit (.bool false)], args := [d1, d2] }
  | _ => none }
def QuotaPlaysWrongFalsely : Prop := quotaPlaysRow.holds Try.pinned (OpenSpec.ofChange quotaPlaysWrong)

/-- 'regattalaw13.QuotaNever': WHATEVER THE INPUT: true; the input reads as it did. -/
def quotaNeverSpec : ChangeSpec := { name := "quotaNever", fn := fun _ => fun
  | [d1, d2] => { results := [.lit (.bool true)], args := [d1, d2] }
  | _ => none }
def quotaNeverRow : OpenClaim := { program := "ytfldklimlcnnnaa", sum := "73008ef7476e5138f96def581be3d45b6a680cdd3e1fc4d8139ca3838d619ee6", func := "regatta/regattalaw13.QuotaNever", spec := "quotaNever", unfollowed := true, recurses := true, apart := false }
def QuotaNeverSaid : Prop := quotaNeverRow.holds Try.pinned (OpenSpec.ofChange quotaNeverSpec)

/-- ITS FALSE NEIGHBOUR: 'it returns false'. Refute it at one input. -/
def quotaNeverWrong : ChangeSpec := { name := "quotaNever", fn := fun _ => fun
  | [d1, d2] => { results := [.lit (.bool false)], args := [d1, d2] }
  | _ => none }
def QuotaNeverWrongFalsely : Prop := quotaNeverRow.holds Try.pinned (OpenSpec.ofChange quotaNeverWrong)

/-- 'regattalaw13.QuotaChecks': WHATEVER THE INPUT: true; the input reads as it did. -/
def quotaChecksSpec : ChangeSpec := { name := "quotaChecks", fn := fun _ => fun
  | [d1, d2] => { results := [.lit (.bool true)], args := [d1, d2] }
  | _ => none }
def quotaChecksRow : OpenClaim := { program := "ytfldklimlcnnnaa", sum := "73008ef7476e5138f96def581be3d45b6a680cdd3e1fc4d8139ca3838d619ee6", func := "regatta/regattalaw13.QuotaChecks", spec := "quotaChecks", unfollowed := true, recurses := true, apart := false }
def QuotaChecksSaid : Prop := quotaChecksRow.holds Try.pinned (OpenSpec.ofChange quotaChecksSpec)

/-- ITS FALSE NEIGHBOUR: 'it returns false'. Refute it at one input. -/
def quotaChecksWrong : ChangeSpec := { name := "quotaChecks", fn := fun _ => fun
  | [d1, d2] => { results := [.lit (.bool false)], args := [d1, d2] }
  | _ => none }
def QuotaChecksWrongFalsely : Prop := quotaChecksRow.holds Try.pinned (OpenSpec.ofChange quotaChecksWrong)

/-- 'regattalaw13.QuotaBack': WHATEVER THE INPUT: true; the input reads as it did. -/
def quotaBackSpec : ChangeSpec := { name := "quotaBack", fn := fun _ => fun
  | [d1, d2, d3] => { results := [.lit (.bool true)], args := [d1, d2, d3] }
  | _ => none }
def quotaBackRow : OpenClaim := { program := "ytfldklimlcnnnaa", sum := "73008ef7476e5138f96def581be3d45b6a680cdd3e1fc4d8139ca3838d619ee6", func := "regatta/regattalaw13.QuotaBack", spec := "quotaBack", unfollowed := true, recurses := true, apart := false }
def QuotaBackSaid : Prop := quotaBackRow.holds Try.pinned (OpenSpec.ofChange quotaBackSpec)

/-- ITS FALSE NEIGHBOUR: 'it returns false'. Refute it at one input. -/
def quotaBackWrong : ChangeSpec := { name := "quotaBack", fn := fun _ => fun
  | [d1, d2, d3] => { results := [.lit (.bool false)], args := [d1, d2, d3] }
  | _ => none }
def QuotaBackWrongFalsely : Prop := quotaBackRow.holds Try.pinned (OpenSpec.ofChange quotaBackWrong)

/- THE SECOND FORM. 'bulk': how many values and letters a reading holds, each counted each time it is reached (what is shared counts as often as it is met; a slice's spare places count too). A statement '..UptoSaid' is the law's where the arguments, and the package variables that the reading takes, are together of bulk at most 1048576: NARROWER than '..Said'. Prove '..Said' where nothing that the law and all that it calls make is longer than what came in: it says more and counts as full. Else prove '..UptoSaid'. A law counts once. -/
mutual
def uptoBulk {H : Type} : DataW H → Nat
  | .lit (.string bytes) => bytes.length + 1
  | .lit _ => 1
  | .nil => 1
  | .ptr d => uptoBulk d + 1
  | .slice elems spare => uptoBulkAll elems + uptoBulkAll spare + 1
  | .agg parts => uptoBulkAll parts + 1
  | .iface _ d => uptoBulk d + 1
  | .map entries => uptoBulkEntries entries + 1
  | .held _ => 1
def uptoBulkAll {H : Type} : List (DataW H) → Nat
  | [] => 0
  | d :: r => uptoBulk d + uptoBulkAll r
def uptoBulkEntries {H : Type} : List (Lit × DataW H) → Nat
  | [] => 0
  | x :: r => uptoBulkEntry x + uptoBulkEntries r
def uptoBulkEntry {H : Type} : Lit × DataW H → Nat
  | (.string bytes, d) => bytes.length + uptoBulk d + 1
  | (_, d) => uptoBulk d + 1
 end
def uptoSmall : (H : Type) → List (DataW H) → Bool := fun _ ds => decide (uptoBulkAll ds ≤ 1048576)
def OpenSpec.upto (s : _root_.Go.ChangeSpec) : _root_.Go.OpenSpec := { _root_.Go.OpenSpec.ofChange s with cond := some uptoSmall }

/-- 'regattalaw12.HoldJust', WHERE WHAT IT READS IS OF BULK AT MOST 1048576: true; the input reads as it did. -/
def holdJustUptoRow : OpenClaim := { program := "ytfldklimlcnnnaa", sum := "73008ef7476e5138f96def581be3d45b6a680cdd3e1fc4d8139ca3838d619ee6", func := "regatta/regattalaw12.HoldJust", spec := "holdJust", unfollowed := true, recurses := true, apart := false, narrowed := true }
def HoldJustUptoSaid : Prop := holdJustUptoRow.holds Try.pinned (OpenSpec.upto holdJustSpec)

/-- 'regattalaw12.HoldLeft', WHERE WHAT IT READS IS OF BULK AT MOST 1048576: true; the input reads as it did. -/
def holdLeftUptoRow : OpenClaim := { program := "ytfldklimlcnnnaa", sum := "73008ef7476e5138f96def581be3d45b6a680cdd3e1fc4d8139ca3838d619ee6", func := "regatta/regattalaw12.HoldLeft", spec := "holdLeft", unfollowed := true, recurses := true, apart := false, narrowed := true }
def HoldLeftUptoSaid : Prop := holdLeftUptoRow.holds Try.pinned (OpenSpec.upto holdLeftSpec)

/-- 'regattalaw12.HoldNever', WHERE WHAT IT READS IS OF BULK AT MOST 1048576: true; the input reads as it did. -/
def holdNeverUptoRow : OpenClaim := { program := "ytfldklimlcnnnaa", sum := "73008ef7476e5138f96def581be3d45b6a680cdd3e1fc4d8139ca3838d619ee6", func := "regatta/regattalaw12.HoldNever", spec := "holdNever", unfollowed := true, recurses := true, apart := false, narrowed := true }
def HoldNeverUptoSaid : Prop := holdNeverUptoRow.holds Try.pinned (OpenSpec.upto holdNeverSpec)

/-- 'regattalaw12.HoldMax', WHERE WHAT IT READS IS OF BULK AT MOST 1048576: true; the input reads as it did. -/
def holdMaxUptoRow : OpenClaim := { program := "ytfldklimlcnnnaa", sum := "73008ef7476e5138f96def581be3d45b6a680cdd3e1fc4d8139ca3838d619ee6", func := "regatta/regattalaw12.HoldMax", spec := "holdMax", unfollowed := true, recurses := true, apart := false, narrowed := true }
def HoldMaxUptoSaid : Prop := holdMaxUptoRow.holds Try.pinned (OpenSpec.upto holdMaxSpec)

/-- 'regattalaw12.HoldPlays', WHERE WHAT IT READS IS OF BULK AT MOST 1048576: true; the input reads as it did. -/
def holdPlaysUptoRow : OpenClaim := { program := "ytfldklimlcnnnaa", sum := "73008ef7476e5138f96def581be3d45b6a680cdd3e1fc4d8139ca3838d619ee6", func := "regatta/regattalaw12.HoldPlays", spec := "holdPlays", unfollowed := true, recurses := true, apart := false, narrowed := true }
def HoldPlaysUptoSaid : Prop := holdPlaysUptoRow.holds Try.pinned (OpenSpec.upto holdPlaysSpec)

/-- 'regattalaw12.HoldNil', WHERE WHAT IT READS IS OF BULK AT MOST 1048576: true; the input reads as it did. -/
def holdNilUptoRow : OpenClaim := { program := "ytfldklimlcnnnaa", sum := "73008ef7476e5138f96def581be3d45b6a680cdd3e1fc4d8139ca3838d619ee6", func := "regatta/regattalaw12.HoldNil", spec := "holdNil", unfollowed := true, recurses := true, apart := false, narrowed := true }
def HoldNilUptoSaid : Prop := holdNilUptoRow.holds Try.pinned (OpenSpec.upto holdNilSpec)

/-- 'regattalaw13.QuotaPath', WHERE WHAT IT READS IS OF BULK AT MOST 1048576: true; the input reads as it did. -/
def quotaPathUptoRow : OpenClaim := { program := "ytfldklimlcnnnaa", sum := "73008ef7476e5138f96def581be3d45b6a680cdd3e1fc4d8139ca3838d619ee6", func := "regatta/regattalaw13.QuotaPath", spec := "quotaPath", unfollowed := true, recurses := true, apart := false, narrowed := true }
def QuotaPathUptoSaid : Prop := quotaPathUptoRow.holds Try.pinned (OpenSpec.upto quotaPathSpec)

/-- 'regattalaw13.QuotaSums', WHERE WHAT IT READS IS OF BULK AT MOST 1048576: true; the input reads as it did. -/
def quotaSumsUptoRow : OpenClaim := { program := "ytfldklimlcnnnaa", sum := "73008ef7476e5138f96def581be3d45b6a680cdd3e1fc4d8139ca3838d619ee6", func := "regatta/regattalaw13.QuotaSums", spec := "quotaSums", unfollowed := true, recurses := true, apart := false, narrowed := true }
def QuotaSumsUptoSaid : Prop := quotaSumsUptoRow.holds Try.pinned (OpenSpec.upto quotaSumsSpec)

/-- 'regattalaw13.QuotaPlays', WHERE WHAT IT READS IS OF BULK AT MOST 1048576: true; the input reads as it did. -/
def quotaPlaysUptoRow : OpenClaim := { program := "ytfldklimlcnnnaa", sum := "73008ef7476e5138f96def581be3d45b6a680cdd3e1fc4d8139ca3838d619ee6", func := "regatta/regattalaw13.QuotaPlays", spec := "quotaPlays", unfollowed := true, recurses := true, apart := false, narrowed := true }
def QuotaPlaysUptoSaid : Prop := quotaPlaysUptoRow.holds Try.pinned (OpenSpec.upto quotaPlaysSpec)

/-- 'regattalaw13.QuotaNever', WHERE WHAT IT READS IS OF BULK AT MOST 1048576: true; the input reads as it did. -/
def quotaNeverUptoRow : OpenClaim := { program := "ytfldklimlcnnnaa", sum := "73008ef7476e5138f96def581be3d45b6a680cdd3e1fc4d8139ca3838d619ee6", func := "regatta/regattalaw13.QuotaNever", spec := "quotaNever", unfollowed := true, recurses := true, apart := false, narrowed := true }
def QuotaNeverUptoSaid : Prop := quotaNeverUptoRow.holds Try.pinned (OpenSpec.upto quotaNeverSpec)

/-- 'regattalaw13.QuotaChecks', WHERE WHAT IT READS IS OF BULK AT MOST 1048576: true; the input reads as it did. -/
def quotaChecksUptoRow : OpenClaim := { program := "ytfldklimlcnnnaa", sum := "73008ef7476e5138f96def581be3d45b6a680cdd3e1fc4d8139ca3838d619ee6", func := "regatta/regattalaw13.QuotaChecks", spec := "quotaChecks", unfollowed := true, recurses := true, apart := false, narrowed := true }
def QuotaChecksUptoSaid : Prop := quotaChecksUptoRow.holds Try.pinned (OpenSpec.upto quotaChecksSpec)

/-- 'regattalaw13.QuotaBack', WHERE WHAT IT READS IS OF BULK AT MOST 1048576: true; the input reads as it did. -/
def quotaBackUptoRow : OpenClaim := { program := "ytfldklimlcnnnaa", sum := "73008ef7476e5138f96def581be3d45b6a680cdd3e1fc4d8139ca3838d619ee6", func := "regatta/regattalaw13.QuotaBack", spec := "quotaBack", unfollowed := true, recurses := true, apart := false, narrowed := true }
def QuotaBackUptoSaid : Prop := quotaBackUptoRow.holds Try.pinned (OpenSpec.upto quotaBackSpec)

end Rows
end Go.Proofs.Ytfldklimlcnnnaa
