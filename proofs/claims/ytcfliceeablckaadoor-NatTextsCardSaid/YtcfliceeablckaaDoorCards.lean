/-
  DERIVED. GIVEN WITH THE SEED: THE CARDS: each row of YtcfliceeablckaaDoorRows.lean that lists a variable, with what it lists TIED to the program's text (the seventh form; the later family's looks); each row that meets fmt, with fmt's text TOLD by the authors' own Lean function (tested against real Go, not proved from fmt's source: count such statements apart). THE CARD IS WHAT COUNTS. Prove the row's statement (the work); the ties are given (YtcfliceeablckaaDoorTie.lean); close each card by the builder's one call (the guide's Derived/Test/ToyasCard.lean, 'card_holds'). Laid BY PROGRAM, IN A SANDBOX (cutbox-door.mjs). By AI agents, Wed Nov 11 2026. No macro, syntax, notation, axiom, sorry.
-/
import Derived.Test.YtcfliceeablckaaDoorRows
import GoSem.ClaimSeven
namespace Go.Proofs.YtcfliceeablckaaDoor
namespace Rows

/-- THE TIED CARD OF 'regattalaw02.NatTexts'. -/
def natTextsCard : Claim7 := { stood := { row := natTextsRow, standIns := [], harness := (true, "a179025e341470167327e27f798dd73fc222b0709927cbbd2df440e848659f50"), looks := false }, kinds := [], alts := [], laidByText := true, laidKinds := [.data, .pinned], laidTests := true, laidLooks := .later }
def NatTextsCardSaid : Prop := Claim7.holds Tryd.pinned (.plain (OpenSpec.ofChange natTextsSpec)) natTextsCard

/-- THE TIED CARD OF 'regattalaw02.NatText'. -/
def natTextCard : Claim7 := { stood := { row := natTextRow, standIns := [], harness := (true, "a179025e341470167327e27f798dd73fc222b0709927cbbd2df440e848659f50"), looks := false }, kinds := [], alts := [], laidByText := true, laidKinds := [.data, .pinned], laidTests := true, laidLooks := .later }
def NatTextCardSaid : Prop := Claim7.holds Tryd.pinned (.plain (OpenSpec.ofChange natTextSpec)) natTextCard

/-- THE SECOND FORM's CARD OF 'regattalaw02.NatTexts'. -/
def natTextsUptoCard : Claim7 := { stood := { row := natTextsUptoRow, standIns := [], harness := (true, "a179025e341470167327e27f798dd73fc222b0709927cbbd2df440e848659f50"), looks := false }, kinds := [], alts := [], laidByText := true, laidKinds := [.data, .pinned], laidTests := true, laidLooks := .later }
def NatTextsUptoCardSaid : Prop := Claim7.holds Tryd.pinned (.plain (OpenSpec.upto natTextsSpec)) natTextsUptoCard

/-- THE SECOND FORM's CARD OF 'regattalaw02.NatText'. -/
def natTextUptoCard : Claim7 := { stood := { row := natTextUptoRow, standIns := [], harness := (true, "a179025e341470167327e27f798dd73fc222b0709927cbbd2df440e848659f50"), looks := false }, kinds := [], alts := [], laidByText := true, laidKinds := [.data, .pinned], laidTests := true, laidLooks := .later }
def NatTextUptoCardSaid : Prop := Claim7.holds Tryd.pinned (.plain (OpenSpec.upto natTextSpec)) natTextUptoCard
end Rows
end Go.Proofs.YtcfliceeablckaaDoor
