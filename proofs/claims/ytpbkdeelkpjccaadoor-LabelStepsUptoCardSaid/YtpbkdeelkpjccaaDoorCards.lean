/-
  DERIVED. GIVEN WITH THE SEED: THE CARDS: each row of YtpbkdeelkpjccaaDoorRows.lean that lists a variable, with what it lists TIED to the program's text (the seventh form; the later family's looks); each row that meets fmt, with fmt's text TOLD by the authors' own Lean function (tested against real Go, not proved from fmt's source: count such statements apart). THE CARD IS WHAT COUNTS. Prove the row's statement (the work); the ties are given (YtpbkdeelkpjccaaDoorTie.lean); close each card by the builder's one call (the guide's Derived/Test/ToyasCard.lean, 'card_holds'). Laid BY PROGRAM, IN A SANDBOX (cutbox-door.mjs). By AI agents, Wed Nov 11 2026. No macro, syntax, notation, axiom, sorry.
-/
import Derived.Test.YtpbkdeelkpjccaaDoorRows
import GoSem.ClaimSeven
namespace Go.Proofs.YtpbkdeelkpjccaaDoor
namespace Rows

/-- THE TIED CARD OF 'grillelaw16.LabelSteps'. -/
def labelStepsCard : Claim7 := { stood := { row := labelStepsRow, standIns := [], harness := (true, "df0210cd88e98c371fca981e76d1b6b665f8aa8ca91ad945f61ef8549f452470"), looks := false }, kinds := [], alts := [], laidByText := true, laidKinds := [.data, .data, .data, .data, .pinned], laidTests := true, laidLooks := .later }
def LabelStepsCardSaid : Prop := Claim7.holds Tryd.pinned (.plain (OpenSpec.ofChange labelStepsSpec)) labelStepsCard

/-- THE TIED CARD OF 'grillelaw16.LabelTags'. -/
def labelTagsCard : Claim7 := { stood := { row := labelTagsRow, standIns := [], harness := (true, "df0210cd88e98c371fca981e76d1b6b665f8aa8ca91ad945f61ef8549f452470"), looks := false }, kinds := [], alts := [], laidByText := true, laidKinds := [.data, .data, .data, .data, .pinned], laidTests := true, laidLooks := .later }
def LabelTagsCardSaid : Prop := Claim7.holds Tryd.pinned (.plain (OpenSpec.ofChange labelTagsSpec)) labelTagsCard

/-- THE SECOND FORM's CARD OF 'grillelaw16.LabelSteps'. -/
def labelStepsUptoCard : Claim7 := { stood := { row := labelStepsUptoRow, standIns := [], harness := (true, "df0210cd88e98c371fca981e76d1b6b665f8aa8ca91ad945f61ef8549f452470"), looks := false }, kinds := [], alts := [], laidByText := true, laidKinds := [.data, .data, .data, .data, .pinned], laidTests := true, laidLooks := .later }
def LabelStepsUptoCardSaid : Prop := Claim7.holds Tryd.pinned (.plain (OpenSpec.upto labelStepsSpec)) labelStepsUptoCard

/-- THE SECOND FORM's CARD OF 'grillelaw16.LabelTags'. -/
def labelTagsUptoCard : Claim7 := { stood := { row := labelTagsUptoRow, standIns := [], harness := (true, "df0210cd88e98c371fca981e76d1b6b665f8aa8ca91ad945f61ef8549f452470"), looks := false }, kinds := [], alts := [], laidByText := true, laidKinds := [.data, .data, .data, .data, .pinned], laidTests := true, laidLooks := .later }
def LabelTagsUptoCardSaid : Prop := Claim7.holds Tryd.pinned (.plain (OpenSpec.upto labelTagsSpec)) labelTagsUptoCard
end Rows
end Go.Proofs.YtpbkdeelkpjccaaDoor
