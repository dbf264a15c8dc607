/-
  DERIVED. GIVEN WITH THE SEED: THE CARDS: each row of YthebhbomlllpeaaGreatDoorRows.lean that lists a variable, with what it lists TIED to the program's text (the seventh form; the later family's looks); each row that meets fmt, with fmt's text TOLD by the authors' own Lean function (tested against real Go, not proved from fmt's source: count such statements apart). THE CARD IS WHAT COUNTS. Prove the row's statement (the work); the ties are given (YthebhbomlllpeaaGreatDoorTie.lean); close each card by the builder's one call (the guide's Derived/Test/ToyasCard.lean, 'card_holds'). Laid BY PROGRAM, IN A SANDBOX (cutbox-door.mjs). By AI agents, Wed Nov 11 2026. No macro, syntax, notation, axiom, sorry.
-/
import Derived.Test.YthebhbomlllpeaaGreatDoorRows
import GoSem.ClaimSeven
namespace Go.Proofs.YthebhbomlllpeaaGreatDoor
namespace Rows

/-- THE TIED CARD OF 'antecedentlaw09.ShowTells'. -/
def showTellsCard : Claim7 := { stood := { row := showTellsRow, standIns := [], harness := (true, "e94cbe39de04dcd273b47be09377bd338d4d502ffd11734dc2765f955ee106b8"), looks := true }, kinds := [], alts := [], laidByText := true, laidKinds := [.data, .data, .data, .sentinel, .sentinel], laidTests := true, laidLooks := .later }
def ShowTellsCardSaid : Prop := Claim7.holds Tryz.pinned (.plain (OpenSpec.ofChange showTellsSpec)) showTellsCard

/-- THE TIED CARD OF 'antecedentlaw09.ShowPaths'. -/
def showPathsCard : Claim7 := { stood := { row := showPathsRow, standIns := [], harness := (true, "e94cbe39de04dcd273b47be09377bd338d4d502ffd11734dc2765f955ee106b8"), looks := true }, kinds := [], alts := [], laidByText := true, laidKinds := [.data, .data, .data, .sentinel, .sentinel], laidTests := true, laidLooks := .later }
def ShowPathsCardSaid : Prop := Claim7.holds Tryz.pinned (.plain (OpenSpec.ofChange showPathsSpec)) showPathsCard

/-- THE TIED CARD OF 'antecedentlaw08.ParseTells'. -/
def parseTellsCard : Claim7 := { stood := { row := parseTellsRow, standIns := [], harness := (true, "e94cbe39de04dcd273b47be09377bd338d4d502ffd11734dc2765f955ee106b8"), looks := true }, kinds := [], alts := [], laidByText := true, laidKinds := [.data, .data, .data, .sentinel, .sentinel], laidTests := true, laidLooks := .later }
def ParseTellsCardSaid : Prop := Claim7.holds Tryz.pinned (.plain (OpenSpec.ofChange parseTellsSpec)) parseTellsCard

/-- THE TIED CARD OF 'antecedentlaw08.ParseJoins'. -/
def parseJoinsCard : Claim7 := { stood := { row := parseJoinsRow, standIns := [], harness := (true, "e94cbe39de04dcd273b47be09377bd338d4d502ffd11734dc2765f955ee106b8"), looks := true }, kinds := [], alts := [], laidByText := true, laidKinds := [.data, .data, .data, .sentinel, .sentinel], laidTests := true, laidLooks := .later }
def ParseJoinsCardSaid : Prop := Claim7.holds Tryz.pinned (.plain (OpenSpec.ofChange parseJoinsSpec)) parseJoinsCard

/-- THE TIED CARD OF 'antecedentlaw08.ParseBlanks'. -/
def parseBlanksCard : Claim7 := { stood := { row := parseBlanksRow, standIns := [], harness := (true, "e94cbe39de04dcd273b47be09377bd338d4d502ffd11734dc2765f955ee106b8"), looks := true }, kinds := [], alts := [], laidByText := true, laidKinds := [.data, .data, .data, .sentinel, .sentinel], laidTests := true, laidLooks := .later }
def ParseBlanksCardSaid : Prop := Claim7.holds Tryz.pinned (.plain (OpenSpec.ofChange parseBlanksSpec)) parseBlanksCard

/-- THE TIED CARD OF 'antecedentlaw08.ParseFacts'. -/
def parseFactsCard : Claim7 := { stood := { row := parseFactsRow, standIns := [], harness := (true, "e94cbe39de04dcd273b47be09377bd338d4d502ffd11734dc2765f955ee106b8"), looks := true }, kinds := [], alts := [], laidByText := true, laidKinds := [.data, .data, .data, .sentinel, .sentinel], laidTests := true, laidLooks := .later }
def ParseFactsCardSaid : Prop := Claim7.holds Tryz.pinned (.plain (OpenSpec.ofChange parseFactsSpec)) parseFactsCard

/-- THE TIED CARD OF 'antecedentlaw08.ParsePaths'. -/
def parsePathsCard : Claim7 := { stood := { row := parsePathsRow, standIns := [], harness := (true, "e94cbe39de04dcd273b47be09377bd338d4d502ffd11734dc2765f955ee106b8"), looks := true }, kinds := [], alts := [], laidByText := true, laidKinds := [.data, .data, .data, .sentinel, .sentinel], laidTests := true, laidLooks := .later }
def ParsePathsCardSaid : Prop := Claim7.holds Tryz.pinned (.plain (OpenSpec.ofChange parsePathsSpec)) parsePathsCard

/-- THE TIED CARD OF 'antecedentlaw08.ParsePostfix'. -/
def parsePostfixCard : Claim7 := { stood := { row := parsePostfixRow, standIns := [], harness := (true, "e94cbe39de04dcd273b47be09377bd338d4d502ffd11734dc2765f955ee106b8"), looks := true }, kinds := [], alts := [], laidByText := true, laidKinds := [.data, .data, .data, .sentinel, .sentinel], laidTests := true, laidLooks := .later }
def ParsePostfixCardSaid : Prop := Claim7.holds Tryz.pinned (.plain (OpenSpec.ofChange parsePostfixSpec)) parsePostfixCard

/-- THE TIED CARD OF 'antecedentlaw08.ParseDeep'. -/
def parseDeepCard : Claim7 := { stood := { row := parseDeepRow, standIns := [], harness := (true, "e94cbe39de04dcd273b47be09377bd338d4d502ffd11734dc2765f955ee106b8"), looks := true }, kinds := [], alts := [], laidByText := true, laidKinds := [.data, .data, .data, .sentinel, .sentinel], laidTests := true, laidLooks := .later }
def ParseDeepCardSaid : Prop := Claim7.holds Tryz.pinned (.plain (OpenSpec.ofChange parseDeepSpec)) parseDeepCard

/-- THE TIED CARD OF 'antecedentlaw09.ShowSteps'. -/
def showStepsCard : Claim7 := { stood := { row := showStepsRow, standIns := [], harness := (true, "e94cbe39de04dcd273b47be09377bd338d4d502ffd11734dc2765f955ee106b8"), looks := true }, kinds := [], alts := [], laidByText := true, laidKinds := [.data, .data, .data, .sentinel, .sentinel], laidTests := true, laidLooks := .later }
def ShowStepsCardSaid : Prop := Claim7.holds Tryz.pinned (.plain (OpenSpec.ofChange showStepsSpec)) showStepsCard

/-- THE TIED CARD OF 'antecedentlaw09.ShowBack'. -/
def showBackCard : Claim7 := { stood := { row := showBackRow, standIns := [], harness := (true, "e94cbe39de04dcd273b47be09377bd338d4d502ffd11734dc2765f955ee106b8"), looks := true }, kinds := [], alts := [], laidByText := true, laidKinds := [.data, .data, .data, .sentinel, .sentinel], laidTests := true, laidLooks := .later }
def ShowBackCardSaid : Prop := Claim7.holds Tryz.pinned (.plain (OpenSpec.ofChange showBackSpec)) showBackCard

/-- THE TIED CARD OF 'antecedentlaw09.ShowAgain'. -/
def showAgainCard : Claim7 := { stood := { row := showAgainRow, standIns := [], harness := (true, "e94cbe39de04dcd273b47be09377bd338d4d502ffd11734dc2765f955ee106b8"), looks := true }, kinds := [], alts := [], laidByText := true, laidKinds := [.data, .data, .data, .sentinel, .sentinel], laidTests := true, laidLooks := .later }
def ShowAgainCardSaid : Prop := Claim7.holds Tryz.pinned (.plain (OpenSpec.ofChange showAgainSpec)) showAgainCard

/-- THE TIED CARD OF 'antecedentlaw09.ShowParts'. -/
def showPartsCard : Claim7 := { stood := { row := showPartsRow, standIns := [], harness := (true, "e94cbe39de04dcd273b47be09377bd338d4d502ffd11734dc2765f955ee106b8"), looks := true }, kinds := [], alts := [], laidByText := true, laidKinds := [.data, .data, .data, .sentinel, .sentinel], laidTests := true, laidLooks := .later }
def ShowPartsCardSaid : Prop := Claim7.holds Tryz.pinned (.plain (OpenSpec.ofChange showPartsSpec)) showPartsCard

/-- THE SECOND FORM's CARD OF 'antecedentlaw09.ShowTells'. -/
def showTellsUptoCard : Claim7 := { stood := { row := showTellsUptoRow, standIns := [], harness := (true, "e94cbe39de04dcd273b47be09377bd338d4d502ffd11734dc2765f955ee106b8"), looks := true }, kinds := [], alts := [], laidByText := true, laidKinds := [.data, .data, .data, .sentinel, .sentinel], laidTests := true, laidLooks := .later }
def ShowTellsUptoCardSaid : Prop := Claim7.holds Tryz.pinned (.plain (OpenSpec.upto showTellsSpec)) showTellsUptoCard

/-- THE SECOND FORM's CARD OF 'antecedentlaw09.ShowPaths'. -/
def showPathsUptoCard : Claim7 := { stood := { row := showPathsUptoRow, standIns := [], harness := (true, "e94cbe39de04dcd273b47be09377bd338d4d502ffd11734dc2765f955ee106b8"), looks := true }, kinds := [], alts := [], laidByText := true, laidKinds := [.data, .data, .data, .sentinel, .sentinel], laidTests := true, laidLooks := .later }
def ShowPathsUptoCardSaid : Prop := Claim7.holds Tryz.pinned (.plain (OpenSpec.upto showPathsSpec)) showPathsUptoCard

/-- THE SECOND FORM's CARD OF 'antecedentlaw08.ParseTells'. -/
def parseTellsUptoCard : Claim7 := { stood := { row := parseTellsUptoRow, standIns := [], harness := (true, "e94cbe39de04dcd273b47be09377bd338d4d502ffd11734dc2765f955ee106b8"), looks := true }, kinds := [], alts := [], laidByText := true, laidKinds := [.data, .data, .data, .sentinel, .sentinel], laidTests := true, laidLooks := .later }
def ParseTellsUptoCardSaid : Prop := Claim7.holds Tryz.pinned (.plain (OpenSpec.upto parseTellsSpec)) parseTellsUptoCard

/-- THE SECOND FORM's CARD OF 'antecedentlaw08.ParseJoins'. -/
def parseJoinsUptoCard : Claim7 := { stood := { row := parseJoinsUptoRow, standIns := [], harness := (true, "e94cbe39de04dcd273b47be09377bd338d4d502ffd11734dc2765f955ee106b8"), looks := true }, kinds := [], alts := [], laidByText := true, laidKinds := [.data, .data, .data, .sentinel, .sentinel], laidTests := true, laidLooks := .later }
def ParseJoinsUptoCardSaid : Prop := Claim7.holds Tryz.pinned (.plain (OpenSpec.upto parseJoinsSpec)) parseJoinsUptoCard

/-- THE SECOND FORM's CARD OF 'antecedentlaw08.ParseBlanks'. -/
def parseBlanksUptoCard : Claim7 := { stood := { row := parseBlanksUptoRow, standIns := [], harness := (true, "e94cbe39de04dcd273b47be09377bd338d4d502ffd11734dc2765f955ee106b8"), looks := true }, kinds := [], alts := [], laidByText := true, laidKinds := [.data, .data, .data, .sentinel, .sentinel], laidTests := true, laidLooks := .later }
def ParseBlanksUptoCardSaid : Prop := Claim7.holds Tryz.pinned (.plain (OpenSpec.upto parseBlanksSpec)) parseBlanksUptoCard

/-- THE SECOND FORM's CARD OF 'antecedentlaw08.ParseFacts'. -/
def parseFactsUptoCard : Claim7 := { stood := { row := parseFactsUptoRow, standIns := [], harness := (true, "e94cbe39de04dcd273b47be09377bd338d4d502ffd11734dc2765f955ee106b8"), looks := true }, kinds := [], alts := [], laidByText := true, laidKinds := [.data, .data, .data, .sentinel, .sentinel], laidTests := true, laidLooks := .later }
def ParseFactsUptoCardSaid : Prop := Claim7.holds Tryz.pinned (.plain (OpenSpec.upto parseFactsSpec)) parseFactsUptoCard

/-- THE SECOND FORM's CARD OF 'antecedentlaw08.ParsePaths'. -/
def parsePathsUptoCard : Claim7 := { stood := { row := parsePathsUptoRow, standIns := [], harness := (true, "e94cbe39de04dcd273b47be09377bd338d4d502ffd11734dc2765f955ee106b8"), looks := true }, kinds := [], alts := [], laidByText := true, laidKinds := [.data, .data, .data, .sentinel, .sentinel], laidTests := true, laidLooks := .later }
def ParsePathsUptoCardSaid : Prop := Claim7.holds Tryz.pinned (.plain (OpenSpec.upto parsePathsSpec)) parsePathsUptoCard

/-- THE SECOND FORM's CARD OF 'antecedentlaw08.ParsePostfix'. -/
def parsePostfixUptoCard : Claim7 := { stood := { row := parsePostfixUptoRow, standIns := [], harness := (true, "e94cbe39de04dcd273b47be09377bd338d4d502ffd11734dc2765f955ee106b8"), looks := true }, kinds := [], alts := [], laidByText := true, laidKinds := [.data, .data, .data, .sentinel, .sentinel], laidTests := true, laidLooks := .later }
def ParsePostfixUptoCardSaid : Prop := Claim7.holds Tryz.pinned (.plain (OpenSpec.upto parsePostfixSpec)) parsePostfixUptoCard

/-- THE SECOND FORM's CARD OF 'antecedentlaw08.ParseDeep'. -/
def parseDeepUptoCard : Claim7 := { stood := { row := parseDeepUptoRow, standIns := [], harness := (true, "e94cbe39de04dcd273b47be09377bd338d4d502ffd11734dc2765f955ee106b8"), looks := true }, kinds := [], alts := [], laidByText := true, laidKinds := [.data, .data, .data, .sentinel, .sentinel], laidTests := true, laidLooks := .later }
def ParseDeepUptoCardSaid : Prop := Claim7.holds Tryz.pinned (.plain (OpenSpec.upto parseDeepSpec)) parseDeepUptoCard

/-- THE SECOND FORM's CARD OF 'antecedentlaw09.ShowSteps'. -/
def showStepsUptoCard : Claim7 := { stood := { row := showStepsUptoRow, standIns := [], harness := (true, "e94cbe39de04dcd273b47be09377bd338d4d502ffd11734dc2765f955ee106b8"), looks := true }, kinds := [], alts := [], laidByText := true, laidKinds := [.data, .data, .data, .sentinel, .sentinel], laidTests := true, laidLooks := .later }
def ShowStepsUptoCardSaid : Prop := Claim7.holds Tryz.pinned (.plain (OpenSpec.upto showStepsSpec)) showStepsUptoCard

/-- THE SECOND FORM's CARD OF 'antecedentlaw09.ShowBack'. -/
def showBackUptoCard : Claim7 := { stood := { row := showBackUptoRow, standIns := [], harness := (true, "e94cbe39de04dcd273b47be09377bd338d4d502ffd11734dc2765f955ee106b8"), looks := true }, kinds := [], alts := [], laidByText := true, laidKinds := [.data, .data, .data, .sentinel, .sentinel], laidTests := true, laidLooks := .later }
def ShowBackUptoCardSaid : Prop := Claim7.holds Tryz.pinned (.plain (OpenSpec.upto showBackSpec)) showBackUptoCard

/-- THE SECOND FORM's CARD OF 'antecedentlaw09.ShowAgain'. -/
def showAgainUptoCard : Claim7 := { stood := { row := showAgainUptoRow, standIns := [], harness := (true, "e94cbe39de04dcd273b47be09377bd338d4d502ffd11734dc2765f955ee106b8"), looks := true }, kinds := [], alts := [], laidByText := true, laidKinds := [.data, .data, .data, .sentinel, .sentinel], laidTests := true, laidLooks := .later }
def ShowAgainUptoCardSaid : Prop := Claim7.holds Tryz.pinned (.plain (OpenSpec.upto showAgainSpec)) showAgainUptoCard

/-- THE SECOND FORM's CARD OF 'antecedentlaw09.ShowParts'. -/
def showPartsUptoCard : Claim7 := { stood := { row := showPartsUptoRow, standIns := [], harness := (true, "e94cbe39de04dcd273b47be09377bd338d4d502ffd11734dc2765f955ee106b8"), looks := true }, kinds := [], alts := [], laidByText := true, laidKinds := [.data, .data, .data, .sentinel, .sentinel], laidTests := true, laidLooks := .later }
def ShowPartsUptoCardSaid : Prop := Claim7.holds Tryz.pinned (.plain (OpenSpec.upto showPartsSpec)) showPartsUptoCard
end Rows
end Go.Proofs.YthebhbomlllpeaaGreatDoor
