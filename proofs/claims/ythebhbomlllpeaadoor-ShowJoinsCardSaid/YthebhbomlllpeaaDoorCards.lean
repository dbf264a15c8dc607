/-
  DERIVED. GIVEN WITH THE SEED: THE CARDS: each row of YthebhbomlllpeaaDoorRows.lean that lists a variable, with what it lists TIED to the program's text (the seventh form; the later family's looks); each row that meets fmt, with fmt's text TOLD by the authors' own Lean function (tested against real Go, not proved from fmt's source: count such statements apart). THE CARD IS WHAT COUNTS. Prove the row's statement (the work); the ties are given (YthebhbomlllpeaaDoorTie.lean); close each card by the builder's one call (the guide's Derived/Test/ToyasCard.lean, 'card_holds'). Laid BY PROGRAM, IN A SANDBOX (cutbox-door.mjs). By AI agents, Wed Nov 11 2026. No macro, syntax, notation, axiom, sorry.
-/
import Derived.Test.YthebhbomlllpeaaDoorRows
import GoSem.ClaimSeven
namespace Go.Proofs.YthebhbomlllpeaaDoor
namespace Rows

/-- THE TIED CARD OF 'antecedentlaw07.LexTells'. -/
def lexTellsCard : Claim7 := { stood := { row := lexTellsRow, standIns := [], harness := (true, "f25aed777fb3eb56c966755a6e828e8362fe5c421c68cd50b6ac13f6d9b077f1"), looks := true }, kinds := [], alts := [], laidByText := true, laidKinds := [.data, .data, .data, .sentinel, .sentinel], laidTests := true, laidLooks := .later }
def LexTellsCardSaid : Prop := Claim7.holds Tryd.pinned (.plain (OpenSpec.ofChange lexTellsSpec)) lexTellsCard

/-- THE TIED CARD OF 'antecedentlaw07.LexAgain'. -/
def lexAgainCard : Claim7 := { stood := { row := lexAgainRow, standIns := [], harness := (true, "f25aed777fb3eb56c966755a6e828e8362fe5c421c68cd50b6ac13f6d9b077f1"), looks := true }, kinds := [], alts := [], laidByText := true, laidKinds := [.data, .data, .data, .sentinel, .sentinel], laidTests := true, laidLooks := .later }
def LexAgainCardSaid : Prop := Claim7.holds Tryd.pinned (.plain (OpenSpec.ofChange lexAgainSpec)) lexAgainCard

/-- THE TIED CARD OF 'antecedentlaw07.LexCovers'. -/
def lexCoversCard : Claim7 := { stood := { row := lexCoversRow, standIns := [], harness := (true, "f25aed777fb3eb56c966755a6e828e8362fe5c421c68cd50b6ac13f6d9b077f1"), looks := true }, kinds := [], alts := [], laidByText := true, laidKinds := [.data, .data, .data, .sentinel, .sentinel], laidTests := true, laidLooks := .later }
def LexCoversCardSaid : Prop := Claim7.holds Tryd.pinned (.plain (OpenSpec.ofChange lexCoversSpec)) lexCoversCard

/-- THE TIED CARD OF 'antecedentlaw07.LexKinds'. -/
def lexKindsCard : Claim7 := { stood := { row := lexKindsRow, standIns := [], harness := (true, "f25aed777fb3eb56c966755a6e828e8362fe5c421c68cd50b6ac13f6d9b077f1"), looks := true }, kinds := [], alts := [], laidByText := true, laidKinds := [.data, .data, .data, .sentinel, .sentinel], laidTests := true, laidLooks := .later }
def LexKindsCardSaid : Prop := Claim7.holds Tryd.pinned (.plain (OpenSpec.ofChange lexKindsSpec)) lexKindsCard

/-- THE TIED CARD OF 'antecedentlaw07.LexParts'. -/
def lexPartsCard : Claim7 := { stood := { row := lexPartsRow, standIns := [], harness := (true, "f25aed777fb3eb56c966755a6e828e8362fe5c421c68cd50b6ac13f6d9b077f1"), looks := true }, kinds := [], alts := [], laidByText := true, laidKinds := [.data, .data, .data, .sentinel, .sentinel], laidTests := true, laidLooks := .later }
def LexPartsCardSaid : Prop := Claim7.holds Tryd.pinned (.plain (OpenSpec.ofChange lexPartsSpec)) lexPartsCard

/-- THE TIED CARD OF 'antecedentlaw07.LexLonger'. -/
def lexLongerCard : Claim7 := { stood := { row := lexLongerRow, standIns := [], harness := (true, "f25aed777fb3eb56c966755a6e828e8362fe5c421c68cd50b6ac13f6d9b077f1"), looks := true }, kinds := [], alts := [], laidByText := true, laidKinds := [.data, .data, .data, .sentinel, .sentinel], laidTests := true, laidLooks := .later }
def LexLongerCardSaid : Prop := Claim7.holds Tryd.pinned (.plain (OpenSpec.ofChange lexLongerSpec)) lexLongerCard

/-- THE TIED CARD OF 'antecedentlaw09.ShowJoins'. -/
def showJoinsCard : Claim7 := { stood := { row := showJoinsRow, standIns := [], harness := (true, "f25aed777fb3eb56c966755a6e828e8362fe5c421c68cd50b6ac13f6d9b077f1"), looks := true }, kinds := [], alts := [], laidByText := true, laidKinds := [.data, .data, .data, .sentinel, .sentinel], laidTests := true, laidLooks := .later }
def ShowJoinsCardSaid : Prop := Claim7.holds Tryd.pinned (.plain (OpenSpec.ofChange showJoinsSpec)) showJoinsCard

/-- THE SECOND FORM's CARD OF 'antecedentlaw07.LexTells'. -/
def lexTellsUptoCard : Claim7 := { stood := { row := lexTellsUptoRow, standIns := [], harness := (true, "f25aed777fb3eb56c966755a6e828e8362fe5c421c68cd50b6ac13f6d9b077f1"), looks := true }, kinds := [], alts := [], laidByText := true, laidKinds := [.data, .data, .data, .sentinel, .sentinel], laidTests := true, laidLooks := .later }
def LexTellsUptoCardSaid : Prop := Claim7.holds Tryd.pinned (.plain (OpenSpec.upto lexTellsSpec)) lexTellsUptoCard

/-- THE SECOND FORM's CARD OF 'antecedentlaw07.LexAgain'. -/
def lexAgainUptoCard : Claim7 := { stood := { row := lexAgainUptoRow, standIns := [], harness := (true, "f25aed777fb3eb56c966755a6e828e8362fe5c421c68cd50b6ac13f6d9b077f1"), looks := true }, kinds := [], alts := [], laidByText := true, laidKinds := [.data, .data, .data, .sentinel, .sentinel], laidTests := true, laidLooks := .later }
def LexAgainUptoCardSaid : Prop := Claim7.holds Tryd.pinned (.plain (OpenSpec.upto lexAgainSpec)) lexAgainUptoCard

/-- THE SECOND FORM's CARD OF 'antecedentlaw07.LexCovers'. -/
def lexCoversUptoCard : Claim7 := { stood := { row := lexCoversUptoRow, standIns := [], harness := (true, "f25aed777fb3eb56c966755a6e828e8362fe5c421c68cd50b6ac13f6d9b077f1"), looks := true }, kinds := [], alts := [], laidByText := true, laidKinds := [.data, .data, .data, .sentinel, .sentinel], laidTests := true, laidLooks := .later }
def LexCoversUptoCardSaid : Prop := Claim7.holds Tryd.pinned (.plain (OpenSpec.upto lexCoversSpec)) lexCoversUptoCard

/-- THE SECOND FORM's CARD OF 'antecedentlaw07.LexKinds'. -/
def lexKindsUptoCard : Claim7 := { stood := { row := lexKindsUptoRow, standIns := [], harness := (true, "f25aed777fb3eb56c966755a6e828e8362fe5c421c68cd50b6ac13f6d9b077f1"), looks := true }, kinds := [], alts := [], laidByText := true, laidKinds := [.data, .data, .data, .sentinel, .sentinel], laidTests := true, laidLooks := .later }
def LexKindsUptoCardSaid : Prop := Claim7.holds Tryd.pinned (.plain (OpenSpec.upto lexKindsSpec)) lexKindsUptoCard

/-- THE SECOND FORM's CARD OF 'antecedentlaw07.LexParts'. -/
def lexPartsUptoCard : Claim7 := { stood := { row := lexPartsUptoRow, standIns := [], harness := (true, "f25aed777fb3eb56c966755a6e828e8362fe5c421c68cd50b6ac13f6d9b077f1"), looks := true }, kinds := [], alts := [], laidByText := true, laidKinds := [.data, .data, .data, .sentinel, .sentinel], laidTests := true, laidLooks := .later }
def LexPartsUptoCardSaid : Prop := Claim7.holds Tryd.pinned (.plain (OpenSpec.upto lexPartsSpec)) lexPartsUptoCard

/-- THE SECOND FORM's CARD OF 'antecedentlaw07.LexLonger'. -/
def lexLongerUptoCard : Claim7 := { stood := { row := lexLongerUptoRow, standIns := [], harness := (true, "f25aed777fb3eb56c966755a6e828e8362fe5c421c68cd50b6ac13f6d9b077f1"), looks := true }, kinds := [], alts := [], laidByText := true, laidKinds := [.data, .data, .data, .sentinel, .sentinel], laidTests := true, laidLooks := .later }
def LexLongerUptoCardSaid : Prop := Claim7.holds Tryd.pinned (.plain (OpenSpec.upto lexLongerSpec)) lexLongerUptoCard

/-- THE SECOND FORM's CARD OF 'antecedentlaw09.ShowJoins'. -/
def showJoinsUptoCard : Claim7 := { stood := { row := showJoinsUptoRow, standIns := [], harness := (true, "f25aed777fb3eb56c966755a6e828e8362fe5c421c68cd50b6ac13f6d9b077f1"), looks := true }, kinds := [], alts := [], laidByText := true, laidKinds := [.data, .data, .data, .sentinel, .sentinel], laidTests := true, laidLooks := .later }
def ShowJoinsUptoCardSaid : Prop := Claim7.holds Tryd.pinned (.plain (OpenSpec.upto showJoinsSpec)) showJoinsUptoCard
end Rows
end Go.Proofs.YthebhbomlllpeaaDoor
