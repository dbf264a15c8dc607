/-
  DERIVED. GIVEN WITH THE SEED: THE CARDS: each row of YtklpbdmmmloejaaDoorRows.lean that lists a variable, with what it lists TIED to the program's text (the seventh form; the later family's looks); each row that meets fmt, with fmt's text TOLD by the authors' own Lean function (tested against real Go, not proved from fmt's source: count such statements apart). THE CARD IS WHAT COUNTS. Prove the row's statement (the work); the ties are given (YtklpbdmmmloejaaDoorTie.lean); close each card by the builder's one call (the guide's Derived/Test/ToyasCard.lean, 'card_holds'). Laid BY PROGRAM, IN A SANDBOX (cutbox-door.mjs). By AI agents, Wed Nov 11 2026. No macro, syntax, notation, axiom, sorry.
-/
import Derived.Test.YtklpbdmmmloejaaDoorRows
import GoSem.ClaimSeven
namespace Go.Proofs.YtklpbdmmmloejaaDoor
namespace Rows

/-- THE TIED CARD OF 'antecedentlaw02.ValueTells'. -/
def valueTellsCard : Claim7 := { stood := { row := valueTellsRow, standIns := [], harness := (true, "5a2540720a004d01d1c89d8c810230e1cd741c4254e2be2eb61474d8fbbd9640"), looks := true }, kinds := [], alts := [], laidByText := true, laidKinds := [.data, .data, .data, .sentinel, .sentinel], laidTests := true, laidLooks := .later }
def ValueTellsCardSaid : Prop := Claim7.holds Tryd.pinned (.plain (OpenSpec.ofChange valueTellsSpec)) valueTellsCard

/-- THE TIED CARD OF 'antecedentlaw02.ValueReads'. -/
def valueReadsCard : Claim7 := { stood := { row := valueReadsRow, standIns := [], harness := (true, "5a2540720a004d01d1c89d8c810230e1cd741c4254e2be2eb61474d8fbbd9640"), looks := true }, kinds := [], alts := [], laidByText := true, laidKinds := [.data, .data, .data, .sentinel, .sentinel], laidTests := true, laidLooks := .later }
def ValueReadsCardSaid : Prop := Claim7.holds Tryd.pinned (.plain (OpenSpec.ofChange valueReadsSpec)) valueReadsCard

/-- THE TIED CARD OF 'antecedentlaw02.ValueBack'. -/
def valueBackCard : Claim7 := { stood := { row := valueBackRow, standIns := [], harness := (true, "5a2540720a004d01d1c89d8c810230e1cd741c4254e2be2eb61474d8fbbd9640"), looks := true }, kinds := [], alts := [], laidByText := true, laidKinds := [.data, .data, .data, .sentinel, .sentinel], laidTests := true, laidLooks := .later }
def ValueBackCardSaid : Prop := Claim7.holds Tryd.pinned (.plain (OpenSpec.ofChange valueBackSpec)) valueBackCard

/-- THE TIED CARD OF 'antecedentlaw02.ValueOrder'. -/
def valueOrderCard : Claim7 := { stood := { row := valueOrderRow, standIns := [], harness := (true, "5a2540720a004d01d1c89d8c810230e1cd741c4254e2be2eb61474d8fbbd9640"), looks := true }, kinds := [], alts := [], laidByText := true, laidKinds := [.data, .data, .data, .sentinel, .sentinel], laidTests := true, laidLooks := .later }
def ValueOrderCardSaid : Prop := Claim7.holds Tryd.pinned (.plain (OpenSpec.ofChange valueOrderSpec)) valueOrderCard

/-- THE TIED CARD OF 'antecedentlaw02.ValueUnlike'. -/
def valueUnlikeCard : Claim7 := { stood := { row := valueUnlikeRow, standIns := [], harness := (true, "5a2540720a004d01d1c89d8c810230e1cd741c4254e2be2eb61474d8fbbd9640"), looks := true }, kinds := [], alts := [], laidByText := true, laidKinds := [.data, .data, .data, .sentinel, .sentinel], laidTests := true, laidLooks := .later }
def ValueUnlikeCardSaid : Prop := Claim7.holds Tryd.pinned (.plain (OpenSpec.ofChange valueUnlikeSpec)) valueUnlikeCard

/-- THE TIED CARD OF 'antecedentlaw02.ValueNames'. -/
def valueNamesCard : Claim7 := { stood := { row := valueNamesRow, standIns := [], harness := (true, "5a2540720a004d01d1c89d8c810230e1cd741c4254e2be2eb61474d8fbbd9640"), looks := true }, kinds := [], alts := [], laidByText := true, laidKinds := [.data, .data, .data, .sentinel, .sentinel], laidTests := true, laidLooks := .later }
def ValueNamesCardSaid : Prop := Claim7.holds Tryd.pinned (.plain (OpenSpec.ofChange valueNamesSpec)) valueNamesCard

/-- THE TIED CARD OF 'antecedentlaw02.ValueDigits'. -/
def valueDigitsCard : Claim7 := { stood := { row := valueDigitsRow, standIns := [], harness := (true, "5a2540720a004d01d1c89d8c810230e1cd741c4254e2be2eb61474d8fbbd9640"), looks := true }, kinds := [], alts := [], laidByText := true, laidKinds := [.data, .data, .data, .sentinel, .sentinel], laidTests := true, laidLooks := .later }
def ValueDigitsCardSaid : Prop := Claim7.holds Tryd.pinned (.plain (OpenSpec.ofChange valueDigitsSpec)) valueDigitsCard

/-- THE SECOND FORM's CARD OF 'antecedentlaw02.ValueTells'. -/
def valueTellsUptoCard : Claim7 := { stood := { row := valueTellsUptoRow, standIns := [], harness := (true, "5a2540720a004d01d1c89d8c810230e1cd741c4254e2be2eb61474d8fbbd9640"), looks := true }, kinds := [], alts := [], laidByText := true, laidKinds := [.data, .data, .data, .sentinel, .sentinel], laidTests := true, laidLooks := .later }
def ValueTellsUptoCardSaid : Prop := Claim7.holds Tryd.pinned (.plain (OpenSpec.upto valueTellsSpec)) valueTellsUptoCard

/-- THE SECOND FORM's CARD OF 'antecedentlaw02.ValueReads'. -/
def valueReadsUptoCard : Claim7 := { stood := { row := valueReadsUptoRow, standIns := [], harness := (true, "5a2540720a004d01d1c89d8c810230e1cd741c4254e2be2eb61474d8fbbd9640"), looks := true }, kinds := [], alts := [], laidByText := true, laidKinds := [.data, .data, .data, .sentinel, .sentinel], laidTests := true, laidLooks := .later }
def ValueReadsUptoCardSaid : Prop := Claim7.holds Tryd.pinned (.plain (OpenSpec.upto valueReadsSpec)) valueReadsUptoCard

/-- THE SECOND FORM's CARD OF 'antecedentlaw02.ValueBack'. -/
def valueBackUptoCard : Claim7 := { stood := { row := valueBackUptoRow, standIns := [], harness := (true, "5a2540720a004d01d1c89d8c810230e1cd741c4254e2be2eb61474d8fbbd9640"), looks := true }, kinds := [], alts := [], laidByText := true, laidKinds := [.data, .data, .data, .sentinel, .sentinel], laidTests := true, laidLooks := .later }
def ValueBackUptoCardSaid : Prop := Claim7.holds Tryd.pinned (.plain (OpenSpec.upto valueBackSpec)) valueBackUptoCard

/-- THE SECOND FORM's CARD OF 'antecedentlaw02.ValueOrder'. -/
def valueOrderUptoCard : Claim7 := { stood := { row := valueOrderUptoRow, standIns := [], harness := (true, "5a2540720a004d01d1c89d8c810230e1cd741c4254e2be2eb61474d8fbbd9640"), looks := true }, kinds := [], alts := [], laidByText := true, laidKinds := [.data, .data, .data, .sentinel, .sentinel], laidTests := true, laidLooks := .later }
def ValueOrderUptoCardSaid : Prop := Claim7.holds Tryd.pinned (.plain (OpenSpec.upto valueOrderSpec)) valueOrderUptoCard

/-- THE SECOND FORM's CARD OF 'antecedentlaw02.ValueUnlike'. -/
def valueUnlikeUptoCard : Claim7 := { stood := { row := valueUnlikeUptoRow, standIns := [], harness := (true, "5a2540720a004d01d1c89d8c810230e1cd741c4254e2be2eb61474d8fbbd9640"), looks := true }, kinds := [], alts := [], laidByText := true, laidKinds := [.data, .data, .data, .sentinel, .sentinel], laidTests := true, laidLooks := .later }
def ValueUnlikeUptoCardSaid : Prop := Claim7.holds Tryd.pinned (.plain (OpenSpec.upto valueUnlikeSpec)) valueUnlikeUptoCard

/-- THE SECOND FORM's CARD OF 'antecedentlaw02.ValueNames'. -/
def valueNamesUptoCard : Claim7 := { stood := { row := valueNamesUptoRow, standIns := [], harness := (true, "5a2540720a004d01d1c89d8c810230e1cd741c4254e2be2eb61474d8fbbd9640"), looks := true }, kinds := [], alts := [], laidByText := true, laidKinds := [.data, .data, .data, .sentinel, .sentinel], laidTests := true, laidLooks := .later }
def ValueNamesUptoCardSaid : Prop := Claim7.holds Tryd.pinned (.plain (OpenSpec.upto valueNamesSpec)) valueNamesUptoCard

/-- THE SECOND FORM's CARD OF 'antecedentlaw02.ValueDigits'. -/
def valueDigitsUptoCard : Claim7 := { stood := { row := valueDigitsUptoRow, standIns := [], harness := (true, "5a2540720a004d01d1c89d8c810230e1cd741c4254e2be2eb61474d8fbbd9640"), looks := true }, kinds := [], alts := [], laidByText := true, laidKinds := [.data, .data, .data, .sentinel, .sentinel], laidTests := true, laidLooks := .later }
def ValueDigitsUptoCardSaid : Prop := Claim7.holds Tryd.pinned (.plain (OpenSpec.upto valueDigitsSpec)) valueDigitsUptoCard
end Rows
end Go.Proofs.YtklpbdmmmloejaaDoor
