/-
  DERIVED. GIVEN WITH THE SEED: THE CARDS: each row of YtepgdjbjcnolnaaDoorRows.lean that lists a variable, with what it lists TIED to the program's text (the seventh form; the later family's looks); each row that meets fmt, with fmt's text TOLD by the authors' own Lean function (tested against real Go, not proved from fmt's source: count such statements apart). THE CARD IS WHAT COUNTS. Prove the row's statement (the work); the ties are given (YtepgdjbjcnolnaaDoorTie.lean); close each card by the builder's one call (the guide's Derived/Test/ToyasCard.lean, 'card_holds'). Laid BY PROGRAM, IN A SANDBOX (cutbox-door.mjs). By AI agents, Wed Nov 11 2026. No macro, syntax, notation, axiom, sorry.
-/
import Derived.Test.YtepgdjbjcnolnaaDoorRows
import GoSem.ClaimSeven
namespace Go.Proofs.YtepgdjbjcnolnaaDoor
namespace Rows

/-- THE TIED CARD OF 'antecedentlaw03.TupleTells'. -/
def tupleTellsCard : Claim7 := { stood := { row := tupleTellsRow, standIns := [], harness := (true, "31ab2f67183b8f0349c3f48421142a81fc2dfa38fc11967269f31d459251665e"), looks := false }, kinds := [], alts := [], laidByText := true, laidKinds := [.data, .data, .data], laidTests := true, laidLooks := .later }
def TupleTellsCardSaid : Prop := Claim7.holds Tryd.pinned (.plain (OpenSpec.ofChange tupleTellsSpec)) tupleTellsCard

/-- THE TIED CARD OF 'antecedentlaw03.TupleCompares'. -/
def tupleComparesCard : Claim7 := { stood := { row := tupleComparesRow, standIns := [], harness := (true, "31ab2f67183b8f0349c3f48421142a81fc2dfa38fc11967269f31d459251665e"), looks := false }, kinds := [], alts := [], laidByText := true, laidKinds := [.data, .data, .data], laidTests := true, laidLooks := .later }
def TupleComparesCardSaid : Prop := Claim7.holds Tryd.pinned (.plain (OpenSpec.ofChange tupleComparesSpec)) tupleComparesCard

/-- THE TIED CARD OF 'antecedentlaw03.TupleOrder'. -/
def tupleOrderCard : Claim7 := { stood := { row := tupleOrderRow, standIns := [], harness := (true, "31ab2f67183b8f0349c3f48421142a81fc2dfa38fc11967269f31d459251665e"), looks := false }, kinds := [], alts := [], laidByText := true, laidKinds := [.data, .data, .data], laidTests := true, laidLooks := .later }
def TupleOrderCardSaid : Prop := Claim7.holds Tryd.pinned (.plain (OpenSpec.ofChange tupleOrderSpec)) tupleOrderCard

/-- THE TIED CARD OF 'antecedentlaw03.TupleBack'. -/
def tupleBackCard : Claim7 := { stood := { row := tupleBackRow, standIns := [], harness := (true, "31ab2f67183b8f0349c3f48421142a81fc2dfa38fc11967269f31d459251665e"), looks := false }, kinds := [], alts := [], laidByText := true, laidKinds := [.data, .data, .data], laidTests := true, laidLooks := .later }
def TupleBackCardSaid : Prop := Claim7.holds Tryd.pinned (.plain (OpenSpec.ofChange tupleBackSpec)) tupleBackCard

/-- THE TIED CARD OF 'antecedentlaw03.TupleHead'. -/
def tupleHeadCard : Claim7 := { stood := { row := tupleHeadRow, standIns := [], harness := (true, "31ab2f67183b8f0349c3f48421142a81fc2dfa38fc11967269f31d459251665e"), looks := false }, kinds := [], alts := [], laidByText := true, laidKinds := [.data, .data, .data], laidTests := true, laidLooks := .later }
def TupleHeadCardSaid : Prop := Claim7.holds Tryd.pinned (.plain (OpenSpec.ofChange tupleHeadSpec)) tupleHeadCard

/-- THE TIED CARD OF 'antecedentlaw03.TupleOwn'. -/
def tupleOwnCard : Claim7 := { stood := { row := tupleOwnRow, standIns := [], harness := (true, "31ab2f67183b8f0349c3f48421142a81fc2dfa38fc11967269f31d459251665e"), looks := false }, kinds := [], alts := [], laidByText := true, laidKinds := [.data, .data, .data], laidTests := true, laidLooks := .later }
def TupleOwnCardSaid : Prop := Claim7.holds Tryd.pinned (.plain (OpenSpec.ofChange tupleOwnSpec)) tupleOwnCard

/-- THE TIED CARD OF 'antecedentlaw03.TupleAhead'. -/
def tupleAheadCard : Claim7 := { stood := { row := tupleAheadRow, standIns := [], harness := (true, "31ab2f67183b8f0349c3f48421142a81fc2dfa38fc11967269f31d459251665e"), looks := false }, kinds := [], alts := [], laidByText := true, laidKinds := [.data, .data, .data], laidTests := true, laidLooks := .later }
def TupleAheadCardSaid : Prop := Claim7.holds Tryd.pinned (.plain (OpenSpec.ofChange tupleAheadSpec)) tupleAheadCard

/-- THE SECOND FORM's CARD OF 'antecedentlaw03.TupleTells'. -/
def tupleTellsUptoCard : Claim7 := { stood := { row := tupleTellsUptoRow, standIns := [], harness := (true, "31ab2f67183b8f0349c3f48421142a81fc2dfa38fc11967269f31d459251665e"), looks := false }, kinds := [], alts := [], laidByText := true, laidKinds := [.data, .data, .data], laidTests := true, laidLooks := .later }
def TupleTellsUptoCardSaid : Prop := Claim7.holds Tryd.pinned (.plain (OpenSpec.upto tupleTellsSpec)) tupleTellsUptoCard

/-- THE SECOND FORM's CARD OF 'antecedentlaw03.TupleCompares'. -/
def tupleComparesUptoCard : Claim7 := { stood := { row := tupleComparesUptoRow, standIns := [], harness := (true, "31ab2f67183b8f0349c3f48421142a81fc2dfa38fc11967269f31d459251665e"), looks := false }, kinds := [], alts := [], laidByText := true, laidKinds := [.data, .data, .data], laidTests := true, laidLooks := .later }
def TupleComparesUptoCardSaid : Prop := Claim7.holds Tryd.pinned (.plain (OpenSpec.upto tupleComparesSpec)) tupleComparesUptoCard

/-- THE SECOND FORM's CARD OF 'antecedentlaw03.TupleOrder'. -/
def tupleOrderUptoCard : Claim7 := { stood := { row := tupleOrderUptoRow, standIns := [], harness := (true, "31ab2f67183b8f0349c3f48421142a81fc2dfa38fc11967269f31d459251665e"), looks := false }, kinds := [], alts := [], laidByText := true, laidKinds := [.data, .data, .data], laidTests := true, laidLooks := .later }
def TupleOrderUptoCardSaid : Prop := Claim7.holds Tryd.pinned (.plain (OpenSpec.upto tupleOrderSpec)) tupleOrderUptoCard

/-- THE SECOND FORM's CARD OF 'antecedentlaw03.TupleBack'. -/
def tupleBackUptoCard : Claim7 := { stood := { row := tupleBackUptoRow, standIns := [], harness := (true, "31ab2f67183b8f0349c3f48421142a81fc2dfa38fc11967269f31d459251665e"), looks := false }, kinds := [], alts := [], laidByText := true, laidKinds := [.data, .data, .data], laidTests := true, laidLooks := .later }
def TupleBackUptoCardSaid : Prop := Claim7.holds Tryd.pinned (.plain (OpenSpec.upto tupleBackSpec)) tupleBackUptoCard

/-- THE SECOND FORM's CARD OF 'antecedentlaw03.TupleHead'. -/
def tupleHeadUptoCard : Claim7 := { stood := { row := tupleHeadUptoRow, standIns := [], harness := (true, "31ab2f67183b8f0349c3f48421142a81fc2dfa38fc11967269f31d459251665e"), looks := false }, kinds := [], alts := [], laidByText := true, laidKinds := [.data, .data, .data], laidTests := true, laidLooks := .later }
def TupleHeadUptoCardSaid : Prop := Claim7.holds Tryd.pinned (.plain (OpenSpec.upto tupleHeadSpec)) tupleHeadUptoCard

/-- THE SECOND FORM's CARD OF 'antecedentlaw03.TupleOwn'. -/
def tupleOwnUptoCard : Claim7 := { stood := { row := tupleOwnUptoRow, standIns := [], harness := (true, "31ab2f67183b8f0349c3f48421142a81fc2dfa38fc11967269f31d459251665e"), looks := false }, kinds := [], alts := [], laidByText := true, laidKinds := [.data, .data, .data], laidTests := true, laidLooks := .later }
def TupleOwnUptoCardSaid : Prop := Claim7.holds Tryd.pinned (.plain (OpenSpec.upto tupleOwnSpec)) tupleOwnUptoCard

/-- THE SECOND FORM's CARD OF 'antecedentlaw03.TupleAhead'. -/
def tupleAheadUptoCard : Claim7 := { stood := { row := tupleAheadUptoRow, standIns := [], harness := (true, "31ab2f67183b8f0349c3f48421142a81fc2dfa38fc11967269f31d459251665e"), looks := false }, kinds := [], alts := [], laidByText := true, laidKinds := [.data, .data, .data], laidTests := true, laidLooks := .later }
def TupleAheadUptoCardSaid : Prop := Claim7.holds Tryd.pinned (.plain (OpenSpec.upto tupleAheadSpec)) tupleAheadUptoCard
end Rows
end Go.Proofs.YtepgdjbjcnolnaaDoor
