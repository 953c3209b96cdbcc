/-
  DERIVED. GIVEN WITH THE SEED: THE CARDS: each row of YthieengihbbnpaaDoorRows.lean that lists a variable, with what it lists TIED to the program's text (the seventh form; the later family's looks); each row that meets fmt, with fmt's text TOLD by the authors' own Lean function (tested against real Go, not proved from fmt's source: count such statements apart). THE CARD IS WHAT COUNTS. Prove the row's statement (the work); the ties are given (YthieengihbbnpaaDoorTie.lean); close each card by the builder's one call (the guide's Derived/Test/ToyasCard.lean, 'card_holds'). Laid BY PROGRAM, IN A SANDBOX (cutbox-door.mjs). By AI agents, Wed Nov 11 2026. No macro, syntax, notation, axiom, sorry.
-/
import Derived.Test.YthieengihbbnpaaDoorRows
import GoSem.ClaimSeven
namespace Go.Proofs.YthieengihbbnpaaDoor
namespace Rows

/-- THE TIED CARD OF 'salchowlaw01.FractionDecimals'. -/
def fractionDecimalsCard : Claim7 := { stood := { row := fractionDecimalsRow, standIns := [], harness := (true, "638c4230035778b1a3f0df4bf77768a14f1a4d7e5330a9faba3ff430d1d42396"), looks := false }, kinds := [], alts := [], laidByText := true, laidKinds := [.data, .data, .data], laidTests := true, laidLooks := .later }
def FractionDecimalsCardSaid : Prop := Claim7.holds Tryd.pinned (.plain (OpenSpec.ofChange fractionDecimalsSpec)) fractionDecimalsCard

/-- THE TIED CARD OF 'salchowlaw01.FractionTexts'. -/
def fractionTextsCard : Claim7 := { stood := { row := fractionTextsRow, standIns := [], harness := (true, "638c4230035778b1a3f0df4bf77768a14f1a4d7e5330a9faba3ff430d1d42396"), looks := false }, kinds := [], alts := [], laidByText := true, laidKinds := [.data, .data, .data], laidTests := true, laidLooks := .later }
def FractionTextsCardSaid : Prop := Claim7.holds Tryd.pinned (.plain (OpenSpec.ofChange fractionTextsSpec)) fractionTextsCard

/-- THE TIED CARD OF 'salchowlaw01.FractionMuls'. -/
def fractionMulsCard : Claim7 := { stood := { row := fractionMulsRow, standIns := [], harness := (true, "638c4230035778b1a3f0df4bf77768a14f1a4d7e5330a9faba3ff430d1d42396"), looks := false }, kinds := [], alts := [], laidByText := true, laidKinds := [.data, .data, .data], laidTests := true, laidLooks := .later }
def FractionMulsCardSaid : Prop := Claim7.holds Tryd.pinned (.plain (OpenSpec.ofChange fractionMulsSpec)) fractionMulsCard

/-- THE TIED CARD OF 'salchowlaw01.FractionAdds'. -/
def fractionAddsCard : Claim7 := { stood := { row := fractionAddsRow, standIns := [], harness := (true, "638c4230035778b1a3f0df4bf77768a14f1a4d7e5330a9faba3ff430d1d42396"), looks := false }, kinds := [], alts := [], laidByText := true, laidKinds := [.data, .data, .data], laidTests := true, laidLooks := .later }
def FractionAddsCardSaid : Prop := Claim7.holds Tryd.pinned (.plain (OpenSpec.ofChange fractionAddsSpec)) fractionAddsCard

/-- THE TIED CARD OF 'salchowlaw01.FractionMakes'. -/
def fractionMakesCard : Claim7 := { stood := { row := fractionMakesRow, standIns := [], harness := (true, "638c4230035778b1a3f0df4bf77768a14f1a4d7e5330a9faba3ff430d1d42396"), looks := false }, kinds := [], alts := [], laidByText := true, laidKinds := [.data, .data, .data], laidTests := true, laidLooks := .later }
def FractionMakesCardSaid : Prop := Claim7.holds Tryd.pinned (.plain (OpenSpec.ofChange fractionMakesSpec)) fractionMakesCard

/-- THE TIED CARD OF 'salchowlaw01.FractionCompares'. -/
def fractionComparesCard : Claim7 := { stood := { row := fractionComparesRow, standIns := [], harness := (true, "638c4230035778b1a3f0df4bf77768a14f1a4d7e5330a9faba3ff430d1d42396"), looks := false }, kinds := [], alts := [], laidByText := true, laidKinds := [.data, .data, .data], laidTests := true, laidLooks := .later }
def FractionComparesCardSaid : Prop := Claim7.holds Tryd.pinned (.plain (OpenSpec.ofChange fractionComparesSpec)) fractionComparesCard

/-- THE TIED CARD OF 'salchowlaw01.FractionField'. -/
def fractionFieldCard : Claim7 := { stood := { row := fractionFieldRow, standIns := [], harness := (true, "638c4230035778b1a3f0df4bf77768a14f1a4d7e5330a9faba3ff430d1d42396"), looks := false }, kinds := [], alts := [], laidByText := true, laidKinds := [.data, .data, .data], laidTests := true, laidLooks := .later }
def FractionFieldCardSaid : Prop := Claim7.holds Tryd.pinned (.plain (OpenSpec.ofChange fractionFieldSpec)) fractionFieldCard

/-- THE TIED CARD OF 'salchowlaw01.FractionLists'. -/
def fractionListsCard : Claim7 := { stood := { row := fractionListsRow, standIns := [], harness := (true, "638c4230035778b1a3f0df4bf77768a14f1a4d7e5330a9faba3ff430d1d42396"), looks := false }, kinds := [], alts := [], laidByText := true, laidKinds := [.data, .data, .data], laidTests := true, laidLooks := .later }
def FractionListsCardSaid : Prop := Claim7.holds Tryd.pinned (.plain (OpenSpec.ofChange fractionListsSpec)) fractionListsCard

/-- THE TIED CARD OF 'salchowlaw01.FractionOrder'. -/
def fractionOrderCard : Claim7 := { stood := { row := fractionOrderRow, standIns := [], harness := (true, "638c4230035778b1a3f0df4bf77768a14f1a4d7e5330a9faba3ff430d1d42396"), looks := false }, kinds := [], alts := [], laidByText := true, laidKinds := [.data, .data, .data], laidTests := true, laidLooks := .later }
def FractionOrderCardSaid : Prop := Claim7.holds Tryd.pinned (.plain (OpenSpec.ofChange fractionOrderSpec)) fractionOrderCard

/-- THE SECOND FORM's CARD OF 'salchowlaw01.FractionDecimals'. -/
def fractionDecimalsUptoCard : Claim7 := { stood := { row := fractionDecimalsUptoRow, standIns := [], harness := (true, "638c4230035778b1a3f0df4bf77768a14f1a4d7e5330a9faba3ff430d1d42396"), looks := false }, kinds := [], alts := [], laidByText := true, laidKinds := [.data, .data, .data], laidTests := true, laidLooks := .later }
def FractionDecimalsUptoCardSaid : Prop := Claim7.holds Tryd.pinned (.plain (OpenSpec.upto fractionDecimalsSpec)) fractionDecimalsUptoCard

/-- THE SECOND FORM's CARD OF 'salchowlaw01.FractionTexts'. -/
def fractionTextsUptoCard : Claim7 := { stood := { row := fractionTextsUptoRow, standIns := [], harness := (true, "638c4230035778b1a3f0df4bf77768a14f1a4d7e5330a9faba3ff430d1d42396"), looks := false }, kinds := [], alts := [], laidByText := true, laidKinds := [.data, .data, .data], laidTests := true, laidLooks := .later }
def FractionTextsUptoCardSaid : Prop := Claim7.holds Tryd.pinned (.plain (OpenSpec.upto fractionTextsSpec)) fractionTextsUptoCard

/-- THE SECOND FORM's CARD OF 'salchowlaw01.FractionMuls'. -/
def fractionMulsUptoCard : Claim7 := { stood := { row := fractionMulsUptoRow, standIns := [], harness := (true, "638c4230035778b1a3f0df4bf77768a14f1a4d7e5330a9faba3ff430d1d42396"), looks := false }, kinds := [], alts := [], laidByText := true, laidKinds := [.data, .data, .data], laidTests := true, laidLooks := .later }
def FractionMulsUptoCardSaid : Prop := Claim7.holds Tryd.pinned (.plain (OpenSpec.upto fractionMulsSpec)) fractionMulsUptoCard

/-- THE SECOND FORM's CARD OF 'salchowlaw01.FractionAdds'. -/
def fractionAddsUptoCard : Claim7 := { stood := { row := fractionAddsUptoRow, standIns := [], harness := (true, "638c4230035778b1a3f0df4bf77768a14f1a4d7e5330a9faba3ff430d1d42396"), looks := false }, kinds := [], alts := [], laidByText := true, laidKinds := [.data, .data, .data], laidTests := true, laidLooks := .later }
def FractionAddsUptoCardSaid : Prop := Claim7.holds Tryd.pinned (.plain (OpenSpec.upto fractionAddsSpec)) fractionAddsUptoCard

/-- THE SECOND FORM's CARD OF 'salchowlaw01.FractionMakes'. -/
def fractionMakesUptoCard : Claim7 := { stood := { row := fractionMakesUptoRow, standIns := [], harness := (true, "638c4230035778b1a3f0df4bf77768a14f1a4d7e5330a9faba3ff430d1d42396"), looks := false }, kinds := [], alts := [], laidByText := true, laidKinds := [.data, .data, .data], laidTests := true, laidLooks := .later }
def FractionMakesUptoCardSaid : Prop := Claim7.holds Tryd.pinned (.plain (OpenSpec.upto fractionMakesSpec)) fractionMakesUptoCard

/-- THE SECOND FORM's CARD OF 'salchowlaw01.FractionCompares'. -/
def fractionComparesUptoCard : Claim7 := { stood := { row := fractionComparesUptoRow, standIns := [], harness := (true, "638c4230035778b1a3f0df4bf77768a14f1a4d7e5330a9faba3ff430d1d42396"), looks := false }, kinds := [], alts := [], laidByText := true, laidKinds := [.data, .data, .data], laidTests := true, laidLooks := .later }
def FractionComparesUptoCardSaid : Prop := Claim7.holds Tryd.pinned (.plain (OpenSpec.upto fractionComparesSpec)) fractionComparesUptoCard

/-- THE SECOND FORM's CARD OF 'salchowlaw01.FractionField'. -/
def fractionFieldUptoCard : Claim7 := { stood := { row := fractionFieldUptoRow, standIns := [], harness := (true, "638c4230035778b1a3f0df4bf77768a14f1a4d7e5330a9faba3ff430d1d42396"), looks := false }, kinds := [], alts := [], laidByText := true, laidKinds := [.data, .data, .data], laidTests := true, laidLooks := .later }
def FractionFieldUptoCardSaid : Prop := Claim7.holds Tryd.pinned (.plain (OpenSpec.upto fractionFieldSpec)) fractionFieldUptoCard

/-- THE SECOND FORM's CARD OF 'salchowlaw01.FractionLists'. -/
def fractionListsUptoCard : Claim7 := { stood := { row := fractionListsUptoRow, standIns := [], harness := (true, "638c4230035778b1a3f0df4bf77768a14f1a4d7e5330a9faba3ff430d1d42396"), looks := false }, kinds := [], alts := [], laidByText := true, laidKinds := [.data, .data, .data], laidTests := true, laidLooks := .later }
def FractionListsUptoCardSaid : Prop := Claim7.holds Tryd.pinned (.plain (OpenSpec.upto fractionListsSpec)) fractionListsUptoCard

/-- THE SECOND FORM's CARD OF 'salchowlaw01.FractionOrder'. -/
def fractionOrderUptoCard : Claim7 := { stood := { row := fractionOrderUptoRow, standIns := [], harness := (true, "638c4230035778b1a3f0df4bf77768a14f1a4d7e5330a9faba3ff430d1d42396"), looks := false }, kinds := [], alts := [], laidByText := true, laidKinds := [.data, .data, .data], laidTests := true, laidLooks := .later }
def FractionOrderUptoCardSaid : Prop := Claim7.holds Tryd.pinned (.plain (OpenSpec.upto fractionOrderSpec)) fractionOrderUptoCard
end Rows
end Go.Proofs.YthieengihbbnpaaDoor
