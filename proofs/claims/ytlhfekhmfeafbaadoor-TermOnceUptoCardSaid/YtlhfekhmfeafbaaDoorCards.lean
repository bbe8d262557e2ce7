/-
  DERIVED. GIVEN WITH THE SEED: THE CARDS: each row of YtlhfekhmfeafbaaDoorRows.lean that lists a variable, with what it lists TIED to the program's text (the seventh form; the later family's looks); each row that meets fmt, with fmt's text TOLD by the authors' own Lean function (tested against real Go, not proved from fmt's source: count such statements apart). THE CARD IS WHAT COUNTS. Prove the row's statement (the work); the ties are given (YtlhfekhmfeafbaaDoorTie.lean); close each card by the builder's one call (the guide's Derived/Test/ToyasCard.lean, 'card_holds'). Laid BY PROGRAM, IN A SANDBOX (cutbox-door.mjs). By AI agents, Wed Nov 11 2026. No macro, syntax, notation, axiom, sorry.
-/
import Derived.Test.YtlhfekhmfeafbaaDoorRows
import GoSem.ClaimSeven
namespace Go.Proofs.YtlhfekhmfeafbaaDoor
namespace Rows

/-- THE TIED CARD OF 'legatelaw08.TermTells'. -/
def termTellsCard : Claim7 := { stood := { row := termTellsRow, standIns := [], harness := (true, "afad18e3507397b22f00bde78fbe0efcb47c4a59c6dae0d0a02f16653a195362"), looks := false }, kinds := [], alts := [], laidByText := true, laidKinds := [.data, .data, .data], laidTests := true, laidLooks := .later }
def TermTellsCardSaid : Prop := Claim7.holds Tryd.pinned (.plain (OpenSpec.ofChange termTellsSpec)) termTellsCard

/-- THE TIED CARD OF 'legatelaw08.TermMakes'. -/
def termMakesCard : Claim7 := { stood := { row := termMakesRow, standIns := [], harness := (true, "afad18e3507397b22f00bde78fbe0efcb47c4a59c6dae0d0a02f16653a195362"), looks := false }, kinds := [], alts := [], laidByText := true, laidKinds := [.data, .data, .data], laidTests := true, laidLooks := .later }
def TermMakesCardSaid : Prop := Claim7.holds Tryd.pinned (.plain (OpenSpec.ofChange termMakesSpec)) termMakesCard

/-- THE TIED CARD OF 'legatelaw08.TermOrders'. -/
def termOrdersCard : Claim7 := { stood := { row := termOrdersRow, standIns := [], harness := (true, "afad18e3507397b22f00bde78fbe0efcb47c4a59c6dae0d0a02f16653a195362"), looks := false }, kinds := [], alts := [], laidByText := true, laidKinds := [.data, .data, .data], laidTests := true, laidLooks := .later }
def TermOrdersCardSaid : Prop := Claim7.holds Tryd.pinned (.plain (OpenSpec.ofChange termOrdersSpec)) termOrdersCard

/-- THE TIED CARD OF 'legatelaw08.TermOnce'. -/
def termOnceCard : Claim7 := { stood := { row := termOnceRow, standIns := [], harness := (true, "afad18e3507397b22f00bde78fbe0efcb47c4a59c6dae0d0a02f16653a195362"), looks := false }, kinds := [], alts := [], laidByText := true, laidKinds := [.data, .data, .data], laidTests := true, laidLooks := .later }
def TermOnceCardSaid : Prop := Claim7.holds Tryd.pinned (.plain (OpenSpec.ofChange termOnceSpec)) termOnceCard

/-- THE TIED CARD OF 'legatelaw08.TermParts'. -/
def termPartsCard : Claim7 := { stood := { row := termPartsRow, standIns := [], harness := (true, "afad18e3507397b22f00bde78fbe0efcb47c4a59c6dae0d0a02f16653a195362"), looks := false }, kinds := [], alts := [], laidByText := true, laidKinds := [.data, .data, .data], laidTests := true, laidLooks := .later }
def TermPartsCardSaid : Prop := Claim7.holds Tryd.pinned (.plain (OpenSpec.ofChange termPartsSpec)) termPartsCard

/-- THE TIED CARD OF 'legatelaw08.TermDeep'. -/
def termDeepCard : Claim7 := { stood := { row := termDeepRow, standIns := [], harness := (true, "afad18e3507397b22f00bde78fbe0efcb47c4a59c6dae0d0a02f16653a195362"), looks := false }, kinds := [], alts := [], laidByText := true, laidKinds := [.data, .data, .data], laidTests := true, laidLooks := .later }
def TermDeepCardSaid : Prop := Claim7.holds Tryd.pinned (.plain (OpenSpec.ofChange termDeepSpec)) termDeepCard

/-- THE TIED CARD OF 'legatelaw08.TermNames'. -/
def termNamesCard : Claim7 := { stood := { row := termNamesRow, standIns := [], harness := (true, "afad18e3507397b22f00bde78fbe0efcb47c4a59c6dae0d0a02f16653a195362"), looks := false }, kinds := [], alts := [], laidByText := true, laidKinds := [.data, .data, .data], laidTests := true, laidLooks := .later }
def TermNamesCardSaid : Prop := Claim7.holds Tryd.pinned (.plain (OpenSpec.ofChange termNamesSpec)) termNamesCard

/-- THE SECOND FORM's CARD OF 'legatelaw08.TermTells'. -/
def termTellsUptoCard : Claim7 := { stood := { row := termTellsUptoRow, standIns := [], harness := (true, "afad18e3507397b22f00bde78fbe0efcb47c4a59c6dae0d0a02f16653a195362"), looks := false }, kinds := [], alts := [], laidByText := true, laidKinds := [.data, .data, .data], laidTests := true, laidLooks := .later }
def TermTellsUptoCardSaid : Prop := Claim7.holds Tryd.pinned (.plain (OpenSpec.upto termTellsSpec)) termTellsUptoCard

/-- THE SECOND FORM's CARD OF 'legatelaw08.TermMakes'. -/
def termMakesUptoCard : Claim7 := { stood := { row := termMakesUptoRow, standIns := [], harness := (true, "afad18e3507397b22f00bde78fbe0efcb47c4a59c6dae0d0a02f16653a195362"), looks := false }, kinds := [], alts := [], laidByText := true, laidKinds := [.data, .data, .data], laidTests := true, laidLooks := .later }
def TermMakesUptoCardSaid : Prop := Claim7.holds Tryd.pinned (.plain (OpenSpec.upto termMakesSpec)) termMakesUptoCard

/-- THE SECOND FORM's CARD OF 'legatelaw08.TermOrders'. -/
def termOrdersUptoCard : Claim7 := { stood := { row := termOrdersUptoRow, standIns := [], harness := (true, "afad18e3507397b22f00bde78fbe0efcb47c4a59c6dae0d0a02f16653a195362"), looks := false }, kinds := [], alts := [], laidByText := true, laidKinds := [.data, .data, .data], laidTests := true, laidLooks := .later }
def TermOrdersUptoCardSaid : Prop := Claim7.holds Tryd.pinned (.plain (OpenSpec.upto termOrdersSpec)) termOrdersUptoCard

/-- THE SECOND FORM's CARD OF 'legatelaw08.TermOnce'. -/
def termOnceUptoCard : Claim7 := { stood := { row := termOnceUptoRow, standIns := [], harness := (true, "afad18e3507397b22f00bde78fbe0efcb47c4a59c6dae0d0a02f16653a195362"), looks := false }, kinds := [], alts := [], laidByText := true, laidKinds := [.data, .data, .data], laidTests := true, laidLooks := .later }
def TermOnceUptoCardSaid : Prop := Claim7.holds Tryd.pinned (.plain (OpenSpec.upto termOnceSpec)) termOnceUptoCard

/-- THE SECOND FORM's CARD OF 'legatelaw08.TermParts'. -/
def termPartsUptoCard : Claim7 := { stood := { row := termPartsUptoRow, standIns := [], harness := (true, "afad18e3507397b22f00bde78fbe0efcb47c4a59c6dae0d0a02f16653a195362"), looks := false }, kinds := [], alts := [], laidByText := true, laidKinds := [.data, .data, .data], laidTests := true, laidLooks := .later }
def TermPartsUptoCardSaid : Prop := Claim7.holds Tryd.pinned (.plain (OpenSpec.upto termPartsSpec)) termPartsUptoCard

/-- THE SECOND FORM's CARD OF 'legatelaw08.TermDeep'. -/
def termDeepUptoCard : Claim7 := { stood := { row := termDeepUptoRow, standIns := [], harness := (true, "afad18e3507397b22f00bde78fbe0efcb47c4a59c6dae0d0a02f16653a195362"), looks := false }, kinds := [], alts := [], laidByText := true, laidKinds := [.data, .data, .data], laidTests := true, laidLooks := .later }
def TermDeepUptoCardSaid : Prop := Claim7.holds Tryd.pinned (.plain (OpenSpec.upto termDeepSpec)) termDeepUptoCard

/-- THE SECOND FORM's CARD OF 'legatelaw08.TermNames'. -/
def termNamesUptoCard : Claim7 := { stood := { row := termNamesUptoRow, standIns := [], harness := (true, "afad18e3507397b22f00bde78fbe0efcb47c4a59c6dae0d0a02f16653a195362"), looks := false }, kinds := [], alts := [], laidByText := true, laidKinds := [.data, .data, .data], laidTests := true, laidLooks := .later }
def TermNamesUptoCardSaid : Prop := Claim7.holds Tryd.pinned (.plain (OpenSpec.upto termNamesSpec)) termNamesUptoCard
end Rows
end Go.Proofs.YtlhfekhmfeafbaaDoor
