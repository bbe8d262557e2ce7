/-
  DERIVED. GIVEN WITH THE SEED: THE CARDS: each row of YtimommkbfbdkdaaDoorRows.lean that lists a variable, with what it lists TIED to the program's text (the seventh form; the later family's looks); each row that meets fmt, with fmt's text TOLD by the authors' own Lean function (tested against real Go, not proved from fmt's source: count such statements apart). THE CARD IS WHAT COUNTS. Prove the row's statement (the work); the ties are given (YtimommkbfbdkdaaDoorTie.lean); close each card by the builder's one call (the guide's Derived/Test/ToyasCard.lean, 'card_holds'). Laid BY PROGRAM, IN A SANDBOX (cutbox-door.mjs). By AI agents, Wed Nov 11 2026. No macro, syntax, notation, axiom, sorry.
-/
import Derived.Test.YtimommkbfbdkdaaDoorRows
import GoSem.ClaimSeven
namespace Go.Proofs.YtimommkbfbdkdaaDoor
namespace Rows

/-- THE TIED CARD OF 'legatelaw13.AuthzBuilds'. -/
def authzBuildsCard : Claim7 := { stood := { row := authzBuildsRow, standIns := [], harness := (true, "56a220a55ea7e7cd3848ba47db54ecd13ec0f474e07b4bcb679bfe5cbe8ae2d9"), looks := false }, kinds := [], alts := [], laidByText := true, laidKinds := [.data, .data, .data], laidTests := true, laidLooks := .later }
def AuthzBuildsCardSaid : Prop := Claim7.holds Tryd.pinned (.plain (OpenSpec.ofChange authzBuildsSpec)) authzBuildsCard

/-- THE TIED CARD OF 'legatelaw13.AuthzMore'. -/
def authzMoreCard : Claim7 := { stood := { row := authzMoreRow, standIns := [], harness := (true, "56a220a55ea7e7cd3848ba47db54ecd13ec0f474e07b4bcb679bfe5cbe8ae2d9"), looks := false }, kinds := [], alts := [], laidByText := true, laidKinds := [.data, .data, .data], laidTests := true, laidLooks := .later }
def AuthzMoreCardSaid : Prop := Claim7.holds Tryd.pinned (.plain (OpenSpec.ofChange authzMoreSpec)) authzMoreCard

/-- THE TIED CARD OF 'legatelaw13.AuthzAll'. -/
def authzAllCard : Claim7 := { stood := { row := authzAllRow, standIns := [], harness := (true, "56a220a55ea7e7cd3848ba47db54ecd13ec0f474e07b4bcb679bfe5cbe8ae2d9"), looks := false }, kinds := [], alts := [], laidByText := true, laidKinds := [.data, .data, .data], laidTests := true, laidLooks := .later }
def AuthzAllCardSaid : Prop := Claim7.holds Tryd.pinned (.plain (OpenSpec.ofChange authzAllSpec)) authzAllCard

/-- THE TIED CARD OF 'legatelaw13.AuthzBack'. -/
def authzBackCard : Claim7 := { stood := { row := authzBackRow, standIns := [], harness := (true, "56a220a55ea7e7cd3848ba47db54ecd13ec0f474e07b4bcb679bfe5cbe8ae2d9"), looks := false }, kinds := [], alts := [], laidByText := true, laidKinds := [.data, .data, .data], laidTests := true, laidLooks := .later }
def AuthzBackCardSaid : Prop := Claim7.holds Tryd.pinned (.plain (OpenSpec.ofChange authzBackSpec)) authzBackCard

/-- THE SECOND FORM's CARD OF 'legatelaw13.AuthzBuilds'. -/
def authzBuildsUptoCard : Claim7 := { stood := { row := authzBuildsUptoRow, standIns := [], harness := (true, "56a220a55ea7e7cd3848ba47db54ecd13ec0f474e07b4bcb679bfe5cbe8ae2d9"), looks := false }, kinds := [], alts := [], laidByText := true, laidKinds := [.data, .data, .data], laidTests := true, laidLooks := .later }
def AuthzBuildsUptoCardSaid : Prop := Claim7.holds Tryd.pinned (.plain (OpenSpec.upto authzBuildsSpec)) authzBuildsUptoCard

/-- THE SECOND FORM's CARD OF 'legatelaw13.AuthzMore'. -/
def authzMoreUptoCard : Claim7 := { stood := { row := authzMoreUptoRow, standIns := [], harness := (true, "56a220a55ea7e7cd3848ba47db54ecd13ec0f474e07b4bcb679bfe5cbe8ae2d9"), looks := false }, kinds := [], alts := [], laidByText := true, laidKinds := [.data, .data, .data], laidTests := true, laidLooks := .later }
def AuthzMoreUptoCardSaid : Prop := Claim7.holds Tryd.pinned (.plain (OpenSpec.upto authzMoreSpec)) authzMoreUptoCard

/-- THE SECOND FORM's CARD OF 'legatelaw13.AuthzAll'. -/
def authzAllUptoCard : Claim7 := { stood := { row := authzAllUptoRow, standIns := [], harness := (true, "56a220a55ea7e7cd3848ba47db54ecd13ec0f474e07b4bcb679bfe5cbe8ae2d9"), looks := false }, kinds := [], alts := [], laidByText := true, laidKinds := [.data, .data, .data], laidTests := true, laidLooks := .later }
def AuthzAllUptoCardSaid : Prop := Claim7.holds Tryd.pinned (.plain (OpenSpec.upto authzAllSpec)) authzAllUptoCard

/-- THE SECOND FORM's CARD OF 'legatelaw13.AuthzBack'. -/
def authzBackUptoCard : Claim7 := { stood := { row := authzBackUptoRow, standIns := [], harness := (true, "56a220a55ea7e7cd3848ba47db54ecd13ec0f474e07b4bcb679bfe5cbe8ae2d9"), looks := false }, kinds := [], alts := [], laidByText := true, laidKinds := [.data, .data, .data], laidTests := true, laidLooks := .later }
def AuthzBackUptoCardSaid : Prop := Claim7.holds Tryd.pinned (.plain (OpenSpec.upto authzBackSpec)) authzBackUptoCard
end Rows
end Go.Proofs.YtimommkbfbdkdaaDoor
