/-
  DERIVED. GIVEN WITH THE SEED: THE CARDS: each row of YtkllbfjojoncaaaGreatDoorRows.lean that lists a variable, with what it lists TIED to the program's text (the seventh form; the later family's looks); each row that meets fmt, with fmt's text TOLD by the authors' own Lean function (tested against real Go, not proved from fmt's source: count such statements apart). THE CARD IS WHAT COUNTS. Prove the row's statement (the work); the ties are given (YtkllbfjojoncaaaGreatDoorTie.lean); close each card by the builder's one call (the guide's Derived/Test/ToyasCard.lean, 'card_holds'). Laid BY PROGRAM, IN A SANDBOX (cutbox-door.mjs). By AI agents, Wed Nov 11 2026. No macro, syntax, notation, axiom, sorry.
-/
import Derived.Test.YtkllbfjojoncaaaGreatDoorRows
import GoSem.ClaimSeven
namespace Go.Proofs.YtkllbfjojoncaaaGreatDoor
namespace Rows

/-- THE TIED CARD OF 'squinchlaw11.GraphAlike'. -/
def graphAlikeCard : Claim7 := { stood := { row := graphAlikeRow, standIns := [], harness := (true, "1e1a9e075673bf90bae7d92945e20a426ca64e2cd964203567aa34bcc432c4b1"), looks := false }, kinds := [], alts := [], laidByText := true, laidKinds := [.data, .widerDeep, .data, .pinned], laidTests := true, laidLooks := .later }
def GraphAlikeCardSaid : Prop := Claim7.holds Tryz.pinned (.plain (OpenSpec.ofChange graphAlikeSpec)) graphAlikeCard

/-- THE TIED CARD OF 'squinchlaw11.GraphItself'. -/
def graphItselfCard : Claim7 := { stood := { row := graphItselfRow, standIns := [], harness := (true, "1e1a9e075673bf90bae7d92945e20a426ca64e2cd964203567aa34bcc432c4b1"), looks := false }, kinds := [], alts := [], laidByText := true, laidKinds := [.data, .widerDeep, .data, .pinned], laidTests := true, laidLooks := .later }
def GraphItselfCardSaid : Prop := Claim7.holds Tryz.pinned (.plain (OpenSpec.ofChange graphItselfSpec)) graphItselfCard

/-- THE TIED CARD OF 'squinchlaw11.GraphCloses'. -/
def graphClosesCard : Claim7 := { stood := { row := graphClosesRow, standIns := [], harness := (true, "1e1a9e075673bf90bae7d92945e20a426ca64e2cd964203567aa34bcc432c4b1"), looks := false }, kinds := [], alts := [], laidByText := true, laidKinds := [.data, .widerDeep, .data, .pinned], laidTests := true, laidLooks := .later }
def GraphClosesCardSaid : Prop := Claim7.holds Tryz.pinned (.plain (OpenSpec.ofChange graphClosesSpec)) graphClosesCard

/-- THE TIED CARD OF 'squinchlaw11.GraphPairs'. -/
def graphPairsCard : Claim7 := { stood := { row := graphPairsRow, standIns := [], harness := (true, "1e1a9e075673bf90bae7d92945e20a426ca64e2cd964203567aa34bcc432c4b1"), looks := false }, kinds := [], alts := [], laidByText := true, laidKinds := [.data, .widerDeep, .data, .pinned], laidTests := true, laidLooks := .later }
def GraphPairsCardSaid : Prop := Claim7.holds Tryz.pinned (.plain (OpenSpec.ofChange graphPairsSpec)) graphPairsCard

/-- THE TIED CARD OF 'squinchlaw11.GraphPlain'. -/
def graphPlainCard : Claim7 := { stood := { row := graphPlainRow, standIns := [], harness := (true, "1e1a9e075673bf90bae7d92945e20a426ca64e2cd964203567aa34bcc432c4b1"), looks := false }, kinds := [], alts := [], laidByText := true, laidKinds := [.data, .widerDeep, .data, .pinned], laidTests := true, laidLooks := .later }
def GraphPlainCardSaid : Prop := Claim7.holds Tryz.pinned (.plain (OpenSpec.ofChange graphPlainSpec)) graphPlainCard

/-- THE SECOND FORM's CARD OF 'squinchlaw11.GraphAlike'. -/
def graphAlikeUptoCard : Claim7 := { stood := { row := graphAlikeUptoRow, standIns := [], harness := (true, "1e1a9e075673bf90bae7d92945e20a426ca64e2cd964203567aa34bcc432c4b1"), looks := false }, kinds := [], alts := [], laidByText := true, laidKinds := [.data, .widerDeep, .data, .pinned], laidTests := true, laidLooks := .later }
def GraphAlikeUptoCardSaid : Prop := Claim7.holds Tryz.pinned (.plain (OpenSpec.upto graphAlikeSpec)) graphAlikeUptoCard

/-- THE SECOND FORM's CARD OF 'squinchlaw11.GraphItself'. -/
def graphItselfUptoCard : Claim7 := { stood := { row := graphItselfUptoRow, standIns := [], harness := (true, "1e1a9e075673bf90bae7d92945e20a426ca64e2cd964203567aa34bcc432c4b1"), looks := false }, kinds := [], alts := [], laidByText := true, laidKinds := [.data, .widerDeep, .data, .pinned], laidTests := true, laidLooks := .later }
def GraphItselfUptoCardSaid : Prop := Claim7.holds Tryz.pinned (.plain (OpenSpec.upto graphItselfSpec)) graphItselfUptoCard

/-- THE SECOND FORM's CARD OF 'squinchlaw11.GraphCloses'. -/
def graphClosesUptoCard : Claim7 := { stood := { row := graphClosesUptoRow, standIns := [], harness := (true, "1e1a9e075673bf90bae7d92945e20a426ca64e2cd964203567aa34bcc432c4b1"), looks := false }, kinds := [], alts := [], laidByText := true, laidKinds := [.data, .widerDeep, .data, .pinned], laidTests := true, laidLooks := .later }
def GraphClosesUptoCardSaid : Prop := Claim7.holds Tryz.pinned (.plain (OpenSpec.upto graphClosesSpec)) graphClosesUptoCard

/-- THE SECOND FORM's CARD OF 'squinchlaw11.GraphPairs'. -/
def graphPairsUptoCard : Claim7 := { stood := { row := graphPairsUptoRow, standIns := [], harness := (true, "1e1a9e075673bf90bae7d92945e20a426ca64e2cd964203567aa34bcc432c4b1"), looks := false }, kinds := [], alts := [], laidByText := true, laidKinds := [.data, .widerDeep, .data, .pinned], laidTests := true, laidLooks := .later }
def GraphPairsUptoCardSaid : Prop := Claim7.holds Tryz.pinned (.plain (OpenSpec.upto graphPairsSpec)) graphPairsUptoCard

/-- THE SECOND FORM's CARD OF 'squinchlaw11.GraphPlain'. -/
def graphPlainUptoCard : Claim7 := { stood := { row := graphPlainUptoRow, standIns := [], harness := (true, "1e1a9e075673bf90bae7d92945e20a426ca64e2cd964203567aa34bcc432c4b1"), looks := false }, kinds := [], alts := [], laidByText := true, laidKinds := [.data, .widerDeep, .data, .pinned], laidTests := true, laidLooks := .later }
def GraphPlainUptoCardSaid : Prop := Claim7.holds Tryz.pinned (.plain (OpenSpec.upto graphPlainSpec)) graphPlainUptoCard
end Rows
end Go.Proofs.YtkllbfjojoncaaaGreatDoor
