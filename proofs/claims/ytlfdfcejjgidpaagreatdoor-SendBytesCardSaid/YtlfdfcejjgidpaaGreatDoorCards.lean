/-
  DERIVED. GIVEN WITH THE SEED: THE CARDS: each row of YtlfdfcejjgidpaaGreatDoorRows.lean that lists a variable, with what it lists TIED to the program's text (the seventh form; the later family's looks); each row that meets fmt, with fmt's text TOLD by the authors' own Lean function (tested against real Go, not proved from fmt's source: count such statements apart). THE CARD IS WHAT COUNTS. Prove the row's statement (the work); the ties are given (YtlfdfcejjgidpaaGreatDoorTie.lean); close each card by the builder's one call (the guide's Derived/Test/ToyasCard.lean, 'card_holds'). Laid BY PROGRAM, IN A SANDBOX (cutbox-door.mjs). By AI agents, Wed Nov 11 2026. No macro, syntax, notation, axiom, sorry.
-/
import Derived.Test.YtlfdfcejjgidpaaGreatDoorRows
import GoSem.ClaimSeven
namespace Go.Proofs.YtlfdfcejjgidpaaGreatDoor
namespace Rows

/-- THE TIED CARD OF 'squinchlaw12.SendPlain'. -/
def sendPlainCard : Claim7 := { stood := { row := sendPlainRow, standIns := [], harness := (true, "00feceb421d98e61e11d9bfba1e8dbe9230c67927258fe8d5b3c79ef504a14c1"), looks := false }, kinds := [], alts := [], laidByText := true, laidKinds := [.data, .widerDeep, .data, .pinned], laidTests := true, laidLooks := .later }
def SendPlainCardSaid : Prop := Claim7.holds Tryz.pinned (.plain (OpenSpec.ofChange sendPlainSpec)) sendPlainCard

/-- THE TIED CARD OF 'squinchlaw12.SendBytes'. -/
def sendBytesCard : Claim7 := { stood := { row := sendBytesRow, standIns := [], harness := (true, "00feceb421d98e61e11d9bfba1e8dbe9230c67927258fe8d5b3c79ef504a14c1"), looks := false }, kinds := [], alts := [], laidByText := true, laidKinds := [.data, .widerDeep, .data, .pinned], laidTests := true, laidLooks := .later }
def SendBytesCardSaid : Prop := Claim7.holds Tryz.pinned (.plain (OpenSpec.ofChange sendBytesSpec)) sendBytesCard

/-- THE TIED CARD OF 'squinchlaw12.SendOne'. -/
def sendOneCard : Claim7 := { stood := { row := sendOneRow, standIns := [], harness := (true, "00feceb421d98e61e11d9bfba1e8dbe9230c67927258fe8d5b3c79ef504a14c1"), looks := false }, kinds := [], alts := [], laidByText := true, laidKinds := [.data, .widerDeep, .data, .pinned], laidTests := true, laidLooks := .later }
def SendOneCardSaid : Prop := Claim7.holds Tryz.pinned (.plain (OpenSpec.ofChange sendOneSpec)) sendOneCard

/-- THE TIED CARD OF 'squinchlaw12.SendLimits'. -/
def sendLimitsCard : Claim7 := { stood := { row := sendLimitsRow, standIns := [], harness := (true, "00feceb421d98e61e11d9bfba1e8dbe9230c67927258fe8d5b3c79ef504a14c1"), looks := false }, kinds := [], alts := [], laidByText := true, laidKinds := [.data, .widerDeep, .data, .pinned], laidTests := true, laidLooks := .later }
def SendLimitsCardSaid : Prop := Claim7.holds Tryz.pinned (.plain (OpenSpec.ofChange sendLimitsSpec)) sendLimitsCard

/-- THE TIED CARD OF 'squinchlaw12.SendKeeps'. -/
def sendKeepsCard : Claim7 := { stood := { row := sendKeepsRow, standIns := [], harness := (true, "00feceb421d98e61e11d9bfba1e8dbe9230c67927258fe8d5b3c79ef504a14c1"), looks := false }, kinds := [], alts := [], laidByText := true, laidKinds := [.data, .widerDeep, .data, .pinned], laidTests := true, laidLooks := .later }
def SendKeepsCardSaid : Prop := Claim7.holds Tryz.pinned (.plain (OpenSpec.ofChange sendKeepsSpec)) sendKeepsCard

/-- THE SECOND FORM's CARD OF 'squinchlaw12.SendPlain'. -/
def sendPlainUptoCard : Claim7 := { stood := { row := sendPlainUptoRow, standIns := [], harness := (true, "00feceb421d98e61e11d9bfba1e8dbe9230c67927258fe8d5b3c79ef504a14c1"), looks := false }, kinds := [], alts := [], laidByText := true, laidKinds := [.data, .widerDeep, .data, .pinned], laidTests := true, laidLooks := .later }
def SendPlainUptoCardSaid : Prop := Claim7.holds Tryz.pinned (.plain (OpenSpec.upto sendPlainSpec)) sendPlainUptoCard

/-- THE SECOND FORM's CARD OF 'squinchlaw12.SendBytes'. -/
def sendBytesUptoCard : Claim7 := { stood := { row := sendBytesUptoRow, standIns := [], harness := (true, "00feceb421d98e61e11d9bfba1e8dbe9230c67927258fe8d5b3c79ef504a14c1"), looks := false }, kinds := [], alts := [], laidByText := true, laidKinds := [.data, .widerDeep, .data, .pinned], laidTests := true, laidLooks := .later }
def SendBytesUptoCardSaid : Prop := Claim7.holds Tryz.pinned (.plain (OpenSpec.upto sendBytesSpec)) sendBytesUptoCard

/-- THE SECOND FORM's CARD OF 'squinchlaw12.SendOne'. -/
def sendOneUptoCard : Claim7 := { stood := { row := sendOneUptoRow, standIns := [], harness := (true, "00feceb421d98e61e11d9bfba1e8dbe9230c67927258fe8d5b3c79ef504a14c1"), looks := false }, kinds := [], alts := [], laidByText := true, laidKinds := [.data, .widerDeep, .data, .pinned], laidTests := true, laidLooks := .later }
def SendOneUptoCardSaid : Prop := Claim7.holds Tryz.pinned (.plain (OpenSpec.upto sendOneSpec)) sendOneUptoCard

/-- THE SECOND FORM's CARD OF 'squinchlaw12.SendLimits'. -/
def sendLimitsUptoCard : Claim7 := { stood := { row := sendLimitsUptoRow, standIns := [], harness := (true, "00feceb421d98e61e11d9bfba1e8dbe9230c67927258fe8d5b3c79ef504a14c1"), looks := false }, kinds := [], alts := [], laidByText := true, laidKinds := [.data, .widerDeep, .data, .pinned], laidTests := true, laidLooks := .later }
def SendLimitsUptoCardSaid : Prop := Claim7.holds Tryz.pinned (.plain (OpenSpec.upto sendLimitsSpec)) sendLimitsUptoCard

/-- THE SECOND FORM's CARD OF 'squinchlaw12.SendKeeps'. -/
def sendKeepsUptoCard : Claim7 := { stood := { row := sendKeepsUptoRow, standIns := [], harness := (true, "00feceb421d98e61e11d9bfba1e8dbe9230c67927258fe8d5b3c79ef504a14c1"), looks := false }, kinds := [], alts := [], laidByText := true, laidKinds := [.data, .widerDeep, .data, .pinned], laidTests := true, laidLooks := .later }
def SendKeepsUptoCardSaid : Prop := Claim7.holds Tryz.pinned (.plain (OpenSpec.upto sendKeepsSpec)) sendKeepsUptoCard
end Rows
end Go.Proofs.YtlfdfcejjgidpaaGreatDoor
