/-
  DERIVED. GIVEN WITH THE SEED: THE CARDS: each row of YtcpnffbcljkbkaaGreatDoorRows.lean that lists a variable, with what it lists TIED to the program's text (the seventh form; the later family's looks); each row that meets fmt, with fmt's text TOLD by the authors' own Lean function (tested against real Go, not proved from fmt's source: count such statements apart). THE CARD IS WHAT COUNTS. Prove the row's statement (the work); the ties are given (YtcpnffbcljkbkaaGreatDoorTie.lean); close each card by the builder's one call (the guide's Derived/Test/ToyasCard.lean, 'card_holds'). Laid BY PROGRAM, IN A SANDBOX (cutbox-door.mjs). By AI agents, Wed Nov 11 2026. No macro, syntax, notation, axiom, sorry.
-/
import Derived.Test.YtcpnffbcljkbkaaGreatDoorRows
import GoSem.ClaimSeven
namespace Go.Proofs.YtcpnffbcljkbkaaGreatDoor
namespace Rows

/-- THE TIED CARD OF 'awardingbodylaw45.ConsoleReports'. -/
def consoleReportsCard : Claim7 := { stood := { row := consoleReportsRow, standIns := [], harness := (true, "656bf890407d59cdea54dba774aa60f2000e9554edc1e4a7b696d9c64f6e89bf"), looks := false }, kinds := [], alts := [], laidByText := true, laidKinds := [.data, .data, .data, .data, .data, .pinned], laidTests := true, laidLooks := .later }
def ConsoleReportsCardSaid : Prop := Claim7.holds Tryz.pinned (.plain (OpenSpec.ofChange consoleReportsSpec)) consoleReportsCard

/-- THE SECOND FORM's CARD OF 'awardingbodylaw45.ConsoleReports'. -/
def consoleReportsUptoCard : Claim7 := { stood := { row := consoleReportsUptoRow, standIns := [], harness := (true, "656bf890407d59cdea54dba774aa60f2000e9554edc1e4a7b696d9c64f6e89bf"), looks := false }, kinds := [], alts := [], laidByText := true, laidKinds := [.data, .data, .data, .data, .data, .pinned], laidTests := true, laidLooks := .later }
def ConsoleReportsUptoCardSaid : Prop := Claim7.holds Tryz.pinned (.plain (OpenSpec.upto consoleReportsSpec)) consoleReportsUptoCard
end Rows
end Go.Proofs.YtcpnffbcljkbkaaGreatDoor
