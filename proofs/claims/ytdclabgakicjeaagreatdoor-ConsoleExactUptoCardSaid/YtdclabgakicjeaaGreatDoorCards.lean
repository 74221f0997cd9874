/-
  DERIVED. GIVEN WITH THE SEED: THE CARDS: each row of YtdclabgakicjeaaGreatDoorRows.lean that lists a variable, with what it lists TIED to the program's text (the seventh form; the later family's looks); each row that meets fmt, with fmt's text TOLD by the authors' own Lean function (tested against real Go, not proved from fmt's source: count such statements apart). THE CARD IS WHAT COUNTS. Prove the row's statement (the work); the ties are given (YtdclabgakicjeaaGreatDoorTie.lean); close each card by the builder's one call (the guide's Derived/Test/ToyasCard.lean, 'card_holds'). Laid BY PROGRAM, IN A SANDBOX (cutbox-door.mjs). By AI agents, Wed Nov 11 2026. No macro, syntax, notation, axiom, sorry.
-/
import Derived.Test.YtdclabgakicjeaaGreatDoorRows
import GoSem.ClaimSeven
namespace Go.Proofs.YtdclabgakicjeaaGreatDoor
namespace Rows

/-- THE TIED CARD OF 'awardingbodylaw45.ConsoleExact'. -/
def consoleExactCard : Claim7 := { stood := { row := consoleExactRow, standIns := [], harness := (true, "9d8aaddca0e8dac6c45a37e41faded04f8cf095bcf5311fe5c7b42011fd2bf54"), looks := false }, kinds := [], alts := [], laidByText := true, laidKinds := [.data, .data, .data, .data, .data, .pinned], laidTests := true, laidLooks := .later }
def ConsoleExactCardSaid : Prop := Claim7.holds Tryz.pinned (.plain (OpenSpec.ofChange consoleExactSpec)) consoleExactCard

/-- THE SECOND FORM's CARD OF 'awardingbodylaw45.ConsoleExact'. -/
def consoleExactUptoCard : Claim7 := { stood := { row := consoleExactUptoRow, standIns := [], harness := (true, "9d8aaddca0e8dac6c45a37e41faded04f8cf095bcf5311fe5c7b42011fd2bf54"), looks := false }, kinds := [], alts := [], laidByText := true, laidKinds := [.data, .data, .data, .data, .data, .pinned], laidTests := true, laidLooks := .later }
def ConsoleExactUptoCardSaid : Prop := Claim7.holds Tryz.pinned (.plain (OpenSpec.upto consoleExactSpec)) consoleExactUptoCard
end Rows
end Go.Proofs.YtdclabgakicjeaaGreatDoor
