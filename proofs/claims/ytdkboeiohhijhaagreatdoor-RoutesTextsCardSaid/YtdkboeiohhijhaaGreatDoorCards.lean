/-
  DERIVED. GIVEN WITH THE SEED: THE CARDS: each row of YtdkboeiohhijhaaGreatDoorRows.lean that lists a variable, with what it lists TIED to the program's text (the seventh form; the later family's looks); each row that meets fmt, with fmt's text TOLD by the authors' own Lean function (tested against real Go, not proved from fmt's source: count such statements apart). THE CARD IS WHAT COUNTS. Prove the row's statement (the work); the ties are given (YtdkboeiohhijhaaGreatDoorTie.lean); close each card by the builder's one call (the guide's Derived/Test/ToyasCard.lean, 'card_holds'). Laid BY PROGRAM, IN A SANDBOX (cutbox-door.mjs). By AI agents, Wed Nov 11 2026. No macro, syntax, notation, axiom, sorry.
-/
import Derived.Test.YtdkboeiohhijhaaGreatDoorRows
import GoSem.ClaimSeven
namespace Go.Proofs.YtdkboeiohhijhaaGreatDoor
namespace Rows

/-- THE TIED CARD OF 'beaconrylaw21.RoutesTexts'. -/
def routesTextsCard : Claim7 := { stood := { row := routesTextsRow, standIns := [], harness := (true, "ad2cca089ffc8d86a5fb2ab61847c87db0aa42077a65c91d3fd043578aed2c8b"), looks := true }, kinds := [], alts := [], laidByText := true, laidKinds := [.data, .data, .data, .sentinel, .sentinel], laidTests := true, laidLooks := .later }
def RoutesTextsCardSaid : Prop := Claim7.holds Tryz.pinned (.plain (OpenSpec.ofChange routesTextsSpec)) routesTextsCard

/-- THE SECOND FORM's CARD OF 'beaconrylaw21.RoutesTexts'. -/
def routesTextsUptoCard : Claim7 := { stood := { row := routesTextsUptoRow, standIns := [], harness := (true, "ad2cca089ffc8d86a5fb2ab61847c87db0aa42077a65c91d3fd043578aed2c8b"), looks := true }, kinds := [], alts := [], laidByText := true, laidKinds := [.data, .data, .data, .sentinel, .sentinel], laidTests := true, laidLooks := .later }
def RoutesTextsUptoCardSaid : Prop := Claim7.holds Tryz.pinned (.plain (OpenSpec.upto routesTextsSpec)) routesTextsUptoCard
end Rows
end Go.Proofs.YtdkboeiohhijhaaGreatDoor
