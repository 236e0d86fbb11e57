/-
  DERIVED. GIVEN WITH THE SEED: THE CARDS: each row of YthplgcnoaholaajDoorRows.lean that lists a variable, with what it lists TIED to the program's text (the seventh form; the later family's looks); each row that meets fmt, with fmt's text TOLD by the authors' own Lean function (tested against real Go, not proved from fmt's source: count such statements apart). THE CARD IS WHAT COUNTS. Prove the row's statement (the work); the ties are given (YthplgcnoaholaajDoorTie.lean); close each card by the builder's one call (the guide's Derived/Test/ToyasCard.lean, 'card_holds'). Laid BY PROGRAM, IN A SANDBOX (cutbox-door.mjs). By AI agents, Wed Nov 11 2026. No macro, syntax, notation, axiom, sorry.
-/
import Derived.Test.YthplgcnoaholaajDoorRows
import GoSem.ClaimSeven
namespace Go.Proofs.YthplgcnoaholaajDoor
namespace Rows

/-- THE TIED CARD OF 'sherdtop.TopScripts'. -/
def topScriptsCard : Claim7 := { stood := { row := topScriptsRow, standIns := [], harness := (true, "b57fe3cedd7b1dd47d6ae334c679c9c45b522fe89d8ee6484207119f2fba8fae"), looks := true }, kinds := [], alts := [], laidByText := true, laidKinds := [.data, .data, .data, .data, .sentinel, .sentinel, .widerDeep, .pinned], laidTests := true, laidLooks := .later }
def TopScriptsCardSaid : Prop := Claim7.holds Tryd.pinned (.plain (OpenSpec.ofChange topScriptsSpec)) topScriptsCard

/-- THE SECOND FORM's CARD OF 'sherdtop.TopScripts'. -/
def topScriptsUptoCard : Claim7 := { stood := { row := topScriptsUptoRow, standIns := [], harness := (true, "b57fe3cedd7b1dd47d6ae334c679c9c45b522fe89d8ee6484207119f2fba8fae"), looks := true }, kinds := [], alts := [], laidByText := true, laidKinds := [.data, .data, .data, .data, .sentinel, .sentinel, .widerDeep, .pinned], laidTests := true, laidLooks := .later }
def TopScriptsUptoCardSaid : Prop := Claim7.holds Tryd.pinned (.plain (OpenSpec.upto topScriptsSpec)) topScriptsUptoCard
end Rows
end Go.Proofs.YthplgcnoaholaajDoor
