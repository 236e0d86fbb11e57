/-
  DERIVED. GIVEN WITH THE SEED: THE CARDS: each row of YtgpjpcemfaignaaDoorRows.lean that lists a variable, with what it lists TIED to the program's text (the seventh form; the later family's looks); each row that meets fmt, with fmt's text TOLD by the authors' own Lean function (tested against real Go, not proved from fmt's source: count such statements apart). THE CARD IS WHAT COUNTS. Prove the row's statement (the work); the ties are given (YtgpjpcemfaignaaDoorTie.lean); close each card by the builder's one call (the guide's Derived/Test/ToyasCard.lean, 'card_holds'). Laid BY PROGRAM, IN A SANDBOX (cutbox-door.mjs). By AI agents, Wed Nov 11 2026. No macro, syntax, notation, axiom, sorry.
-/
import Derived.Test.YtgpjpcemfaignaaDoorRows
import GoSem.ClaimSeven
namespace Go.Proofs.YtgpjpcemfaignaaDoor
namespace Rows

/-- THE TIED CARD OF 'sherdlaw17.PhaseLikes'. -/
def phaseLikesCard : Claim7 := { stood := { row := phaseLikesRow, standIns := [], harness := (true, "50b5d340fc77008caf4fc8a60579f7dfa34a0ba606ba7f886c3698ac73bf384e"), looks := false }, kinds := [], alts := [], laidByText := true, laidKinds := [.data, .data, .data], laidTests := true, laidLooks := .later }
def PhaseLikesCardSaid : Prop := Claim7.holds Tryd.pinned (.plain (OpenSpec.ofChange phaseLikesSpec)) phaseLikesCard

/-- THE SECOND FORM's CARD OF 'sherdlaw17.PhaseLikes'. -/
def phaseLikesUptoCard : Claim7 := { stood := { row := phaseLikesUptoRow, standIns := [], harness := (true, "50b5d340fc77008caf4fc8a60579f7dfa34a0ba606ba7f886c3698ac73bf384e"), looks := false }, kinds := [], alts := [], laidByText := true, laidKinds := [.data, .data, .data], laidTests := true, laidLooks := .later }
def PhaseLikesUptoCardSaid : Prop := Claim7.holds Tryd.pinned (.plain (OpenSpec.upto phaseLikesSpec)) phaseLikesUptoCard
end Rows
end Go.Proofs.YtgpjpcemfaignaaDoor
