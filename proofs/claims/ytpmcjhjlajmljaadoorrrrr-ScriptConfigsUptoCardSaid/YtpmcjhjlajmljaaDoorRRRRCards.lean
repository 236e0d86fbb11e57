/-
  DERIVED. GIVEN WITH THE SEED: THE CARDS: each row of YtpmcjhjlajmljaaDoorRRRRRows.lean that lists a variable, with what it lists TIED to the program's text (the seventh form; the later family's looks); each row that meets fmt, with fmt's text TOLD by the authors' own Lean function (tested against real Go, not proved from fmt's source: count such statements apart). THE CARD IS WHAT COUNTS. Prove the row's statement (the work); the ties are given (YtpmcjhjlajmljaaDoorRRRRTie.lean); close each card by the builder's one call (the guide's Derived/Test/ToyasCard.lean, 'card_holds'). Laid BY PROGRAM, IN A SANDBOX (cutbox-door.mjs). By AI agents, Wed Nov 11 2026. No macro, syntax, notation, axiom, sorry.
-/
import Derived.Test.YtpmcjhjlajmljaaDoorRRRRRows
import GoSem.ClaimSeven
namespace Go.Proofs.YtpmcjhjlajmljaaDoorRRRR
namespace Rows

/-- THE TIED CARD OF 'sherdlaw08.TagTexts'. -/
def tagTextsCard : Claim7 := { stood := { row := tagTextsRow, standIns := [], harness := (true, "c4475ce5a7974ed7e5751330cefcdf542cff59e9063da1f329c24fced795945a"), looks := true }, kinds := [], alts := [], laidByText := true, laidKinds := [.data, .data, .data, .sentinel, .sentinel], laidTests := true, laidLooks := .later }
def TagTextsCardSaid : Prop := Claim7.holds Tryd.pinned (.plain (OpenSpec.ofChange tagTextsSpec)) tagTextsCard

/-- THE TIED CARD OF 'sherdlaw08.TagAll'. -/
def tagAllCard : Claim7 := { stood := { row := tagAllRow, standIns := [], harness := (true, "c4475ce5a7974ed7e5751330cefcdf542cff59e9063da1f329c24fced795945a"), looks := true }, kinds := [], alts := [], laidByText := true, laidKinds := [.data, .data, .data, .sentinel, .sentinel], laidTests := true, laidLooks := .later }
def TagAllCardSaid : Prop := Claim7.holds Tryd.pinned (.plain (OpenSpec.ofChange tagAllSpec)) tagAllCard

/-- THE TIED CARD OF 'sherdlaw24.ScriptConfigs'. -/
def scriptConfigsCard : Claim7 := { stood := { row := scriptConfigsRow, standIns := [], harness := (true, "c4475ce5a7974ed7e5751330cefcdf542cff59e9063da1f329c24fced795945a"), looks := true }, kinds := [], alts := [], laidByText := true, laidKinds := [.data, .data, .data, .data, .sentinel, .sentinel, .pinned], laidTests := true, laidLooks := .later }
def ScriptConfigsCardSaid : Prop := Claim7.holds Tryd.pinned (.plain (OpenSpec.ofChange scriptConfigsSpec)) scriptConfigsCard

/-- THE TIED CARD OF 'sherdlaw24.ScriptBack'. -/
def scriptBackCard : Claim7 := { stood := { row := scriptBackRow, standIns := [], harness := (true, "c4475ce5a7974ed7e5751330cefcdf542cff59e9063da1f329c24fced795945a"), looks := true }, kinds := [], alts := [], laidByText := true, laidKinds := [.data, .data, .data, .data, .sentinel, .sentinel, .widerDeep, .pinned], laidTests := true, laidLooks := .later }
def ScriptBackCardSaid : Prop := Claim7.holds Tryd.pinned (.plain (OpenSpec.ofChange scriptBackSpec)) scriptBackCard

/-- THE TIED CARD OF 'sherdlaw24.ScriptLines'. -/
def scriptLinesCard : Claim7 := { stood := { row := scriptLinesRow, standIns := [], harness := (true, "c4475ce5a7974ed7e5751330cefcdf542cff59e9063da1f329c24fced795945a"), looks := true }, kinds := [], alts := [], laidByText := true, laidKinds := [.data, .data, .data, .data, .sentinel, .sentinel, .widerDeep, .pinned], laidTests := true, laidLooks := .later }
def ScriptLinesCardSaid : Prop := Claim7.holds Tryd.pinned (.plain (OpenSpec.ofChange scriptLinesSpec)) scriptLinesCard

/-- THE SECOND FORM's CARD OF 'sherdlaw08.TagTexts'. -/
def tagTextsUptoCard : Claim7 := { stood := { row := tagTextsUptoRow, standIns := [], harness := (true, "c4475ce5a7974ed7e5751330cefcdf542cff59e9063da1f329c24fced795945a"), looks := true }, kinds := [], alts := [], laidByText := true, laidKinds := [.data, .data, .data, .sentinel, .sentinel], laidTests := true, laidLooks := .later }
def TagTextsUptoCardSaid : Prop := Claim7.holds Tryd.pinned (.plain (OpenSpec.upto tagTextsSpec)) tagTextsUptoCard

/-- THE SECOND FORM's CARD OF 'sherdlaw08.TagAll'. -/
def tagAllUptoCard : Claim7 := { stood := { row := tagAllUptoRow, standIns := [], harness := (true, "c4475ce5a7974ed7e5751330cefcdf542cff59e9063da1f329c24fced795945a"), looks := true }, kinds := [], alts := [], laidByText := true, laidKinds := [.data, .data, .data, .sentinel, .sentinel], laidTests := true, laidLooks := .later }
def TagAllUptoCardSaid : Prop := Claim7.holds Tryd.pinned (.plain (OpenSpec.upto tagAllSpec)) tagAllUptoCard

/-- THE SECOND FORM's CARD OF 'sherdlaw24.ScriptConfigs'. -/
def scriptConfigsUptoCard : Claim7 := { stood := { row := scriptConfigsUptoRow, standIns := [], harness := (true, "c4475ce5a7974ed7e5751330cefcdf542cff59e9063da1f329c24fced795945a"), looks := true }, kinds := [], alts := [], laidByText := true, laidKinds := [.data, .data, .data, .data, .sentinel, .sentinel, .pinned], laidTests := true, laidLooks := .later }
def ScriptConfigsUptoCardSaid : Prop := Claim7.holds Tryd.pinned (.plain (OpenSpec.upto scriptConfigsSpec)) scriptConfigsUptoCard

/-- THE SECOND FORM's CARD OF 'sherdlaw24.ScriptBack'. -/
def scriptBackUptoCard : Claim7 := { stood := { row := scriptBackUptoRow, standIns := [], harness := (true, "c4475ce5a7974ed7e5751330cefcdf542cff59e9063da1f329c24fced795945a"), looks := true }, kinds := [], alts := [], laidByText := true, laidKinds := [.data, .data, .data, .data, .sentinel, .sentinel, .widerDeep, .pinned], laidTests := true, laidLooks := .later }
def ScriptBackUptoCardSaid : Prop := Claim7.holds Tryd.pinned (.plain (OpenSpec.upto scriptBackSpec)) scriptBackUptoCard

/-- THE SECOND FORM's CARD OF 'sherdlaw24.ScriptLines'. -/
def scriptLinesUptoCard : Claim7 := { stood := { row := scriptLinesUptoRow, standIns := [], harness := (true, "c4475ce5a7974ed7e5751330cefcdf542cff59e9063da1f329c24fced795945a"), looks := true }, kinds := [], alts := [], laidByText := true, laidKinds := [.data, .data, .data, .data, .sentinel, .sentinel, .widerDeep, .pinned], laidTests := true, laidLooks := .later }
def ScriptLinesUptoCardSaid : Prop := Claim7.holds Tryd.pinned (.plain (OpenSpec.upto scriptLinesSpec)) scriptLinesUptoCard
end Rows
end Go.Proofs.YtpmcjhjlajmljaaDoorRRRR
