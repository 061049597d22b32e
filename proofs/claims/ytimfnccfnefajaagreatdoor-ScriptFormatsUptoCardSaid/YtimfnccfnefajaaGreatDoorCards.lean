/-
  DERIVED. GIVEN WITH THE SEED: THE CARDS: each row of YtimfnccfnefajaaGreatDoorRows.lean that lists a variable, with what it lists TIED to the program's text (the seventh form; the later family's looks); each row that meets fmt, with fmt's text TOLD by the authors' own Lean function (tested against real Go, not proved from fmt's source: count such statements apart). THE CARD IS WHAT COUNTS. Prove the row's statement (the work); the ties are given (YtimfnccfnefajaaGreatDoorTie.lean); close each card by the builder's one call (the guide's Derived/Test/ToyasCard.lean, 'card_holds'). Laid BY PROGRAM, IN A SANDBOX (cutbox-door.mjs). By AI agents, Wed Nov 11 2026. No macro, syntax, notation, axiom, sorry.
-/
import Derived.Test.YtimfnccfnefajaaGreatDoorRows
import GoSem.ClaimSeven
namespace Go.Proofs.YtimfnccfnefajaaGreatDoor
namespace Rows

/-- THE TIED CARD OF 'trclaw44.ScriptParses'. -/
def scriptParsesCard : Claim7 := { stood := { row := scriptParsesRow, standIns := [], harness := (true, "381a75e930d642b095c3ce381e0b5036fa91836e7d55ac486192ad5d7e8418d2"), looks := true }, kinds := [], alts := [], laidByText := true, laidKinds := [.data, .data, .data, .data, .sentinel, .sentinel, .data, .data, .data, .data, .pinned], laidTests := true, laidLooks := .later }
def ScriptParsesCardSaid : Prop := Claim7.holds Tryz.pinned (.plain (OpenSpec.ofChange scriptParsesSpec)) scriptParsesCard

/-- THE TIED CARD OF 'trclaw44.ScriptFormats'. -/
def scriptFormatsCard : Claim7 := { stood := { row := scriptFormatsRow, standIns := [], harness := (true, "381a75e930d642b095c3ce381e0b5036fa91836e7d55ac486192ad5d7e8418d2"), looks := true }, kinds := [], alts := [], laidByText := true, laidKinds := [.data, .data, .data, .data, .sentinel, .sentinel, .data, .data, .data, .data, .pinned], laidTests := true, laidLooks := .later }
def ScriptFormatsCardSaid : Prop := Claim7.holds Tryz.pinned (.plain (OpenSpec.ofChange scriptFormatsSpec)) scriptFormatsCard

/-- THE TIED CARD OF 'trclaw44.ScriptBack'. -/
def scriptBackCard : Claim7 := { stood := { row := scriptBackRow, standIns := [], harness := (true, "381a75e930d642b095c3ce381e0b5036fa91836e7d55ac486192ad5d7e8418d2"), looks := true }, kinds := [], alts := [], laidByText := true, laidKinds := [.data, .data, .data, .data, .sentinel, .sentinel, .data, .data, .data, .data, .pinned], laidTests := true, laidLooks := .later }
def ScriptBackCardSaid : Prop := Claim7.holds Tryz.pinned (.plain (OpenSpec.ofChange scriptBackSpec)) scriptBackCard

/-- THE TIED CARD OF 'trclaw44.ScriptLines'. -/
def scriptLinesCard : Claim7 := { stood := { row := scriptLinesRow, standIns := [], harness := (true, "381a75e930d642b095c3ce381e0b5036fa91836e7d55ac486192ad5d7e8418d2"), looks := true }, kinds := [], alts := [], laidByText := true, laidKinds := [.data, .data, .data, .data, .sentinel, .sentinel, .data, .data, .data, .data, .pinned], laidTests := true, laidLooks := .later }
def ScriptLinesCardSaid : Prop := Claim7.holds Tryz.pinned (.plain (OpenSpec.ofChange scriptLinesSpec)) scriptLinesCard

/-- THE TIED CARD OF 'trclaw44.ScriptWrong'. -/
def scriptWrongCard : Claim7 := { stood := { row := scriptWrongRow, standIns := [], harness := (true, "381a75e930d642b095c3ce381e0b5036fa91836e7d55ac486192ad5d7e8418d2"), looks := true }, kinds := [], alts := [], laidByText := true, laidKinds := [.data, .data, .data, .data, .sentinel, .sentinel, .data, .data, .data, .data, .pinned], laidTests := true, laidLooks := .later }
def ScriptWrongCardSaid : Prop := Claim7.holds Tryz.pinned (.plain (OpenSpec.ofChange scriptWrongSpec)) scriptWrongCard

/-- THE TIED CARD OF 'trclaw44.ScriptTitles'. -/
def scriptTitlesCard : Claim7 := { stood := { row := scriptTitlesRow, standIns := [], harness := (true, "381a75e930d642b095c3ce381e0b5036fa91836e7d55ac486192ad5d7e8418d2"), looks := true }, kinds := [], alts := [], laidByText := true, laidKinds := [.data, .data, .data, .data, .sentinel, .sentinel, .data, .data, .data, .data, .pinned], laidTests := true, laidLooks := .later }
def ScriptTitlesCardSaid : Prop := Claim7.holds Tryz.pinned (.plain (OpenSpec.ofChange scriptTitlesSpec)) scriptTitlesCard

/-- THE SECOND FORM's CARD OF 'trclaw44.ScriptParses'. -/
def scriptParsesUptoCard : Claim7 := { stood := { row := scriptParsesUptoRow, standIns := [], harness := (true, "381a75e930d642b095c3ce381e0b5036fa91836e7d55ac486192ad5d7e8418d2"), looks := true }, kinds := [], alts := [], laidByText := true, laidKinds := [.data, .data, .data, .data, .sentinel, .sentinel, .data, .data, .data, .data, .pinned], laidTests := true, laidLooks := .later }
def ScriptParsesUptoCardSaid : Prop := Claim7.holds Tryz.pinned (.plain (OpenSpec.upto scriptParsesSpec)) scriptParsesUptoCard

/-- THE SECOND FORM's CARD OF 'trclaw44.ScriptFormats'. -/
def scriptFormatsUptoCard : Claim7 := { stood := { row := scriptFormatsUptoRow, standIns := [], harness := (true, "381a75e930d642b095c3ce381e0b5036fa91836e7d55ac486192ad5d7e8418d2"), looks := true }, kinds := [], alts := [], laidByText := true, laidKinds := [.data, .data, .data, .data, .sentinel, .sentinel, .data, .data, .data, .data, .pinned], laidTests := true, laidLooks := .later }
def ScriptFormatsUptoCardSaid : Prop := Claim7.holds Tryz.pinned (.plain (OpenSpec.upto scriptFormatsSpec)) scriptFormatsUptoCard

/-- THE SECOND FORM's CARD OF 'trclaw44.ScriptBack'. -/
def scriptBackUptoCard : Claim7 := { stood := { row := scriptBackUptoRow, standIns := [], harness := (true, "381a75e930d642b095c3ce381e0b5036fa91836e7d55ac486192ad5d7e8418d2"), looks := true }, kinds := [], alts := [], laidByText := true, laidKinds := [.data, .data, .data, .data, .sentinel, .sentinel, .data, .data, .data, .data, .pinned], laidTests := true, laidLooks := .later }
def ScriptBackUptoCardSaid : Prop := Claim7.holds Tryz.pinned (.plain (OpenSpec.upto scriptBackSpec)) scriptBackUptoCard

/-- THE SECOND FORM's CARD OF 'trclaw44.ScriptLines'. -/
def scriptLinesUptoCard : Claim7 := { stood := { row := scriptLinesUptoRow, standIns := [], harness := (true, "381a75e930d642b095c3ce381e0b5036fa91836e7d55ac486192ad5d7e8418d2"), looks := true }, kinds := [], alts := [], laidByText := true, laidKinds := [.data, .data, .data, .data, .sentinel, .sentinel, .data, .data, .data, .data, .pinned], laidTests := true, laidLooks := .later }
def ScriptLinesUptoCardSaid : Prop := Claim7.holds Tryz.pinned (.plain (OpenSpec.upto scriptLinesSpec)) scriptLinesUptoCard

/-- THE SECOND FORM's CARD OF 'trclaw44.ScriptWrong'. -/
def scriptWrongUptoCard : Claim7 := { stood := { row := scriptWrongUptoRow, standIns := [], harness := (true, "381a75e930d642b095c3ce381e0b5036fa91836e7d55ac486192ad5d7e8418d2"), looks := true }, kinds := [], alts := [], laidByText := true, laidKinds := [.data, .data, .data, .data, .sentinel, .sentinel, .data, .data, .data, .data, .pinned], laidTests := true, laidLooks := .later }
def ScriptWrongUptoCardSaid : Prop := Claim7.holds Tryz.pinned (.plain (OpenSpec.upto scriptWrongSpec)) scriptWrongUptoCard

/-- THE SECOND FORM's CARD OF 'trclaw44.ScriptTitles'. -/
def scriptTitlesUptoCard : Claim7 := { stood := { row := scriptTitlesUptoRow, standIns := [], harness := (true, "381a75e930d642b095c3ce381e0b5036fa91836e7d55ac486192ad5d7e8418d2"), looks := true }, kinds := [], alts := [], laidByText := true, laidKinds := [.data, .data, .data, .data, .sentinel, .sentinel, .data, .data, .data, .data, .pinned], laidTests := true, laidLooks := .later }
def ScriptTitlesUptoCardSaid : Prop := Claim7.holds Tryz.pinned (.plain (OpenSpec.upto scriptTitlesSpec)) scriptTitlesUptoCard
end Rows
end Go.Proofs.YtimfnccfnefajaaGreatDoor
