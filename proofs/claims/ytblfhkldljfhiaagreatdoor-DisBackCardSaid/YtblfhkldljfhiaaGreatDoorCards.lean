/-
  DERIVED. GIVEN WITH THE SEED: THE CARDS: each row of YtblfhkldljfhiaaGreatDoorRows.lean that lists a variable, with what it lists TIED to the program's text (the seventh form; the later family's looks); each row that meets fmt, with fmt's text TOLD by the authors' own Lean function (tested against real Go, not proved from fmt's source: count such statements apart). THE CARD IS WHAT COUNTS. Prove the row's statement (the work); the ties are given (YtblfhkldljfhiaaGreatDoorTie.lean); close each card by the builder's one call (the guide's Derived/Test/ToyasCard.lean, 'card_holds'). Laid BY PROGRAM, IN A SANDBOX (cutbox-door.mjs). By AI agents, Wed Nov 11 2026. No macro, syntax, notation, axiom, sorry.
-/
import Derived.Test.YtblfhkldljfhiaaGreatDoorRows
import GoSem.ClaimSeven
namespace Go.Proofs.YtblfhkldljfhiaaGreatDoor
namespace Rows

/-- THE TIED CARD OF 'letterpresslaw6.DisBack'. -/
def disBackCard : Claim7 := { stood := { row := disBackRow, standIns := [], harness := (true, "eddddd2f21bf15afe128c8206f0bde60fb9797faf78c19398001fce18d007a2a"), looks := true }, kinds := [], alts := [], laidByText := true, laidKinds := [.data, .data, .data, .listed, .data], laidTests := true, laidLooks := .later }
def DisBackCardSaid : Prop := Claim7.holds Tryz.pinned (.plain (OpenSpec.ofChange disBackSpec)) disBackCard

/-- THE TIED CARD OF 'letterpresslaw6.DisLines'. -/
def disLinesCard : Claim7 := { stood := { row := disLinesRow, standIns := [], harness := (true, "eddddd2f21bf15afe128c8206f0bde60fb9797faf78c19398001fce18d007a2a"), looks := true }, kinds := [], alts := [], laidByText := true, laidKinds := [.data, .data, .data, .listed, .data], laidTests := true, laidLooks := .later }
def DisLinesCardSaid : Prop := Claim7.holds Tryz.pinned (.plain (OpenSpec.ofChange disLinesSpec)) disLinesCard

/-- THE TIED CARD OF 'letterpresslaw4.LineBack'. -/
def lineBackCard : Claim7 := { stood := { row := lineBackRow, standIns := [], harness := (true, "eddddd2f21bf15afe128c8206f0bde60fb9797faf78c19398001fce18d007a2a"), looks := true }, kinds := [], alts := [], laidByText := true, laidKinds := [.data, .data, .data, .data, .sentinel, .sentinel, .listed, .data, .pinned], laidTests := true, laidLooks := .later }
def LineBackCardSaid : Prop := Claim7.holds Tryz.pinned (.plain (OpenSpec.ofChange lineBackSpec)) lineBackCard

/-- THE TIED CARD OF 'letterpresslaw4.LineReads'. -/
def lineReadsCard : Claim7 := { stood := { row := lineReadsRow, standIns := [], harness := (true, "eddddd2f21bf15afe128c8206f0bde60fb9797faf78c19398001fce18d007a2a"), looks := true }, kinds := [], alts := [], laidByText := true, laidKinds := [.data, .data, .data, .data, .sentinel, .sentinel, .listed, .data, .pinned], laidTests := true, laidLooks := .later }
def LineReadsCardSaid : Prop := Claim7.holds Tryz.pinned (.plain (OpenSpec.ofChange lineReadsSpec)) lineReadsCard

/-- THE TIED CARD OF 'letterpresslaw4.LineParses'. -/
def lineParsesCard : Claim7 := { stood := { row := lineParsesRow, standIns := [], harness := (true, "eddddd2f21bf15afe128c8206f0bde60fb9797faf78c19398001fce18d007a2a"), looks := true }, kinds := [], alts := [], laidByText := true, laidKinds := [.data, .data, .data, .data, .sentinel, .sentinel, .listed, .data, .pinned], laidTests := true, laidLooks := .later }
def LineParsesCardSaid : Prop := Claim7.holds Tryz.pinned (.plain (OpenSpec.ofChange lineParsesSpec)) lineParsesCard

/-- THE TIED CARD OF 'letterpresslaw4.LineWords'. -/
def lineWordsCard : Claim7 := { stood := { row := lineWordsRow, standIns := [], harness := (true, "eddddd2f21bf15afe128c8206f0bde60fb9797faf78c19398001fce18d007a2a"), looks := true }, kinds := [], alts := [], laidByText := true, laidKinds := [.data, .data, .data, .data, .sentinel, .sentinel, .listed, .data, .pinned], laidTests := true, laidLooks := .later }
def LineWordsCardSaid : Prop := Claim7.holds Tryz.pinned (.plain (OpenSpec.ofChange lineWordsSpec)) lineWordsCard

/-- THE TIED CARD OF 'letterpresslaw4.LineKnown'. -/
def lineKnownCard : Claim7 := { stood := { row := lineKnownRow, standIns := [], harness := (true, "eddddd2f21bf15afe128c8206f0bde60fb9797faf78c19398001fce18d007a2a"), looks := true }, kinds := [], alts := [], laidByText := true, laidKinds := [.data, .data, .data, .data, .sentinel, .sentinel, .listed, .data, .pinned], laidTests := true, laidLooks := .later }
def LineKnownCardSaid : Prop := Claim7.holds Tryz.pinned (.plain (OpenSpec.ofChange lineKnownSpec)) lineKnownCard

/-- THE TIED CARD OF 'letterpresslaw4.LineInsts'. -/
def lineInstsCard : Claim7 := { stood := { row := lineInstsRow, standIns := [], harness := (true, "eddddd2f21bf15afe128c8206f0bde60fb9797faf78c19398001fce18d007a2a"), looks := true }, kinds := [], alts := [], laidByText := true, laidKinds := [.data, .data, .data, .data, .sentinel, .sentinel, .listed, .data, .pinned], laidTests := true, laidLooks := .later }
def LineInstsCardSaid : Prop := Claim7.holds Tryz.pinned (.plain (OpenSpec.ofChange lineInstsSpec)) lineInstsCard

/-- THE TIED CARD OF 'letterpresslaw4.LineLabels'. -/
def lineLabelsCard : Claim7 := { stood := { row := lineLabelsRow, standIns := [], harness := (true, "eddddd2f21bf15afe128c8206f0bde60fb9797faf78c19398001fce18d007a2a"), looks := true }, kinds := [], alts := [], laidByText := true, laidKinds := [.data, .data, .data, .data, .sentinel, .sentinel, .listed, .data, .pinned], laidTests := true, laidLooks := .later }
def LineLabelsCardSaid : Prop := Claim7.holds Tryz.pinned (.plain (OpenSpec.ofChange lineLabelsSpec)) lineLabelsCard

/-- THE TIED CARD OF 'letterpresslaw4.LineRemarks'. -/
def lineRemarksCard : Claim7 := { stood := { row := lineRemarksRow, standIns := [], harness := (true, "eddddd2f21bf15afe128c8206f0bde60fb9797faf78c19398001fce18d007a2a"), looks := true }, kinds := [], alts := [], laidByText := true, laidKinds := [.data, .data, .data, .data, .sentinel, .sentinel, .listed, .data, .pinned], laidTests := true, laidLooks := .later }
def LineRemarksCardSaid : Prop := Claim7.holds Tryz.pinned (.plain (OpenSpec.ofChange lineRemarksSpec)) lineRemarksCard

/-- THE TIED CARD OF 'letterpresslaw4.LineNumbers'. -/
def lineNumbersCard : Claim7 := { stood := { row := lineNumbersRow, standIns := [], harness := (true, "eddddd2f21bf15afe128c8206f0bde60fb9797faf78c19398001fce18d007a2a"), looks := true }, kinds := [], alts := [], laidByText := true, laidKinds := [.data, .data, .data, .data, .sentinel, .sentinel, .listed, .data, .pinned], laidTests := true, laidLooks := .later }
def LineNumbersCardSaid : Prop := Claim7.holds Tryz.pinned (.plain (OpenSpec.ofChange lineNumbersSpec)) lineNumbersCard

/-- THE TIED CARD OF 'letterpresslaw4.LineMany'. -/
def lineManyCard : Claim7 := { stood := { row := lineManyRow, standIns := [], harness := (true, "eddddd2f21bf15afe128c8206f0bde60fb9797faf78c19398001fce18d007a2a"), looks := true }, kinds := [], alts := [], laidByText := true, laidKinds := [.data, .data, .data, .data, .sentinel, .sentinel, .listed, .data, .pinned], laidTests := true, laidLooks := .later }
def LineManyCardSaid : Prop := Claim7.holds Tryz.pinned (.plain (OpenSpec.ofChange lineManySpec)) lineManyCard

/-- THE SECOND FORM's CARD OF 'letterpresslaw6.DisBack'. -/
def disBackUptoCard : Claim7 := { stood := { row := disBackUptoRow, standIns := [], harness := (true, "eddddd2f21bf15afe128c8206f0bde60fb9797faf78c19398001fce18d007a2a"), looks := true }, kinds := [], alts := [], laidByText := true, laidKinds := [.data, .data, .data, .listed, .data], laidTests := true, laidLooks := .later }
def DisBackUptoCardSaid : Prop := Claim7.holds Tryz.pinned (.plain (OpenSpec.upto disBackSpec)) disBackUptoCard

/-- THE SECOND FORM's CARD OF 'letterpresslaw6.DisLines'. -/
def disLinesUptoCard : Claim7 := { stood := { row := disLinesUptoRow, standIns := [], harness := (true, "eddddd2f21bf15afe128c8206f0bde60fb9797faf78c19398001fce18d007a2a"), looks := true }, kinds := [], alts := [], laidByText := true, laidKinds := [.data, .data, .data, .listed, .data], laidTests := true, laidLooks := .later }
def DisLinesUptoCardSaid : Prop := Claim7.holds Tryz.pinned (.plain (OpenSpec.upto disLinesSpec)) disLinesUptoCard

/-- THE SECOND FORM's CARD OF 'letterpresslaw4.LineBack'. -/
def lineBackUptoCard : Claim7 := { stood := { row := lineBackUptoRow, standIns := [], harness := (true, "eddddd2f21bf15afe128c8206f0bde60fb9797faf78c19398001fce18d007a2a"), looks := true }, kinds := [], alts := [], laidByText := true, laidKinds := [.data, .data, .data, .data, .sentinel, .sentinel, .listed, .data, .pinned], laidTests := true, laidLooks := .later }
def LineBackUptoCardSaid : Prop := Claim7.holds Tryz.pinned (.plain (OpenSpec.upto lineBackSpec)) lineBackUptoCard

/-- THE SECOND FORM's CARD OF 'letterpresslaw4.LineReads'. -/
def lineReadsUptoCard : Claim7 := { stood := { row := lineReadsUptoRow, standIns := [], harness := (true, "eddddd2f21bf15afe128c8206f0bde60fb9797faf78c19398001fce18d007a2a"), looks := true }, kinds := [], alts := [], laidByText := true, laidKinds := [.data, .data, .data, .data, .sentinel, .sentinel, .listed, .data, .pinned], laidTests := true, laidLooks := .later }
def LineReadsUptoCardSaid : Prop := Claim7.holds Tryz.pinned (.plain (OpenSpec.upto lineReadsSpec)) lineReadsUptoCard

/-- THE SECOND FORM's CARD OF 'letterpresslaw4.LineParses'. -/
def lineParsesUptoCard : Claim7 := { stood := { row := lineParsesUptoRow, standIns := [], harness := (true, "eddddd2f21bf15afe128c8206f0bde60fb9797faf78c19398001fce18d007a2a"), looks := true }, kinds := [], alts := [], laidByText := true, laidKinds := [.data, .data, .data, .data, .sentinel, .sentinel, .listed, .data, .pinned], laidTests := true, laidLooks := .later }
def LineParsesUptoCardSaid : Prop := Claim7.holds Tryz.pinned (.plain (OpenSpec.upto lineParsesSpec)) lineParsesUptoCard

/-- THE SECOND FORM's CARD OF 'letterpresslaw4.LineWords'. -/
def lineWordsUptoCard : Claim7 := { stood := { row := lineWordsUptoRow, standIns := [], harness := (true, "eddddd2f21bf15afe128c8206f0bde60fb9797faf78c19398001fce18d007a2a"), looks := true }, kinds := [], alts := [], laidByText := true, laidKinds := [.data, .data, .data, .data, .sentinel, .sentinel, .listed, .data, .pinned], laidTests := true, laidLooks := .later }
def LineWordsUptoCardSaid : Prop := Claim7.holds Tryz.pinned (.plain (OpenSpec.upto lineWordsSpec)) lineWordsUptoCard

/-- THE SECOND FORM's CARD OF 'letterpresslaw4.LineKnown'. -/
def lineKnownUptoCard : Claim7 := { stood := { row := lineKnownUptoRow, standIns := [], harness := (true, "eddddd2f21bf15afe128c8206f0bde60fb9797faf78c19398001fce18d007a2a"), looks := true }, kinds := [], alts := [], laidByText := true, laidKinds := [.data, .data, .data, .data, .sentinel, .sentinel, .listed, .data, .pinned], laidTests := true, laidLooks := .later }
def LineKnownUptoCardSaid : Prop := Claim7.holds Tryz.pinned (.plain (OpenSpec.upto lineKnownSpec)) lineKnownUptoCard

/-- THE SECOND FORM's CARD OF 'letterpresslaw4.LineInsts'. -/
def lineInstsUptoCard : Claim7 := { stood := { row := lineInstsUptoRow, standIns := [], harness := (true, "eddddd2f21bf15afe128c8206f0bde60fb9797faf78c19398001fce18d007a2a"), looks := true }, kinds := [], alts := [], laidByText := true, laidKinds := [.data, .data, .data, .data, .sentinel, .sentinel, .listed, .data, .pinned], laidTests := true, laidLooks := .later }
def LineInstsUptoCardSaid : Prop := Claim7.holds Tryz.pinned (.plain (OpenSpec.upto lineInstsSpec)) lineInstsUptoCard

/-- THE SECOND FORM's CARD OF 'letterpresslaw4.LineLabels'. -/
def lineLabelsUptoCard : Claim7 := { stood := { row := lineLabelsUptoRow, standIns := [], harness := (true, "eddddd2f21bf15afe128c8206f0bde60fb9797faf78c19398001fce18d007a2a"), looks := true }, kinds := [], alts := [], laidByText := true, laidKinds := [.data, .data, .data, .data, .sentinel, .sentinel, .listed, .data, .pinned], laidTests := true, laidLooks := .later }
def LineLabelsUptoCardSaid : Prop := Claim7.holds Tryz.pinned (.plain (OpenSpec.upto lineLabelsSpec)) lineLabelsUptoCard

/-- THE SECOND FORM's CARD OF 'letterpresslaw4.LineRemarks'. -/
def lineRemarksUptoCard : Claim7 := { stood := { row := lineRemarksUptoRow, standIns := [], harness := (true, "eddddd2f21bf15afe128c8206f0bde60fb9797faf78c19398001fce18d007a2a"), looks := true }, kinds := [], alts := [], laidByText := true, laidKinds := [.data, .data, .data, .data, .sentinel, .sentinel, .listed, .data, .pinned], laidTests := true, laidLooks := .later }
def LineRemarksUptoCardSaid : Prop := Claim7.holds Tryz.pinned (.plain (OpenSpec.upto lineRemarksSpec)) lineRemarksUptoCard

/-- THE SECOND FORM's CARD OF 'letterpresslaw4.LineNumbers'. -/
def lineNumbersUptoCard : Claim7 := { stood := { row := lineNumbersUptoRow, standIns := [], harness := (true, "eddddd2f21bf15afe128c8206f0bde60fb9797faf78c19398001fce18d007a2a"), looks := true }, kinds := [], alts := [], laidByText := true, laidKinds := [.data, .data, .data, .data, .sentinel, .sentinel, .listed, .data, .pinned], laidTests := true, laidLooks := .later }
def LineNumbersUptoCardSaid : Prop := Claim7.holds Tryz.pinned (.plain (OpenSpec.upto lineNumbersSpec)) lineNumbersUptoCard

/-- THE SECOND FORM's CARD OF 'letterpresslaw4.LineMany'. -/
def lineManyUptoCard : Claim7 := { stood := { row := lineManyUptoRow, standIns := [], harness := (true, "eddddd2f21bf15afe128c8206f0bde60fb9797faf78c19398001fce18d007a2a"), looks := true }, kinds := [], alts := [], laidByText := true, laidKinds := [.data, .data, .data, .data, .sentinel, .sentinel, .listed, .data, .pinned], laidTests := true, laidLooks := .later }
def LineManyUptoCardSaid : Prop := Claim7.holds Tryz.pinned (.plain (OpenSpec.upto lineManySpec)) lineManyUptoCard
end Rows
end Go.Proofs.YtblfhkldljfhiaaGreatDoor
