/-
  DERIVED. GIVEN WITH THE SEED: THE CARDS: each row of YtklkkgmflfioeaaDoorRows.lean that lists a variable, with what it lists TIED to the program's text (the seventh form; the later family's looks); each row that meets fmt, with fmt's text TOLD by the authors' own Lean function (tested against real Go, not proved from fmt's source: count such statements apart). THE CARD IS WHAT COUNTS. Prove the row's statement (the work); the ties are given (YtklkkgmflfioeaaDoorTie.lean); close each card by the builder's one call (the guide's Derived/Test/ToyasCard.lean, 'card_holds'). Laid BY PROGRAM, IN A SANDBOX (cutbox-door.mjs). By AI agents, Wed Nov 11 2026. No macro, syntax, notation, axiom, sorry.
-/
import Derived.Test.YtklkkgmflfioeaaDoorRows
import GoSem.ClaimSeven
namespace Go.Proofs.YtklkkgmflfioeaaDoor
namespace Rows

/-- THE TIED CARD OF 'letterpresslaw3.ExprReads'. -/
def exprReadsCard : Claim7 := { stood := { row := exprReadsRow, standIns := [], harness := (true, "81d4f43cb237afca914f61e8cf0b2df16f6704554aedcf2901d890bfb1c48d5f"), looks := false }, kinds := [], alts := [], laidByText := true, laidKinds := [.data, .data, .data, .data, .pinned], laidTests := true, laidLooks := .later }
def ExprReadsCardSaid : Prop := Claim7.holds Tryd.pinned (.plain (OpenSpec.ofChange exprReadsSpec)) exprReadsCard

/-- THE TIED CARD OF 'letterpresslaw3.ExprEvals'. -/
def exprEvalsCard : Claim7 := { stood := { row := exprEvalsRow, standIns := [], harness := (true, "81d4f43cb237afca914f61e8cf0b2df16f6704554aedcf2901d890bfb1c48d5f"), looks := false }, kinds := [], alts := [], laidByText := true, laidKinds := [.data, .data, .data, .data, .pinned], laidTests := true, laidLooks := .later }
def ExprEvalsCardSaid : Prop := Claim7.holds Tryd.pinned (.plain (OpenSpec.ofChange exprEvalsSpec)) exprEvalsCard

/-- THE TIED CARD OF 'letterpresslaw3.ExprKnown'. -/
def exprKnownCard : Claim7 := { stood := { row := exprKnownRow, standIns := [], harness := (true, "81d4f43cb237afca914f61e8cf0b2df16f6704554aedcf2901d890bfb1c48d5f"), looks := false }, kinds := [], alts := [], laidByText := true, laidKinds := [.data, .data, .data, .data, .pinned], laidTests := true, laidLooks := .later }
def ExprKnownCardSaid : Prop := Claim7.holds Tryd.pinned (.plain (OpenSpec.ofChange exprKnownSpec)) exprKnownCard

/-- THE TIED CARD OF 'letterpresslaw3.ExprDeep'. -/
def exprDeepCard : Claim7 := { stood := { row := exprDeepRow, standIns := [], harness := (true, "81d4f43cb237afca914f61e8cf0b2df16f6704554aedcf2901d890bfb1c48d5f"), looks := false }, kinds := [], alts := [], laidByText := true, laidKinds := [.data, .data, .data, .data, .pinned], laidTests := true, laidLooks := .later }
def ExprDeepCardSaid : Prop := Claim7.holds Tryd.pinned (.plain (OpenSpec.ofChange exprDeepSpec)) exprDeepCard

/-- THE TIED CARD OF 'letterpresslaw3.ExprLaws'. -/
def exprLawsCard : Claim7 := { stood := { row := exprLawsRow, standIns := [], harness := (true, "81d4f43cb237afca914f61e8cf0b2df16f6704554aedcf2901d890bfb1c48d5f"), looks := false }, kinds := [], alts := [], laidByText := true, laidKinds := [.data, .data, .data, .data, .pinned], laidTests := true, laidLooks := .later }
def ExprLawsCardSaid : Prop := Claim7.holds Tryd.pinned (.plain (OpenSpec.ofChange exprLawsSpec)) exprLawsCard

/-- THE TIED CARD OF 'letterpresslaw3.ExprBlanks'. -/
def exprBlanksCard : Claim7 := { stood := { row := exprBlanksRow, standIns := [], harness := (true, "81d4f43cb237afca914f61e8cf0b2df16f6704554aedcf2901d890bfb1c48d5f"), looks := false }, kinds := [], alts := [], laidByText := true, laidKinds := [.data, .data, .data, .data, .pinned], laidTests := true, laidLooks := .later }
def ExprBlanksCardSaid : Prop := Claim7.holds Tryd.pinned (.plain (OpenSpec.ofChange exprBlanksSpec)) exprBlanksCard

/-- THE TIED CARD OF 'letterpresslaw3.ExprNumbers'. -/
def exprNumbersCard : Claim7 := { stood := { row := exprNumbersRow, standIns := [], harness := (true, "81d4f43cb237afca914f61e8cf0b2df16f6704554aedcf2901d890bfb1c48d5f"), looks := false }, kinds := [], alts := [], laidByText := true, laidKinds := [.data, .data, .data, .data, .pinned], laidTests := true, laidLooks := .later }
def ExprNumbersCardSaid : Prop := Claim7.holds Tryd.pinned (.plain (OpenSpec.ofChange exprNumbersSpec)) exprNumbersCard

/-- THE TIED CARD OF 'letterpresslaw3.ExprBound'. -/
def exprBoundCard : Claim7 := { stood := { row := exprBoundRow, standIns := [], harness := (true, "81d4f43cb237afca914f61e8cf0b2df16f6704554aedcf2901d890bfb1c48d5f"), looks := false }, kinds := [], alts := [], laidByText := true, laidKinds := [.data, .data, .data, .data, .pinned], laidTests := true, laidLooks := .later }
def ExprBoundCardSaid : Prop := Claim7.holds Tryd.pinned (.plain (OpenSpec.ofChange exprBoundSpec)) exprBoundCard

/-- THE TIED CARD OF 'letterpresslaw3.ExprFirst'. -/
def exprFirstCard : Claim7 := { stood := { row := exprFirstRow, standIns := [], harness := (true, "81d4f43cb237afca914f61e8cf0b2df16f6704554aedcf2901d890bfb1c48d5f"), looks := false }, kinds := [], alts := [], laidByText := true, laidKinds := [.data, .data, .data, .data, .pinned], laidTests := true, laidLooks := .later }
def ExprFirstCardSaid : Prop := Claim7.holds Tryd.pinned (.plain (OpenSpec.ofChange exprFirstSpec)) exprFirstCard

/-- THE TIED CARD OF 'letterpresslaw3.ExprHere'. -/
def exprHereCard : Claim7 := { stood := { row := exprHereRow, standIns := [], harness := (true, "81d4f43cb237afca914f61e8cf0b2df16f6704554aedcf2901d890bfb1c48d5f"), looks := false }, kinds := [], alts := [], laidByText := true, laidKinds := [.data, .data, .data, .data, .pinned], laidTests := true, laidLooks := .later }
def ExprHereCardSaid : Prop := Claim7.holds Tryd.pinned (.plain (OpenSpec.ofChange exprHereSpec)) exprHereCard

/-- THE TIED CARD OF 'letterpresslaw3.ExprBack'. -/
def exprBackCard : Claim7 := { stood := { row := exprBackRow, standIns := [], harness := (true, "81d4f43cb237afca914f61e8cf0b2df16f6704554aedcf2901d890bfb1c48d5f"), looks := false }, kinds := [], alts := [], laidByText := true, laidKinds := [.data, .data, .data, .data, .pinned], laidTests := true, laidLooks := .later }
def ExprBackCardSaid : Prop := Claim7.holds Tryd.pinned (.plain (OpenSpec.ofChange exprBackSpec)) exprBackCard

/-- THE SECOND FORM's CARD OF 'letterpresslaw3.ExprReads'. -/
def exprReadsUptoCard : Claim7 := { stood := { row := exprReadsUptoRow, standIns := [], harness := (true, "81d4f43cb237afca914f61e8cf0b2df16f6704554aedcf2901d890bfb1c48d5f"), looks := false }, kinds := [], alts := [], laidByText := true, laidKinds := [.data, .data, .data, .data, .pinned], laidTests := true, laidLooks := .later }
def ExprReadsUptoCardSaid : Prop := Claim7.holds Tryd.pinned (.plain (OpenSpec.upto exprReadsSpec)) exprReadsUptoCard

/-- THE SECOND FORM's CARD OF 'letterpresslaw3.ExprEvals'. -/
def exprEvalsUptoCard : Claim7 := { stood := { row := exprEvalsUptoRow, standIns := [], harness := (true, "81d4f43cb237afca914f61e8cf0b2df16f6704554aedcf2901d890bfb1c48d5f"), looks := false }, kinds := [], alts := [], laidByText := true, laidKinds := [.data, .data, .data, .data, .pinned], laidTests := true, laidLooks := .later }
def ExprEvalsUptoCardSaid : Prop := Claim7.holds Tryd.pinned (.plain (OpenSpec.upto exprEvalsSpec)) exprEvalsUptoCard

/-- THE SECOND FORM's CARD OF 'letterpresslaw3.ExprKnown'. -/
def exprKnownUptoCard : Claim7 := { stood := { row := exprKnownUptoRow, standIns := [], harness := (true, "81d4f43cb237afca914f61e8cf0b2df16f6704554aedcf2901d890bfb1c48d5f"), looks := false }, kinds := [], alts := [], laidByText := true, laidKinds := [.data, .data, .data, .data, .pinned], laidTests := true, laidLooks := .later }
def ExprKnownUptoCardSaid : Prop := Claim7.holds Tryd.pinned (.plain (OpenSpec.upto exprKnownSpec)) exprKnownUptoCard

/-- THE SECOND FORM's CARD OF 'letterpresslaw3.ExprDeep'. -/
def exprDeepUptoCard : Claim7 := { stood := { row := exprDeepUptoRow, standIns := [], harness := (true, "81d4f43cb237afca914f61e8cf0b2df16f6704554aedcf2901d890bfb1c48d5f"), looks := false }, kinds := [], alts := [], laidByText := true, laidKinds := [.data, .data, .data, .data, .pinned], laidTests := true, laidLooks := .later }
def ExprDeepUptoCardSaid : Prop := Claim7.holds Tryd.pinned (.plain (OpenSpec.upto exprDeepSpec)) exprDeepUptoCard

/-- THE SECOND FORM's CARD OF 'letterpresslaw3.ExprLaws'. -/
def exprLawsUptoCard : Claim7 := { stood := { row := exprLawsUptoRow, standIns := [], harness := (true, "81d4f43cb237afca914f61e8cf0b2df16f6704554aedcf2901d890bfb1c48d5f"), looks := false }, kinds := [], alts := [], laidByText := true, laidKinds := [.data, .data, .data, .data, .pinned], laidTests := true, laidLooks := .later }
def ExprLawsUptoCardSaid : Prop := Claim7.holds Tryd.pinned (.plain (OpenSpec.upto exprLawsSpec)) exprLawsUptoCard

/-- THE SECOND FORM's CARD OF 'letterpresslaw3.ExprBlanks'. -/
def exprBlanksUptoCard : Claim7 := { stood := { row := exprBlanksUptoRow, standIns := [], harness := (true, "81d4f43cb237afca914f61e8cf0b2df16f6704554aedcf2901d890bfb1c48d5f"), looks := false }, kinds := [], alts := [], laidByText := true, laidKinds := [.data, .data, .data, .data, .pinned], laidTests := true, laidLooks := .later }
def ExprBlanksUptoCardSaid : Prop := Claim7.holds Tryd.pinned (.plain (OpenSpec.upto exprBlanksSpec)) exprBlanksUptoCard

/-- THE SECOND FORM's CARD OF 'letterpresslaw3.ExprNumbers'. -/
def exprNumbersUptoCard : Claim7 := { stood := { row := exprNumbersUptoRow, standIns := [], harness := (true, "81d4f43cb237afca914f61e8cf0b2df16f6704554aedcf2901d890bfb1c48d5f"), looks := false }, kinds := [], alts := [], laidByText := true, laidKinds := [.data, .data, .data, .data, .pinned], laidTests := true, laidLooks := .later }
def ExprNumbersUptoCardSaid : Prop := Claim7.holds Tryd.pinned (.plain (OpenSpec.upto exprNumbersSpec)) exprNumbersUptoCard

/-- THE SECOND FORM's CARD OF 'letterpresslaw3.ExprBound'. -/
def exprBoundUptoCard : Claim7 := { stood := { row := exprBoundUptoRow, standIns := [], harness := (true, "81d4f43cb237afca914f61e8cf0b2df16f6704554aedcf2901d890bfb1c48d5f"), looks := false }, kinds := [], alts := [], laidByText := true, laidKinds := [.data, .data, .data, .data, .pinned], laidTests := true, laidLooks := .later }
def ExprBoundUptoCardSaid : Prop := Claim7.holds Tryd.pinned (.plain (OpenSpec.upto exprBoundSpec)) exprBoundUptoCard

/-- THE SECOND FORM's CARD OF 'letterpresslaw3.ExprFirst'. -/
def exprFirstUptoCard : Claim7 := { stood := { row := exprFirstUptoRow, standIns := [], harness := (true, "81d4f43cb237afca914f61e8cf0b2df16f6704554aedcf2901d890bfb1c48d5f"), looks := false }, kinds := [], alts := [], laidByText := true, laidKinds := [.data, .data, .data, .data, .pinned], laidTests := true, laidLooks := .later }
def ExprFirstUptoCardSaid : Prop := Claim7.holds Tryd.pinned (.plain (OpenSpec.upto exprFirstSpec)) exprFirstUptoCard

/-- THE SECOND FORM's CARD OF 'letterpresslaw3.ExprHere'. -/
def exprHereUptoCard : Claim7 := { stood := { row := exprHereUptoRow, standIns := [], harness := (true, "81d4f43cb237afca914f61e8cf0b2df16f6704554aedcf2901d890bfb1c48d5f"), looks := false }, kinds := [], alts := [], laidByText := true, laidKinds := [.data, .data, .data, .data, .pinned], laidTests := true, laidLooks := .later }
def ExprHereUptoCardSaid : Prop := Claim7.holds Tryd.pinned (.plain (OpenSpec.upto exprHereSpec)) exprHereUptoCard

/-- THE SECOND FORM's CARD OF 'letterpresslaw3.ExprBack'. -/
def exprBackUptoCard : Claim7 := { stood := { row := exprBackUptoRow, standIns := [], harness := (true, "81d4f43cb237afca914f61e8cf0b2df16f6704554aedcf2901d890bfb1c48d5f"), looks := false }, kinds := [], alts := [], laidByText := true, laidKinds := [.data, .data, .data, .data, .pinned], laidTests := true, laidLooks := .later }
def ExprBackUptoCardSaid : Prop := Claim7.holds Tryd.pinned (.plain (OpenSpec.upto exprBackSpec)) exprBackUptoCard
end Rows
end Go.Proofs.YtklkkgmflfioeaaDoor
