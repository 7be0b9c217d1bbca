/-
  DERIVED. GIVEN WITH THE SEED: THE CARDS: each row of YticofbaajdgabaaDoorRows.lean that lists a variable, with what it lists TIED to the program's text (the seventh form; the later family's looks); each row that meets fmt, with fmt's text TOLD by the authors' own Lean function (tested against real Go, not proved from fmt's source: count such statements apart). THE CARD IS WHAT COUNTS. Prove the row's statement (the work); the ties are given (YticofbaajdgabaaDoorTie.lean); close each card by the builder's one call (the guide's Derived/Test/ToyasCard.lean, 'card_holds'). Laid BY PROGRAM, IN A SANDBOX (cutbox-door.mjs). By AI agents, Wed Nov 11 2026. No macro, syntax, notation, axiom, sorry.
-/
import Derived.Test.YticofbaajdgabaaDoorRows
import GoSem.ClaimSeven
namespace Go.Proofs.YticofbaajdgabaaDoor
namespace Rows

/-- THE TIED CARD OF 'letterpresslaw2.IsaDecodes'. -/
def isaDecodesCard : Claim7 := { stood := { row := isaDecodesRow, standIns := [], harness := (true, "9e0941a3bed8b5483a3837efef2f762ae578b94fd63546c8948659d19f0475ca"), looks := false }, kinds := [], alts := [], laidByText := true, laidKinds := [.listed, .data], laidTests := true, laidLooks := .later }
def IsaDecodesCardSaid : Prop := Claim7.holds Tryd.pinned (.plain (OpenSpec.ofChange isaDecodesSpec)) isaDecodesCard

/-- THE TIED CARD OF 'letterpresslaw2.IsaApart'. -/
def isaApartCard : Claim7 := { stood := { row := isaApartRow, standIns := [], harness := (true, "9e0941a3bed8b5483a3837efef2f762ae578b94fd63546c8948659d19f0475ca"), looks := false }, kinds := [], alts := [], laidByText := true, laidKinds := [.listed, .data], laidTests := true, laidLooks := .later }
def IsaApartCardSaid : Prop := Claim7.holds Tryd.pinned (.plain (OpenSpec.ofChange isaApartSpec)) isaApartCard

/-- THE TIED CARD OF 'letterpresslaw2.IsaKnown'. -/
def isaKnownCard : Claim7 := { stood := { row := isaKnownRow, standIns := [], harness := (true, "9e0941a3bed8b5483a3837efef2f762ae578b94fd63546c8948659d19f0475ca"), looks := false }, kinds := [], alts := [], laidByText := true, laidKinds := [.listed, .data], laidTests := true, laidLooks := .later }
def IsaKnownCardSaid : Prop := Claim7.holds Tryd.pinned (.plain (OpenSpec.ofChange isaKnownSpec)) isaKnownCard

/-- THE TIED CARD OF 'letterpresslaw2.IsaHalf'. -/
def isaHalfCard : Claim7 := { stood := { row := isaHalfRow, standIns := [], harness := (true, "9e0941a3bed8b5483a3837efef2f762ae578b94fd63546c8948659d19f0475ca"), looks := false }, kinds := [], alts := [], laidByText := true, laidKinds := [.listed, .data], laidTests := true, laidLooks := .later }
def IsaHalfCardSaid : Prop := Claim7.holds Tryd.pinned (.plain (OpenSpec.ofChange isaHalfSpec)) isaHalfCard

/-- THE TIED CARD OF 'letterpresslaw2.IsaBits'. -/
def isaBitsCard : Claim7 := { stood := { row := isaBitsRow, standIns := [], harness := (true, "9e0941a3bed8b5483a3837efef2f762ae578b94fd63546c8948659d19f0475ca"), looks := false }, kinds := [], alts := [], laidByText := true, laidKinds := [.listed, .data], laidTests := true, laidLooks := .later }
def IsaBitsCardSaid : Prop := Claim7.holds Tryd.pinned (.plain (OpenSpec.ofChange isaBitsSpec)) isaBitsCard

/-- THE TIED CARD OF 'letterpresslaw2.IsaRegs'. -/
def isaRegsCard : Claim7 := { stood := { row := isaRegsRow, standIns := [], harness := (true, "9e0941a3bed8b5483a3837efef2f762ae578b94fd63546c8948659d19f0475ca"), looks := false }, kinds := [], alts := [], laidByText := true, laidKinds := [.listed, .data], laidTests := true, laidLooks := .later }
def IsaRegsCardSaid : Prop := Claim7.holds Tryd.pinned (.plain (OpenSpec.ofChange isaRegsSpec)) isaRegsCard

/-- THE TIED CARD OF 'letterpresslaw2.IsaBack'. -/
def isaBackCard : Claim7 := { stood := { row := isaBackRow, standIns := [], harness := (true, "9e0941a3bed8b5483a3837efef2f762ae578b94fd63546c8948659d19f0475ca"), looks := false }, kinds := [], alts := [], laidByText := true, laidKinds := [.listed, .data], laidTests := true, laidLooks := .later }
def IsaBackCardSaid : Prop := Claim7.holds Tryd.pinned (.plain (OpenSpec.ofChange isaBackSpec)) isaBackCard

/-- THE TIED CARD OF 'letterpresslaw2.IsaRight'. -/
def isaRightCard : Claim7 := { stood := { row := isaRightRow, standIns := [], harness := (true, "9e0941a3bed8b5483a3837efef2f762ae578b94fd63546c8948659d19f0475ca"), looks := false }, kinds := [], alts := [], laidByText := true, laidKinds := [.listed, .data], laidTests := true, laidLooks := .later }
def IsaRightCardSaid : Prop := Claim7.holds Tryd.pinned (.plain (OpenSpec.ofChange isaRightSpec)) isaRightCard

/-- THE TIED CARD OF 'letterpresslaw2.IsaKinds'. -/
def isaKindsCard : Claim7 := { stood := { row := isaKindsRow, standIns := [], harness := (true, "9e0941a3bed8b5483a3837efef2f762ae578b94fd63546c8948659d19f0475ca"), looks := false }, kinds := [], alts := [], laidByText := true, laidKinds := [.listed, .data], laidTests := true, laidLooks := .later }
def IsaKindsCardSaid : Prop := Claim7.holds Tryd.pinned (.plain (OpenSpec.ofChange isaKindsSpec)) isaKindsCard

/-- THE TIED CARD OF 'letterpresslaw2.IsaReach'. -/
def isaReachCard : Claim7 := { stood := { row := isaReachRow, standIns := [], harness := (true, "9e0941a3bed8b5483a3837efef2f762ae578b94fd63546c8948659d19f0475ca"), looks := false }, kinds := [], alts := [], laidByText := true, laidKinds := [.listed, .data], laidTests := true, laidLooks := .later }
def IsaReachCardSaid : Prop := Claim7.holds Tryd.pinned (.plain (OpenSpec.ofChange isaReachSpec)) isaReachCard

/-- THE TIED CARD OF 'letterpresslaw2.IsaNames'. -/
def isaNamesCard : Claim7 := { stood := { row := isaNamesRow, standIns := [], harness := (true, "9e0941a3bed8b5483a3837efef2f762ae578b94fd63546c8948659d19f0475ca"), looks := false }, kinds := [], alts := [], laidByText := true, laidKinds := [.listed, .data], laidTests := true, laidLooks := .later }
def IsaNamesCardSaid : Prop := Claim7.holds Tryd.pinned (.plain (OpenSpec.ofChange isaNamesSpec)) isaNamesCard

/-- THE SECOND FORM's CARD OF 'letterpresslaw2.IsaDecodes'. -/
def isaDecodesUptoCard : Claim7 := { stood := { row := isaDecodesUptoRow, standIns := [], harness := (true, "9e0941a3bed8b5483a3837efef2f762ae578b94fd63546c8948659d19f0475ca"), looks := false }, kinds := [], alts := [], laidByText := true, laidKinds := [.listed, .data], laidTests := true, laidLooks := .later }
def IsaDecodesUptoCardSaid : Prop := Claim7.holds Tryd.pinned (.plain (OpenSpec.upto isaDecodesSpec)) isaDecodesUptoCard

/-- THE SECOND FORM's CARD OF 'letterpresslaw2.IsaApart'. -/
def isaApartUptoCard : Claim7 := { stood := { row := isaApartUptoRow, standIns := [], harness := (true, "9e0941a3bed8b5483a3837efef2f762ae578b94fd63546c8948659d19f0475ca"), looks := false }, kinds := [], alts := [], laidByText := true, laidKinds := [.listed, .data], laidTests := true, laidLooks := .later }
def IsaApartUptoCardSaid : Prop := Claim7.holds Tryd.pinned (.plain (OpenSpec.upto isaApartSpec)) isaApartUptoCard

/-- THE SECOND FORM's CARD OF 'letterpresslaw2.IsaKnown'. -/
def isaKnownUptoCard : Claim7 := { stood := { row := isaKnownUptoRow, standIns := [], harness := (true, "9e0941a3bed8b5483a3837efef2f762ae578b94fd63546c8948659d19f0475ca"), looks := false }, kinds := [], alts := [], laidByText := true, laidKinds := [.listed, .data], laidTests := true, laidLooks := .later }
def IsaKnownUptoCardSaid : Prop := Claim7.holds Tryd.pinned (.plain (OpenSpec.upto isaKnownSpec)) isaKnownUptoCard

/-- THE SECOND FORM's CARD OF 'letterpresslaw2.IsaHalf'. -/
def isaHalfUptoCard : Claim7 := { stood := { row := isaHalfUptoRow, standIns := [], harness := (true, "9e0941a3bed8b5483a3837efef2f762ae578b94fd63546c8948659d19f0475ca"), looks := false }, kinds := [], alts := [], laidByText := true, laidKinds := [.listed, .data], laidTests := true, laidLooks := .later }
def IsaHalfUptoCardSaid : Prop := Claim7.holds Tryd.pinned (.plain (OpenSpec.upto isaHalfSpec)) isaHalfUptoCard

/-- THE SECOND FORM's CARD OF 'letterpresslaw2.IsaBits'. -/
def isaBitsUptoCard : Claim7 := { stood := { row := isaBitsUptoRow, standIns := [], harness := (true, "9e0941a3bed8b5483a3837efef2f762ae578b94fd63546c8948659d19f0475ca"), looks := false }, kinds := [], alts := [], laidByText := true, laidKinds := [.listed, .data], laidTests := true, laidLooks := .later }
def IsaBitsUptoCardSaid : Prop := Claim7.holds Tryd.pinned (.plain (OpenSpec.upto isaBitsSpec)) isaBitsUptoCard

/-- THE SECOND FORM's CARD OF 'letterpresslaw2.IsaRegs'. -/
def isaRegsUptoCard : Claim7 := { stood := { row := isaRegsUptoRow, standIns := [], harness := (true, "9e0941a3bed8b5483a3837efef2f762ae578b94fd63546c8948659d19f0475ca"), looks := false }, kinds := [], alts := [], laidByText := true, laidKinds := [.listed, .data], laidTests := true, laidLooks := .later }
def IsaRegsUptoCardSaid : Prop := Claim7.holds Tryd.pinned (.plain (OpenSpec.upto isaRegsSpec)) isaRegsUptoCard

/-- THE SECOND FORM's CARD OF 'letterpresslaw2.IsaBack'. -/
def isaBackUptoCard : Claim7 := { stood := { row := isaBackUptoRow, standIns := [], harness := (true, "9e0941a3bed8b5483a3837efef2f762ae578b94fd63546c8948659d19f0475ca"), looks := false }, kinds := [], alts := [], laidByText := true, laidKinds := [.listed, .data], laidTests := true, laidLooks := .later }
def IsaBackUptoCardSaid : Prop := Claim7.holds Tryd.pinned (.plain (OpenSpec.upto isaBackSpec)) isaBackUptoCard

/-- THE SECOND FORM's CARD OF 'letterpresslaw2.IsaRight'. -/
def isaRightUptoCard : Claim7 := { stood := { row := isaRightUptoRow, standIns := [], harness := (true, "9e0941a3bed8b5483a3837efef2f762ae578b94fd63546c8948659d19f0475ca"), looks := false }, kinds := [], alts := [], laidByText := true, laidKinds := [.listed, .data], laidTests := true, laidLooks := .later }
def IsaRightUptoCardSaid : Prop := Claim7.holds Tryd.pinned (.plain (OpenSpec.upto isaRightSpec)) isaRightUptoCard

/-- THE SECOND FORM's CARD OF 'letterpresslaw2.IsaKinds'. -/
def isaKindsUptoCard : Claim7 := { stood := { row := isaKindsUptoRow, standIns := [], harness := (true, "9e0941a3bed8b5483a3837efef2f762ae578b94fd63546c8948659d19f0475ca"), looks := false }, kinds := [], alts := [], laidByText := true, laidKinds := [.listed, .data], laidTests := true, laidLooks := .later }
def IsaKindsUptoCardSaid : Prop := Claim7.holds Tryd.pinned (.plain (OpenSpec.upto isaKindsSpec)) isaKindsUptoCard

/-- THE SECOND FORM's CARD OF 'letterpresslaw2.IsaReach'. -/
def isaReachUptoCard : Claim7 := { stood := { row := isaReachUptoRow, standIns := [], harness := (true, "9e0941a3bed8b5483a3837efef2f762ae578b94fd63546c8948659d19f0475ca"), looks := false }, kinds := [], alts := [], laidByText := true, laidKinds := [.listed, .data], laidTests := true, laidLooks := .later }
def IsaReachUptoCardSaid : Prop := Claim7.holds Tryd.pinned (.plain (OpenSpec.upto isaReachSpec)) isaReachUptoCard

/-- THE SECOND FORM's CARD OF 'letterpresslaw2.IsaNames'. -/
def isaNamesUptoCard : Claim7 := { stood := { row := isaNamesUptoRow, standIns := [], harness := (true, "9e0941a3bed8b5483a3837efef2f762ae578b94fd63546c8948659d19f0475ca"), looks := false }, kinds := [], alts := [], laidByText := true, laidKinds := [.listed, .data], laidTests := true, laidLooks := .later }
def IsaNamesUptoCardSaid : Prop := Claim7.holds Tryd.pinned (.plain (OpenSpec.upto isaNamesSpec)) isaNamesUptoCard
end Rows
end Go.Proofs.YticofbaajdgabaaDoor
