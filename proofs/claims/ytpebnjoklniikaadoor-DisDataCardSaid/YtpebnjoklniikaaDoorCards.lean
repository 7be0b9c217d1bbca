/-
  DERIVED. GIVEN WITH THE SEED: THE CARDS: each row of YtpebnjoklniikaaDoorRows.lean that lists a variable, with what it lists TIED to the program's text (the seventh form; the later family's looks); each row that meets fmt, with fmt's text TOLD by the authors' own Lean function (tested against real Go, not proved from fmt's source: count such statements apart). THE CARD IS WHAT COUNTS. Prove the row's statement (the work); the ties are given (YtpebnjoklniikaaDoorTie.lean); close each card by the builder's one call (the guide's Derived/Test/ToyasCard.lean, 'card_holds'). Laid BY PROGRAM, IN A SANDBOX (cutbox-door.mjs). By AI agents, Wed Nov 11 2026. No macro, syntax, notation, axiom, sorry.
-/
import Derived.Test.YtpebnjoklniikaaDoorRows
import GoSem.ClaimSeven
namespace Go.Proofs.YtpebnjoklniikaaDoor
namespace Rows

/-- THE TIED CARD OF 'letterpresslaw6.DisKnown'. -/
def disKnownCard : Claim7 := { stood := { row := disKnownRow, standIns := [], harness := (true, "8be43116c825a79a0b6294bc5addf923d9bc953962bc862b703fafda50429f34"), looks := false }, kinds := [], alts := [], laidByText := true, laidKinds := [.data, .data, .data, .listed, .data], laidTests := true, laidLooks := .later }
def DisKnownCardSaid : Prop := Claim7.holds Tryd.pinned (.plain (OpenSpec.ofChange disKnownSpec)) disKnownCard

/-- THE TIED CARD OF 'letterpresslaw6.DisData'. -/
def disDataCard : Claim7 := { stood := { row := disDataRow, standIns := [], harness := (true, "8be43116c825a79a0b6294bc5addf923d9bc953962bc862b703fafda50429f34"), looks := false }, kinds := [], alts := [], laidByText := true, laidKinds := [.data, .data, .data, .listed, .data], laidTests := true, laidLooks := .later }
def DisDataCardSaid : Prop := Claim7.holds Tryd.pinned (.plain (OpenSpec.ofChange disDataSpec)) disDataCard

/-- THE SECOND FORM's CARD OF 'letterpresslaw6.DisKnown'. -/
def disKnownUptoCard : Claim7 := { stood := { row := disKnownUptoRow, standIns := [], harness := (true, "8be43116c825a79a0b6294bc5addf923d9bc953962bc862b703fafda50429f34"), looks := false }, kinds := [], alts := [], laidByText := true, laidKinds := [.data, .data, .data, .listed, .data], laidTests := true, laidLooks := .later }
def DisKnownUptoCardSaid : Prop := Claim7.holds Tryd.pinned (.plain (OpenSpec.upto disKnownSpec)) disKnownUptoCard

/-- THE SECOND FORM's CARD OF 'letterpresslaw6.DisData'. -/
def disDataUptoCard : Claim7 := { stood := { row := disDataUptoRow, standIns := [], harness := (true, "8be43116c825a79a0b6294bc5addf923d9bc953962bc862b703fafda50429f34"), looks := false }, kinds := [], alts := [], laidByText := true, laidKinds := [.data, .data, .data, .listed, .data], laidTests := true, laidLooks := .later }
def DisDataUptoCardSaid : Prop := Claim7.holds Tryd.pinned (.plain (OpenSpec.upto disDataSpec)) disDataUptoCard
end Rows
end Go.Proofs.YtpebnjoklniikaaDoor
