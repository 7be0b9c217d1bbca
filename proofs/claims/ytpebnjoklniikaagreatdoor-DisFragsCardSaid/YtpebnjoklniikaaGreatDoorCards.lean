/-
  DERIVED. GIVEN WITH THE SEED: THE CARDS: each row of YtpebnjoklniikaaGreatDoorRows.lean that lists a variable, with what it lists TIED to the program's text (the seventh form; the later family's looks); each row that meets fmt, with fmt's text TOLD by the authors' own Lean function (tested against real Go, not proved from fmt's source: count such statements apart). THE CARD IS WHAT COUNTS. Prove the row's statement (the work); the ties are given (YtpebnjoklniikaaGreatDoorTie.lean); close each card by the builder's one call (the guide's Derived/Test/ToyasCard.lean, 'card_holds'). Laid BY PROGRAM, IN A SANDBOX (cutbox-door.mjs). By AI agents, Wed Nov 11 2026. No macro, syntax, notation, axiom, sorry.
-/
import Derived.Test.YtpebnjoklniikaaGreatDoorRows
import GoSem.ClaimSeven
namespace Go.Proofs.YtpebnjoklniikaaGreatDoor
namespace Rows

/-- THE TIED CARD OF 'letterpresslaw6.DisAll'. -/
def disAllCard : Claim7 := { stood := { row := disAllRow, standIns := [], harness := (true, "c6665a5671b2589f65b76f32388a5d43b9129fe7c56d5e2eb1ee1a399ca42f6a"), looks := false }, kinds := [], alts := [], laidByText := true, laidKinds := [.data, .data, .data, .listed, .data], laidTests := true, laidLooks := .later }
def DisAllCardSaid : Prop := Claim7.holds Tryz.pinned (.plain (OpenSpec.ofChange disAllSpec)) disAllCard

/-- THE TIED CARD OF 'letterpresslaw6.DisFrags'. -/
def disFragsCard : Claim7 := { stood := { row := disFragsRow, standIns := [], harness := (true, "c6665a5671b2589f65b76f32388a5d43b9129fe7c56d5e2eb1ee1a399ca42f6a"), looks := false }, kinds := [], alts := [], laidByText := true, laidKinds := [.data, .data, .data, .listed, .data], laidTests := true, laidLooks := .later }
def DisFragsCardSaid : Prop := Claim7.holds Tryz.pinned (.plain (OpenSpec.ofChange disFragsSpec)) disFragsCard

/-- THE TIED CARD OF 'letterpresslaw6.DisOne'. -/
def disOneCard : Claim7 := { stood := { row := disOneRow, standIns := [], harness := (true, "c6665a5671b2589f65b76f32388a5d43b9129fe7c56d5e2eb1ee1a399ca42f6a"), looks := false }, kinds := [], alts := [], laidByText := true, laidKinds := [.data, .data, .data, .listed, .data], laidTests := true, laidLooks := .later }
def DisOneCardSaid : Prop := Claim7.holds Tryz.pinned (.plain (OpenSpec.ofChange disOneSpec)) disOneCard

/-- THE TIED CARD OF 'letterpresslaw6.DisJoined'. -/
def disJoinedCard : Claim7 := { stood := { row := disJoinedRow, standIns := [], harness := (true, "c6665a5671b2589f65b76f32388a5d43b9129fe7c56d5e2eb1ee1a399ca42f6a"), looks := false }, kinds := [], alts := [], laidByText := true, laidKinds := [.data, .data, .data, .listed, .data], laidTests := true, laidLooks := .later }
def DisJoinedCardSaid : Prop := Claim7.holds Tryz.pinned (.plain (OpenSpec.ofChange disJoinedSpec)) disJoinedCard

/-- THE TIED CARD OF 'letterpresslaw6.DisOwn'. -/
def disOwnCard : Claim7 := { stood := { row := disOwnRow, standIns := [], harness := (true, "c6665a5671b2589f65b76f32388a5d43b9129fe7c56d5e2eb1ee1a399ca42f6a"), looks := false }, kinds := [], alts := [], laidByText := true, laidKinds := [.data, .data, .data, .listed, .data], laidTests := true, laidLooks := .later }
def DisOwnCardSaid : Prop := Claim7.holds Tryz.pinned (.plain (OpenSpec.ofChange disOwnSpec)) disOwnCard

/-- THE SECOND FORM's CARD OF 'letterpresslaw6.DisAll'. -/
def disAllUptoCard : Claim7 := { stood := { row := disAllUptoRow, standIns := [], harness := (true, "c6665a5671b2589f65b76f32388a5d43b9129fe7c56d5e2eb1ee1a399ca42f6a"), looks := false }, kinds := [], alts := [], laidByText := true, laidKinds := [.data, .data, .data, .listed, .data], laidTests := true, laidLooks := .later }
def DisAllUptoCardSaid : Prop := Claim7.holds Tryz.pinned (.plain (OpenSpec.upto disAllSpec)) disAllUptoCard

/-- THE SECOND FORM's CARD OF 'letterpresslaw6.DisFrags'. -/
def disFragsUptoCard : Claim7 := { stood := { row := disFragsUptoRow, standIns := [], harness := (true, "c6665a5671b2589f65b76f32388a5d43b9129fe7c56d5e2eb1ee1a399ca42f6a"), looks := false }, kinds := [], alts := [], laidByText := true, laidKinds := [.data, .data, .data, .listed, .data], laidTests := true, laidLooks := .later }
def DisFragsUptoCardSaid : Prop := Claim7.holds Tryz.pinned (.plain (OpenSpec.upto disFragsSpec)) disFragsUptoCard

/-- THE SECOND FORM's CARD OF 'letterpresslaw6.DisOne'. -/
def disOneUptoCard : Claim7 := { stood := { row := disOneUptoRow, standIns := [], harness := (true, "c6665a5671b2589f65b76f32388a5d43b9129fe7c56d5e2eb1ee1a399ca42f6a"), looks := false }, kinds := [], alts := [], laidByText := true, laidKinds := [.data, .data, .data, .listed, .data], laidTests := true, laidLooks := .later }
def DisOneUptoCardSaid : Prop := Claim7.holds Tryz.pinned (.plain (OpenSpec.upto disOneSpec)) disOneUptoCard

/-- THE SECOND FORM's CARD OF 'letterpresslaw6.DisJoined'. -/
def disJoinedUptoCard : Claim7 := { stood := { row := disJoinedUptoRow, standIns := [], harness := (true, "c6665a5671b2589f65b76f32388a5d43b9129fe7c56d5e2eb1ee1a399ca42f6a"), looks := false }, kinds := [], alts := [], laidByText := true, laidKinds := [.data, .data, .data, .listed, .data], laidTests := true, laidLooks := .later }
def DisJoinedUptoCardSaid : Prop := Claim7.holds Tryz.pinned (.plain (OpenSpec.upto disJoinedSpec)) disJoinedUptoCard

/-- THE SECOND FORM's CARD OF 'letterpresslaw6.DisOwn'. -/
def disOwnUptoCard : Claim7 := { stood := { row := disOwnUptoRow, standIns := [], harness := (true, "c6665a5671b2589f65b76f32388a5d43b9129fe7c56d5e2eb1ee1a399ca42f6a"), looks := false }, kinds := [], alts := [], laidByText := true, laidKinds := [.data, .data, .data, .listed, .data], laidTests := true, laidLooks := .later }
def DisOwnUptoCardSaid : Prop := Claim7.holds Tryz.pinned (.plain (OpenSpec.upto disOwnSpec)) disOwnUptoCard
end Rows
end Go.Proofs.YtpebnjoklniikaaGreatDoor
