/-
  No cell of these rows narrows 'for every input' (looked for: loops, veiled, ifaces, maps, wideKeys, modest, calm, conditions, laid).
  DERIVED. THE GIVEN ROWS OF THIS SEAT. 11 by the template 'for every input the law returns true; each argument reads behind the call as it read before'; 0 by the template 'total and deterministic' (their statements: YteoacclnndbcfaaTotals.lean).
  GIVEN WITH THE SEED: the statements are not yours to turn. If you find one false, say at which input.
  Laid BY PROGRAM, IN A SANDBOX (cutbox-rows.mjs): the forced cells as the released guide's own fill.sh prints them over the translation 383050aa1c554cd0… (all of the seat's roots in one cut). By AI agents, Wed Nov 11 2026. No macro, syntax, notation, axiom, sorry.
-/
import Derived.Test.YteoacclnndbcfaaChecked
import GoSem.Claim
import GoSem.ClaimJoined
import GoSem.ClaimMapViews
import Derived.JoinedTies
import Derived.KernelRfl
namespace Go.Proofs.Yteoacclnndbcfaa
/- THE CELL 'sum', in the pinned program and in every row, IS THE sha256 OF THE DUMP (.gsa) THAT YteoacclnndbcfaaProg.lean LOADS. Nothing in Lean hashes anything: it is a label: what it is worth is what the hold of that sum in a sandbox is worth. -/
noncomputable def Try.pinned : Pinned := { name := "yteoacclnndbcfaa", sum := "383050aa1c554cd084b914693cecb6c4eadc7ea02421bcfccb4a0379484ff36d", checked := Try.checked }
namespace Rows
def none {H : Type} : Left H := { results := [], args := [] }

/-- 'letterpresslaw1.ImmSci8': WHATEVER THE INPUT: true; the input reads as it did. -/
def immSci8Spec : ChangeSpec := { name := "immSci8", fn := fun _ => fun
  | [d1, d2, d3, d4] => { results := [.lit (.bool true)], args := [d1, d2, d3, d4] }
  | _ => none }
def immSci8Row : OpenClaim := { program := "yteoacclnndbcfaa", sum := "383050aa1c554cd084b914693cecb6c4eadc7ea02421bcfccb4a0379484ff36d", func := "letterpress/letterpresslaw1.ImmSci8", spec := "immSci8", inPlace := ["math.Float64bits", "math.Float64frombits"], unfollowed := true, recurses := true, apart := false }
def ImmSci8Said : Prop := immSci8Row.holds Try.pinned (OpenSpec.ofChange immSci8Spec)

/-- ITS FALSE NEIGHBOUR: 'it returns false'. Refute it at one input. -/
def immSci8Wrong : ChangeSpec := { name := "immSci8", fn := fun _ => fun
  | [d1, d2, d3, d4] => { results := [.lit (.bool false)], args := [d1, d2, d3, d4] }
  | _ => none }
def ImmSci8WrongFalsely : Prop := immSci8Row.holds Try.pinned (OpenSpec.ofChange immSci8Wrong)

/-- 'letterpresslaw1.ImmBack': WHATEVER THE INPUT: true; the input reads as it did. -/
def immBackSpec : ChangeSpec := { name := "immBack", fn := fun _ => fun
  | [d1, d2, d3] => { results := [.lit (.bool true)], args := [d1, d2, d3] }
  | _ => none }
def immBackRow : OpenClaim := { program := "yteoacclnndbcfaa", sum := "383050aa1c554cd084b914693cecb6c4eadc7ea02421bcfccb4a0379484ff36d", func := "letterpress/letterpresslaw1.ImmBack", spec := "immBack", inPlace := ["math.Float64bits", "math.Float64frombits"], unfollowed := true, recurses := true, apart := false }
def ImmBackSaid : Prop := immBackRow.holds Try.pinned (OpenSpec.ofChange immBackSpec)

/-- ITS FALSE NEIGHBOUR: 'it returns false'. Refute it at one input. -/
def immBackWrong : ChangeSpec := { name := "immBack", fn := fun _ => fun
  | [d1, d2, d3] => { results := [.lit (.bool false)], args := [d1, d2, d3] }
  | _ => none }
def ImmBackWrongFalsely : Prop := immBackRow.holds Try.pinned (OpenSpec.ofChange immBackWrong)

/-- 'letterpresslaw1.ImmFirst': WHATEVER THE INPUT: true; the input reads as it did. -/
def immFirstSpec : ChangeSpec := { name := "immFirst", fn := fun _ => fun
  | [d1, d2, d3] => { results := [.lit (.bool true)], args := [d1, d2, d3] }
  | _ => none }
def immFirstRow : OpenClaim := { program := "yteoacclnndbcfaa", sum := "383050aa1c554cd084b914693cecb6c4eadc7ea02421bcfccb4a0379484ff36d", func := "letterpress/letterpresslaw1.ImmFirst", spec := "immFirst", inPlace := ["math.Float64bits", "math.Float64frombits"], unfollowed := true, recurses := true, apart := false }
def ImmFirstSaid : Prop := immFirstRow.holds Try.pinned (OpenSpec.ofChange immFirstSpec)

/-- ITS FALSE NEIGHBOUR: 'it returns false'. Refute it at one input. -/
def immFirstWrong : ChangeSpec := { name := "immFirst", fn := fun _ => fun
  | [d1, d2, d3] => { results := [.lit (.bool false)], args := [d1, d2, d3] }
  | _ => none }
def ImmFirstWrongFalsely : Prop := immFirstRow.holds Try.pinned (OpenSpec.ofChange immFirstWrong)

/-- 'letterpresslaw1.ImmSplits': WHATEVER THE INPUT: true; the input reads as it did. -/
def immSplitsSpec : ChangeSpec := { name := "immSplits", fn := fun _ => fun
  | [d] => { results := [.lit (.bool true)], args := [d] }
  | _ => none }
def immSplitsRow : OpenClaim := { program := "yteoacclnndbcfaa", sum := "383050aa1c554cd084b914693cecb6c4eadc7ea02421bcfccb4a0379484ff36d", func := "letterpress/letterpresslaw1.ImmSplits", spec := "immSplits", inPlace := ["math.Float64bits", "math.Float64frombits"], unfollowed := true, recurses := true, apart := false }
def ImmSplitsSaid : Prop := immSplitsRow.holds Try.pinned (OpenSpec.ofChange immSplitsSpec)

/-- ITS FALSE NEIGHBOUR: 'it returns false'. Refute it at one input. -/
def immSplitsWrong : ChangeSpec := { name := "immSplits", fn := fun _ => fun
  | [d] => { results := [.lit (.bool false)], args := [d] }
  | _ => none }
def ImmSplitsWrongFalsely : Prop := immSplitsRow.holds Try.pinned (OpenSpec.ofChange immSplitsWrong)

/-- 'letterpresslaw1.ImmFits': WHATEVER THE INPUT: true; the input reads as it did. -/
def immFitsSpec : ChangeSpec := { name := "immFits", fn := fun _ => fun
  | [d1, d2, d3] => { results := [.lit (.bool true)], args := [d1, d2, d3] }
  | _ => none }
def immFitsRow : OpenClaim := { program := "yteoacclnndbcfaa", sum := "383050aa1c554cd084b914693cecb6c4eadc7ea02421bcfccb4a0379484ff36d", func := "letterpress/letterpresslaw1.ImmFits", spec := "immFits", inPlace := ["math.Float64bits", "math.Float64frombits"], unfollowed := true, recurses := true, apart := false }
def ImmFitsSaid : Prop := immFitsRow.holds Try.pinned (OpenSpec.ofChange immFitsSpec)

/-- ITS FALSE NEIGHBOUR: 'it returns false'. Refute it at one input. -/
def immFitsWrong : ChangeSpec := { name := "immFits", fn := fun _ => fun
  | [d1, d2, d3] => { results := [.lit (.bool false)], args := [d1, d2, d3] }
  | _ => none }
def ImmFitsWrongFalsely : Prop := immFitsRow.holds Try.pinned (OpenSpec.ofChange immFitsWrong)

/-- 'letterpresslaw1.ImmJoins': WHATEVER THE INPUT: true; the input reads as it did. -/
def immJoinsSpec : ChangeSpec := { name := "immJoins", fn := fun _ => fun
  | [d1, d2, d3] => { results := [.lit (.bool true)], args := [d1, d2, d3] }
  | _ => none }
def immJoinsRow : OpenClaim := { program := "yteoacclnndbcfaa", sum := "383050aa1c554cd084b914693cecb6c4eadc7ea02421bcfccb4a0379484ff36d", func := "letterpress/letterpresslaw1.ImmJoins", spec := "immJoins", inPlace := ["math.Float64bits", "math.Float64frombits"], unfollowed := true, recurses := true, apart := false }
def ImmJoinsSaid : Prop := immJoinsRow.holds Try.pinned (OpenSpec.ofChange immJoinsSpec)

/-- ITS FALSE NEIGHBOUR: 'it returns false'. Refute it at one input. -/
def immJoinsWrong : ChangeSpec := { name := "immJoins", fn := fun _ => fun
  | [d1, d2, d3] => { results := [.lit (.bool false)], args := [d1, d2, d3] }
  | _ => none }
def ImmJoinsWrongFalsely : Prop := immJoinsRow.holds Try.pinned (OpenSpec.ofChange immJoinsWrong)

/-- 'letterpresslaw1.ImmKnown': WHATEVER THE INPUT: true; the input reads as it did. -/
def immKnownSpec : ChangeSpec := { name := "immKnown", fn := fun _ => fun
  | [d] => { results := [.lit (.bool true)], args := [d] }
  | _ => none }
def immKnownRow : OpenClaim := { program := "yteoacclnndbcfaa", sum := "383050aa1c554cd084b914693cecb6c4eadc7ea02421bcfccb4a0379484ff36d", func := "letterpress/letterpresslaw1.ImmKnown", spec := "immKnown", inPlace := ["math.Float64bits", "math.Float64frombits"], unfollowed := true, recurses := true, apart := false }
def ImmKnownSaid : Prop := immKnownRow.holds Try.pinned (OpenSpec.ofChange immKnownSpec)

/-- ITS FALSE NEIGHBOUR: 'it returns false'. Refute it at one input. -/
def immKnownWrong : ChangeSpec := { name := "immKnown", fn := fun _ => fun
  | [d] => { results := [.lit (.bool false)], args := [d] }
  | _ => none }
def ImmKnownWrongFalsely : Prop := immKnownRow.holds Try.pinned (OpenSpec.ofChange immKnownWrong)

/-- 'letterpresslaw1.ImmBytes': WHATEVER THE INPUT: true; the input reads as it did. -/
def immBytesSpec : ChangeSpec := { name := "immBytes", fn := fun _ => fun
  | [d1, d2, d3, d4] => { results := [.lit (.bool true)], args := [d1, d2, d3, d4] }
  | _ => none }
def immBytesRow : OpenClaim := { program := "yteoacclnndbcfaa", sum := "383050aa1c554cd084b914693cecb6c4eadc7ea02421bcfccb4a0379484ff36d", func := "letterpress/letterpresslaw1.ImmBytes", spec := "immBytes", inPlace := ["math.Float64bits", "math.Float64frombits"], unfollowed := true, recurses := true, apart := false }
def ImmBytesSaid : Prop := immBytesRow.holds Try.pinned (OpenSpec.ofChange immBytesSpec)

/-- ITS FALSE NEIGHBOUR: 'it returns false'. Refute it at one input. -/
def immBytesWrong : ChangeSpec := { name := "immBytes", fn := fun _ => fun
  | [d1, d2, d3, d4] => { results := [.lit (.bool false)], args := [d1, d2, d3, d4] }
  | _ => none }
def ImmBytesWrongFalsely : Prop := immBytesRow.holds Try.pinned (OpenSpec.ofChange immBytesWrong)

/-- 'letterpresslaw1.ImmSigns': WHATEVER THE INPUT: true; the input reads as it did. -/
def immSignsSpec : ChangeSpec := { name := "immSigns", fn := fun _ => fun
  | [d1, d2] => { results := [.lit (.bool true)], args := [d1, d2] }
  | _ => none }
def immSignsRow : OpenClaim := { program := "yteoacclnndbcfaa", sum := "383050aa1c554cd084b914693cecb6c4eadc7ea02421bcfccb4a0379484ff36d", func := "letterpress/letterpresslaw1.ImmSigns", spec := "immSigns", inPlace := ["math.Float64bits", "math.Float64frombits"], unfollowed := true, recurses := true, apart := false }
def ImmSignsSaid : Prop := immSignsRow.holds Try.pinned (OpenSpec.ofChange immSignsSpec)

/-- ITS FALSE NEIGHBOUR: 'it returns false'. Refute it at one input. -/
def immSignsWrong : ChangeSpec := { name := "immSigns", fn := fun _ => fun
  | [d1, d2] => { results := [.lit (.bool false)], args := [d1, d2] }
  | _ => none }
def ImmSignsWrongFalsely : Prop := immSignsRow.holds Try.pinned (OpenSpec.ofChange immSignsWrong)

/-- 'letterpresslaw1.ImmWider': WHATEVER THE INPUT: true; the input reads as it did. -/
def immWiderSpec : ChangeSpec := { name := "immWider", fn := fun _ => fun
  | [d1, d2] => { results := [.lit (.bool true)], args := [d1, d2] }
  | _ => none }
def immWiderRow : OpenClaim := { program := "yteoacclnndbcfaa", sum := "383050aa1c554cd084b914693cecb6c4eadc7ea02421bcfccb4a0379484ff36d", func := "letterpress/letterpresslaw1.ImmWider", spec := "immWider", inPlace := ["math.Float64bits", "math.Float64frombits"], unfollowed := true, recurses := true, apart := false }
def ImmWiderSaid : Prop := immWiderRow.holds Try.pinned (OpenSpec.ofChange immWiderSpec)

/-- ITS FALSE NEIGHBOUR: 'it returns false'. Refute it at one input. -/
def immWiderWrong : ChangeSpec := { name := "immWider", fn := fun _ => fun
  | [d1, d2] => { results := [.lit (.bool false)], args := [d1, d2] }
  | _ => none }
def ImmWiderWrongFalsely : Prop := immWiderRow.holds Try.pinned (OpenSpec.ofChange immWiderWrong)

/-- 'letterpresslaw1.ImmTurned': WHATEVER THE INPUT: true; the input reads as it did. -/
def immTurnedSpec : ChangeSpec := { name := "immTurned", fn := fun _ => fun
  | [d1, d2, d3] => { results := [.lit (.bool true)], args := [d1, d2, d3] }
  | _ => none }
def immTurnedRow : OpenClaim := { program := "yteoacclnndbcfaa", sum := "383050aa1c554cd084b914693cecb6c4eadc7ea02421bcfccb4a0379484ff36d", func := "letterpress/letterpresslaw1.ImmTurned", spec := "immTurned", inPlace := ["math.Float64bits", "math.Float64frombits"], unfollowed := true, recurses := true, apart := false }
def ImmTurnedSaid : Prop := immTurnedRow.holds Try.pinned (OpenSpec.ofChange immTurnedSpec)

/-- ITS FALSE NEIGHBOUR: 'it returns false'. Refute it at one input. -/
def immTurnedWrong : ChangeSpec := { name := "immTurned", fn := fun _ => fun
  | [d1, d2, d3] => { results := [.lit (.bool false)], args := [d1, d2, d3] }
  | _ => none }
def ImmTurnedWrongFalsely : Prop := immTurnedRow.holds Try.pinned (OpenSpec.ofChange immTurnedWrong)

/- THE SECOND FORM. 'bulk': how many values and letters a reading holds, each counted each time it is reached (what is shared counts as often as it is met; a slice's spare places count too). A statement '..UptoSaid' is the law's where the arguments, and the package variables that the reading takes, are together of bulk at most 1048576: NARROWER than '..Said'. Prove '..Said' where nothing that the law and all that it calls make is longer than what came in: it says more and counts as full. Else prove '..UptoSaid'. A law counts once. -/
mutual
def uptoBulk {H : Type} : DataW H → Nat
  | .lit (.string bytes) => bytes.length + 1
  | .lit _ => 1
  | .nil => 1
  | .ptr d => uptoBulk d + 1
  | .slice elems spare => uptoBulkAll elems + uptoBulkAll spare + 1
  | .agg parts => uptoBulkAll parts + 1
  | .iface _ d => uptoBulk d + 1
  | .map entries => uptoBulkEntries entries + 1
  | .held _ => 1
def uptoBulkAll {H : Type} : List (DataW H) → Nat
  | [] => 0
  | d :: r => uptoBulk d + uptoBulkAll r
def uptoBulkEntries {H : Type} : List (Lit × DataW H) → Nat
  | [] => 0
  | x :: r => uptoBulkEntry x + uptoBulkEntries r
def uptoBulkEntry {H : Type} : Lit × DataW H → Nat
  | (.string bytes, d) => bytes.length + uptoBulk d + 1
  | (_, d) => uptoBulk d + 1
 end
def uptoSmall : (H : Type) → List (DataW H) → Bool := fun _ ds => decide (uptoBulkAll ds ≤ 1048576)
def OpenSpec.upto (s : _root_.Go.ChangeSpec) : _root_.Go.OpenSpec := { _root_.Go.OpenSpec.ofChange s with cond := some uptoSmall }

/-- 'letterpresslaw1.ImmSci8', WHERE WHAT IT READS IS OF BULK AT MOST 1048576: true; the input reads as it did. -/
def immSci8UptoRow : OpenClaim := { program := "yteoacclnndbcfaa", sum := "383050aa1c554cd084b914693cecb6c4eadc7ea02421bcfccb4a0379484ff36d", func := "letterpress/letterpresslaw1.ImmSci8", spec := "immSci8", inPlace := ["math.Float64bits", "math.Float64frombits"], unfollowed := true, recurses := true, apart := false, narrowed := true }
def ImmSci8UptoSaid : Prop := immSci8UptoRow.holds Try.pinned (OpenSpec.upto immSci8Spec)

/-- 'letterpresslaw1.ImmBack', WHERE WHAT IT READS IS OF BULK AT MOST 1048576: true; the input reads as it did. -/
def immBackUptoRow : OpenClaim := { program := "yteoacclnndbcfaa", sum := "383050aa1c554cd084b914693cecb6c4eadc7ea02421bcfccb4a0379484ff36d", func := "letterpress/letterpresslaw1.ImmBack", spec := "immBack", inPlace := ["math.Float64bits", "math.Float64frombits"], unfollowed := true, recurses := true, apart := false, narrowed := true }
def ImmBackUptoSaid : Prop := immBackUptoRow.holds Try.pinned (OpenSpec.upto immBackSpec)

/-- 'letterpresslaw1.ImmFirst', WHERE WHAT IT READS IS OF BULK AT MOST 1048576: true; the input reads as it did. -/
def immFirstUptoRow : OpenClaim := { program := "yteoacclnndbcfaa", sum := "383050aa1c554cd084b914693cecb6c4eadc7ea02421bcfccb4a0379484ff36d", func := "letterpress/letterpresslaw1.ImmFirst", spec := "immFirst", inPlace := ["math.Float64bits", "math.Float64frombits"], unfollowed := true, recurses := true, apart := false, narrowed := true }
def ImmFirstUptoSaid : Prop := immFirstUptoRow.holds Try.pinned (OpenSpec.upto immFirstSpec)

/-- 'letterpresslaw1.ImmSplits', WHERE WHAT IT READS IS OF BULK AT MOST 1048576: true; the input reads as it did. -/
def immSplitsUptoRow : OpenClaim := { program := "yteoacclnndbcfaa", sum := "383050aa1c554cd084b914693cecb6c4eadc7ea02421bcfccb4a0379484ff36d", func := "letterpress/letterpresslaw1.ImmSplits", spec := "immSplits", inPlace := ["math.Float64bits", "math.Float64frombits"], unfollowed := true, recurses := true, apart := false, narrowed := true }
def ImmSplitsUptoSaid : Prop := immSplitsUptoRow.holds Try.pinned (OpenSpec.upto immSplitsSpec)

/-- 'letterpresslaw1.ImmFits', WHERE WHAT IT READS IS OF BULK AT MOST 1048576: true; the input reads as it did. -/
def immFitsUptoRow : OpenClaim := { program := "yteoacclnndbcfaa", sum := "383050aa1c554cd084b914693cecb6c4eadc7ea02421bcfccb4a0379484ff36d", func := "letterpress/letterpresslaw1.ImmFits", spec := "immFits", inPlace := ["math.Float64bits", "math.Float64frombits"], unfollowed := true, recurses := true, apart := false, narrowed := true }
def ImmFitsUptoSaid : Prop := immFitsUptoRow.holds Try.pinned (OpenSpec.upto immFitsSpec)

/-- 'letterpresslaw1.ImmJoins', WHERE WHAT IT READS IS OF BULK AT MOST 1048576: true; the input reads as it did. -/
def immJoinsUptoRow : OpenClaim := { program := "yteoacclnndbcfaa", sum := "383050aa1c554cd084b914693cecb6c4eadc7ea02421bcfccb4a0379484ff36d", func := "letterpress/letterpresslaw1.ImmJoins", spec := "immJoins", inPlace := ["math.Float64bits", "math.Float64frombits"], unfollowed := true, recurses := true, apart := false, narrowed := true }
def ImmJoinsUptoSaid : Prop := immJoinsUptoRow.holds Try.pinned (OpenSpec.upto immJoinsSpec)

/-- 'letterpresslaw1.ImmKnown', WHERE WHAT IT READS IS OF BULK AT MOST 1048576: true; the input reads as it did. -/
def immKnownUptoRow : OpenClaim := { program := "yteoacclnndbcfaa", sum := "383050aa1c554cd084b914693cecb6c4eadc7ea02421bcfccb4a0379484ff36d", func := "letterpress/letterpresslaw1.ImmKnown", spec := "immKnown", inPlace := ["math.Float64bits", "math.Float64frombits"], unfollowed := true, recurses := true, apart := false, narrowed := true }
def ImmKnownUptoSaid : Prop := immKnownUptoRow.holds Try.pinned (OpenSpec.upto immKnownSpec)

/-- 'letterpresslaw1.ImmBytes', WHERE WHAT IT READS IS OF BULK AT MOST 1048576: true; the input reads as it did. -/
def immBytesUptoRow : OpenClaim := { program := "yteoacclnndbcfaa", sum := "383050aa1c554cd084b914693cecb6c4eadc7ea02421bcfccb4a0379484ff36d", func := "letterpress/letterpresslaw1.ImmBytes", spec := "immBytes", inPlace := ["math.Float64bits", "math.Float64frombits"], unfollowed := true, recurses := true, apart := false, narrowed := true }
def ImmBytesUptoSaid : Prop := immBytesUptoRow.holds Try.pinned (OpenSpec.upto immBytesSpec)

/-- 'letterpresslaw1.ImmSigns', WHERE WHAT IT READS IS OF BULK AT MOST 1048576: true; the input reads as it did. -/
def immSignsUptoRow : OpenClaim := { program := "yteoacclnndbcfaa", sum := "383050aa1c554cd084b914693cecb6c4eadc7ea02421bcfccb4a0379484ff36d", func := "letterpress/letterpresslaw1.ImmSigns", spec := "immSigns", inPlace := ["math.Float64bits", "math.Float64frombits"], unfollowed := true, recurses := true, apart := false, narrowed := true }
def ImmSignsUptoSaid : Prop := immSignsUptoRow.holds Try.pinned (OpenSpec.upto immSignsSpec)

/-- 'letterpresslaw1.ImmWider', WHERE WHAT IT READS IS OF BULK AT MOST 1048576: true; the input reads as it did. -/
def immWiderUptoRow : OpenClaim := { program := "yteoacclnndbcfaa", sum := "383050aa1c554cd084b914693cecb6c4eadc7ea02421bcfccb4a0379484ff36d", func := "letterpress/letterpresslaw1.ImmWider", spec := "immWider", inPlace := ["math.Float64bits", "math.Float64frombits"], unfollowed := true, recurses := true, apart := false, narrowed := true }
def ImmWiderUptoSaid : Prop := immWiderUptoRow.holds Try.pinned (OpenSpec.upto immWiderSpec)

/-- 'letterpresslaw1.ImmTurned', WHERE WHAT IT READS IS OF BULK AT MOST 1048576: true; the input reads as it did. -/
def immTurnedUptoRow : OpenClaim := { program := "yteoacclnndbcfaa", sum := "383050aa1c554cd084b914693cecb6c4eadc7ea02421bcfccb4a0379484ff36d", func := "letterpress/letterpresslaw1.ImmTurned", spec := "immTurned", inPlace := ["math.Float64bits", "math.Float64frombits"], unfollowed := true, recurses := true, apart := false, narrowed := true }
def ImmTurnedUptoSaid : Prop := immTurnedUptoRow.holds Try.pinned (OpenSpec.upto immTurnedSpec)

end Rows
end Go.Proofs.Yteoacclnndbcfaa
