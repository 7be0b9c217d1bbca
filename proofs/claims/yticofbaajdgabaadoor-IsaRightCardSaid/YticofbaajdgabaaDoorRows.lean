/-
  NARROWER THAN 'FOR EVERY INPUT', by the rows' own cells (each row's printed sentence says how): IsaDecodes: laid · IsaApart: laid · IsaKnown: laid · IsaHalf: laid · IsaBits: laid · IsaRegs: laid · IsaBack: laid · IsaRight: laid · IsaKinds: laid · IsaReach: laid · IsaNames: laid.
  DERIVED. THE GIVEN ROWS OF THIS SEAT. 11 by the template 'for every input the law returns true; each argument reads behind the call as it read before'; 0 by the template 'total and deterministic' (their statements: YticofbaajdgabaaDoorTotals.lean).
  GIVEN WITH THE SEED: the statements are not yours to turn. If you find one false, say at which input.
  Laid BY PROGRAM, IN A SANDBOX (cutbox-rows.mjs): the forced cells as the released guide's own fill.sh prints them over the translation d655c566feb46fd3… (all of the seat's roots in one cut). By AI agents, Wed Nov 11 2026. No macro, syntax, notation, axiom, sorry.
-/
import Derived.Test.YticofbaajdgabaaDoorChecked
import GoSem.Claim
import GoSem.ClaimJoined
import GoSem.ClaimMapViews
import Derived.JoinedTies
import Derived.KernelRfl
namespace Go.Proofs.YticofbaajdgabaaDoor
/- THE CELL 'sum', in the pinned program and in every row, IS THE sha256 OF THE DUMP (.gsa) THAT YticofbaajdgabaaDoorProg.lean LOADS. Nothing in Lean hashes anything: it is a label: what it is worth is what the hold of that sum in a sandbox is worth. -/
noncomputable def Tryd.pinned : Pinned := { name := "yticofbaajdgabaadoor", sum := "d655c566feb46fd395b0eb505efe79f00fc2b2f97cbff5c87d32d64d8b90a781", checked := Tryd.checked }
namespace Rows
def none {H : Type} : Left H := { results := [], args := [] }

/- WHAT THE LISTED PACKAGE-LEVEL VARIABLES READ AS WHEN THE CALL BEGINS. Each datum BY PROGRAM (the guide's laid-datum.mjs) off the statement by which the dump's own 'gosem.cut.vars' lays the variable. In a bare row this is a premise. The card (YticofbaajdgabaaDoorCards.lean) ties it to the program's text. -/
def laid_unicode_White_Space {H : Type} : DataW H := .ptr (.agg [.slice [.agg [.lit (.int .u16 9), .lit (.int .u16 13), .lit (.int .u16 1)], .agg [.lit (.int .u16 32), .lit (.int .u16 133), .lit (.int .u16 101)], .agg [.lit (.int .u16 160), .lit (.int .u16 5760), .lit (.int .u16 5600)], .agg [.lit (.int .u16 8192), .lit (.int .u16 8202), .lit (.int .u16 1)], .agg [.lit (.int .u16 8232), .lit (.int .u16 8233), .lit (.int .u16 1)], .agg [.lit (.int .u16 8239), .lit (.int .u16 8287), .lit (.int .u16 48)], .agg [.lit (.int .u16 12288), .lit (.int .u16 12288), .lit (.int .u16 1)]] [], .nil, .lit (.int .i64 2)])
def laid_strings_asciiSpace {H : Type} : DataW H := .agg [.lit (.int .u8 0), .lit (.int .u8 0), .lit (.int .u8 0), .lit (.int .u8 0), .lit (.int .u8 0), .lit (.int .u8 0), .lit (.int .u8 0), .lit (.int .u8 0), .lit (.int .u8 0), .lit (.int .u8 1), .lit (.int .u8 1), .lit (.int .u8 1), .lit (.int .u8 1), .lit (.int .u8 1), .lit (.int .u8 0), .lit (.int .u8 0), .lit (.int .u8 0), .lit (.int .u8 0), .lit (.int .u8 0), .lit (.int .u8 0), .lit (.int .u8 0), .lit (.int .u8 0), .lit (.int .u8 0), .lit (.int .u8 0), .lit (.int .u8 0), .lit (.int .u8 0), .lit (.int .u8 0), .lit (.int .u8 0), .lit (.int .u8 0), .lit (.int .u8 0), .lit (.int .u8 0), .lit (.int .u8 0), .lit (.int .u8 1), .lit (.int .u8 0), .lit (.int .u8 0), .lit (.int .u8 0), .lit (.int .u8 0), .lit (.int .u8 0), .lit (.int .u8 0), .lit (.int .u8 0), .lit (.int .u8 0), .lit (.int .u8 0), .lit (.int .u8 0), .lit (.int .u8 0), .lit (.int .u8 0), .lit (.int .u8 0), .lit (.int .u8 0), .lit (.int .u8 0), .lit (.int .u8 0), .lit (.int .u8 0), .lit (.int .u8 0), .lit (.int .u8 0), .lit (.int .u8 0), .lit (.int .u8 0), .lit (.int .u8 0), .lit (.int .u8 0), .lit (.int .u8 0), .lit (.int .u8 0), .lit (.int .u8 0), .lit (.int .u8 0), .lit (.int .u8 0), .lit (.int .u8 0), .lit (.int .u8 0), .lit (.int .u8 0), .lit (.int .u8 0), .lit (.int .u8 0), .lit (.int .u8 0), .lit (.int .u8 0), .lit (.int .u8 0), .lit (.int .u8 0), .lit (.int .u8 0), .lit (.int .u8 0), .lit (.int .u8 0), .lit (.int .u8 0), .lit (.int .u8 0), .lit (.int .u8 0), .lit (.int .u8 0), .lit (.int .u8 0), .lit (.int .u8 0), .lit (.int .u8 0), .lit (.int .u8 0), .lit (.int .u8 0), .lit (.int .u8 0), .lit (.int .u8 0), .lit (.int .u8 0), .lit (.int .u8 0), .lit (.int .u8 0), .lit (.int .u8 0), .lit (.int .u8 0), .lit (.int .u8 0), .lit (.int .u8 0), .lit (.int .u8 0), .lit (.int .u8 0), .lit (.int .u8 0), .lit (.int .u8 0), .lit (.int .u8 0), .lit (.int .u8 0), .lit (.int .u8 0), .lit (.int .u8 0), .lit (.int .u8 0), .lit (.int .u8 0), .lit (.int .u8 0), .lit (.int .u8 0), .lit (.int .u8 0), .lit (.int .u8 0), .lit (.int .u8 0), .lit (.int .u8 0), .lit (.int .u8 0), .lit (.int .u8 0), .lit (.int .u8 0), .lit (.int .u8 0), .lit (.int .u8 0), .lit (.int .u8 0), .lit (.int .u8 0), .lit (.int .u8 0), .lit (.int .u8 0), .lit (.int .u8 0), .lit (.int .u8 0), .lit (.int .u8 0), .lit (.int .u8 0), .lit (.int .u8 0), .lit (.int .u8 0), .lit (.int .u8 0), .lit (.int .u8 0), .lit (.int .u8 0), .lit (.int .u8 0), .lit (.int .u8 0), .lit (.int .u8 0), .lit (.int .u8 0), .lit (.int .u8 0), .lit (.int .u8 0), .lit (.int .u8 0), .lit (.int .u8 0), .lit (.int .u8 0), .lit (.int .u8 0), .lit (.int .u8 0), .lit (.int .u8 0), .lit (.int .u8 0), .lit (.int .u8 0), .lit (.int .u8 0), .lit (.int .u8 0), .lit (.int .u8 0), .lit (.int .u8 0), .lit (.int .u8 0), .lit (.int .u8 0), .lit (.int .u8 0), .lit (.int .u8 0), .lit (.int .u8 0), .lit (.int .u8 0), .lit (.int .u8 0), .lit (.int .u8 0), .lit (.int .u8 0), .lit (.int .u8 0), .lit (.int .u8 0), .lit (.int .u8 0), .lit (.int .u8 0), .lit (.int .u8 0), .lit (.int .u8 0), .lit (.int .u8 0), .lit (.int .u8 0), .lit (.int .u8 0), .lit (.int .u8 0), .lit (.int .u8 0), .lit (.int .u8 0), .lit (.int .u8 0), .lit (.int .u8 0), .lit (.int .u8 0), .lit (.int .u8 0), .lit (.int .u8 0), .lit (.int .u8 0), .lit (.int .u8 0), .lit (.int .u8 0), .lit (.int .u8 0), .lit (.int .u8 0), .lit (.int .u8 0), .lit (.int .u8 0), .lit (.int .u8 0), .lit (.int .u8 0), .lit (.int .u8 0), .lit (.int .u8 0), .lit (.int .u8 0), .lit (.int .u8 0), .lit (.int .u8 0), .lit (.int .u8 0), .lit (.int .u8 0), .lit (.int .u8 0), .lit (.int .u8 0), .lit (.int .u8 0), .lit (.int .u8 0), .lit (.int .u8 0), .lit (.int .u8 0), .lit (.int .u8 0), .lit (.int .u8 0), .lit (.int .u8 0), .lit (.int .u8 0), .lit (.int .u8 0), .lit (.int .u8 0), .lit (.int .u8 0), .lit (.int .u8 0), .lit (.int .u8 0), .lit (.int .u8 0), .lit (.int .u8 0), .lit (.int .u8 0), .lit (.int .u8 0), .lit (.int .u8 0), .lit (.int .u8 0), .lit (.int .u8 0), .lit (.int .u8 0), .lit (.int .u8 0), .lit (.int .u8 0), .lit (.int .u8 0), .lit (.int .u8 0), .lit (.int .u8 0), .lit (.int .u8 0), .lit (.int .u8 0), .lit (.int .u8 0), .lit (.int .u8 0), .lit (.int .u8 0), .lit (.int .u8 0), .lit (.int .u8 0), .lit (.int .u8 0), .lit (.int .u8 0), .lit (.int .u8 0), .lit (.int .u8 0), .lit (.int .u8 0), .lit (.int .u8 0), .lit (.int .u8 0), .lit (.int .u8 0), .lit (.int .u8 0), .lit (.int .u8 0), .lit (.int .u8 0), .lit (.int .u8 0), .lit (.int .u8 0), .lit (.int .u8 0), .lit (.int .u8 0), .lit (.int .u8 0), .lit (.int .u8 0), .lit (.int .u8 0), .lit (.int .u8 0), .lit (.int .u8 0), .lit (.int .u8 0), .lit (.int .u8 0), .lit (.int .u8 0), .lit (.int .u8 0), .lit (.int .u8 0), .lit (.int .u8 0), .lit (.int .u8 0), .lit (.int .u8 0), .lit (.int .u8 0), .lit (.int .u8 0), .lit (.int .u8 0), .lit (.int .u8 0), .lit (.int .u8 0), .lit (.int .u8 0), .lit (.int .u8 0), .lit (.int .u8 0)]

/-- 'letterpresslaw2.IsaDecodes': WHATEVER THE INPUT: true; the input reads as it did. -/
def isaDecodesSpec : ChangeSpec := { name := "isaDecodes", fn := fun _ => fun
  | [d1, d2, d3, d4] => { results := [.lit (.bool true)], args := [d1, d2, d3, d4] }
  | _ => none }
def isaDecodesRow : OpenClaim := { program := "yticofbaajdgabaadoor", sum := "d655c566feb46fd395b0eb505efe79f00fc2b2f97cbff5c87d32d64d8b90a781", func := "letterpress/letterpresslaw2.IsaDecodes", spec := "isaDecodes", inPlace := ["math.Float64bits", "math.Float64frombits"], unfollowed := true, recurses := true, named := ["strings.asciiSpace", "unicode.White_Space"], apart := false, laid := [("unicode.White_Space", laid_unicode_White_Space), ("strings.asciiSpace", laid_strings_asciiSpace)] }
def IsaDecodesSaid : Prop := isaDecodesRow.holds Tryd.pinned (OpenSpec.ofChange isaDecodesSpec)

/-- ITS FALSE NEIGHBOUR: 'it returns false'. Refute it at one input. -/
def isaDecodesWrong : ChangeSpec := { name := "isaDecodes", fn := fun _ => fun
  | [d1, d2, d3, d4] => { results := [.lit (.bool false)], args := [d1, d2, d3, d4] }
  | _ => none }
def IsaDecodesWrongFalsely : Prop := isaDecodesRow.holds Tryd.pinned (OpenSpec.ofChange isaDecodesWrong)

/-- 'letterpresslaw2.IsaApart': WHATEVER THE INPUT: true; the input reads as it did. -/
def isaApartSpec : ChangeSpec := { name := "isaApart", fn := fun _ => fun
  | [d1, d2, d3, d4] => { results := [.lit (.bool true)], args := [d1, d2, d3, d4] }
  | _ => none }
def isaApartRow : OpenClaim := { program := "yticofbaajdgabaadoor", sum := "d655c566feb46fd395b0eb505efe79f00fc2b2f97cbff5c87d32d64d8b90a781", func := "letterpress/letterpresslaw2.IsaApart", spec := "isaApart", inPlace := ["math.Float64bits", "math.Float64frombits"], unfollowed := true, recurses := true, named := ["strings.asciiSpace", "unicode.White_Space"], apart := false, laid := [("unicode.White_Space", laid_unicode_White_Space), ("strings.asciiSpace", laid_strings_asciiSpace)] }
def IsaApartSaid : Prop := isaApartRow.holds Tryd.pinned (OpenSpec.ofChange isaApartSpec)

/-- ITS FALSE NEIGHBOUR: 'it returns false'. Refute it at one input. -/
def isaApartWrong : ChangeSpec := { name := "isaApart", fn := fun _ => fun
  | [d1, d2, d3, d4] => { results := [.lit (.bool false)], args := [d1, d2, d3, d4] }
  | _ => none }
def IsaApartWrongFalsely : Prop := isaApartRow.holds Tryd.pinned (OpenSpec.ofChange isaApartWrong)

/-- 'letterpresslaw2.IsaKnown': WHATEVER THE INPUT: true; the input reads as it did. -/
def isaKnownSpec : ChangeSpec := { name := "isaKnown", fn := fun _ => fun
  | [d] => { results := [.lit (.bool true)], args := [d] }
  | _ => none }
def isaKnownRow : OpenClaim := { program := "yticofbaajdgabaadoor", sum := "d655c566feb46fd395b0eb505efe79f00fc2b2f97cbff5c87d32d64d8b90a781", func := "letterpress/letterpresslaw2.IsaKnown", spec := "isaKnown", inPlace := ["math.Float64bits", "math.Float64frombits"], unfollowed := true, recurses := true, named := ["strings.asciiSpace", "unicode.White_Space"], apart := false, laid := [("unicode.White_Space", laid_unicode_White_Space), ("strings.asciiSpace", laid_strings_asciiSpace)] }
def IsaKnownSaid : Prop := isaKnownRow.holds Tryd.pinned (OpenSpec.ofChange isaKnownSpec)

/-- ITS FALSE NEIGHBOUR: 'it returns false'. Refute it at one input. -/
def isaKnownWrong : ChangeSpec := { name := "isaKnown", fn := fun _ => fun
  | [d] => { results := [.lit (.bool false)], args := [d] }
  | _ => none }
def IsaKnownWrongFalsely : Prop := isaKnownRow.holds Tryd.pinned (OpenSpec.ofChange isaKnownWrong)

/-- 'letterpresslaw2.IsaHalf': WHATEVER THE INPUT: true; the input reads as it did. -/
def isaHalfSpec : ChangeSpec := { name := "isaHalf", fn := fun _ => fun
  | [d1, d2, d3, d4] => { results := [.lit (.bool true)], args := [d1, d2, d3, d4] }
  | _ => none }
def isaHalfRow : OpenClaim := { program := "yticofbaajdgabaadoor", sum := "d655c566feb46fd395b0eb505efe79f00fc2b2f97cbff5c87d32d64d8b90a781", func := "letterpress/letterpresslaw2.IsaHalf", spec := "isaHalf", inPlace := ["math.Float64bits", "math.Float64frombits"], unfollowed := true, recurses := true, named := ["strings.asciiSpace", "unicode.White_Space"], apart := false, laid := [("unicode.White_Space", laid_unicode_White_Space), ("strings.asciiSpace", laid_strings_asciiSpace)] }
def IsaHalfSaid : Prop := isaHalfRow.holds Tryd.pinned (OpenSpec.ofChange isaHalfSpec)

/-- ITS FALSE NEIGHBOUR: 'it returns false'. Refute it at one input. -/
def isaHalfWrong : ChangeSpec := { name := "isaHalf", fn := fun _ => fun
  | [d1, d2, d3, d4] => { results := [.lit (.bool false)], args := [d1, d2, d3, d4] }
  | _ => none }
def IsaHalfWrongFalsely : Prop := isaHalfRow.holds Tryd.pinned (OpenSpec.ofChange isaHalfWrong)

/-- 'letterpresslaw2.IsaBits': WHATEVER THE INPUT: true; the input reads as it did. -/
def isaBitsSpec : ChangeSpec := { name := "isaBits", fn := fun _ => fun
  | [d1, d2, d3, d4] => { results := [.lit (.bool true)], args := [d1, d2, d3, d4] }
  | _ => none }
def isaBitsRow : OpenClaim := { program := "yticofbaajdgabaadoor", sum := "d655c566feb46fd395b0eb505efe79f00fc2b2f97cbff5c87d32d64d8b90a781", func := "letterpress/letterpresslaw2.IsaBits", spec := "isaBits", inPlace := ["math.Float64bits", "math.Float64frombits"], unfollowed := true, recurses := true, named := ["strings.asciiSpace", "unicode.White_Space"], apart := false, laid := [("unicode.White_Space", laid_unicode_White_Space), ("strings.asciiSpace", laid_strings_asciiSpace)] }
def IsaBitsSaid : Prop := isaBitsRow.holds Tryd.pinned (OpenSpec.ofChange isaBitsSpec)

/-- ITS FALSE NEIGHBOUR: 'it returns false'. Refute it at one input. -/
def isaBitsWrong : ChangeSpec := { name := "isaBits", fn := fun _ => fun
  | [d1, d2, d3, d4] => { results := [.lit (.bool false)], args := [d1, d2, d3, d4] }
  | _ => none }
def IsaBitsWrongFalsely : Prop := isaBitsRow.holds Tryd.pinned (OpenSpec.ofChange isaBitsWrong)

/-- 'letterpresslaw2.IsaRegs': WHATEVER THE INPUT: true; the input reads as it did. -/
def isaRegsSpec : ChangeSpec := { name := "isaRegs", fn := fun _ => fun
  | [d1, d2] => { results := [.lit (.bool true)], args := [d1, d2] }
  | _ => none }
def isaRegsRow : OpenClaim := { program := "yticofbaajdgabaadoor", sum := "d655c566feb46fd395b0eb505efe79f00fc2b2f97cbff5c87d32d64d8b90a781", func := "letterpress/letterpresslaw2.IsaRegs", spec := "isaRegs", inPlace := ["math.Float64bits", "math.Float64frombits"], unfollowed := true, recurses := true, named := ["strings.asciiSpace", "unicode.White_Space"], apart := false, laid := [("unicode.White_Space", laid_unicode_White_Space), ("strings.asciiSpace", laid_strings_asciiSpace)] }
def IsaRegsSaid : Prop := isaRegsRow.holds Tryd.pinned (OpenSpec.ofChange isaRegsSpec)

/-- ITS FALSE NEIGHBOUR: 'it returns false'. Refute it at one input. -/
def isaRegsWrong : ChangeSpec := { name := "isaRegs", fn := fun _ => fun
  | [d1, d2] => { results := [.lit (.bool false)], args := [d1, d2] }
  | _ => none }
def IsaRegsWrongFalsely : Prop := isaRegsRow.holds Tryd.pinned (OpenSpec.ofChange isaRegsWrong)

/-- 'letterpresslaw2.IsaBack': WHATEVER THE INPUT: true; the input reads as it did. -/
def isaBackSpec : ChangeSpec := { name := "isaBack", fn := fun _ => fun
  | [d1, d2, d3] => { results := [.lit (.bool true)], args := [d1, d2, d3] }
  | _ => none }
def isaBackRow : OpenClaim := { program := "yticofbaajdgabaadoor", sum := "d655c566feb46fd395b0eb505efe79f00fc2b2f97cbff5c87d32d64d8b90a781", func := "letterpress/letterpresslaw2.IsaBack", spec := "isaBack", inPlace := ["math.Float64bits", "math.Float64frombits"], unfollowed := true, recurses := true, named := ["strings.asciiSpace", "unicode.White_Space"], apart := false, laid := [("unicode.White_Space", laid_unicode_White_Space), ("strings.asciiSpace", laid_strings_asciiSpace)] }
def IsaBackSaid : Prop := isaBackRow.holds Tryd.pinned (OpenSpec.ofChange isaBackSpec)

/-- ITS FALSE NEIGHBOUR: 'it returns false'. Refute it at one input. -/
def isaBackWrong : ChangeSpec := { name := "isaBack", fn := fun _ => fun
  | [d1, d2, d3] => { results := [.lit (.bool false)], args := [d1, d2, d3] }
  | _ => none }
def IsaBackWrongFalsely : Prop := isaBackRow.holds Tryd.pinned (OpenSpec.ofChange isaBackWrong)

/-- 'letterpresslaw2.IsaRight': WHATEVER THE INPUT: true; the input reads as it did. -/
def isaRightSpec : ChangeSpec := { name := "isaRight", fn := fun _ => fun
  | [d1, d2, d3, d4, d5, d6] => { results := [.lit (.bool true)], args := [d1, d2, d3, d4, d5, d6] }
  | _ => none }
def isaRightRow : OpenClaim := { program := "yticofbaajdgabaadoor", sum := "d655c566feb46fd395b0eb505efe79f00fc2b2f97cbff5c87d32d64d8b90a781", func := "letterpress/letterpresslaw2.IsaRight", spec := "isaRight", inPlace := ["math.Float64bits", "math.Float64frombits"], unfollowed := true, recurses := true, named := ["strings.asciiSpace", "unicode.White_Space"], apart := false, laid := [("unicode.White_Space", laid_unicode_White_Space), ("strings.asciiSpace", laid_strings_asciiSpace)] }
def IsaRightSaid : Prop := isaRightRow.holds Tryd.pinned (OpenSpec.ofChange isaRightSpec)

/-- ITS FALSE NEIGHBOUR: 'it returns false'. Refute it at one input. -/
def isaRightWrong : ChangeSpec := { name := "isaRight", fn := fun _ => fun
  | [d1, d2, d3, d4, d5, d6] => { results := [.lit (.bool false)], args := [d1, d2, d3, d4, d5, d6] }
  | _ => none }
def IsaRightWrongFalsely : Prop := isaRightRow.holds Tryd.pinned (OpenSpec.ofChange isaRightWrong)

/-- 'letterpresslaw2.IsaKinds': WHATEVER THE INPUT: true; the input reads as it did. -/
def isaKindsSpec : ChangeSpec := { name := "isaKinds", fn := fun _ => fun
  | [d1, d2] => { results := [.lit (.bool true)], args := [d1, d2] }
  | _ => none }
def isaKindsRow : OpenClaim := { program := "yticofbaajdgabaadoor", sum := "d655c566feb46fd395b0eb505efe79f00fc2b2f97cbff5c87d32d64d8b90a781", func := "letterpress/letterpresslaw2.IsaKinds", spec := "isaKinds", inPlace := ["math.Float64bits", "math.Float64frombits"], unfollowed := true, recurses := true, named := ["strings.asciiSpace", "unicode.White_Space"], apart := false, laid := [("unicode.White_Space", laid_unicode_White_Space), ("strings.asciiSpace", laid_strings_asciiSpace)] }
def IsaKindsSaid : Prop := isaKindsRow.holds Tryd.pinned (OpenSpec.ofChange isaKindsSpec)

/-- ITS FALSE NEIGHBOUR: 'it returns false'. Refute it at one input. -/
def isaKindsWrong : ChangeSpec := { name := "isaKinds", fn := fun _ => fun
  | [d1, d2] => { results := [.lit (.bool false)], args := [d1, d2] }
  | _ => none }
def IsaKindsWrongFalsely : Prop := isaKindsRow.holds Tryd.pinned (OpenSpec.ofChange isaKindsWrong)

/-- 'letterpresslaw2.IsaReach': WHATEVER THE INPUT: true; the input reads as it did. -/
def isaReachSpec : ChangeSpec := { name := "isaReach", fn := fun _ => fun
  | [d1, d2] => { results := [.lit (.bool true)], args := [d1, d2] }
  | _ => none }
def isaReachRow : OpenClaim := { program := "yticofbaajdgabaadoor", sum := "d655c566feb46fd395b0eb505efe79f00fc2b2f97cbff5c87d32d64d8b90a781", func := "letterpress/letterpresslaw2.IsaReach", spec := "isaReach", inPlace := ["math.Float64bits", "math.Float64frombits"], unfollowed := true, recurses := true, named := ["strings.asciiSpace", "unicode.White_Space"], apart := false, laid := [("unicode.White_Space", laid_unicode_White_Space), ("strings.asciiSpace", laid_strings_asciiSpace)] }
def IsaReachSaid : Prop := isaReachRow.holds Tryd.pinned (OpenSpec.ofChange isaReachSpec)

/-- ITS FALSE NEIGHBOUR: 'it returns false'. Refute it at one input. -/
def isaReachWrong : ChangeSpec := { name := "isaReach", fn := fun _ => fun
  | [d1, d2] => { results := [.lit (.bool false)], args := [d1, d2] }
  | _ => none }
def IsaReachWrongFalsely : Prop := isaReachRow.holds Tryd.pinned (OpenSpec.ofChange isaReachWrong)

/-- 'letterpresslaw2.IsaNames': WHATEVER THE INPUT: true; the input reads as it did. -/
def isaNamesSpec : ChangeSpec := { name := "isaNames", fn := fun _ => fun
  | [d1, d2] => { results := [.lit (.bool true)], args := [d1, d2] }
  | _ => none }
def isaNamesRow : OpenClaim := { program := "yticofbaajdgabaadoor", sum := "d655c566feb46fd395b0eb505efe79f00fc2b2f97cbff5c87d32d64d8b90a781", func := "letterpress/letterpresslaw2.IsaNames", spec := "isaNames", inPlace := ["math.Float64bits", "math.Float64frombits"], unfollowed := true, recurses := true, named := ["strings.asciiSpace", "unicode.White_Space"], apart := false, laid := [("unicode.White_Space", laid_unicode_White_Space), ("strings.asciiSpace", laid_strings_asciiSpace)] }
def IsaNamesSaid : Prop := isaNamesRow.holds Tryd.pinned (OpenSpec.ofChange isaNamesSpec)

/-- ITS FALSE NEIGHBOUR: 'it returns false'. Refute it at one input. -/
def isaNamesWrong : ChangeSpec := { name := "isaNames", fn := fun _ => fun
  | [d1, d2] => { results := [.lit (.bool false)], args := [d1, d2] }
  | _ => none }
def IsaNamesWrongFalsely : Prop := isaNamesRow.holds Tryd.pinned (OpenSpec.ofChange isaNamesWrong)

/- THE SECOND FORM. 'bulk': how many values and letters a reading holds, each counted each time it is reached (what is shared counts as often as it is met; a slice's spare places count too). A statement '..UptoSaid' is the law's where the arguments, and the package variables that the reading takes, are together of bulk at most 1048576: NARROWER than '..Said'. Prove '..Said' where nothing that the law and all that it calls make is longer than what came in: it says more and counts as full. Else prove '..UptoSaid'. A law counts once. -/
mutual
def uptoBulk {H : Type} : DataW H → Nat
  | .lit (.string bytes) => bytes.length + 1
  | .lit _ => 1
  | .nil => 1
  | .ptr d => uptoBulk d + 1
  | .slice elems spare => uptoBulkAll elems + uptoBulkAll spare + 1
  | .agg parts => uptoBulkAll parts + 1
  | .iface _ d => uptoBulk d + 1
  | .map entries => uptoBulkEntries entries + 1
  | .held _ => 1
def uptoBulkAll {H : Type} : List (DataW H) → Nat
  | [] => 0
  | d :: r => uptoBulk d + uptoBulkAll r
def uptoBulkEntries {H : Type} : List (Lit × DataW H) → Nat
  | [] => 0
  | x :: r => uptoBulkEntry x + uptoBulkEntries r
def uptoBulkEntry {H : Type} : Lit × DataW H → Nat
  | (.string bytes, d) => bytes.length + uptoBulk d + 1
  | (_, d) => uptoBulk d + 1
 end
def uptoSmall : (H : Type) → List (DataW H) → Bool := fun _ ds => decide (uptoBulkAll ds ≤ 1048576)
def OpenSpec.upto (s : _root_.Go.ChangeSpec) : _root_.Go.OpenSpec := { _root_.Go.OpenSpec.ofChange s with cond := some uptoSmall }

/-- 'letterpresslaw2.IsaDecodes', WHERE WHAT IT READS IS OF BULK AT MOST 1048576: true; the input reads as it did. -/
def isaDecodesUptoRow : OpenClaim := { program := "yticofbaajdgabaadoor", sum := "d655c566feb46fd395b0eb505efe79f00fc2b2f97cbff5c87d32d64d8b90a781", func := "letterpress/letterpresslaw2.IsaDecodes", spec := "isaDecodes", inPlace := ["math.Float64bits", "math.Float64frombits"], unfollowed := true, recurses := true, named := ["strings.asciiSpace", "unicode.White_Space"], apart := false, laid := [("unicode.White_Space", laid_unicode_White_Space), ("strings.asciiSpace", laid_strings_asciiSpace)], narrowed := true }
def IsaDecodesUptoSaid : Prop := isaDecodesUptoRow.holds Tryd.pinned (OpenSpec.upto isaDecodesSpec)

/-- 'letterpresslaw2.IsaApart', WHERE WHAT IT READS IS OF BULK AT MOST 1048576: true; the input reads as it did. -/
def isaApartUptoRow : OpenClaim := { program := "yticofbaajdgabaadoor", sum := "d655c566feb46fd395b0eb505efe79f00fc2b2f97cbff5c87d32d64d8b90a781", func := "letterpress/letterpresslaw2.IsaApart", spec := "isaApart", inPlace := ["math.Float64bits", "math.Float64frombits"], unfollowed := true, recurses := true, named := ["strings.asciiSpace", "unicode.White_Space"], apart := false, laid := [("unicode.White_Space", laid_unicode_White_Space), ("strings.asciiSpace", laid_strings_asciiSpace)], narrowed := true }
def IsaApartUptoSaid : Prop := isaApartUptoRow.holds Tryd.pinned (OpenSpec.upto isaApartSpec)

/-- 'letterpresslaw2.IsaKnown', WHERE WHAT IT READS IS OF BULK AT MOST 1048576: true; the input reads as it did. -/
def isaKnownUptoRow : OpenClaim := { program := "yticofbaajdgabaadoor", sum := "d655c566feb46fd395b0eb505efe79f00fc2b2f97cbff5c87d32d64d8b90a781", func := "letterpress/letterpresslaw2.IsaKnown", spec := "isaKnown", inPlace := ["math.Float64bits", "math.Float64frombits"], unfollowed := true, recurses := true, named := ["strings.asciiSpace", "unicode.White_Space"], apart := false, laid := [("unicode.White_Space", laid_unicode_White_Space), ("strings.asciiSpace", laid_strings_asciiSpace)], narrowed := true }
def IsaKnownUptoSaid : Prop := isaKnownUptoRow.holds Tryd.pinned (OpenSpec.upto isaKnownSpec)

/-- 'letterpresslaw2.IsaHalf', WHERE WHAT IT READS IS OF BULK AT MOST 1048576: true; the input reads as it did. -/
def isaHalfUptoRow : OpenClaim := { program := "yticofbaajdgabaadoor", sum := "d655c566feb46fd395b0eb505efe79f00fc2b2f97cbff5c87d32d64d8b90a781", func := "letterpress/letterpresslaw2.IsaHalf", spec := "isaHalf", inPlace := ["math.Float64bits", "math.Float64frombits"], unfollowed := true, recurses := true, named := ["strings.asciiSpace", "unicode.White_Space"], apart := false, laid := [("unicode.White_Space", laid_unicode_White_Space), ("strings.asciiSpace", laid_strings_asciiSpace)], narrowed := true }
def IsaHalfUptoSaid : Prop := isaHalfUptoRow.holds Tryd.pinned (OpenSpec.upto isaHalfSpec)

/-- 'letterpresslaw2.IsaBits', WHERE WHAT IT READS IS OF BULK AT MOST 1048576: true; the input reads as it did. -/
def isaBitsUptoRow : OpenClaim := { program := "yticofbaajdgabaadoor", sum := "d655c566feb46fd395b0eb505efe79f00fc2b2f97cbff5c87d32d64d8b90a781", func := "letterpress/letterpresslaw2.IsaBits", spec := "isaBits", inPlace := ["math.Float64bits", "math.Float64frombits"], unfollowed := true, recurses := true, named := ["strings.asciiSpace", "unicode.White_Space"], apart := false, laid := [("unicode.White_Space", laid_unicode_White_Space), ("strings.asciiSpace", laid_strings_asciiSpace)], narrowed := true }
def IsaBitsUptoSaid : Prop := isaBitsUptoRow.holds Tryd.pinned (OpenSpec.upto isaBitsSpec)

/-- 'letterpresslaw2.IsaRegs', WHERE WHAT IT READS IS OF BULK AT MOST 1048576: true; the input reads as it did. -/
def isaRegsUptoRow : OpenClaim := { program := "yticofbaajdgabaadoor", sum := "d655c566feb46fd395b0eb505efe79f00fc2b2f97cbff5c87d32d64d8b90a781", func := "letterpress/letterpresslaw2.IsaRegs", spec := "isaRegs", inPlace := ["math.Float64bits", "math.Float64frombits"], unfollowed := true, recurses := true, named := ["strings.asciiSpace", "unicode.White_Space"], apart := false, laid := [("unicode.White_Space", laid_unicode_White_Space), ("strings.asciiSpace", laid_strings_asciiSpace)], narrowed := true }
def IsaRegsUptoSaid : Prop := isaRegsUptoRow.holds Tryd.pinned (OpenSpec.upto isaRegsSpec)

/-- 'letterpresslaw2.IsaBack', WHERE WHAT IT READS IS OF BULK AT MOST 1048576: true; the input reads as it did. -/
def isaBackUptoRow : OpenClaim := { program := "yticofbaajdgabaadoor", sum := "d655c566feb46fd395b0eb505efe79f00fc2b2f97cbff5c87d32d64d8b90a781", func := "letterpress/letterpresslaw2.IsaBack", spec := "isaBack", inPlace := ["math.Float64bits", "math.Float64frombits"], unfollowed := true, recurses := true, named := ["strings.asciiSpace", "unicode.White_Space"], apart := false, laid := [("unicode.White_Space", laid_unicode_White_Space), ("strings.asciiSpace", laid_strings_asciiSpace)], narrowed := true }
def IsaBackUptoSaid : Prop := isaBackUptoRow.holds Tryd.pinned (OpenSpec.upto isaBackSpec)

/-- 'letterpresslaw2.IsaRight', WHERE WHAT IT READS IS OF BULK AT MOST 1048576: true; the input reads as it did. -/
def isaRightUptoRow : OpenClaim := { program := "yticofbaajdgabaadoor", sum := "d655c566feb46fd395b0eb505efe79f00fc2b2f97cbff5c87d32d64d8b90a781", func := "letterpress/letterpresslaw2.IsaRight", spec := "isaRight", inPlace := ["math.Float64bits", "math.Float64frombits"], unfollowed := true, recurses := true, named := ["strings.asciiSpace", "unicode.White_Space"], apart := false, laid := [("unicode.White_Space", laid_unicode_White_Space), ("strings.asciiSpace", laid_strings_asciiSpace)], narrowed := true }
def IsaRightUptoSaid : Prop := isaRightUptoRow.holds Tryd.pinned (OpenSpec.upto isaRightSpec)

/-- 'letterpresslaw2.IsaKinds', WHERE WHAT IT READS IS OF BULK AT MOST 1048576: true; the input reads as it did. -/
def isaKindsUptoRow : OpenClaim := { program := "yticofbaajdgabaadoor", sum := "d655c566feb46fd395b0eb505efe79f00fc2b2f97cbff5c87d32d64d8b90a781", func := "letterpress/letterpresslaw2.IsaKinds", spec := "isaKinds", inPlace := ["math.Float64bits", "math.Float64frombits"], unfollowed := true, recurses := true, named := ["strings.asciiSpace", "unicode.White_Space"], apart := false, laid := [("unicode.White_Space", laid_unicode_White_Space), ("strings.asciiSpace", laid_strings_asciiSpace)], narrowed := true }
def IsaKindsUptoSaid : Prop := isaKindsUptoRow.holds Tryd.pinned (OpenSpec.upto isaKindsSpec)

/-- 'letterpresslaw2.IsaReach', WHERE WHAT IT READS IS OF BULK AT MOST 1048576: true; the input reads as it did. -/
def isaReachUptoRow : OpenClaim := { program := "yticofbaajdgabaadoor", sum := "d655c566feb46fd395b0eb505efe79f00fc2b2f97cbff5c87d32d64d8b90a781", func := "letterpress/letterpresslaw2.IsaReach", spec := "isaReach", inPlace := ["math.Float64bits", "math.Float64frombits"], unfollowed := true, recurses := true, named := ["strings.asciiSpace", "unicode.White_Space"], apart := false, laid := [("unicode.White_Space", laid_unicode_White_Space), ("strings.asciiSpace", laid_strings_asciiSpace)], narrowed := true }
def IsaReachUptoSaid : Prop := isaReachUptoRow.holds Tryd.pinned (OpenSpec.upto isaReachSpec)

/-- 'letterpresslaw2.IsaNames', WHERE WHAT IT READS IS OF BULK AT MOST 1048576: true; the input reads as it did. -/
def isaNamesUptoRow : OpenClaim := { program := "yticofbaajdgabaadoor", sum := "d655c566feb46fd395b0eb505efe79f00fc2b2f97cbff5c87d32d64d8b90a781", func := "letterpress/letterpresslaw2.IsaNames", spec := "isaNames", inPlace := ["math.Float64bits", "math.Float64frombits"], unfollowed := true, recurses := true, named := ["strings.asciiSpace", "unicode.White_Space"], apart := false, laid := [("unicode.White_Space", laid_unicode_White_Space), ("strings.asciiSpace", laid_strings_asciiSpace)], narrowed := true }
def IsaNamesUptoSaid : Prop := isaNamesUptoRow.holds Tryd.pinned (OpenSpec.upto isaNamesSpec)

end Rows
end Go.Proofs.YticofbaajdgabaaDoor
