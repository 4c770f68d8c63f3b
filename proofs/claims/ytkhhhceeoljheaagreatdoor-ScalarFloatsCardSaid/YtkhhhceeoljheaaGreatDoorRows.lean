/-
  NARROWER THAN 'FOR EVERY INPUT', by the rows' own cells (each row's printed sentence says how): ScalarTraps: laid · ScalarDo: laid · ScalarAll: laid · ScalarWords: laid · ScalarLongs: laid · ScalarStand: laid · ScalarFloats: laid · ScalarTurns: laid · ScalarHeld: laid.
  DERIVED. THE GIVEN ROWS OF THIS SEAT. 9 by the template 'for every input the law returns true; each argument reads behind the call as it read before'; 0 by the template 'total and deterministic' (their statements: YtkhhhceeoljheaaGreatDoorTotals.lean).
  GIVEN WITH THE SEED: the statements are not yours to turn. If you find one false, say at which input.
  Laid BY PROGRAM, IN A SANDBOX (cutbox-rows.mjs): the forced cells as the released guide's own fill.sh prints them over the translation d4b65a60973c802e… (all of the seat's roots in one cut). By AI agents, Wed Nov 11 2026. No macro, syntax, notation, axiom, sorry.
-/
import Derived.Test.YtkhhhceeoljheaaGreatDoorChecked
import GoSem.PinnedTables
import GoSem.Claim
import GoSem.ClaimJoined
import GoSem.ClaimMapViews
import Derived.JoinedTies
import Derived.KernelRfl
namespace Go.Proofs.YtkhhhceeoljheaaGreatDoor
/- THE CELL 'sum', in the pinned program and in every row, IS THE sha256 OF THE DUMP (.gsa) THAT YtkhhhceeoljheaaGreatDoorProg.lean LOADS. Nothing in Lean hashes anything: it is a label: what it is worth is what the hold of that sum in a sandbox is worth. -/
noncomputable def Tryz.pinned : Pinned := { name := "ytkhhhceeoljheaagreatdoor", sum := "d4b65a60973c802ed5fd0d650c28a38044f84de60313cf6ae517ff507366d7e0", checked := Tryz.checked }
namespace Rows
def none {H : Type} : Left H := { results := [], args := [] }

/- WHAT THE LISTED PACKAGE-LEVEL VARIABLES READ AS WHEN THE CALL BEGINS. Each datum BY PROGRAM (the guide's laid-datum.mjs) off the statement by which the dump's own 'gosem.cut.vars' lays the variable. In a bare row this is a premise. The card (YtkhhhceeoljheaaGreatDoorCards.lean) ties it to the program's text. -/
def laid_math_bits_deBruijn64tab {H : Type} : DataW H := .agg [.lit (.int .u8 0), .lit (.int .u8 1), .lit (.int .u8 56), .lit (.int .u8 2), .lit (.int .u8 57), .lit (.int .u8 49), .lit (.int .u8 28), .lit (.int .u8 3), .lit (.int .u8 61), .lit (.int .u8 58), .lit (.int .u8 42), .lit (.int .u8 50), .lit (.int .u8 38), .lit (.int .u8 29), .lit (.int .u8 17), .lit (.int .u8 4), .lit (.int .u8 62), .lit (.int .u8 47), .lit (.int .u8 59), .lit (.int .u8 36), .lit (.int .u8 45), .lit (.int .u8 43), .lit (.int .u8 51), .lit (.int .u8 22), .lit (.int .u8 53), .lit (.int .u8 39), .lit (.int .u8 33), .lit (.int .u8 30), .lit (.int .u8 24), .lit (.int .u8 18), .lit (.int .u8 12), .lit (.int .u8 5), .lit (.int .u8 63), .lit (.int .u8 55), .lit (.int .u8 48), .lit (.int .u8 27), .lit (.int .u8 60), .lit (.int .u8 41), .lit (.int .u8 37), .lit (.int .u8 16), .lit (.int .u8 46), .lit (.int .u8 35), .lit (.int .u8 44), .lit (.int .u8 21), .lit (.int .u8 52), .lit (.int .u8 32), .lit (.int .u8 23), .lit (.int .u8 11), .lit (.int .u8 54), .lit (.int .u8 26), .lit (.int .u8 40), .lit (.int .u8 15), .lit (.int .u8 34), .lit (.int .u8 20), .lit (.int .u8 31), .lit (.int .u8 10), .lit (.int .u8 25), .lit (.int .u8 14), .lit (.int .u8 19), .lit (.int .u8 9), .lit (.int .u8 13), .lit (.int .u8 8), .lit (.int .u8 7), .lit (.int .u8 6)]
def laid_unicode_utf8_acceptRanges {H : Type} : DataW H := .agg [.agg [.lit (.int .u8 128), .lit (.int .u8 191)], .agg [.lit (.int .u8 160), .lit (.int .u8 191)], .agg [.lit (.int .u8 128), .lit (.int .u8 159)], .agg [.lit (.int .u8 144), .lit (.int .u8 191)], .agg [.lit (.int .u8 128), .lit (.int .u8 143)], .agg [.lit (.int .u8 0), .lit (.int .u8 0)], .agg [.lit (.int .u8 0), .lit (.int .u8 0)], .agg [.lit (.int .u8 0), .lit (.int .u8 0)], .agg [.lit (.int .u8 0), .lit (.int .u8 0)], .agg [.lit (.int .u8 0), .lit (.int .u8 0)], .agg [.lit (.int .u8 0), .lit (.int .u8 0)], .agg [.lit (.int .u8 0), .lit (.int .u8 0)], .agg [.lit (.int .u8 0), .lit (.int .u8 0)], .agg [.lit (.int .u8 0), .lit (.int .u8 0)], .agg [.lit (.int .u8 0), .lit (.int .u8 0)], .agg [.lit (.int .u8 0), .lit (.int .u8 0)]]
def laid_unicode_White_Space {H : Type} : DataW H := .ptr (.agg [.slice [.agg [.lit (.int .u16 9), .lit (.int .u16 13), .lit (.int .u16 1)], .agg [.lit (.int .u16 32), .lit (.int .u16 133), .lit (.int .u16 101)], .agg [.lit (.int .u16 160), .lit (.int .u16 5760), .lit (.int .u16 5600)], .agg [.lit (.int .u16 8192), .lit (.int .u16 8202), .lit (.int .u16 1)], .agg [.lit (.int .u16 8232), .lit (.int .u16 8233), .lit (.int .u16 1)], .agg [.lit (.int .u16 8239), .lit (.int .u16 8287), .lit (.int .u16 48)], .agg [.lit (.int .u16 12288), .lit (.int .u16 12288), .lit (.int .u16 1)]] [], .nil, .lit (.int .i64 2)])
def laid_strings_asciiSpace {H : Type} : DataW H := .agg [.lit (.int .u8 0), .lit (.int .u8 0), .lit (.int .u8 0), .lit (.int .u8 0), .lit (.int .u8 0), .lit (.int .u8 0), .lit (.int .u8 0), .lit (.int .u8 0), .lit (.int .u8 0), .lit (.int .u8 1), .lit (.int .u8 1), .lit (.int .u8 1), .lit (.int .u8 1), .lit (.int .u8 1), .lit (.int .u8 0), .lit (.int .u8 0), .lit (.int .u8 0), .lit (.int .u8 0), .lit (.int .u8 0), .lit (.int .u8 0), .lit (.int .u8 0), .lit (.int .u8 0), .lit (.int .u8 0), .lit (.int .u8 0), .lit (.int .u8 0), .lit (.int .u8 0), .lit (.int .u8 0), .lit (.int .u8 0), .lit (.int .u8 0), .lit (.int .u8 0), .lit (.int .u8 0), .lit (.int .u8 0), .lit (.int .u8 1), .lit (.int .u8 0), .lit (.int .u8 0), .lit (.int .u8 0), .lit (.int .u8 0), .lit (.int .u8 0), .lit (.int .u8 0), .lit (.int .u8 0), .lit (.int .u8 0), .lit (.int .u8 0), .lit (.int .u8 0), .lit (.int .u8 0), .lit (.int .u8 0), .lit (.int .u8 0), .lit (.int .u8 0), .lit (.int .u8 0), .lit (.int .u8 0), .lit (.int .u8 0), .lit (.int .u8 0), .lit (.int .u8 0), .lit (.int .u8 0), .lit (.int .u8 0), .lit (.int .u8 0), .lit (.int .u8 0), .lit (.int .u8 0), .lit (.int .u8 0), .lit (.int .u8 0), .lit (.int .u8 0), .lit (.int .u8 0), .lit (.int .u8 0), .lit (.int .u8 0), .lit (.int .u8 0), .lit (.int .u8 0), .lit (.int .u8 0), .lit (.int .u8 0), .lit (.int .u8 0), .lit (.int .u8 0), .lit (.int .u8 0), .lit (.int .u8 0), .lit (.int .u8 0), .lit (.int .u8 0), .lit (.int .u8 0), .lit (.int .u8 0), .lit (.int .u8 0), .lit (.int .u8 0), .lit (.int .u8 0), .lit (.int .u8 0), .lit (.int .u8 0), .lit (.int .u8 0), .lit (.int .u8 0), .lit (.int .u8 0), .lit (.int .u8 0), .lit (.int .u8 0), .lit (.int .u8 0), .lit (.int .u8 0), .lit (.int .u8 0), .lit (.int .u8 0), .lit (.int .u8 0), .lit (.int .u8 0), .lit (.int .u8 0), .lit (.int .u8 0), .lit (.int .u8 0), .lit (.int .u8 0), .lit (.int .u8 0), .lit (.int .u8 0), .lit (.int .u8 0), .lit (.int .u8 0), .lit (.int .u8 0), .lit (.int .u8 0), .lit (.int .u8 0), .lit (.int .u8 0), .lit (.int .u8 0), .lit (.int .u8 0), .lit (.int .u8 0), .lit (.int .u8 0), .lit (.int .u8 0), .lit (.int .u8 0), .lit (.int .u8 0), .lit (.int .u8 0), .lit (.int .u8 0), .lit (.int .u8 0), .lit (.int .u8 0), .lit (.int .u8 0), .lit (.int .u8 0), .lit (.int .u8 0), .lit (.int .u8 0), .lit (.int .u8 0), .lit (.int .u8 0), .lit (.int .u8 0), .lit (.int .u8 0), .lit (.int .u8 0), .lit (.int .u8 0), .lit (.int .u8 0), .lit (.int .u8 0), .lit (.int .u8 0), .lit (.int .u8 0), .lit (.int .u8 0), .lit (.int .u8 0), .lit (.int .u8 0), .lit (.int .u8 0), .lit (.int .u8 0), .lit (.int .u8 0), .lit (.int .u8 0), .lit (.int .u8 0), .lit (.int .u8 0), .lit (.int .u8 0), .lit (.int .u8 0), .lit (.int .u8 0), .lit (.int .u8 0), .lit (.int .u8 0), .lit (.int .u8 0), .lit (.int .u8 0), .lit (.int .u8 0), .lit (.int .u8 0), .lit (.int .u8 0), .lit (.int .u8 0), .lit (.int .u8 0), .lit (.int .u8 0), .lit (.int .u8 0), .lit (.int .u8 0), .lit (.int .u8 0), .lit (.int .u8 0), .lit (.int .u8 0), .lit (.int .u8 0), .lit (.int .u8 0), .lit (.int .u8 0), .lit (.int .u8 0), .lit (.int .u8 0), .lit (.int .u8 0), .lit (.int .u8 0), .lit (.int .u8 0), .lit (.int .u8 0), .lit (.int .u8 0), .lit (.int .u8 0), .lit (.int .u8 0), .lit (.int .u8 0), .lit (.int .u8 0), .lit (.int .u8 0), .lit (.int .u8 0), .lit (.int .u8 0), .lit (.int .u8 0), .lit (.int .u8 0), .lit (.int .u8 0), .lit (.int .u8 0), .lit (.int .u8 0), .lit (.int .u8 0), .lit (.int .u8 0), .lit (.int .u8 0), .lit (.int .u8 0), .lit (.int .u8 0), .lit (.int .u8 0), .lit (.int .u8 0), .lit (.int .u8 0), .lit (.int .u8 0), .lit (.int .u8 0), .lit (.int .u8 0), .lit (.int .u8 0), .lit (.int .u8 0), .lit (.int .u8 0), .lit (.int .u8 0), .lit (.int .u8 0), .lit (.int .u8 0), .lit (.int .u8 0), .lit (.int .u8 0), .lit (.int .u8 0), .lit (.int .u8 0), .lit (.int .u8 0), .lit (.int .u8 0), .lit (.int .u8 0), .lit (.int .u8 0), .lit (.int .u8 0), .lit (.int .u8 0), .lit (.int .u8 0), .lit (.int .u8 0), .lit (.int .u8 0), .lit (.int .u8 0), .lit (.int .u8 0), .lit (.int .u8 0), .lit (.int .u8 0), .lit (.int .u8 0), .lit (.int .u8 0), .lit (.int .u8 0), .lit (.int .u8 0), .lit (.int .u8 0), .lit (.int .u8 0), .lit (.int .u8 0), .lit (.int .u8 0), .lit (.int .u8 0), .lit (.int .u8 0), .lit (.int .u8 0), .lit (.int .u8 0), .lit (.int .u8 0), .lit (.int .u8 0), .lit (.int .u8 0), .lit (.int .u8 0), .lit (.int .u8 0), .lit (.int .u8 0), .lit (.int .u8 0), .lit (.int .u8 0), .lit (.int .u8 0), .lit (.int .u8 0), .lit (.int .u8 0), .lit (.int .u8 0), .lit (.int .u8 0), .lit (.int .u8 0), .lit (.int .u8 0), .lit (.int .u8 0), .lit (.int .u8 0), .lit (.int .u8 0), .lit (.int .u8 0), .lit (.int .u8 0), .lit (.int .u8 0), .lit (.int .u8 0), .lit (.int .u8 0), .lit (.int .u8 0), .lit (.int .u8 0), .lit (.int .u8 0), .lit (.int .u8 0), .lit (.int .u8 0), .lit (.int .u8 0), .lit (.int .u8 0), .lit (.int .u8 0), .lit (.int .u8 0), .lit (.int .u8 0)]
def laid_bodkin_ops_more {H : Type} : DataW H := .agg [.lit (.string [105, 51, 50, 46, 116, 114, 117, 110, 99, 95, 115, 97, 116, 95, 102, 51, 50, 95, 115, 32, 48, 32, 102, 62, 105]), .lit (.string [105, 51, 50, 46, 116, 114, 117, 110, 99, 95, 115, 97, 116, 95, 102, 51, 50, 95, 117, 32, 48, 32, 102, 62, 105]), .lit (.string [105, 51, 50, 46, 116, 114, 117, 110, 99, 95, 115, 97, 116, 95, 102, 54, 52, 95, 115, 32, 48, 32, 100, 62, 105]), .lit (.string [105, 51, 50, 46, 116, 114, 117, 110, 99, 95, 115, 97, 116, 95, 102, 54, 52, 95, 117, 32, 48, 32, 100, 62, 105]), .lit (.string [105, 54, 52, 46, 116, 114, 117, 110, 99, 95, 115, 97, 116, 95, 102, 51, 50, 95, 115, 32, 48, 32, 102, 62, 108]), .lit (.string [105, 54, 52, 46, 116, 114, 117, 110, 99, 95, 115, 97, 116, 95, 102, 51, 50, 95, 117, 32, 48, 32, 102, 62, 108]), .lit (.string [105, 54, 52, 46, 116, 114, 117, 110, 99, 95, 115, 97, 116, 95, 102, 54, 52, 95, 115, 32, 48, 32, 100, 62, 108]), .lit (.string [105, 54, 52, 46, 116, 114, 117, 110, 99, 95, 115, 97, 116, 95, 102, 54, 52, 95, 117, 32, 48, 32, 100, 62, 108]), .lit (.string [109, 101, 109, 111, 114, 121, 46, 105, 110, 105, 116, 32, 49, 55, 32, 105, 105, 105, 62]), .lit (.string [100, 97, 116, 97, 46, 100, 114, 111, 112, 32, 49, 56, 32, 62]), .lit (.string [109, 101, 109, 111, 114, 121, 46, 99, 111, 112, 121, 32, 49, 57, 32, 105, 105, 105, 62]), .lit (.string [109, 101, 109, 111, 114, 121, 46, 102, 105, 108, 108, 32, 49, 49, 32, 105, 105, 105, 62]), .lit (.string [116, 97, 98, 108, 101, 46, 105, 110, 105, 116, 32, 50, 48, 32, 105, 105, 105, 62]), .lit (.string [101, 108, 101, 109, 46, 100, 114, 111, 112, 32, 50, 49, 32, 62]), .lit (.string [116, 97, 98, 108, 101, 46, 99, 111, 112, 121, 32, 50, 50, 32, 105, 105, 105, 62]), .lit (.string [116, 97, 98, 108, 101, 46, 103, 114, 111, 119, 32, 57, 32, 63]), .lit (.string [116, 97, 98, 108, 101, 46, 115, 105, 122, 101, 32, 57, 32, 62, 105]), .lit (.string [116, 97, 98, 108, 101, 46, 102, 105, 108, 108, 32, 57, 32, 63])]
/-- One of Go's own tables, pinned by name: the form's constant. -/
def laid_unicode_utf8_first : DataW Unit := Go.Pinned.utf8First

/-- 'bodkinlaw07.ScalarTraps': WHATEVER THE INPUT: true; the input reads as it did. -/
def scalarTrapsSpec : ChangeSpec := { name := "scalarTraps", fn := fun _ => fun
  | [d1, d2, d3] => { results := [.lit (.bool true)], args := [d1, d2, d3] }
  | _ => none }
def scalarTrapsRow : OpenClaim := { program := "ytkhhhceeoljheaagreatdoor", sum := "d4b65a60973c802ed5fd0d650c28a38044f84de60313cf6ae517ff507366d7e0", func := "bodkin/bodkinlaw07.ScalarTraps", spec := "scalarTraps", inPlace := ["internal/bytealg.IndexByteString", "internal/bytealg.IndexString", "internal/bytealg.CountString"], unfollowed := true, recurses := true, named := ["bodkin/ops.more", "strings.asciiSpace", "unicode.White_Space", "internal/bytealg.MaxLen", "unicode/utf8.first", "unicode/utf8.acceptRanges", "math/bits.deBruijn64tab", "math/bits.divideError", "math/bits.overflowError"], apart := false, laid := [("math/bits.deBruijn64tab", laid_math_bits_deBruijn64tab), ("unicode/utf8.acceptRanges", laid_unicode_utf8_acceptRanges), ("unicode.White_Space", laid_unicode_White_Space), ("strings.asciiSpace", laid_strings_asciiSpace), ("bodkin/ops.more", laid_bodkin_ops_more), ("unicode/utf8.first", laid_unicode_utf8_first)] }
def ScalarTrapsSaid : Prop := scalarTrapsRow.holds Tryz.pinned (OpenSpec.ofChange scalarTrapsSpec)

/-- ITS FALSE NEIGHBOUR: 'it returns false'. Refute it at one input. -/
def scalarTrapsWrong : ChangeSpec := { name := "scalarTraps", fn := fun _ => fun
  | [d1, d2, d3] => { results := [.lit (.bool false)], args := [d1, d2, d3] }
  | _ => none }
def ScalarTrapsWrongFalsely : Prop := scalarTrapsRow.holds Tryz.pinned (OpenSpec.ofChange scalarTrapsWrong)

/-- 'bodkinlaw07.ScalarDo': WHATEVER THE INPUT: true; the input reads as it did. -/
def scalarDoSpec : ChangeSpec := { name := "scalarDo", fn := fun _ => fun
  | [d1, d2, d3] => { results := [.lit (.bool true)], args := [d1, d2, d3] }
  | _ => none }
def scalarDoRow : OpenClaim := { program := "ytkhhhceeoljheaagreatdoor", sum := "d4b65a60973c802ed5fd0d650c28a38044f84de60313cf6ae517ff507366d7e0", func := "bodkin/bodkinlaw07.ScalarDo", spec := "scalarDo", inPlace := ["internal/bytealg.IndexByteString", "internal/bytealg.IndexString", "internal/bytealg.CountString", "math.Float32frombits", "math.Float64frombits", "math.archTrunc", "math.Float64bits", "math.Float32bits", "math.sqrt", "math.archCeil", "math.archFloor", "math.RoundToEven"], unfollowed := true, recurses := true, named := ["bodkin/ops.more", "strings.asciiSpace", "unicode.White_Space", "internal/bytealg.MaxLen", "unicode/utf8.first", "unicode/utf8.acceptRanges", "math/bits.deBruijn64tab", "math/bits.divideError", "math/bits.overflowError"], apart := false, laid := [("math/bits.deBruijn64tab", laid_math_bits_deBruijn64tab), ("unicode/utf8.acceptRanges", laid_unicode_utf8_acceptRanges), ("unicode.White_Space", laid_unicode_White_Space), ("strings.asciiSpace", laid_strings_asciiSpace), ("bodkin/ops.more", laid_bodkin_ops_more), ("unicode/utf8.first", laid_unicode_utf8_first)] }
def ScalarDoSaid : Prop := scalarDoRow.holds Tryz.pinned (OpenSpec.ofChange scalarDoSpec)

/-- ITS FALSE NEIGHBOUR: 'it returns false'. Refute it at one input. -/
def scalarDoWrong : ChangeSpec := { name := "scalarDo", fn := fun _ => fun
  | [d1, d2, d3] => { results := [.lit (.bool false)], args := [d1, d2, d3] }
  | _ => none }
def ScalarDoWrongFalsely : Prop := scalarDoRow.holds Tryz.pinned (OpenSpec.ofChange scalarDoWrong)

/-- 'bodkinlaw07.ScalarAll': WHATEVER THE INPUT: true; the input reads as it did. -/
def scalarAllSpec : ChangeSpec := { name := "scalarAll", fn := fun _ => fun
  | [d1, d2] => { results := [.lit (.bool true)], args := [d1, d2] }
  | _ => none }
def scalarAllRow : OpenClaim := { program := "ytkhhhceeoljheaagreatdoor", sum := "d4b65a60973c802ed5fd0d650c28a38044f84de60313cf6ae517ff507366d7e0", func := "bodkin/bodkinlaw07.ScalarAll", spec := "scalarAll", inPlace := ["internal/bytealg.IndexByteString", "internal/bytealg.IndexString", "internal/bytealg.CountString", "math.Float32frombits", "math.Float64frombits", "math.archTrunc", "math.Float64bits", "math.Float32bits", "math.sqrt", "math.archCeil", "math.archFloor", "math.RoundToEven"], unfollowed := true, recurses := true, named := ["bodkin/ops.more", "strings.asciiSpace", "unicode.White_Space", "internal/bytealg.MaxLen", "unicode/utf8.first", "unicode/utf8.acceptRanges", "math/bits.deBruijn64tab", "math/bits.divideError", "math/bits.overflowError"], apart := false, laid := [("math/bits.deBruijn64tab", laid_math_bits_deBruijn64tab), ("unicode/utf8.acceptRanges", laid_unicode_utf8_acceptRanges), ("unicode.White_Space", laid_unicode_White_Space), ("strings.asciiSpace", laid_strings_asciiSpace), ("bodkin/ops.more", laid_bodkin_ops_more), ("unicode/utf8.first", laid_unicode_utf8_first)] }
def ScalarAllSaid : Prop := scalarAllRow.holds Tryz.pinned (OpenSpec.ofChange scalarAllSpec)

/-- ITS FALSE NEIGHBOUR: 'it returns false'. Refute it at one input. -/
def scalarAllWrong : ChangeSpec := { name := "scalarAll", fn := fun _ => fun
  | [d1, d2] => { results := [.lit (.bool false)], args := [d1, d2] }
  | _ => none }
def ScalarAllWrongFalsely : Prop := scalarAllRow.holds Tryz.pinned (OpenSpec.ofChange scalarAllWrong)

/-- 'bodkinlaw07.ScalarWords': WHATEVER THE INPUT: true; the input reads as it did. -/
def scalarWordsSpec : ChangeSpec := { name := "scalarWords", fn := fun _ => fun
  | [d1, d2] => { results := [.lit (.bool true)], args := [d1, d2] }
  | _ => none }
def scalarWordsRow : OpenClaim := { program := "ytkhhhceeoljheaagreatdoor", sum := "d4b65a60973c802ed5fd0d650c28a38044f84de60313cf6ae517ff507366d7e0", func := "bodkin/bodkinlaw07.ScalarWords", spec := "scalarWords", inPlace := ["internal/bytealg.IndexByteString", "internal/bytealg.IndexString", "internal/bytealg.CountString", "math.Float32frombits", "math.Float64frombits", "math.archTrunc", "math.Float64bits", "math.Float32bits", "math.sqrt", "math.archCeil", "math.archFloor", "math.RoundToEven"], unfollowed := true, recurses := true, named := ["bodkin/ops.more", "strings.asciiSpace", "unicode.White_Space", "internal/bytealg.MaxLen", "unicode/utf8.first", "unicode/utf8.acceptRanges", "math/bits.deBruijn64tab", "math/bits.divideError", "math/bits.overflowError"], apart := false, laid := [("math/bits.deBruijn64tab", laid_math_bits_deBruijn64tab), ("unicode/utf8.acceptRanges", laid_unicode_utf8_acceptRanges), ("unicode.White_Space", laid_unicode_White_Space), ("strings.asciiSpace", laid_strings_asciiSpace), ("bodkin/ops.more", laid_bodkin_ops_more), ("unicode/utf8.first", laid_unicode_utf8_first)] }
def ScalarWordsSaid : Prop := scalarWordsRow.holds Tryz.pinned (OpenSpec.ofChange scalarWordsSpec)

/-- ITS FALSE NEIGHBOUR: 'it returns false'. Refute it at one input. -/
def scalarWordsWrong : ChangeSpec := { name := "scalarWords", fn := fun _ => fun
  | [d1, d2] => { results := [.lit (.bool false)], args := [d1, d2] }
  | _ => none }
def ScalarWordsWrongFalsely : Prop := scalarWordsRow.holds Tryz.pinned (OpenSpec.ofChange scalarWordsWrong)

/-- 'bodkinlaw07.ScalarLongs': WHATEVER THE INPUT: true; the input reads as it did. -/
def scalarLongsSpec : ChangeSpec := { name := "scalarLongs", fn := fun _ => fun
  | [d1, d2] => { results := [.lit (.bool true)], args := [d1, d2] }
  | _ => none }
def scalarLongsRow : OpenClaim := { program := "ytkhhhceeoljheaagreatdoor", sum := "d4b65a60973c802ed5fd0d650c28a38044f84de60313cf6ae517ff507366d7e0", func := "bodkin/bodkinlaw07.ScalarLongs", spec := "scalarLongs", inPlace := ["internal/bytealg.IndexByteString", "internal/bytealg.IndexString", "internal/bytealg.CountString", "math.Float32frombits", "math.Float64frombits", "math.archTrunc", "math.Float64bits", "math.Float32bits", "math.sqrt", "math.archCeil", "math.archFloor", "math.RoundToEven"], unfollowed := true, recurses := true, named := ["bodkin/ops.more", "strings.asciiSpace", "unicode.White_Space", "internal/bytealg.MaxLen", "unicode/utf8.first", "unicode/utf8.acceptRanges", "math/bits.deBruijn64tab", "math/bits.divideError", "math/bits.overflowError"], apart := false, laid := [("math/bits.deBruijn64tab", laid_math_bits_deBruijn64tab), ("unicode/utf8.acceptRanges", laid_unicode_utf8_acceptRanges), ("unicode.White_Space", laid_unicode_White_Space), ("strings.asciiSpace", laid_strings_asciiSpace), ("bodkin/ops.more", laid_bodkin_ops_more), ("unicode/utf8.first", laid_unicode_utf8_first)] }
def ScalarLongsSaid : Prop := scalarLongsRow.holds Tryz.pinned (OpenSpec.ofChange scalarLongsSpec)

/-- ITS FALSE NEIGHBOUR: 'it returns false'. Refute it at one input. -/
def scalarLongsWrong : ChangeSpec := { name := "scalarLongs", fn := fun _ => fun
  | [d1, d2] => { results := [.lit (.bool false)], args := [d1, d2] }
  | _ => none }
def ScalarLongsWrongFalsely : Prop := scalarLongsRow.holds Tryz.pinned (OpenSpec.ofChange scalarLongsWrong)

/-- 'bodkinlaw07.ScalarStand': WHATEVER THE INPUT: true; the input reads as it did. -/
def scalarStandSpec : ChangeSpec := { name := "scalarStand", fn := fun _ => fun
  | [d1, d2] => { results := [.lit (.bool true)], args := [d1, d2] }
  | _ => none }
def scalarStandRow : OpenClaim := { program := "ytkhhhceeoljheaagreatdoor", sum := "d4b65a60973c802ed5fd0d650c28a38044f84de60313cf6ae517ff507366d7e0", func := "bodkin/bodkinlaw07.ScalarStand", spec := "scalarStand", inPlace := ["internal/bytealg.IndexByteString", "internal/bytealg.IndexString", "internal/bytealg.CountString", "math.Float32frombits", "math.Float64frombits", "math.archTrunc", "math.Float64bits", "math.Float32bits", "math.sqrt", "math.archCeil", "math.archFloor", "math.RoundToEven"], unfollowed := true, recurses := true, named := ["bodkin/ops.more", "strings.asciiSpace", "unicode.White_Space", "internal/bytealg.MaxLen", "unicode/utf8.first", "unicode/utf8.acceptRanges", "math/bits.deBruijn64tab", "math/bits.divideError", "math/bits.overflowError"], apart := false, laid := [("math/bits.deBruijn64tab", laid_math_bits_deBruijn64tab), ("unicode/utf8.acceptRanges", laid_unicode_utf8_acceptRanges), ("unicode.White_Space", laid_unicode_White_Space), ("strings.asciiSpace", laid_strings_asciiSpace), ("bodkin/ops.more", laid_bodkin_ops_more), ("unicode/utf8.first", laid_unicode_utf8_first)] }
def ScalarStandSaid : Prop := scalarStandRow.holds Tryz.pinned (OpenSpec.ofChange scalarStandSpec)

/-- ITS FALSE NEIGHBOUR: 'it returns false'. Refute it at one input. -/
def scalarStandWrong : ChangeSpec := { name := "scalarStand", fn := fun _ => fun
  | [d1, d2] => { results := [.lit (.bool false)], args := [d1, d2] }
  | _ => none }
def ScalarStandWrongFalsely : Prop := scalarStandRow.holds Tryz.pinned (OpenSpec.ofChange scalarStandWrong)

/-- 'bodkinlaw07.ScalarFloats': WHATEVER THE INPUT: true; the input reads as it did. -/
def scalarFloatsSpec : ChangeSpec := { name := "scalarFloats", fn := fun _ => fun
  | [d1, d2] => { results := [.lit (.bool true)], args := [d1, d2] }
  | _ => none }
def scalarFloatsRow : OpenClaim := { program := "ytkhhhceeoljheaagreatdoor", sum := "d4b65a60973c802ed5fd0d650c28a38044f84de60313cf6ae517ff507366d7e0", func := "bodkin/bodkinlaw07.ScalarFloats", spec := "scalarFloats", inPlace := ["internal/bytealg.IndexByteString", "internal/bytealg.IndexString", "internal/bytealg.CountString", "math.Float32frombits", "math.Float64frombits", "math.archTrunc", "math.Float64bits", "math.Float32bits", "math.sqrt", "math.archCeil", "math.archFloor", "math.RoundToEven"], unfollowed := true, recurses := true, named := ["bodkin/ops.more", "strings.asciiSpace", "unicode.White_Space", "internal/bytealg.MaxLen", "unicode/utf8.first", "unicode/utf8.acceptRanges", "math/bits.deBruijn64tab", "math/bits.divideError", "math/bits.overflowError"], apart := false, laid := [("math/bits.deBruijn64tab", laid_math_bits_deBruijn64tab), ("unicode/utf8.acceptRanges", laid_unicode_utf8_acceptRanges), ("unicode.White_Space", laid_unicode_White_Space), ("strings.asciiSpace", laid_strings_asciiSpace), ("bodkin/ops.more", laid_bodkin_ops_more), ("unicode/utf8.first", laid_unicode_utf8_first)] }
def ScalarFloatsSaid : Prop := scalarFloatsRow.holds Tryz.pinned (OpenSpec.ofChange scalarFloatsSpec)

/-- ITS FALSE NEIGHBOUR: 'it returns false'. Refute it at one input. -/
def scalarFloatsWrong : ChangeSpec := { name := "scalarFloats", fn := fun _ => fun
  | [d1, d2] => { results := [.lit (.bool false)], args := [d1, d2] }
  | _ => none }
def ScalarFloatsWrongFalsely : Prop := scalarFloatsRow.holds Tryz.pinned (OpenSpec.ofChange scalarFloatsWrong)

/-- 'bodkinlaw07.ScalarTurns': WHATEVER THE INPUT: true; the input reads as it did. -/
def scalarTurnsSpec : ChangeSpec := { name := "scalarTurns", fn := fun _ => fun
  | [d1, d2] => { results := [.lit (.bool true)], args := [d1, d2] }
  | _ => none }
def scalarTurnsRow : OpenClaim := { program := "ytkhhhceeoljheaagreatdoor", sum := "d4b65a60973c802ed5fd0d650c28a38044f84de60313cf6ae517ff507366d7e0", func := "bodkin/bodkinlaw07.ScalarTurns", spec := "scalarTurns", inPlace := ["internal/bytealg.IndexByteString", "internal/bytealg.IndexString", "internal/bytealg.CountString", "math.Float32frombits", "math.Float64frombits", "math.archTrunc", "math.Float64bits", "math.Float32bits", "math.sqrt", "math.archCeil", "math.archFloor", "math.RoundToEven"], unfollowed := true, recurses := true, named := ["bodkin/ops.more", "strings.asciiSpace", "unicode.White_Space", "internal/bytealg.MaxLen", "unicode/utf8.first", "unicode/utf8.acceptRanges", "math/bits.deBruijn64tab", "math/bits.divideError", "math/bits.overflowError"], apart := false, laid := [("math/bits.deBruijn64tab", laid_math_bits_deBruijn64tab), ("unicode/utf8.acceptRanges", laid_unicode_utf8_acceptRanges), ("unicode.White_Space", laid_unicode_White_Space), ("strings.asciiSpace", laid_strings_asciiSpace), ("bodkin/ops.more", laid_bodkin_ops_more), ("unicode/utf8.first", laid_unicode_utf8_first)] }
def ScalarTurnsSaid : Prop := scalarTurnsRow.holds Tryz.pinned (OpenSpec.ofChange scalarTurnsSpec)

/-- ITS FALSE NEIGHBOUR: 'it returns false'. Refute it at one input. -/
def scalarTurnsWrong : ChangeSpec := { name := "scalarTurns", fn := fun _ => fun
  | [d1, d2] => { results := [.lit (.bool false)], args := [d1, d2] }
  | _ => none }
def ScalarTurnsWrongFalsely : Prop := scalarTurnsRow.holds Tryz.pinned (OpenSpec.ofChange scalarTurnsWrong)

/-- 'bodkinlaw07.ScalarHeld': WHATEVER THE INPUT: true; the input reads as it did. -/
def scalarHeldSpec : ChangeSpec := { name := "scalarHeld", fn := fun _ => fun
  | [d1, d2] => { results := [.lit (.bool true)], args := [d1, d2] }
  | _ => none }
def scalarHeldRow : OpenClaim := { program := "ytkhhhceeoljheaagreatdoor", sum := "d4b65a60973c802ed5fd0d650c28a38044f84de60313cf6ae517ff507366d7e0", func := "bodkin/bodkinlaw07.ScalarHeld", spec := "scalarHeld", inPlace := ["internal/bytealg.IndexByteString", "internal/bytealg.IndexString", "internal/bytealg.CountString", "math.Float32frombits", "math.Float64frombits", "math.archTrunc", "math.Float64bits", "math.Float32bits", "math.sqrt", "math.archCeil", "math.archFloor", "math.RoundToEven"], unfollowed := true, recurses := true, named := ["bodkin/ops.more", "strings.asciiSpace", "unicode.White_Space", "internal/bytealg.MaxLen", "unicode/utf8.first", "unicode/utf8.acceptRanges", "math/bits.deBruijn64tab", "math/bits.divideError", "math/bits.overflowError"], apart := false, laid := [("math/bits.deBruijn64tab", laid_math_bits_deBruijn64tab), ("unicode/utf8.acceptRanges", laid_unicode_utf8_acceptRanges), ("unicode.White_Space", laid_unicode_White_Space), ("strings.asciiSpace", laid_strings_asciiSpace), ("bodkin/ops.more", laid_bodkin_ops_more), ("unicode/utf8.first", laid_unicode_utf8_first)] }
def ScalarHeldSaid : Prop := scalarHeldRow.holds Tryz.pinned (OpenSpec.ofChange scalarHeldSpec)

/-- ITS FALSE NEIGHBOUR: 'it returns false'. Refute it at one input. -/
def scalarHeldWrong : ChangeSpec := { name := "scalarHeld", fn := fun _ => fun
  | [d1, d2] => { results := [.lit (.bool false)], args := [d1, d2] }
  | _ => none }
def ScalarHeldWrongFalsely : Prop := scalarHeldRow.holds Tryz.pinned (OpenSpec.ofChange scalarHeldWrong)

/- THE SECOND FORM. 'bulk': how many values and letters a reading holds, each counted each time it is reached (what is shared counts as often as it is met; a slice's spare places count too). A statement '..UptoSaid' is the law's where the arguments, and the package variables that the reading takes, are together of bulk at most 1048576: NARROWER than '..Said'. Prove '..Said' where nothing that the law and all that it calls make is longer than what came in: it says more and counts as full. Else prove '..UptoSaid'. A law counts once. -/
mutual
def uptoBulk {H : Type} : DataW H → Nat
  | .lit (.string bytes) => bytes.length + 1
  | .lit _ => 1
  | .nil => 1
  | .ptr d => uptoBulk d + 1
  | .slice elems spare => uptoBulkAll elems + uptoBulkAll spare + 1
  | .agg parts => uptoBulkAll parts + 1
  | .iface _ d => uptoBulk d + 1
  | .map entries => uptoBulkEntries entries + 1
  | .held _ => 1
def uptoBulkAll {H : Type} : List (DataW H) → Nat
  | [] => 0
  | d :: r => uptoBulk d + uptoBulkAll r
def uptoBulkEntries {H : Type} : List (Lit × DataW H) → Nat
  | [] => 0
  | x :: r => uptoBulkEntry x + uptoBulkEntries r
def uptoBulkEntry {H : Type} : Lit × DataW H → Nat
  | (.string bytes, d) => bytes.length + uptoBulk d + 1
  | (_, d) => uptoBulk d + 1
 end
def uptoSmall : (H : Type) → List (DataW H) → Bool := fun _ ds => decide (uptoBulkAll ds ≤ 1048576)
def OpenSpec.upto (s : _root_.Go.ChangeSpec) : _root_.Go.OpenSpec := { _root_.Go.OpenSpec.ofChange s with cond := some uptoSmall }

/-- 'bodkinlaw07.ScalarTraps', WHERE WHAT IT READS IS OF BULK AT MOST 1048576: true; the input reads as it did. -/
def scalarTrapsUptoRow : OpenClaim := { program := "ytkhhhceeoljheaagreatdoor", sum := "d4b65a60973c802ed5fd0d650c28a38044f84de60313cf6ae517ff507366d7e0", func := "bodkin/bodkinlaw07.ScalarTraps", spec := "scalarTraps", inPlace := ["internal/bytealg.IndexByteString", "internal/bytealg.IndexString", "internal/bytealg.CountString"], unfollowed := true, recurses := true, named := ["bodkin/ops.more", "strings.asciiSpace", "unicode.White_Space", "internal/bytealg.MaxLen", "unicode/utf8.first", "unicode/utf8.acceptRanges", "math/bits.deBruijn64tab", "math/bits.divideError", "math/bits.overflowError"], apart := false, laid := [("math/bits.deBruijn64tab", laid_math_bits_deBruijn64tab), ("unicode/utf8.acceptRanges", laid_unicode_utf8_acceptRanges), ("unicode.White_Space", laid_unicode_White_Space), ("strings.asciiSpace", laid_strings_asciiSpace), ("bodkin/ops.more", laid_bodkin_ops_more), ("unicode/utf8.first", laid_unicode_utf8_first)], narrowed := true }
def ScalarTrapsUptoSaid : Prop := scalarTrapsUptoRow.holds Tryz.pinned (OpenSpec.upto scalarTrapsSpec)

/-- 'bodkinlaw07.ScalarDo', WHERE WHAT IT READS IS OF BULK AT MOST 1048576: true; the input reads as it did. -/
def scalarDoUptoRow : OpenClaim := { program := "ytkhhhceeoljheaagreatdoor", sum := "d4b65a60973c802ed5fd0d650c28a38044f84de60313cf6ae517ff507366d7e0", func := "bodkin/bodkinlaw07.ScalarDo", spec := "scalarDo", inPlace := ["internal/bytealg.IndexByteString", "internal/bytealg.IndexString", "internal/bytealg.CountString", "math.Float32frombits", "math.Float64frombits", "math.archTrunc", "math.Float64bits", "math.Float32bits", "math.sqrt", "math.archCeil", "math.archFloor", "math.RoundToEven"], unfollowed := true, recurses := true, named := ["bodkin/ops.more", "strings.asciiSpace", "unicode.White_Space", "internal/bytealg.MaxLen", "unicode/utf8.first", "unicode/utf8.acceptRanges", "math/bits.deBruijn64tab", "math/bits.divideError", "math/bits.overflowError"], apart := false, laid := [("math/bits.deBruijn64tab", laid_math_bits_deBruijn64tab), ("unicode/utf8.acceptRanges", laid_unicode_utf8_acceptRanges), ("unicode.White_Space", laid_unicode_White_Space), ("strings.asciiSpace", laid_strings_asciiSpace), ("bodkin/ops.more", laid_bodkin_ops_more), ("unicode/utf8.first", laid_unicode_utf8_first)], narrowed := true }
def ScalarDoUptoSaid : Prop := scalarDoUptoRow.holds Tryz.pinned (OpenSpec.upto scalarDoSpec)

/-- 'bodkinlaw07.ScalarAll', WHERE WHAT IT READS IS OF BULK AT MOST 1048576: true; the input reads as it did. -/
def scalarAllUptoRow : OpenClaim := { program := "ytkhhhceeoljheaagreatdoor", sum := "d4b65a60973c802ed5fd0d650c28a38044f84de60313cf6ae517ff507366d7e0", func := "bodkin/bodkinlaw07.ScalarAll", spec := "scalarAll", inPlace := ["internal/bytealg.IndexByteString", "internal/bytealg.IndexString", "internal/bytealg.CountString", "math.Float32frombits", "math.Float64frombits", "math.archTrunc", "math.Float64bits", "math.Float32bits", "math.sqrt", "math.archCeil", "math.archFloor", "math.RoundToEven"], unfollowed := true, recurses := true, named := ["bodkin/ops.more", "strings.asciiSpace", "unicode.White_Space", "internal/bytealg.MaxLen", "unicode/utf8.first", "unicode/utf8.acceptRanges", "math/bits.deBruijn64tab", "math/bits.divideError", "math/bits.overflowError"], apart := false, laid := [("math/bits.deBruijn64tab", laid_math_bits_deBruijn64tab), ("unicode/utf8.acceptRanges", laid_unicode_utf8_acceptRanges), ("unicode.White_Space", laid_unicode_White_Space), ("strings.asciiSpace", laid_strings_asciiSpace), ("bodkin/ops.more", laid_bodkin_ops_more), ("unicode/utf8.first", laid_unicode_utf8_first)], narrowed := true }
def ScalarAllUptoSaid : Prop := scalarAllUptoRow.holds Tryz.pinned (OpenSpec.upto scalarAllSpec)

/-- 'bodkinlaw07.ScalarWords', WHERE WHAT IT READS IS OF BULK AT MOST 1048576: true; the input reads as it did. -/
def scalarWordsUptoRow : OpenClaim := { program := "ytkhhhceeoljheaagreatdoor", sum := "d4b65a60973c802ed5fd0d650c28a38044f84de60313cf6ae517ff507366d7e0", func := "bodkin/bodkinlaw07.ScalarWords", spec := "scalarWords", inPlace := ["internal/bytealg.IndexByteString", "internal/bytealg.IndexString", "internal/bytealg.CountString", "math.Float32frombits", "math.Float64frombits", "math.archTrunc", "math.Float64bits", "math.Float32bits", "math.sqrt", "math.archCeil", "math.archFloor", "math.RoundToEven"], unfollowed := true, recurses := true, named := ["bodkin/ops.more", "strings.asciiSpace", "unicode.White_Space", "internal/bytealg.MaxLen", "unicode/utf8.first", "unicode/utf8.acceptRanges", "math/bits.deBruijn64tab", "math/bits.divideError", "math/bits.overflowError"], apart := false, laid := [("math/bits.deBruijn64tab", laid_math_bits_deBruijn64tab), ("unicode/utf8.acceptRanges", laid_unicode_utf8_acceptRanges), ("unicode.White_Space", laid_unicode_White_Space), ("strings.asciiSpace", laid_strings_asciiSpace), ("bodkin/ops.more", laid_bodkin_ops_more), ("unicode/utf8.first", laid_unicode_utf8_first)], narrowed := true }
def ScalarWordsUptoSaid : Prop := scalarWordsUptoRow.holds Tryz.pinned (OpenSpec.upto scalarWordsSpec)

/-- 'bodkinlaw07.ScalarLongs', WHERE WHAT IT READS IS OF BULK AT MOST 1048576: true; the input reads as it did. -/
def scalarLongsUptoRow : OpenClaim := { program := "ytkhhhceeoljheaagreatdoor", sum := "d4b65a60973c802ed5fd0d650c28a38044f84de60313cf6ae517ff507366d7e0", func := "bodkin/bodkinlaw07.ScalarLongs", spec := "scalarLongs", inPlace := ["internal/bytealg.IndexByteString", "internal/bytealg.IndexString", "internal/bytealg.CountString", "math.Float32frombits", "math.Float64frombits", "math.archTrunc", "math.Float64bits", "math.Float32bits", "math.sqrt", "math.archCeil", "math.archFloor", "math.RoundToEven"], unfollowed := true, recurses := true, named := ["bodkin/ops.more", "strings.asciiSpace", "unicode.White_Space", "internal/bytealg.MaxLen", "unicode/utf8.first", "unicode/utf8.acceptRanges", "math/bits.deBruijn64tab", "math/bits.divideError", "math/bits.overflowError"], apart := false, laid := [("math/bits.deBruijn64tab", laid_math_bits_deBruijn64tab), ("unicode/utf8.acceptRanges", laid_unicode_utf8_acceptRanges), ("unicode.White_Space", laid_unicode_White_Space), ("strings.asciiSpace", laid_strings_asciiSpace), ("bodkin/ops.more", laid_bodkin_ops_more), ("unicode/utf8.first", laid_unicode_utf8_first)], narrowed := true }
def ScalarLongsUptoSaid : Prop := scalarLongsUptoRow.holds Tryz.pinned (OpenSpec.upto scalarLongsSpec)

/-- 'bodkinlaw07.ScalarStand', WHERE WHAT IT READS IS OF BULK AT MOST 1048576: true; the input reads as it did. -/
def scalarStandUptoRow : OpenClaim := { program := "ytkhhhceeoljheaagreatdoor", sum := "d4b65a60973c802ed5fd0d650c28a38044f84de60313cf6ae517ff507366d7e0", func := "bodkin/bodkinlaw07.ScalarStand", spec := "scalarStand", inPlace := ["internal/bytealg.IndexByteString", "internal/bytealg.IndexString", "internal/bytealg.CountString", "math.Float32frombits", "math.Float64frombits", "math.archTrunc", "math.Float64bits", "math.Float32bits", "math.sqrt", "math.archCeil", "math.archFloor", "math.RoundToEven"], unfollowed := true, recurses := true, named := ["bodkin/ops.more", "strings.asciiSpace", "unicode.White_Space", "internal/bytealg.MaxLen", "unicode/utf8.first", "unicode/utf8.acceptRanges", "math/bits.deBruijn64tab", "math/bits.divideError", "math/bits.overflowError"], apart := false, laid := [("math/bits.deBruijn64tab", laid_math_bits_deBruijn64tab), ("unicode/utf8.acceptRanges", laid_unicode_utf8_acceptRanges), ("unicode.White_Space", laid_unicode_White_Space), ("strings.asciiSpace", laid_strings_asciiSpace), ("bodkin/ops.more", laid_bodkin_ops_more), ("unicode/utf8.first", laid_unicode_utf8_first)], narrowed := true }
def ScalarStandUptoSaid : Prop := scalarStandUptoRow.holds Tryz.pinned (OpenSpec.upto scalarStandSpec)

/-- 'bodkinlaw07.ScalarFloats', WHERE WHAT IT READS IS OF BULK AT MOST 1048576: true; the input reads as it did. -/
def scalarFloatsUptoRow : OpenClaim := { program := "ytkhhhceeoljheaagreatdoor", sum := "d4b65a60973c802ed5fd0d650c28a38044f84de60313cf6ae517ff507366d7e0", func := "bodkin/bodkinlaw07.ScalarFloats", spec := "scalarFloats", inPlace := ["internal/bytealg.IndexByteString", "internal/bytealg.IndexString", "internal/bytealg.CountString", "math.Float32frombits", "math.Float64frombits", "math.archTrunc", "math.Float64bits", "math.Float32bits", "math.sqrt", "math.archCeil", "math.archFloor", "math.RoundToEven"], unfollowed := true, recurses := true, named := ["bodkin/ops.more", "strings.asciiSpace", "unicode.White_Space", "internal/bytealg.MaxLen", "unicode/utf8.first", "unicode/utf8.acceptRanges", "math/bits.deBruijn64tab", "math/bits.divideError", "math/bits.overflowError"], apart := false, laid := [("math/bits.deBruijn64tab", laid_math_bits_deBruijn64tab), ("unicode/utf8.acceptRanges", laid_unicode_utf8_acceptRanges), ("unicode.White_Space", laid_unicode_White_Space), ("strings.asciiSpace", laid_strings_asciiSpace), ("bodkin/ops.more", laid_bodkin_ops_more), ("unicode/utf8.first", laid_unicode_utf8_first)], narrowed := true }
def ScalarFloatsUptoSaid : Prop := scalarFloatsUptoRow.holds Tryz.pinned (OpenSpec.upto scalarFloatsSpec)

/-- 'bodkinlaw07.ScalarTurns', WHERE WHAT IT READS IS OF BULK AT MOST 1048576: true; the input reads as it did. -/
def scalarTurnsUptoRow : OpenClaim := { program := "ytkhhhceeoljheaagreatdoor", sum := "d4b65a60973c802ed5fd0d650c28a38044f84de60313cf6ae517ff507366d7e0", func := "bodkin/bodkinlaw07.ScalarTurns", spec := "scalarTurns", inPlace := ["internal/bytealg.IndexByteString", "internal/bytealg.IndexString", "internal/bytealg.CountString", "math.Float32frombits", "math.Float64frombits", "math.archTrunc", "math.Float64bits", "math.Float32bits", "math.sqrt", "math.archCeil", "math.archFloor", "math.RoundToEven"], unfollowed := true, recurses := true, named := ["bodkin/ops.more", "strings.asciiSpace", "unicode.White_Space", "internal/bytealg.MaxLen", "unicode/utf8.first", "unicode/utf8.acceptRanges", "math/bits.deBruijn64tab", "math/bits.divideError", "math/bits.overflowError"], apart := false, laid := [("math/bits.deBruijn64tab", laid_math_bits_deBruijn64tab), ("unicode/utf8.acceptRanges", laid_unicode_utf8_acceptRanges), ("unicode.White_Space", laid_unicode_White_Space), ("strings.asciiSpace", laid_strings_asciiSpace), ("bodkin/ops.more", laid_bodkin_ops_more), ("unicode/utf8.first", laid_unicode_utf8_first)], narrowed := true }
def ScalarTurnsUptoSaid : Prop := scalarTurnsUptoRow.holds Tryz.pinned (OpenSpec.upto scalarTurnsSpec)

/-- 'bodkinlaw07.ScalarHeld', WHERE WHAT IT READS IS OF BULK AT MOST 1048576: true; the input reads as it did. -/
def scalarHeldUptoRow : OpenClaim := { program := "ytkhhhceeoljheaagreatdoor", sum := "d4b65a60973c802ed5fd0d650c28a38044f84de60313cf6ae517ff507366d7e0", func := "bodkin/bodkinlaw07.ScalarHeld", spec := "scalarHeld", inPlace := ["internal/bytealg.IndexByteString", "internal/bytealg.IndexString", "internal/bytealg.CountString", "math.Float32frombits", "math.Float64frombits", "math.archTrunc", "math.Float64bits", "math.Float32bits", "math.sqrt", "math.archCeil", "math.archFloor", "math.RoundToEven"], unfollowed := true, recurses := true, named := ["bodkin/ops.more", "strings.asciiSpace", "unicode.White_Space", "internal/bytealg.MaxLen", "unicode/utf8.first", "unicode/utf8.acceptRanges", "math/bits.deBruijn64tab", "math/bits.divideError", "math/bits.overflowError"], apart := false, laid := [("math/bits.deBruijn64tab", laid_math_bits_deBruijn64tab), ("unicode/utf8.acceptRanges", laid_unicode_utf8_acceptRanges), ("unicode.White_Space", laid_unicode_White_Space), ("strings.asciiSpace", laid_strings_asciiSpace), ("bodkin/ops.more", laid_bodkin_ops_more), ("unicode/utf8.first", laid_unicode_utf8_first)], narrowed := true }
def ScalarHeldUptoSaid : Prop := scalarHeldUptoRow.holds Tryz.pinned (OpenSpec.upto scalarHeldSpec)

end Rows
end Go.Proofs.YtkhhhceeoljheaaGreatDoor
