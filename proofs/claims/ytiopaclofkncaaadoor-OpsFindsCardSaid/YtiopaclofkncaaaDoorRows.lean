/-
  NARROWER THAN 'FOR EVERY INPUT', by the rows' own cells (each row's printed sentence says how): OpsSays: laid · OpsFinds: laid · OpsAll: laid · OpsPlaces: laid · OpsSigns: laid.
  DERIVED. THE GIVEN ROWS OF THIS SEAT. 5 by the template 'for every input the law returns true; each argument reads behind the call as it read before'; 0 by the template 'total and deterministic' (their statements: YtiopaclofkncaaaDoorTotals.lean).
  GIVEN WITH THE SEED: the statements are not yours to turn. If you find one false, say at which input.
  Laid BY PROGRAM, IN A SANDBOX (cutbox-rows.mjs): the forced cells as the released guide's own fill.sh prints them over the translation a91fcd4d7116a3fc… (all of the seat's roots in one cut). By AI agents, Wed Nov 11 2026. No macro, syntax, notation, axiom, sorry.
-/
import Derived.Test.YtiopaclofkncaaaDoorChecked
import GoSem.Claim
import GoSem.ClaimJoined
import GoSem.ClaimMapViews
import Derived.JoinedTies
import Derived.KernelRfl
namespace Go.Proofs.YtiopaclofkncaaaDoor
/- THE CELL 'sum', in the pinned program and in every row, IS THE sha256 OF THE DUMP (.gsa) THAT YtiopaclofkncaaaDoorProg.lean LOADS. Nothing in Lean hashes anything: it is a label: what it is worth is what the hold of that sum in a sandbox is worth. -/
noncomputable def Tryd.pinned : Pinned := { name := "ytiopaclofkncaaadoor", sum := "a91fcd4d7116a3fc42b642016f422534d223ba6f25ab7e1fff355a8e5a062844", checked := Tryd.checked }
namespace Rows
def none {H : Type} : Left H := { results := [], args := [] }

/- WHAT THE LISTED PACKAGE-LEVEL VARIABLES READ AS WHEN THE CALL BEGINS. Each datum BY PROGRAM (the guide's laid-datum.mjs) off the statement by which the dump's own 'gosem.cut.vars' lays the variable. In a bare row this is a premise. The card (YtiopaclofkncaaaDoorCards.lean) ties it to the program's text. -/
def laid_unicode_White_Space {H : Type} : DataW H := .ptr (.agg [.slice [.agg [.lit (.int .u16 9), .lit (.int .u16 13), .lit (.int .u16 1)], .agg [.lit (.int .u16 32), .lit (.int .u16 133), .lit (.int .u16 101)], .agg [.lit (.int .u16 160), .lit (.int .u16 5760), .lit (.int .u16 5600)], .agg [.lit (.int .u16 8192), .lit (.int .u16 8202), .lit (.int .u16 1)], .agg [.lit (.int .u16 8232), .lit (.int .u16 8233), .lit (.int .u16 1)], .agg [.lit (.int .u16 8239), .lit (.int .u16 8287), .lit (.int .u16 48)], .agg [.lit (.int .u16 12288), .lit (.int .u16 12288), .lit (.int .u16 1)]] [], .nil, .lit (.int .i64 2)])
def laid_strings_asciiSpace {H : Type} : DataW H := .agg [.lit (.int .u8 0), .lit (.int .u8 0), .lit (.int .u8 0), .lit (.int .u8 0), .lit (.int .u8 0), .lit (.int .u8 0), .lit (.int .u8 0), .lit (.int .u8 0), .lit (.int .u8 0), .lit (.int .u8 1), .lit (.int .u8 1), .lit (.int .u8 1), .lit (.int .u8 1), .lit (.int .u8 1), .lit (.int .u8 0), .lit (.int .u8 0), .lit (.int .u8 0), .lit (.int .u8 0), .lit (.int .u8 0), .lit (.int .u8 0), .lit (.int .u8 0), .lit (.int .u8 0), .lit (.int .u8 0), .lit (.int .u8 0), .lit (.int .u8 0), .lit (.int .u8 0), .lit (.int .u8 0), .lit (.int .u8 0), .lit (.int .u8 0), .lit (.int .u8 0), .lit (.int .u8 0), .lit (.int .u8 0), .lit (.int .u8 1), .lit (.int .u8 0), .lit (.int .u8 0), .lit (.int .u8 0), .lit (.int .u8 0), .lit (.int .u8 0), .lit (.int .u8 0), .lit (.int .u8 0), .lit (.int .u8 0), .lit (.int .u8 0), .lit (.int .u8 0), .lit (.int .u8 0), .lit (.int .u8 0), .lit (.int .u8 0), .lit (.int .u8 0), .lit (.int .u8 0), .lit (.int .u8 0), .lit (.int .u8 0), .lit (.int .u8 0), .lit (.int .u8 0), .lit (.int .u8 0), .lit (.int .u8 0), .lit (.int .u8 0), .lit (.int .u8 0), .lit (.int .u8 0), .lit (.int .u8 0), .lit (.int .u8 0), .lit (.int .u8 0), .lit (.int .u8 0), .lit (.int .u8 0), .lit (.int .u8 0), .lit (.int .u8 0), .lit (.int .u8 0), .lit (.int .u8 0), .lit (.int .u8 0), .lit (.int .u8 0), .lit (.int .u8 0), .lit (.int .u8 0), .lit (.int .u8 0), .lit (.int .u8 0), .lit (.int .u8 0), .lit (.int .u8 0), .lit (.int .u8 0), .lit (.int .u8 0), .lit (.int .u8 0), .lit (.int .u8 0), .lit (.int .u8 0), .lit (.int .u8 0), .lit (.int .u8 0), .lit (.int .u8 0), .lit (.int .u8 0), .lit (.int .u8 0), .lit (.int .u8 0), .lit (.int .u8 0), .lit (.int .u8 0), .lit (.int .u8 0), .lit (.int .u8 0), .lit (.int .u8 0), .lit (.int .u8 0), .lit (.int .u8 0), .lit (.int .u8 0), .lit (.int .u8 0), .lit (.int .u8 0), .lit (.int .u8 0), .lit (.int .u8 0), .lit (.int .u8 0), .lit (.int .u8 0), .lit (.int .u8 0), .lit (.int .u8 0), .lit (.int .u8 0), .lit (.int .u8 0), .lit (.int .u8 0), .lit (.int .u8 0), .lit (.int .u8 0), .lit (.int .u8 0), .lit (.int .u8 0), .lit (.int .u8 0), .lit (.int .u8 0), .lit (.int .u8 0), .lit (.int .u8 0), .lit (.int .u8 0), .lit (.int .u8 0), .lit (.int .u8 0), .lit (.int .u8 0), .lit (.int .u8 0), .lit (.int .u8 0), .lit (.int .u8 0), .lit (.int .u8 0), .lit (.int .u8 0), .lit (.int .u8 0), .lit (.int .u8 0), .lit (.int .u8 0), .lit (.int .u8 0), .lit (.int .u8 0), .lit (.int .u8 0), .lit (.int .u8 0), .lit (.int .u8 0), .lit (.int .u8 0), .lit (.int .u8 0), .lit (.int .u8 0), .lit (.int .u8 0), .lit (.int .u8 0), .lit (.int .u8 0), .lit (.int .u8 0), .lit (.int .u8 0), .lit (.int .u8 0), .lit (.int .u8 0), .lit (.int .u8 0), .lit (.int .u8 0), .lit (.int .u8 0), .lit (.int .u8 0), .lit (.int .u8 0), .lit (.int .u8 0), .lit (.int .u8 0), .lit (.int .u8 0), .lit (.int .u8 0), .lit (.int .u8 0), .lit (.int .u8 0), .lit (.int .u8 0), .lit (.int .u8 0), .lit (.int .u8 0), .lit (.int .u8 0), .lit (.int .u8 0), .lit (.int .u8 0), .lit (.int .u8 0), .lit (.int .u8 0), .lit (.int .u8 0), .lit (.int .u8 0), .lit (.int .u8 0), .lit (.int .u8 0), .lit (.int .u8 0), .lit (.int .u8 0), .lit (.int .u8 0), .lit (.int .u8 0), .lit (.int .u8 0), .lit (.int .u8 0), .lit (.int .u8 0), .lit (.int .u8 0), .lit (.int .u8 0), .lit (.int .u8 0), .lit (.int .u8 0), .lit (.int .u8 0), .lit (.int .u8 0), .lit (.int .u8 0), .lit (.int .u8 0), .lit (.int .u8 0), .lit (.int .u8 0), .lit (.int .u8 0), .lit (.int .u8 0), .lit (.int .u8 0), .lit (.int .u8 0), .lit (.int .u8 0), .lit (.int .u8 0), .lit (.int .u8 0), .lit (.int .u8 0), .lit (.int .u8 0), .lit (.int .u8 0), .lit (.int .u8 0), .lit (.int .u8 0), .lit (.int .u8 0), .lit (.int .u8 0), .lit (.int .u8 0), .lit (.int .u8 0), .lit (.int .u8 0), .lit (.int .u8 0), .lit (.int .u8 0), .lit (.int .u8 0), .lit (.int .u8 0), .lit (.int .u8 0), .lit (.int .u8 0), .lit (.int .u8 0), .lit (.int .u8 0), .lit (.int .u8 0), .lit (.int .u8 0), .lit (.int .u8 0), .lit (.int .u8 0), .lit (.int .u8 0), .lit (.int .u8 0), .lit (.int .u8 0), .lit (.int .u8 0), .lit (.int .u8 0), .lit (.int .u8 0), .lit (.int .u8 0), .lit (.int .u8 0), .lit (.int .u8 0), .lit (.int .u8 0), .lit (.int .u8 0), .lit (.int .u8 0), .lit (.int .u8 0), .lit (.int .u8 0), .lit (.int .u8 0), .lit (.int .u8 0), .lit (.int .u8 0), .lit (.int .u8 0), .lit (.int .u8 0), .lit (.int .u8 0), .lit (.int .u8 0), .lit (.int .u8 0), .lit (.int .u8 0), .lit (.int .u8 0), .lit (.int .u8 0), .lit (.int .u8 0), .lit (.int .u8 0), .lit (.int .u8 0), .lit (.int .u8 0), .lit (.int .u8 0), .lit (.int .u8 0), .lit (.int .u8 0), .lit (.int .u8 0), .lit (.int .u8 0), .lit (.int .u8 0), .lit (.int .u8 0), .lit (.int .u8 0), .lit (.int .u8 0), .lit (.int .u8 0), .lit (.int .u8 0), .lit (.int .u8 0), .lit (.int .u8 0), .lit (.int .u8 0), .lit (.int .u8 0), .lit (.int .u8 0), .lit (.int .u8 0), .lit (.int .u8 0), .lit (.int .u8 0)]
def laid_bodkin_ops_more {H : Type} : DataW H := .agg [.lit (.string [105, 51, 50, 46, 116, 114, 117, 110, 99, 95, 115, 97, 116, 95, 102, 51, 50, 95, 115, 32, 48, 32, 102, 62, 105]), .lit (.string [105, 51, 50, 46, 116, 114, 117, 110, 99, 95, 115, 97, 116, 95, 102, 51, 50, 95, 117, 32, 48, 32, 102, 62, 105]), .lit (.string [105, 51, 50, 46, 116, 114, 117, 110, 99, 95, 115, 97, 116, 95, 102, 54, 52, 95, 115, 32, 48, 32, 100, 62, 105]), .lit (.string [105, 51, 50, 46, 116, 114, 117, 110, 99, 95, 115, 97, 116, 95, 102, 54, 52, 95, 117, 32, 48, 32, 100, 62, 105]), .lit (.string [105, 54, 52, 46, 116, 114, 117, 110, 99, 95, 115, 97, 116, 95, 102, 51, 50, 95, 115, 32, 48, 32, 102, 62, 108]), .lit (.string [105, 54, 52, 46, 116, 114, 117, 110, 99, 95, 115, 97, 116, 95, 102, 51, 50, 95, 117, 32, 48, 32, 102, 62, 108]), .lit (.string [105, 54, 52, 46, 116, 114, 117, 110, 99, 95, 115, 97, 116, 95, 102, 54, 52, 95, 115, 32, 48, 32, 100, 62, 108]), .lit (.string [105, 54, 52, 46, 116, 114, 117, 110, 99, 95, 115, 97, 116, 95, 102, 54, 52, 95, 117, 32, 48, 32, 100, 62, 108]), .lit (.string [109, 101, 109, 111, 114, 121, 46, 105, 110, 105, 116, 32, 49, 55, 32, 105, 105, 105, 62]), .lit (.string [100, 97, 116, 97, 46, 100, 114, 111, 112, 32, 49, 56, 32, 62]), .lit (.string [109, 101, 109, 111, 114, 121, 46, 99, 111, 112, 121, 32, 49, 57, 32, 105, 105, 105, 62]), .lit (.string [109, 101, 109, 111, 114, 121, 46, 102, 105, 108, 108, 32, 49, 49, 32, 105, 105, 105, 62]), .lit (.string [116, 97, 98, 108, 101, 46, 105, 110, 105, 116, 32, 50, 48, 32, 105, 105, 105, 62]), .lit (.string [101, 108, 101, 109, 46, 100, 114, 111, 112, 32, 50, 49, 32, 62]), .lit (.string [116, 97, 98, 108, 101, 46, 99, 111, 112, 121, 32, 50, 50, 32, 105, 105, 105, 62]), .lit (.string [116, 97, 98, 108, 101, 46, 103, 114, 111, 119, 32, 57, 32, 63]), .lit (.string [116, 97, 98, 108, 101, 46, 115, 105, 122, 101, 32, 57, 32, 62, 105]), .lit (.string [116, 97, 98, 108, 101, 46, 102, 105, 108, 108, 32, 57, 32, 63])]

/-- 'bodkinlaw05.OpsSays': WHATEVER THE INPUT: true; the input reads as it did. -/
def opsSaysSpec : ChangeSpec := { name := "opsSays", fn := fun _ => fun
  | [d] => { results := [.lit (.bool true)], args := [d] }
  | _ => none }
def opsSaysRow : OpenClaim := { program := "ytiopaclofkncaaadoor", sum := "a91fcd4d7116a3fc42b642016f422534d223ba6f25ab7e1fff355a8e5a062844", func := "bodkin/bodkinlaw05.OpsSays", spec := "opsSays", inPlace := ["internal/bytealg.IndexByteString", "internal/bytealg.IndexString"], unfollowed := true, recurses := true, named := ["bodkin/ops.more", "strings.asciiSpace", "unicode.White_Space", "internal/bytealg.MaxLen"], apart := false, laid := [("unicode.White_Space", laid_unicode_White_Space), ("strings.asciiSpace", laid_strings_asciiSpace), ("bodkin/ops.more", laid_bodkin_ops_more)] }
def OpsSaysSaid : Prop := opsSaysRow.holds Tryd.pinned (OpenSpec.ofChange opsSaysSpec)

/-- ITS FALSE NEIGHBOUR: 'it returns false'. Refute it at one input. -/
def opsSaysWrong : ChangeSpec := { name := "opsSays", fn := fun _ => fun
  | [d] => { results := [.lit (.bool false)], args := [d] }
  | _ => none }
def OpsSaysWrongFalsely : Prop := opsSaysRow.holds Tryd.pinned (OpenSpec.ofChange opsSaysWrong)

/-- 'bodkinlaw05.OpsFinds': WHATEVER THE INPUT: true; the input reads as it did. -/
def opsFindsSpec : ChangeSpec := { name := "opsFinds", fn := fun _ => fun
  | [d1, d2] => { results := [.lit (.bool true)], args := [d1, d2] }
  | _ => none }
def opsFindsRow : OpenClaim := { program := "ytiopaclofkncaaadoor", sum := "a91fcd4d7116a3fc42b642016f422534d223ba6f25ab7e1fff355a8e5a062844", func := "bodkin/bodkinlaw05.OpsFinds", spec := "opsFinds", inPlace := ["internal/bytealg.IndexByteString", "internal/bytealg.IndexString"], unfollowed := true, recurses := true, named := ["bodkin/ops.more", "strings.asciiSpace", "unicode.White_Space", "internal/bytealg.MaxLen"], apart := false, laid := [("unicode.White_Space", laid_unicode_White_Space), ("strings.asciiSpace", laid_strings_asciiSpace), ("bodkin/ops.more", laid_bodkin_ops_more)] }
def OpsFindsSaid : Prop := opsFindsRow.holds Tryd.pinned (OpenSpec.ofChange opsFindsSpec)

/-- ITS FALSE NEIGHBOUR: 'it returns false'. Refute it at one input. -/
def opsFindsWrong : ChangeSpec := { name := "opsFinds", fn := fun _ => fun
  | [d1, d2] => { results := [.lit (.bool false)], args := [d1, d2] }
  | _ => none }
def OpsFindsWrongFalsely : Prop := opsFindsRow.holds Tryd.pinned (OpenSpec.ofChange opsFindsWrong)

/-- 'bodkinlaw05.OpsAll': WHATEVER THE INPUT: true; the input reads as it did. -/
def opsAllSpec : ChangeSpec := { name := "opsAll", fn := fun _ => fun
  | [d] => { results := [.lit (.bool true)], args := [d] }
  | _ => none }
def opsAllRow : OpenClaim := { program := "ytiopaclofkncaaadoor", sum := "a91fcd4d7116a3fc42b642016f422534d223ba6f25ab7e1fff355a8e5a062844", func := "bodkin/bodkinlaw05.OpsAll", spec := "opsAll", inPlace := ["internal/bytealg.IndexByteString", "internal/bytealg.IndexString"], unfollowed := true, recurses := true, named := ["bodkin/ops.more", "strings.asciiSpace", "unicode.White_Space", "internal/bytealg.MaxLen"], apart := false, laid := [("unicode.White_Space", laid_unicode_White_Space), ("strings.asciiSpace", laid_strings_asciiSpace), ("bodkin/ops.more", laid_bodkin_ops_more)] }
def OpsAllSaid : Prop := opsAllRow.holds Tryd.pinned (OpenSpec.ofChange opsAllSpec)

/-- ITS FALSE NEIGHBOUR: 'it returns false'. Refute it at one input. -/
def opsAllWrong : ChangeSpec := { name := "opsAll", fn := fun _ => fun
  | [d] => { results := [.lit (.bool false)], args := [d] }
  | _ => none }
def OpsAllWrongFalsely : Prop := opsAllRow.holds Tryd.pinned (OpenSpec.ofChange opsAllWrong)

/-- 'bodkinlaw05.OpsPlaces': WHATEVER THE INPUT: true; the input reads as it did. -/
def opsPlacesSpec : ChangeSpec := { name := "opsPlaces", fn := fun _ => fun
  | [d] => { results := [.lit (.bool true)], args := [d] }
  | _ => none }
def opsPlacesRow : OpenClaim := { program := "ytiopaclofkncaaadoor", sum := "a91fcd4d7116a3fc42b642016f422534d223ba6f25ab7e1fff355a8e5a062844", func := "bodkin/bodkinlaw05.OpsPlaces", spec := "opsPlaces", inPlace := ["internal/bytealg.IndexByteString", "internal/bytealg.IndexString"], unfollowed := true, recurses := true, named := ["bodkin/ops.more", "strings.asciiSpace", "unicode.White_Space", "internal/bytealg.MaxLen"], apart := false, laid := [("unicode.White_Space", laid_unicode_White_Space), ("strings.asciiSpace", laid_strings_asciiSpace), ("bodkin/ops.more", laid_bodkin_ops_more)] }
def OpsPlacesSaid : Prop := opsPlacesRow.holds Tryd.pinned (OpenSpec.ofChange opsPlacesSpec)

/-- ITS FALSE NEIGHBOUR: 'it returns false'. Refute it at one input. -/
def opsPlacesWrong : ChangeSpec := { name := "opsPlaces", fn := fun _ => fun
  | [d] => { results := [.lit (.bool false)], args := [d] }
  | _ => none }
def OpsPlacesWrongFalsely : Prop := opsPlacesRow.holds Tryd.pinned (OpenSpec.ofChange opsPlacesWrong)

/-- 'bodkinlaw05.OpsSigns': WHATEVER THE INPUT: true; the input reads as it did. -/
def opsSignsSpec : ChangeSpec := { name := "opsSigns", fn := fun _ => fun
  | [d] => { results := [.lit (.bool true)], args := [d] }
  | _ => none }
def opsSignsRow : OpenClaim := { program := "ytiopaclofkncaaadoor", sum := "a91fcd4d7116a3fc42b642016f422534d223ba6f25ab7e1fff355a8e5a062844", func := "bodkin/bodkinlaw05.OpsSigns", spec := "opsSigns", inPlace := ["internal/bytealg.IndexByteString", "internal/bytealg.IndexString"], unfollowed := true, recurses := true, named := ["bodkin/ops.more", "strings.asciiSpace", "unicode.White_Space", "internal/bytealg.MaxLen"], apart := false, laid := [("unicode.White_Space", laid_unicode_White_Space), ("strings.asciiSpace", laid_strings_asciiSpace), ("bodkin/ops.more", laid_bodkin_ops_more)] }
def OpsSignsSaid : Prop := opsSignsRow.holds Tryd.pinned (OpenSpec.ofChange opsSignsSpec)

/-- ITS FALSE NEIGHBOUR: 'it returns false'. Refute it at one input. -/
def opsSignsWrong : ChangeSpec := { name := "opsSigns", fn := fun _ => fun
  | [d] => { results := [.lit (.bool false)], args := [d] }
  | _ => none }
def OpsSignsWrongFalsely : Prop := opsSignsRow.holds Tryd.pinned (OpenSpec.ofChange opsSignsWrong)

/- THE SECOND FORM. 'bulk': how many values and letters a reading holds, each counted each time it is reached (what is shared counts as often as it is met; a slice's spare places count too). A statement '..UptoSaid' is the law's where the arguments, and the package variables that the reading takes, are together of bulk at most 1048576: NARROWER than '..Said'. Prove '..Said' where nothing that the law and all that it calls make is longer than what came in: it says more and counts as full. Else prove '..UptoSaid'. A law counts once. -/
mutual
def uptoBulk {H : Type} : DataW H → Nat
  | .lit (.string bytes) => bytes.length + 1
  | .lit _ => 1
  | .nil => 1
  | .ptr d => uptoBulk d + 1
  | .slice elems spare => uptoBulkAll elems + uptoBulkAll spare + 1
  | .agg parts => uptoBulkAll parts + 1
  | .iface _ d => uptoBulk d + 1
  | .map entries => uptoBulkEntries entries + 1
  | .held _ => 1
def uptoBulkAll {H : Type} : List (DataW H) → Nat
  | [] => 0
  | d :: r => uptoBulk d + uptoBulkAll r
def uptoBulkEntries {H : Type} : List (Lit × DataW H) → Nat
  | [] => 0
  | x :: r => uptoBulkEntry x + uptoBulkEntries r
def uptoBulkEntry {H : Type} : Lit × DataW H → Nat
  | (.string bytes, d) => bytes.length + uptoBulk d + 1
  | (_, d) => uptoBulk d + 1
 end
def uptoSmall : (H : Type) → List (DataW H) → Bool := fun _ ds => decide (uptoBulkAll ds ≤ 1048576)
def OpenSpec.upto (s : _root_.Go.ChangeSpec) : _root_.Go.OpenSpec := { _root_.Go.OpenSpec.ofChange s with cond := some uptoSmall }

/-- 'bodkinlaw05.OpsSays', WHERE WHAT IT READS IS OF BULK AT MOST 1048576: true; the input reads as it did. -/
def opsSaysUptoRow : OpenClaim := { program := "ytiopaclofkncaaadoor", sum := "a91fcd4d7116a3fc42b642016f422534d223ba6f25ab7e1fff355a8e5a062844", func := "bodkin/bodkinlaw05.OpsSays", spec := "opsSays", inPlace := ["internal/bytealg.IndexByteString", "internal/bytealg.IndexString"], unfollowed := true, recurses := true, named := ["bodkin/ops.more", "strings.asciiSpace", "unicode.White_Space", "internal/bytealg.MaxLen"], apart := false, laid := [("unicode.White_Space", laid_unicode_White_Space), ("strings.asciiSpace", laid_strings_asciiSpace), ("bodkin/ops.more", laid_bodkin_ops_more)], narrowed := true }
def OpsSaysUptoSaid : Prop := opsSaysUptoRow.holds Tryd.pinned (OpenSpec.upto opsSaysSpec)

/-- 'bodkinlaw05.OpsFinds', WHERE WHAT IT READS IS OF BULK AT MOST 1048576: true; the input reads as it did. -/
def opsFindsUptoRow : OpenClaim := { program := "ytiopaclofkncaaadoor", sum := "a91fcd4d7116a3fc42b642016f422534d223ba6f25ab7e1fff355a8e5a062844", func := "bodkin/bodkinlaw05.OpsFinds", spec := "opsFinds", inPlace := ["internal/bytealg.IndexByteString", "internal/bytealg.IndexString"], unfollowed := true, recurses := true, named := ["bodkin/ops.more", "strings.asciiSpace", "unicode.White_Space", "internal/bytealg.MaxLen"], apart := false, laid := [("unicode.White_Space", laid_unicode_White_Space), ("strings.asciiSpace", laid_strings_asciiSpace), ("bodkin/ops.more", laid_bodkin_ops_more)], narrowed := true }
def OpsFindsUptoSaid : Prop := opsFindsUptoRow.holds Tryd.pinned (OpenSpec.upto opsFindsSpec)

/-- 'bodkinlaw05.OpsAll', WHERE WHAT IT READS IS OF BULK AT MOST 1048576: true; the input reads as it did. -/
def opsAllUptoRow : OpenClaim := { program := "ytiopaclofkncaaadoor", sum := "a91fcd4d7116a3fc42b642016f422534d223ba6f25ab7e1fff355a8e5a062844", func := "bodkin/bodkinlaw05.OpsAll", spec := "opsAll", inPlace := ["internal/bytealg.IndexByteString", "internal/bytealg.IndexString"], unfollowed := true, recurses := true, named := ["bodkin/ops.more", "strings.asciiSpace", "unicode.White_Space", "internal/bytealg.MaxLen"], apart := false, laid := [("unicode.White_Space", laid_unicode_White_Space), ("strings.asciiSpace", laid_strings_asciiSpace), ("bodkin/ops.more", laid_bodkin_ops_more)], narrowed := true }
def OpsAllUptoSaid : Prop := opsAllUptoRow.holds Tryd.pinned (OpenSpec.upto opsAllSpec)

/-- 'bodkinlaw05.OpsPlaces', WHERE WHAT IT READS IS OF BULK AT MOST 1048576: true; the input reads as it did. -/
def opsPlacesUptoRow : OpenClaim := { program := "ytiopaclofkncaaadoor", sum := "a91fcd4d7116a3fc42b642016f422534d223ba6f25ab7e1fff355a8e5a062844", func := "bodkin/bodkinlaw05.OpsPlaces", spec := "opsPlaces", inPlace := ["internal/bytealg.IndexByteString", "internal/bytealg.IndexString"], unfollowed := true, recurses := true, named := ["bodkin/ops.more", "strings.asciiSpace", "unicode.White_Space", "internal/bytealg.MaxLen"], apart := false, laid := [("unicode.White_Space", laid_unicode_White_Space), ("strings.asciiSpace", laid_strings_asciiSpace), ("bodkin/ops.more", laid_bodkin_ops_more)], narrowed := true }
def OpsPlacesUptoSaid : Prop := opsPlacesUptoRow.holds Tryd.pinned (OpenSpec.upto opsPlacesSpec)

/-- 'bodkinlaw05.OpsSigns', WHERE WHAT IT READS IS OF BULK AT MOST 1048576: true; the input reads as it did. -/
def opsSignsUptoRow : OpenClaim := { program := "ytiopaclofkncaaadoor", sum := "a91fcd4d7116a3fc42b642016f422534d223ba6f25ab7e1fff355a8e5a062844", func := "bodkin/bodkinlaw05.OpsSigns", spec := "opsSigns", inPlace := ["internal/bytealg.IndexByteString", "internal/bytealg.IndexString"], unfollowed := true, recurses := true, named := ["bodkin/ops.more", "strings.asciiSpace", "unicode.White_Space", "internal/bytealg.MaxLen"], apart := false, laid := [("unicode.White_Space", laid_unicode_White_Space), ("strings.asciiSpace", laid_strings_asciiSpace), ("bodkin/ops.more", laid_bodkin_ops_more)], narrowed := true }
def OpsSignsUptoSaid : Prop := opsSignsUptoRow.holds Tryd.pinned (OpenSpec.upto opsSignsSpec)

end Rows
end Go.Proofs.YtiopaclofkncaaaDoor
