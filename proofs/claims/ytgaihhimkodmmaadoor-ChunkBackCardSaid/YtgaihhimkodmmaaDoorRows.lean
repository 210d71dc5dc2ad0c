/-
  NARROWER THAN 'FOR EVERY INPUT', by the rows' own cells (each row's printed sentence says how): ChunkBack: laid · XferComes: laid · XferArrives: laid · XferKeeps: laid · ChunkArrives: laid · ChunkNotes: laid · ChunkCuts: laid · XferStarts: laid · XferTakes: laid · XferSends: laid.
  DERIVED. THE GIVEN ROWS OF THIS SEAT. 10 by the template 'for every input the law returns true; each argument reads behind the call as it read before'; 0 by the template 'total and deterministic' (their statements: YtgaihhimkodmmaaDoorTotals.lean).
  GIVEN WITH THE SEED: the statements are not yours to turn. If you find one false, say at which input.
  Laid BY PROGRAM, IN A SANDBOX (cutbox-rows.mjs): the forced cells as the released guide's own fill.sh prints them over the translation 8664df452ed7f3cb… (all of the seat's roots in one cut). By AI agents, Wed Nov 11 2026. No macro, syntax, notation, axiom, sorry.
-/
import Derived.Test.YtgaihhimkodmmaaDoorChecked
import GoSem.Claim
import GoSem.ClaimJoined
import GoSem.ClaimMapViews
import Derived.JoinedTies
import Derived.KernelRfl
namespace Go.Proofs.YtgaihhimkodmmaaDoor
/- THE CELL 'sum', in the pinned program and in every row, IS THE sha256 OF THE DUMP (.gsa) THAT YtgaihhimkodmmaaDoorProg.lean LOADS. Nothing in Lean hashes anything: it is a label: what it is worth is what the hold of that sum in a sandbox is worth. -/
noncomputable def Tryd.pinned : Pinned := { name := "ytgaihhimkodmmaadoor", sum := "8664df452ed7f3cb2186185cbf0b6031b1aa97c7f7325c1c89de33378638bea8", checked := Tryd.checked }
namespace Rows
def none {H : Type} : Left H := { results := [], args := [] }

/- WHAT THE LISTED PACKAGE-LEVEL VARIABLES READ AS WHEN THE CALL BEGINS. Each datum BY PROGRAM (the guide's laid-datum.mjs) off the statement by which the dump's own 'gosem.cut.vars' lays the variable. In a bare row this is a premise. The card (YtgaihhimkodmmaaDoorCards.lean) ties it to the program's text. -/
def laid_math_bits_deBruijn32tab {H : Type} : DataW H := .agg [.lit (.int .u8 0), .lit (.int .u8 1), .lit (.int .u8 28), .lit (.int .u8 2), .lit (.int .u8 29), .lit (.int .u8 14), .lit (.int .u8 24), .lit (.int .u8 3), .lit (.int .u8 30), .lit (.int .u8 22), .lit (.int .u8 20), .lit (.int .u8 15), .lit (.int .u8 25), .lit (.int .u8 17), .lit (.int .u8 4), .lit (.int .u8 8), .lit (.int .u8 31), .lit (.int .u8 27), .lit (.int .u8 13), .lit (.int .u8 23), .lit (.int .u8 21), .lit (.int .u8 19), .lit (.int .u8 16), .lit (.int .u8 7), .lit (.int .u8 26), .lit (.int .u8 12), .lit (.int .u8 18), .lit (.int .u8 6), .lit (.int .u8 11), .lit (.int .u8 5), .lit (.int .u8 10), .lit (.int .u8 9)]
def laid_ferry_api_ErrShort {H : Type} : DataW H := .iface "*errors.errorString" (.ptr (.agg [.lit (.string [116, 104, 101, 32, 98, 121, 116, 101, 115, 32, 101, 110, 100, 32, 116, 111, 111, 32, 101, 97, 114, 108, 121])]))
def laid_ferry_api_ErrRange {H : Type} : DataW H := .iface "*errors.errorString" (.ptr (.agg [.lit (.string [97, 32, 110, 117, 109, 98, 101, 114, 32, 111, 117, 116, 32, 111, 102, 32, 105, 116, 115, 32, 114, 97, 110, 103, 101])]))
def laid_ferry_api_ErrLength {H : Type} : DataW H := .iface "*errors.errorString" (.ptr (.agg [.lit (.string [97, 32, 108, 101, 110, 103, 116, 104, 32, 116, 104, 97, 116, 32, 105, 115, 110, 39, 116, 32, 116, 104, 101, 32, 116, 104, 105, 110, 103, 39, 115])]))
def laid_ferry_api_ErrSum {H : Type} : DataW H := .iface "*errors.errorString" (.ptr (.agg [.lit (.string [116, 104, 101, 32, 99, 104, 101, 99, 107, 32, 115, 117, 109, 32, 105, 115, 32, 119, 114, 111, 110, 103])]))
def laid_ferry_api_ErrKind {H : Type} : DataW H := .iface "*errors.errorString" (.ptr (.agg [.lit (.string [110, 111, 32, 115, 117, 99, 104, 32, 107, 105, 110, 100])]))
def laid_ferry_api_ErrSize {H : Type} : DataW H := .iface "*errors.errorString" (.ptr (.agg [.lit (.string [116, 111, 111, 32, 108, 97, 114, 103, 101])]))
def laid_ferry_api_ErrArg {H : Type} : DataW H := .iface "*errors.errorString" (.ptr (.agg [.lit (.string [97, 32, 119, 114, 111, 110, 103, 32, 97, 114, 103, 117, 109, 101, 110, 116])]))
def laid_ferry_api_ErrState {H : Type} : DataW H := .iface "*errors.errorString" (.ptr (.agg [.lit (.string [116, 104, 101, 32, 115, 116, 97, 116, 101, 32, 98, 114, 101, 97, 107, 115, 32, 97, 32, 114, 117, 108, 101])]))
def laid_ferry_api_ErrBase {H : Type} : DataW H := .iface "*errors.errorString" (.ptr (.agg [.lit (.string [110, 111, 116, 32, 111, 118, 101, 114, 32, 116, 104, 105, 115, 32, 98, 97, 115, 101])]))
def laid_ferry_api_ErrBusy {H : Type} : DataW H := .iface "*errors.errorString" (.ptr (.agg [.lit (.string [115, 111, 109, 101, 116, 104, 105, 110, 103, 32, 105, 115, 32, 117, 110, 100, 101, 114, 32, 119, 97, 121])]))
def laid_errors_errorType {H : Type} : DataW H := .iface "internal/reflectlite.rtype" (.agg [.ptr (.lit (.string [101, 114, 114, 111, 114]))])
def laid_ferry_api_ErrRest {H : Type} : DataW H := .iface "*errors.errorString" (.ptr (.agg [.lit (.string [115, 111, 109, 101, 116, 104, 105, 110, 103, 32, 105, 115, 32, 108, 101, 102, 116, 32, 111, 118, 101, 114])]))
def laid_ferry_api_ErrTag {H : Type} : DataW H := .iface "*errors.errorString" (.ptr (.agg [.lit (.string [97, 110, 111, 116, 104, 101, 114, 32, 116, 97, 103, 32, 105, 115, 32, 119, 97, 110, 116, 101, 100])]))
def laid_ferry_api_ErrPlan {H : Type} : DataW H := .iface "*errors.errorString" (.ptr (.agg [.lit (.string [110, 111, 116, 32, 111, 102, 32, 116, 104, 105, 115, 32, 112, 108, 97, 110])]))
def laid_ferry_api_ErrEnd {H : Type} : DataW H := .iface "*errors.errorString" (.ptr (.agg [.lit (.string [97, 32, 99, 111, 117, 110, 116, 101, 114, 32, 105, 115, 32, 97, 116, 32, 105, 116, 115, 32, 101, 110, 100])]))
def laid_ferry_api_ErrDown {H : Type} : DataW H := .iface "*errors.errorString" (.ptr (.agg [.lit (.string [116, 104, 101, 32, 109, 111, 100, 117, 108, 101, 32, 105, 115, 32, 100, 111, 119, 110])]))
def laid_ferry_api_ErrLost {H : Type} : DataW H := .iface "*errors.errorString" (.ptr (.agg [.lit (.string [116, 104, 101, 32, 112, 97, 114, 116, 105, 116, 105, 111, 110, 32, 105, 115, 32, 108, 111, 115, 116])]))
def laid_ferry_api_ErrNone {H : Type} : DataW H := .iface "*errors.errorString" (.ptr (.agg [.lit (.string [116, 104, 101, 114, 101, 32, 105, 115, 32, 110, 111, 110, 101])]))
def laid_ferry_api_ErrText {H : Type} : DataW H := .iface "*errors.errorString" (.ptr (.agg [.lit (.string [97, 32, 116, 101, 120, 116, 32, 116, 104, 97, 116, 32, 105, 115, 110, 39, 116, 32, 111, 102, 32, 116, 104, 101, 32, 108, 97, 110, 103, 117, 97, 103, 101])]))
def laid_ferry_api_ErrStop {H : Type} : DataW H := .iface "*errors.errorString" (.ptr (.agg [.lit (.string [99, 97, 110, 99, 101, 108, 108, 101, 100])]))
def laid_ferry_api_ErrDivide {H : Type} : DataW H := .iface "*errors.errorString" (.ptr (.agg [.lit (.string [100, 105, 118, 105, 115, 105, 111, 110, 32, 98, 121, 32, 122, 101, 114, 111])]))

/-- 'ferrylaw20.ChunkBack': WHATEVER THE INPUT: true; the input reads as it did. -/
def chunkBackSpec : ChangeSpec := { name := "chunkBack", fn := fun _ => fun
  | [d1, d2, d3] => { results := [.lit (.bool true)], args := [d1, d2, d3] }
  | _ => none }
def chunkBackRow : OpenClaim := { program := "ytgaihhimkodmmaadoor", sum := "8664df452ed7f3cb2186185cbf0b6031b1aa97c7f7325c1c89de33378638bea8", func := "ferry/ferrylaw20.ChunkBack", spec := "chunkBack", unfollowed := true, recurses := true, named := ["ferry/api.ErrKind", "ferry/api.ErrRange", "ferry/api.ErrShort", "ferry/api.ErrLength", "ferry/api.ErrSum", "ferry/api.ErrArg", "ferry/api.ErrSize", "math/bits.deBruijn32tab"], apart := false, laid := [("math/bits.deBruijn32tab", laid_math_bits_deBruijn32tab), ("ferry/api.ErrShort", laid_ferry_api_ErrShort), ("ferry/api.ErrRange", laid_ferry_api_ErrRange), ("ferry/api.ErrLength", laid_ferry_api_ErrLength), ("ferry/api.ErrSum", laid_ferry_api_ErrSum), ("ferry/api.ErrKind", laid_ferry_api_ErrKind), ("ferry/api.ErrSize", laid_ferry_api_ErrSize), ("ferry/api.ErrArg", laid_ferry_api_ErrArg)] }
def ChunkBackSaid : Prop := chunkBackRow.holds Tryd.pinned (OpenSpec.ofChange chunkBackSpec)

/-- ITS FALSE NEIGHBOUR: 'it returns false'. Refute it at one input. -/
def chunkBackWrong : ChangeSpec := { name := "chunkBack", fn := fun _ => fun
  | [d1, d2, d3] => { results := [.lit (.bool false)], args := [d1, d2, d3] }
  | _ => none }
def ChunkBackWrongFalsely : Prop := chunkBackRow.holds Tryd.pinned (OpenSpec.ofChange chunkBackWrong)

/-- 'ferrylaw22.XferComes': WHATEVER THE INPUT: true; the input reads as it did. -/
def xferComesSpec : ChangeSpec := { name := "xferComes", fn := fun _ => fun
  | [d1, d2] => { results := [.lit (.bool true)], args := [d1, d2] }
  | _ => none }
def xferComesRow : OpenClaim := { program := "ytgaihhimkodmmaadoor", sum := "8664df452ed7f3cb2186185cbf0b6031b1aa97c7f7325c1c89de33378638bea8", func := "ferry/ferrylaw22.XferComes", spec := "xferComes", inPlace := ["internal/abi.NoEscape", "internal/bytealg.MakeNoZero"], unfollowed := true, recurses := true, named := ["ferry/api.ErrArg", "ferry/api.ErrSize", "ferry/api.ErrState", "ferry/api.ErrKind", "ferry/api.ErrRange", "ferry/api.ErrBase", "ferry/api.ErrBusy"], apart := false, laid := [("ferry/api.ErrRange", laid_ferry_api_ErrRange), ("ferry/api.ErrKind", laid_ferry_api_ErrKind), ("ferry/api.ErrState", laid_ferry_api_ErrState), ("ferry/api.ErrBase", laid_ferry_api_ErrBase), ("ferry/api.ErrSize", laid_ferry_api_ErrSize), ("ferry/api.ErrArg", laid_ferry_api_ErrArg), ("ferry/api.ErrBusy", laid_ferry_api_ErrBusy)] }
def XferComesSaid : Prop := xferComesRow.holds Tryd.pinned (OpenSpec.ofChange xferComesSpec)

/-- ITS FALSE NEIGHBOUR: 'it returns false'. Refute it at one input. -/
def xferComesWrong : ChangeSpec := { name := "xferComes", fn := fun _ => fun
  | [d1, d2] => { results := [.lit (.bool false)], args := [d1, d2] }
  | _ => none }
def XferComesWrongFalsely : Prop := xferComesRow.holds Tryd.pinned (OpenSpec.ofChange xferComesWrong)

/-- 'ferrylaw22.XferArrives': WHATEVER THE INPUT: true; the input reads as it did. -/
def xferArrivesSpec : ChangeSpec := { name := "xferArrives", fn := fun _ => fun
  | [d1, d2, d3] => { results := [.lit (.bool true)], args := [d1, d2, d3] }
  | _ => none }
def xferArrivesRow : OpenClaim := { program := "ytgaihhimkodmmaadoor", sum := "8664df452ed7f3cb2186185cbf0b6031b1aa97c7f7325c1c89de33378638bea8", func := "ferry/ferrylaw22.XferArrives", spec := "xferArrives", inPlace := ["internal/abi.NoEscape", "internal/bytealg.MakeNoZero"], unfollowed := true, recurses := true, named := ["ferry/api.ErrArg", "ferry/api.ErrSize", "ferry/api.ErrState", "ferry/api.ErrKind", "ferry/api.ErrRange", "ferry/api.ErrBase", "ferry/api.ErrBusy"], apart := false, laid := [("ferry/api.ErrRange", laid_ferry_api_ErrRange), ("ferry/api.ErrKind", laid_ferry_api_ErrKind), ("ferry/api.ErrState", laid_ferry_api_ErrState), ("ferry/api.ErrBase", laid_ferry_api_ErrBase), ("ferry/api.ErrSize", laid_ferry_api_ErrSize), ("ferry/api.ErrArg", laid_ferry_api_ErrArg), ("ferry/api.ErrBusy", laid_ferry_api_ErrBusy)] }
def XferArrivesSaid : Prop := xferArrivesRow.holds Tryd.pinned (OpenSpec.ofChange xferArrivesSpec)

/-- ITS FALSE NEIGHBOUR: 'it returns false'. Refute it at one input. -/
def xferArrivesWrong : ChangeSpec := { name := "xferArrives", fn := fun _ => fun
  | [d1, d2, d3] => { results := [.lit (.bool false)], args := [d1, d2, d3] }
  | _ => none }
def XferArrivesWrongFalsely : Prop := xferArrivesRow.holds Tryd.pinned (OpenSpec.ofChange xferArrivesWrong)

/-- 'ferrylaw22.XferKeeps': WHATEVER THE INPUT: true; the input reads as it did. -/
def xferKeepsSpec : ChangeSpec := { name := "xferKeeps", fn := fun _ => fun
  | [d1, d2] => { results := [.lit (.bool true)], args := [d1, d2] }
  | _ => none }
def xferKeepsRow : OpenClaim := { program := "ytgaihhimkodmmaadoor", sum := "8664df452ed7f3cb2186185cbf0b6031b1aa97c7f7325c1c89de33378638bea8", func := "ferry/ferrylaw22.XferKeeps", spec := "xferKeeps", inPlace := ["internal/abi.NoEscape", "internal/bytealg.MakeNoZero"], unfollowed := true, recurses := true, named := ["ferry/api.ErrArg", "ferry/api.ErrSize", "ferry/api.ErrState", "ferry/api.ErrKind", "ferry/api.ErrRange", "ferry/api.ErrBase", "ferry/api.ErrBusy"], apart := false, laid := [("ferry/api.ErrRange", laid_ferry_api_ErrRange), ("ferry/api.ErrKind", laid_ferry_api_ErrKind), ("ferry/api.ErrState", laid_ferry_api_ErrState), ("ferry/api.ErrBase", laid_ferry_api_ErrBase), ("ferry/api.ErrSize", laid_ferry_api_ErrSize), ("ferry/api.ErrArg", laid_ferry_api_ErrArg), ("ferry/api.ErrBusy", laid_ferry_api_ErrBusy)] }
def XferKeepsSaid : Prop := xferKeepsRow.holds Tryd.pinned (OpenSpec.ofChange xferKeepsSpec)

/-- ITS FALSE NEIGHBOUR: 'it returns false'. Refute it at one input. -/
def xferKeepsWrong : ChangeSpec := { name := "xferKeeps", fn := fun _ => fun
  | [d1, d2] => { results := [.lit (.bool false)], args := [d1, d2] }
  | _ => none }
def XferKeepsWrongFalsely : Prop := xferKeepsRow.holds Tryd.pinned (OpenSpec.ofChange xferKeepsWrong)

/-- 'ferrylaw20.ChunkArrives': WHATEVER THE INPUT: true; the input reads as it did. -/
def chunkArrivesSpec : ChangeSpec := { name := "chunkArrives", fn := fun _ => fun
  | [d1, d2, d3] => { results := [.lit (.bool true)], args := [d1, d2, d3] }
  | _ => none }
def chunkArrivesRow : OpenClaim := { program := "ytgaihhimkodmmaadoor", sum := "8664df452ed7f3cb2186185cbf0b6031b1aa97c7f7325c1c89de33378638bea8", func := "ferry/ferrylaw20.ChunkArrives", spec := "chunkArrives", inPlace := ["internal/abi.NoEscape", "internal/bytealg.MakeNoZero"], unfollowed := true, recurses := true, named := ["ferry/api.ErrKind", "ferry/api.ErrRange", "ferry/api.ErrShort", "ferry/api.ErrLength", "ferry/api.ErrSum", "ferry/api.ErrArg", "ferry/api.ErrSize", "ferry/api.ErrState", "ferry/api.ErrBase", "ferry/api.ErrBusy"], apart := false, laid := [("ferry/api.ErrShort", laid_ferry_api_ErrShort), ("ferry/api.ErrRange", laid_ferry_api_ErrRange), ("ferry/api.ErrLength", laid_ferry_api_ErrLength), ("ferry/api.ErrSum", laid_ferry_api_ErrSum), ("ferry/api.ErrKind", laid_ferry_api_ErrKind), ("ferry/api.ErrState", laid_ferry_api_ErrState), ("ferry/api.ErrBase", laid_ferry_api_ErrBase), ("ferry/api.ErrSize", laid_ferry_api_ErrSize), ("ferry/api.ErrArg", laid_ferry_api_ErrArg), ("ferry/api.ErrBusy", laid_ferry_api_ErrBusy)] }
def ChunkArrivesSaid : Prop := chunkArrivesRow.holds Tryd.pinned (OpenSpec.ofChange chunkArrivesSpec)

/-- ITS FALSE NEIGHBOUR: 'it returns false'. Refute it at one input. -/
def chunkArrivesWrong : ChangeSpec := { name := "chunkArrives", fn := fun _ => fun
  | [d1, d2, d3] => { results := [.lit (.bool false)], args := [d1, d2, d3] }
  | _ => none }
def ChunkArrivesWrongFalsely : Prop := chunkArrivesRow.holds Tryd.pinned (OpenSpec.ofChange chunkArrivesWrong)

/-- 'ferrylaw20.ChunkNotes': WHATEVER THE INPUT: true; the input reads as it did. -/
def chunkNotesSpec : ChangeSpec := { name := "chunkNotes", fn := fun _ => fun
  | [d1, d2] => { results := [.lit (.bool true)], args := [d1, d2] }
  | _ => none }
def chunkNotesRow : OpenClaim := { program := "ytgaihhimkodmmaadoor", sum := "8664df452ed7f3cb2186185cbf0b6031b1aa97c7f7325c1c89de33378638bea8", func := "ferry/ferrylaw20.ChunkNotes", spec := "chunkNotes", inPlace := ["internal/reflectlite.ValueOf", "(internal/reflectlite.Value).Type", "(internal/reflectlite.Value).IsNil", "internal/reflectlite.TypeOf", "(internal/reflectlite.Value).Elem", "(internal/reflectlite.Value).Set"], unfollowed := true, recurses := true, named := ["ferry/api.ErrKind", "ferry/api.ErrRange", "ferry/api.ErrShort", "ferry/api.ErrLength", "ferry/api.ErrSum", "ferry/api.ErrArg", "ferry/api.ErrSize", "errors.errorType", "ferry/api.ErrRest", "ferry/api.ErrTag", "ferry/api.ErrPlan", "ferry/api.ErrState", "ferry/api.ErrBase", "ferry/api.ErrEnd", "ferry/api.ErrBusy", "ferry/api.ErrDown", "ferry/api.ErrLost", "ferry/api.ErrNone", "ferry/api.ErrText", "ferry/api.ErrStop", "ferry/api.ErrDivide"], apart := false, laid := [("errors.errorType", laid_errors_errorType), ("ferry/api.ErrShort", laid_ferry_api_ErrShort), ("ferry/api.ErrRest", laid_ferry_api_ErrRest), ("ferry/api.ErrTag", laid_ferry_api_ErrTag), ("ferry/api.ErrRange", laid_ferry_api_ErrRange), ("ferry/api.ErrLength", laid_ferry_api_ErrLength), ("ferry/api.ErrSum", laid_ferry_api_ErrSum), ("ferry/api.ErrKind", laid_ferry_api_ErrKind), ("ferry/api.ErrPlan", laid_ferry_api_ErrPlan), ("ferry/api.ErrState", laid_ferry_api_ErrState), ("ferry/api.ErrBase", laid_ferry_api_ErrBase), ("ferry/api.ErrSize", laid_ferry_api_ErrSize), ("ferry/api.ErrArg", laid_ferry_api_ErrArg), ("ferry/api.ErrEnd", laid_ferry_api_ErrEnd), ("ferry/api.ErrBusy", laid_ferry_api_ErrBusy), ("ferry/api.ErrDown", laid_ferry_api_ErrDown), ("ferry/api.ErrLost", laid_ferry_api_ErrLost), ("ferry/api.ErrNone", laid_ferry_api_ErrNone), ("ferry/api.ErrText", laid_ferry_api_ErrText), ("ferry/api.ErrStop", laid_ferry_api_ErrStop), ("ferry/api.ErrDivide", laid_ferry_api_ErrDivide)] }
def ChunkNotesSaid : Prop := chunkNotesRow.holds Tryd.pinned (OpenSpec.ofChange chunkNotesSpec)

/-- ITS FALSE NEIGHBOUR: 'it returns false'. Refute it at one input. -/
def chunkNotesWrong : ChangeSpec := { name := "chunkNotes", fn := fun _ => fun
  | [d1, d2] => { results := [.lit (.bool false)], args := [d1, d2] }
  | _ => none }
def ChunkNotesWrongFalsely : Prop := chunkNotesRow.holds Tryd.pinned (OpenSpec.ofChange chunkNotesWrong)

/-- 'ferrylaw20.ChunkCuts': WHATEVER THE INPUT: true; the input reads as it did. -/
def chunkCutsSpec : ChangeSpec := { name := "chunkCuts", fn := fun _ => fun
  | [d1, d2, d3] => { results := [.lit (.bool true)], args := [d1, d2, d3] }
  | _ => none }
def chunkCutsRow : OpenClaim := { program := "ytgaihhimkodmmaadoor", sum := "8664df452ed7f3cb2186185cbf0b6031b1aa97c7f7325c1c89de33378638bea8", func := "ferry/ferrylaw20.ChunkCuts", spec := "chunkCuts", inPlace := ["internal/reflectlite.ValueOf", "(internal/reflectlite.Value).Type", "(internal/reflectlite.Value).IsNil", "internal/reflectlite.TypeOf", "(internal/reflectlite.Value).Elem", "(internal/reflectlite.Value).Set"], unfollowed := true, recurses := true, named := ["ferry/api.ErrKind", "ferry/api.ErrRange", "ferry/api.ErrShort", "ferry/api.ErrLength", "ferry/api.ErrSum", "ferry/api.ErrArg", "ferry/api.ErrSize", "errors.errorType", "ferry/api.ErrRest", "ferry/api.ErrTag", "ferry/api.ErrPlan", "ferry/api.ErrState", "ferry/api.ErrBase", "ferry/api.ErrEnd", "ferry/api.ErrBusy", "ferry/api.ErrDown", "ferry/api.ErrLost", "ferry/api.ErrNone", "ferry/api.ErrText", "ferry/api.ErrStop", "ferry/api.ErrDivide"], apart := false, laid := [("errors.errorType", laid_errors_errorType), ("ferry/api.ErrShort", laid_ferry_api_ErrShort), ("ferry/api.ErrRest", laid_ferry_api_ErrRest), ("ferry/api.ErrTag", laid_ferry_api_ErrTag), ("ferry/api.ErrRange", laid_ferry_api_ErrRange), ("ferry/api.ErrLength", laid_ferry_api_ErrLength), ("ferry/api.ErrSum", laid_ferry_api_ErrSum), ("ferry/api.ErrKind", laid_ferry_api_ErrKind), ("ferry/api.ErrPlan", laid_ferry_api_ErrPlan), ("ferry/api.ErrState", laid_ferry_api_ErrState), ("ferry/api.ErrBase", laid_ferry_api_ErrBase), ("ferry/api.ErrSize", laid_ferry_api_ErrSize), ("ferry/api.ErrArg", laid_ferry_api_ErrArg), ("ferry/api.ErrEnd", laid_ferry_api_ErrEnd), ("ferry/api.ErrBusy", laid_ferry_api_ErrBusy), ("ferry/api.ErrDown", laid_ferry_api_ErrDown), ("ferry/api.ErrLost", laid_ferry_api_ErrLost), ("ferry/api.ErrNone", laid_ferry_api_ErrNone), ("ferry/api.ErrText", laid_ferry_api_ErrText), ("ferry/api.ErrStop", laid_ferry_api_ErrStop), ("ferry/api.ErrDivide", laid_ferry_api_ErrDivide)] }
def ChunkCutsSaid : Prop := chunkCutsRow.holds Tryd.pinned (OpenSpec.ofChange chunkCutsSpec)

/-- ITS FALSE NEIGHBOUR: 'it returns false'. Refute it at one input. -/
def chunkCutsWrong : ChangeSpec := { name := "chunkCuts", fn := fun _ => fun
  | [d1, d2, d3] => { results := [.lit (.bool false)], args := [d1, d2, d3] }
  | _ => none }
def ChunkCutsWrongFalsely : Prop := chunkCutsRow.holds Tryd.pinned (OpenSpec.ofChange chunkCutsWrong)

/-- 'ferrylaw22.XferStarts': WHATEVER THE INPUT: true; the input reads as it did. -/
def xferStartsSpec : ChangeSpec := { name := "xferStarts", fn := fun _ => fun
  | [d1, d2] => { results := [.lit (.bool true)], args := [d1, d2] }
  | _ => none }
def xferStartsRow : OpenClaim := { program := "ytgaihhimkodmmaadoor", sum := "8664df452ed7f3cb2186185cbf0b6031b1aa97c7f7325c1c89de33378638bea8", func := "ferry/ferrylaw22.XferStarts", spec := "xferStarts", inPlace := ["internal/abi.NoEscape", "internal/bytealg.MakeNoZero", "internal/reflectlite.TypeOf", "internal/reflectlite.ValueOf", "(internal/reflectlite.Value).Type", "(internal/reflectlite.Value).IsNil", "(internal/reflectlite.Value).Elem", "(internal/reflectlite.Value).Set"], unfollowed := true, recurses := true, named := ["ferry/api.ErrArg", "ferry/api.ErrSize", "ferry/api.ErrState", "ferry/api.ErrKind", "ferry/api.ErrRange", "ferry/api.ErrBase", "ferry/api.ErrBusy", "ferry/api.ErrShort", "ferry/api.ErrRest", "ferry/api.ErrTag", "ferry/api.ErrLength", "ferry/api.ErrSum", "ferry/api.ErrPlan", "ferry/api.ErrEnd", "ferry/api.ErrDown", "ferry/api.ErrLost", "ferry/api.ErrNone", "ferry/api.ErrText", "ferry/api.ErrStop", "ferry/api.ErrDivide", "errors.errorType"], apart := false, laid := [("errors.errorType", laid_errors_errorType), ("ferry/api.ErrShort", laid_ferry_api_ErrShort), ("ferry/api.ErrRest", laid_ferry_api_ErrRest), ("ferry/api.ErrTag", laid_ferry_api_ErrTag), ("ferry/api.ErrRange", laid_ferry_api_ErrRange), ("ferry/api.ErrLength", laid_ferry_api_ErrLength), ("ferry/api.ErrSum", laid_ferry_api_ErrSum), ("ferry/api.ErrKind", laid_ferry_api_ErrKind), ("ferry/api.ErrPlan", laid_ferry_api_ErrPlan), ("ferry/api.ErrState", laid_ferry_api_ErrState), ("ferry/api.ErrBase", laid_ferry_api_ErrBase), ("ferry/api.ErrSize", laid_ferry_api_ErrSize), ("ferry/api.ErrArg", laid_ferry_api_ErrArg), ("ferry/api.ErrEnd", laid_ferry_api_ErrEnd), ("ferry/api.ErrBusy", laid_ferry_api_ErrBusy), ("ferry/api.ErrDown", laid_ferry_api_ErrDown), ("ferry/api.ErrLost", laid_ferry_api_ErrLost), ("ferry/api.ErrNone", laid_ferry_api_ErrNone), ("ferry/api.ErrText", laid_ferry_api_ErrText), ("ferry/api.ErrStop", laid_ferry_api_ErrStop), ("ferry/api.ErrDivide", laid_ferry_api_ErrDivide)] }
def XferStartsSaid : Prop := xferStartsRow.holds Tryd.pinned (OpenSpec.ofChange xferStartsSpec)

/-- ITS FALSE NEIGHBOUR: 'it returns false'. Refute it at one input. -/
def xferStartsWrong : ChangeSpec := { name := "xferStarts", fn := fun _ => fun
  | [d1, d2] => { results := [.lit (.bool false)], args := [d1, d2] }
  | _ => none }
def XferStartsWrongFalsely : Prop := xferStartsRow.holds Tryd.pinned (OpenSpec.ofChange xferStartsWrong)

/-- 'ferrylaw22.XferTakes': WHATEVER THE INPUT: true; the input reads as it did. -/
def xferTakesSpec : ChangeSpec := { name := "xferTakes", fn := fun _ => fun
  | [d] => { results := [.lit (.bool true)], args := [d] }
  | _ => none }
def xferTakesRow : OpenClaim := { program := "ytgaihhimkodmmaadoor", sum := "8664df452ed7f3cb2186185cbf0b6031b1aa97c7f7325c1c89de33378638bea8", func := "ferry/ferrylaw22.XferTakes", spec := "xferTakes", inPlace := ["internal/abi.NoEscape", "internal/bytealg.MakeNoZero", "internal/reflectlite.TypeOf", "internal/reflectlite.ValueOf", "(internal/reflectlite.Value).Type", "(internal/reflectlite.Value).IsNil", "(internal/reflectlite.Value).Elem", "(internal/reflectlite.Value).Set"], unfollowed := true, recurses := true, named := ["ferry/api.ErrArg", "ferry/api.ErrSize", "ferry/api.ErrState", "ferry/api.ErrKind", "ferry/api.ErrRange", "ferry/api.ErrBase", "ferry/api.ErrBusy", "ferry/api.ErrShort", "ferry/api.ErrRest", "ferry/api.ErrTag", "ferry/api.ErrLength", "ferry/api.ErrSum", "ferry/api.ErrPlan", "ferry/api.ErrEnd", "ferry/api.ErrDown", "ferry/api.ErrLost", "ferry/api.ErrNone", "ferry/api.ErrText", "ferry/api.ErrStop", "ferry/api.ErrDivide", "errors.errorType"], apart := false, laid := [("errors.errorType", laid_errors_errorType), ("ferry/api.ErrShort", laid_ferry_api_ErrShort), ("ferry/api.ErrRest", laid_ferry_api_ErrRest), ("ferry/api.ErrTag", laid_ferry_api_ErrTag), ("ferry/api.ErrRange", laid_ferry_api_ErrRange), ("ferry/api.ErrLength", laid_ferry_api_ErrLength), ("ferry/api.ErrSum", laid_ferry_api_ErrSum), ("ferry/api.ErrKind", laid_ferry_api_ErrKind), ("ferry/api.ErrPlan", laid_ferry_api_ErrPlan), ("ferry/api.ErrState", laid_ferry_api_ErrState), ("ferry/api.ErrBase", laid_ferry_api_ErrBase), ("ferry/api.ErrSize", laid_ferry_api_ErrSize), ("ferry/api.ErrArg", laid_ferry_api_ErrArg), ("ferry/api.ErrEnd", laid_ferry_api_ErrEnd), ("ferry/api.ErrBusy", laid_ferry_api_ErrBusy), ("ferry/api.ErrDown", laid_ferry_api_ErrDown), ("ferry/api.ErrLost", laid_ferry_api_ErrLost), ("ferry/api.ErrNone", laid_ferry_api_ErrNone), ("ferry/api.ErrText", laid_ferry_api_ErrText), ("ferry/api.ErrStop", laid_ferry_api_ErrStop), ("ferry/api.ErrDivide", laid_ferry_api_ErrDivide)] }
def XferTakesSaid : Prop := xferTakesRow.holds Tryd.pinned (OpenSpec.ofChange xferTakesSpec)

/-- ITS FALSE NEIGHBOUR: 'it returns false'. Refute it at one input. -/
def xferTakesWrong : ChangeSpec := { name := "xferTakes", fn := fun _ => fun
  | [d] => { results := [.lit (.bool false)], args := [d] }
  | _ => none }
def XferTakesWrongFalsely : Prop := xferTakesRow.holds Tryd.pinned (OpenSpec.ofChange xferTakesWrong)

/-- 'ferrylaw22.XferSends': WHATEVER THE INPUT: true; the input reads as it did. -/
def xferSendsSpec : ChangeSpec := { name := "xferSends", fn := fun _ => fun
  | [d] => { results := [.lit (.bool true)], args := [d] }
  | _ => none }
def xferSendsRow : OpenClaim := { program := "ytgaihhimkodmmaadoor", sum := "8664df452ed7f3cb2186185cbf0b6031b1aa97c7f7325c1c89de33378638bea8", func := "ferry/ferrylaw22.XferSends", spec := "xferSends", inPlace := ["internal/abi.NoEscape", "internal/bytealg.MakeNoZero", "internal/reflectlite.TypeOf", "internal/reflectlite.ValueOf", "(internal/reflectlite.Value).Type", "(internal/reflectlite.Value).IsNil", "(internal/reflectlite.Value).Elem", "(internal/reflectlite.Value).Set"], unfollowed := true, recurses := true, named := ["ferry/api.ErrArg", "ferry/api.ErrSize", "ferry/api.ErrState", "ferry/api.ErrKind", "ferry/api.ErrRange", "ferry/api.ErrBase", "ferry/api.ErrBusy", "ferry/api.ErrShort", "ferry/api.ErrRest", "ferry/api.ErrTag", "ferry/api.ErrLength", "ferry/api.ErrSum", "ferry/api.ErrPlan", "ferry/api.ErrEnd", "ferry/api.ErrDown", "ferry/api.ErrLost", "ferry/api.ErrNone", "ferry/api.ErrText", "ferry/api.ErrStop", "ferry/api.ErrDivide", "errors.errorType"], apart := false, laid := [("errors.errorType", laid_errors_errorType), ("ferry/api.ErrShort", laid_ferry_api_ErrShort), ("ferry/api.ErrRest", laid_ferry_api_ErrRest), ("ferry/api.ErrTag", laid_ferry_api_ErrTag), ("ferry/api.ErrRange", laid_ferry_api_ErrRange), ("ferry/api.ErrLength", laid_ferry_api_ErrLength), ("ferry/api.ErrSum", laid_ferry_api_ErrSum), ("ferry/api.ErrKind", laid_ferry_api_ErrKind), ("ferry/api.ErrPlan", laid_ferry_api_ErrPlan), ("ferry/api.ErrState", laid_ferry_api_ErrState), ("ferry/api.ErrBase", laid_ferry_api_ErrBase), ("ferry/api.ErrSize", laid_ferry_api_ErrSize), ("ferry/api.ErrArg", laid_ferry_api_ErrArg), ("ferry/api.ErrEnd", laid_ferry_api_ErrEnd), ("ferry/api.ErrBusy", laid_ferry_api_ErrBusy), ("ferry/api.ErrDown", laid_ferry_api_ErrDown), ("ferry/api.ErrLost", laid_ferry_api_ErrLost), ("ferry/api.ErrNone", laid_ferry_api_ErrNone), ("ferry/api.ErrText", laid_ferry_api_ErrText), ("ferry/api.ErrStop", laid_ferry_api_ErrStop), ("ferry/api.ErrDivide", laid_ferry_api_ErrDivide)] }
def XferSendsSaid : Prop := xferSendsRow.holds Tryd.pinned (OpenSpec.ofChange xferSendsSpec)

/-- ITS FALSE NEIGHBOUR: 'it returns false'. Refute it at one input. -/
def xferSendsWrong : ChangeSpec := { name := "xferSends", fn := fun _ => fun
  | [d] => { results := [.lit (.bool false)], args := [d] }
  | _ => none }
def XferSendsWrongFalsely : Prop := xferSendsRow.holds Tryd.pinned (OpenSpec.ofChange xferSendsWrong)

/- THE SECOND FORM. 'bulk': how many values and letters a reading holds, each counted each time it is reached (what is shared counts as often as it is met; a slice's spare places count too). A statement '..UptoSaid' is the law's where the arguments, and the package variables that the reading takes, are together of bulk at most 1048576: NARROWER than '..Said'. Prove '..Said' where nothing that the law and all that it calls make is longer than what came in: it says more and counts as full. Else prove '..UptoSaid'. A law counts once. -/
mutual
def uptoBulk {H : Type} : DataW H → Nat
  | .lit (.string bytes) => bytes.length + 1
  | .lit _ => 1
  | .nil => 1
  | .ptr d => uptoBulk d + 1
  | .slice elems spare => uptoBulkAll elems + uptoBulkAll spare + 1
  | .agg parts => uptoBulkAll parts + 1
  | .iface _ d => uptoBulk d + 1
  | .map entries => uptoBulkEntries entries + 1
  | .held _ => 1
def uptoBulkAll {H : Type} : List (DataW H) → Nat
  | [] => 0
  | d :: r => uptoBulk d + uptoBulkAll r
def uptoBulkEntries {H : Type} : List (Lit × DataW H) → Nat
  | [] => 0
  | x :: r => uptoBulkEntry x + uptoBulkEntries r
def uptoBulkEntry {H : Type} : Lit × DataW H → Nat
  | (.string bytes, d) => bytes.length + uptoBulk d + 1
  | (_, d) => uptoBulk d + 1
 end
def uptoSmall : (H : Type) → List (DataW H) → Bool := fun _ ds => decide (uptoBulkAll ds ≤ 1048576)
def OpenSpec.upto (s : _root_.Go.ChangeSpec) : _root_.Go.OpenSpec := { _root_.Go.OpenSpec.ofChange s with cond := some uptoSmall }

/-- 'ferrylaw20.ChunkBack', WHERE WHAT IT READS IS OF BULK AT MOST 1048576: true; the input reads as it did. -/
def chunkBackUptoRow : OpenClaim := { program := "ytgaihhimkodmmaadoor", sum := "8664df452ed7f3cb2186185cbf0b6031b1aa97c7f7325c1c89de33378638bea8", func := "ferry/ferrylaw20.ChunkBack", spec := "chunkBack", unfollowed := true, recurses := true, named := ["ferry/api.ErrKind", "ferry/api.ErrRange", "ferry/api.ErrShort", "ferry/api.ErrLength", "ferry/api.ErrSum", "ferry/api.ErrArg", "ferry/api.ErrSize", "math/bits.deBruijn32tab"], apart := false, laid := [("math/bits.deBruijn32tab", laid_math_bits_deBruijn32tab), ("ferry/api.ErrShort", laid_ferry_api_ErrShort), ("ferry/api.ErrRange", laid_ferry_api_ErrRange), ("ferry/api.ErrLength", laid_ferry_api_ErrLength), ("ferry/api.ErrSum", laid_ferry_api_ErrSum), ("ferry/api.ErrKind", laid_ferry_api_ErrKind), ("ferry/api.ErrSize", laid_ferry_api_ErrSize), ("ferry/api.ErrArg", laid_ferry_api_ErrArg)], narrowed := true }
def ChunkBackUptoSaid : Prop := chunkBackUptoRow.holds Tryd.pinned (OpenSpec.upto chunkBackSpec)

/-- 'ferrylaw22.XferComes', WHERE WHAT IT READS IS OF BULK AT MOST 1048576: true; the input reads as it did. -/
def xferComesUptoRow : OpenClaim := { program := "ytgaihhimkodmmaadoor", sum := "8664df452ed7f3cb2186185cbf0b6031b1aa97c7f7325c1c89de33378638bea8", func := "ferry/ferrylaw22.XferComes", spec := "xferComes", inPlace := ["internal/abi.NoEscape", "internal/bytealg.MakeNoZero"], unfollowed := true, recurses := true, named := ["ferry/api.ErrArg", "ferry/api.ErrSize", "ferry/api.ErrState", "ferry/api.ErrKind", "ferry/api.ErrRange", "ferry/api.ErrBase", "ferry/api.ErrBusy"], apart := false, laid := [("ferry/api.ErrRange", laid_ferry_api_ErrRange), ("ferry/api.ErrKind", laid_ferry_api_ErrKind), ("ferry/api.ErrState", laid_ferry_api_ErrState), ("ferry/api.ErrBase", laid_ferry_api_ErrBase), ("ferry/api.ErrSize", laid_ferry_api_ErrSize), ("ferry/api.ErrArg", laid_ferry_api_ErrArg), ("ferry/api.ErrBusy", laid_ferry_api_ErrBusy)], narrowed := true }
def XferComesUptoSaid : Prop := xferComesUptoRow.holds Tryd.pinned (OpenSpec.upto xferComesSpec)

/-- 'ferrylaw22.XferArrives', WHERE WHAT IT READS IS OF BULK AT MOST 1048576: true; the input reads as it did. -/
def xferArrivesUptoRow : OpenClaim := { program := "ytgaihhimkodmmaadoor", sum := "8664df452ed7f3cb2186185cbf0b6031b1aa97c7f7325c1c89de33378638bea8", func := "ferry/ferrylaw22.XferArrives", spec := "xferArrives", inPlace := ["internal/abi.NoEscape", "internal/bytealg.MakeNoZero"], unfollowed := true, recurses := true, named := ["ferry/api.ErrArg", "ferry/api.ErrSize", "ferry/api.ErrState", "ferry/api.ErrKind", "ferry/api.ErrRange", "ferry/api.ErrBase", "ferry/api.ErrBusy"], apart := false, laid := [("ferry/api.ErrRange", laid_ferry_api_ErrRange), ("ferry/api.ErrKind", laid_ferry_api_ErrKind), ("ferry/api.ErrState", laid_ferry_api_ErrState), ("ferry/api.ErrBase", laid_ferry_api_ErrBase), ("ferry/api.ErrSize", laid_ferry_api_ErrSize), ("ferry/api.ErrArg", laid_ferry_api_ErrArg), ("ferry/api.ErrBusy", laid_ferry_api_ErrBusy)], narrowed := true }
def XferArrivesUptoSaid : Prop := xferArrivesUptoRow.holds Tryd.pinned (OpenSpec.upto xferArrivesSpec)

/-- 'ferrylaw22.XferKeeps', WHERE WHAT IT READS IS OF BULK AT MOST 1048576: true; the input reads as it did. -/
def xferKeepsUptoRow : OpenClaim := { program := "ytgaihhimkodmmaadoor", sum := "8664df452ed7f3cb2186185cbf0b6031b1aa97c7f7325c1c89de33378638bea8", func := "ferry/ferrylaw22.XferKeeps", spec := "xferKeeps", inPlace := ["internal/abi.NoEscape", "internal/bytealg.MakeNoZero"], unfollowed := true, recurses := true, named := ["ferry/api.ErrArg", "ferry/api.ErrSize", "ferry/api.ErrState", "ferry/api.ErrKind", "ferry/api.ErrRange", "ferry/api.ErrBase", "ferry/api.ErrBusy"], apart := false, laid := [("ferry/api.ErrRange", laid_ferry_api_ErrRange), ("ferry/api.ErrKind", laid_ferry_api_ErrKind), ("ferry/api.ErrState", laid_ferry_api_ErrState), ("ferry/api.ErrBase", laid_ferry_api_ErrBase), ("ferry/api.ErrSize", laid_ferry_api_ErrSize), ("ferry/api.ErrArg", laid_ferry_api_ErrArg), ("ferry/api.ErrBusy", laid_ferry_api_ErrBusy)], narrowed := true }
def XferKeepsUptoSaid : Prop := xferKeepsUptoRow.holds Tryd.pinned (OpenSpec.upto xferKeepsSpec)

/-- 'ferrylaw20.ChunkArrives', WHERE WHAT IT READS IS OF BULK AT MOST 1048576: true; the input reads as it did. -/
def chunkArrivesUptoRow : OpenClaim := { program := "ytgaihhimkodmmaadoor", sum := "8664df452ed7f3cb2186185cbf0b6031b1aa97c7f7325c1c89de33378638bea8", func := "ferry/ferrylaw20.ChunkArrives", spec := "chunkArrives", inPlace := ["internal/abi.NoEscape", "internal/bytealg.MakeNoZero"], unfollowed := true, recurses := true, named := ["ferry/api.ErrKind", "ferry/api.ErrRange", "ferry/api.ErrShort", "ferry/api.ErrLength", "ferry/api.ErrSum", "ferry/api.ErrArg", "ferry/api.ErrSize", "ferry/api.ErrState", "ferry/api.ErrBase", "ferry/api.ErrBusy"], apart := false, laid := [("ferry/api.ErrShort", laid_ferry_api_ErrShort), ("ferry/api.ErrRange", laid_ferry_api_ErrRange), ("ferry/api.ErrLength", laid_ferry_api_ErrLength), ("ferry/api.ErrSum", laid_ferry_api_ErrSum), ("ferry/api.ErrKind", laid_ferry_api_ErrKind), ("ferry/api.ErrState", laid_ferry_api_ErrState), ("ferry/api.ErrBase", laid_ferry_api_ErrBase), ("ferry/api.ErrSize", laid_ferry_api_ErrSize), ("ferry/api.ErrArg", laid_ferry_api_ErrArg), ("ferry/api.ErrBusy", laid_ferry_api_ErrBusy)], narrowed := true }
def ChunkArrivesUptoSaid : Prop := chunkArrivesUptoRow.holds Tryd.pinned (OpenSpec.upto chunkArrivesSpec)

/-- 'ferrylaw20.ChunkNotes', WHERE WHAT IT READS IS OF BULK AT MOST 1048576: true; the input reads as it did. -/
def chunkNotesUptoRow : OpenClaim := { program := "ytgaihhimkodmmaadoor", sum := "8664df452ed7f3cb2186185cbf0b6031b1aa97c7f7325c1c89de33378638bea8", func := "ferry/ferrylaw20.ChunkNotes", spec := "chunkNotes", inPlace := ["internal/reflectlite.ValueOf", "(internal/reflectlite.Value).Type", "(internal/reflectlite.Value).IsNil", "internal/reflectlite.TypeOf", "(internal/reflectlite.Value).Elem", "(internal/reflectlite.Value).Set"], unfollowed := true, recurses := true, named := ["ferry/api.ErrKind", "ferry/api.ErrRange", "ferry/api.ErrShort", "ferry/api.ErrLength", "ferry/api.ErrSum", "ferry/api.ErrArg", "ferry/api.ErrSize", "errors.errorType", "ferry/api.ErrRest", "ferry/api.ErrTag", "ferry/api.ErrPlan", "ferry/api.ErrState", "ferry/api.ErrBase", "ferry/api.ErrEnd", "ferry/api.ErrBusy", "ferry/api.ErrDown", "ferry/api.ErrLost", "ferry/api.ErrNone", "ferry/api.ErrText", "ferry/api.ErrStop", "ferry/api.ErrDivide"], apart := false, laid := [("errors.errorType", laid_errors_errorType), ("ferry/api.ErrShort", laid_ferry_api_ErrShort), ("ferry/api.ErrRest", laid_ferry_api_ErrRest), ("ferry/api.ErrTag", laid_ferry_api_ErrTag), ("ferry/api.ErrRange", laid_ferry_api_ErrRange), ("ferry/api.ErrLength", laid_ferry_api_ErrLength), ("ferry/api.ErrSum", laid_ferry_api_ErrSum), ("ferry/api.ErrKind", laid_ferry_api_ErrKind), ("ferry/api.ErrPlan", laid_ferry_api_ErrPlan), ("ferry/api.ErrState", laid_ferry_api_ErrState), ("ferry/api.ErrBase", laid_ferry_api_ErrBase), ("ferry/api.ErrSize", laid_ferry_api_ErrSize), ("ferry/api.ErrArg", laid_ferry_api_ErrArg), ("ferry/api.ErrEnd", laid_ferry_api_ErrEnd), ("ferry/api.ErrBusy", laid_ferry_api_ErrBusy), ("ferry/api.ErrDown", laid_ferry_api_ErrDown), ("ferry/api.ErrLost", laid_ferry_api_ErrLost), ("ferry/api.ErrNone", laid_ferry_api_ErrNone), ("ferry/api.ErrText", laid_ferry_api_ErrText), ("ferry/api.ErrStop", laid_ferry_api_ErrStop), ("ferry/api.ErrDivide", laid_ferry_api_ErrDivide)], narrowed := true }
def ChunkNotesUptoSaid : Prop := chunkNotesUptoRow.holds Tryd.pinned (OpenSpec.upto chunkNotesSpec)

/-- 'ferrylaw20.ChunkCuts', WHERE WHAT IT READS IS OF BULK AT MOST 1048576: true; the input reads as it did. -/
def chunkCutsUptoRow : OpenClaim := { program := "ytgaihhimkodmmaadoor", sum := "8664df452ed7f3cb2186185cbf0b6031b1aa97c7f7325c1c89de33378638bea8", func := "ferry/ferrylaw20.ChunkCuts", spec := "chunkCuts", inPlace := ["internal/reflectlite.ValueOf", "(internal/reflectlite.Value).Type", "(internal/reflectlite.Value).IsNil", "internal/reflectlite.TypeOf", "(internal/reflectlite.Value).Elem", "(internal/reflectlite.Value).Set"], unfollowed := true, recurses := true, named := ["ferry/api.ErrKind", "ferry/api.ErrRange", "ferry/api.ErrShort", "ferry/api.ErrLength", "ferry/api.ErrSum", "ferry/api.ErrArg", "ferry/api.ErrSize", "errors.errorType", "ferry/api.ErrRest", "ferry/api.ErrTag", "ferry/api.ErrPlan", "ferry/api.ErrState", "ferry/api.ErrBase", "ferry/api.ErrEnd", "ferry/api.ErrBusy", "ferry/api.ErrDown", "ferry/api.ErrLost", "ferry/api.ErrNone", "ferry/api.ErrText", "ferry/api.ErrStop", "ferry/api.ErrDivide"], apart := false, laid := [("errors.errorType", laid_errors_errorType), ("ferry/api.ErrShort", laid_ferry_api_ErrShort), ("ferry/api.ErrRest", laid_ferry_api_ErrRest), ("ferry/api.ErrTag", laid_ferry_api_ErrTag), ("ferry/api.ErrRange", laid_ferry_api_ErrRange), ("ferry/api.ErrLength", laid_ferry_api_ErrLength), ("ferry/api.ErrSum", laid_ferry_api_ErrSum), ("ferry/api.ErrKind", laid_ferry_api_ErrKind), ("ferry/api.ErrPlan", laid_ferry_api_ErrPlan), ("ferry/api.ErrState", laid_ferry_api_ErrState), ("ferry/api.ErrBase", laid_ferry_api_ErrBase), ("ferry/api.ErrSize", laid_ferry_api_ErrSize), ("ferry/api.ErrArg", laid_ferry_api_ErrArg), ("ferry/api.ErrEnd", laid_ferry_api_ErrEnd), ("ferry/api.ErrBusy", laid_ferry_api_ErrBusy), ("ferry/api.ErrDown", laid_ferry_api_ErrDown), ("ferry/api.ErrLost", laid_ferry_api_ErrLost), ("ferry/api.ErrNone", laid_ferry_api_ErrNone), ("ferry/api.ErrText", laid_ferry_api_ErrText), ("ferry/api.ErrStop", laid_ferry_api_ErrStop), ("ferry/api.ErrDivide", laid_ferry_api_ErrDivide)], narrowed := true }
def ChunkCutsUptoSaid : Prop := chunkCutsUptoRow.holds Tryd.pinned (OpenSpec.upto chunkCutsSpec)

/-- 'ferrylaw22.XferStarts', WHERE WHAT IT READS IS OF BULK AT MOST 1048576: true; the input reads as it did. -/
def xferStartsUptoRow : OpenClaim := { program := "ytgaihhimkodmmaadoor", sum := "8664df452ed7f3cb2186185cbf0b6031b1aa97c7f7325c1c89de33378638bea8", func := "ferry/ferrylaw22.XferStarts", spec := "xferStarts", inPlace := ["internal/abi.NoEscape", "internal/bytealg.MakeNoZero", "internal/reflectlite.TypeOf", "internal/reflectlite.ValueOf", "(internal/reflectlite.Value).Type", "(internal/reflectlite.Value).IsNil", "(internal/reflectlite.Value).Elem", "(internal/reflectlite.Value).Set"], unfollowed := true, recurses := true, named := ["ferry/api.ErrArg", "ferry/api.ErrSize", "ferry/api.ErrState", "ferry/api.ErrKind", "ferry/api.ErrRange", "ferry/api.ErrBase", "ferry/api.ErrBusy", "ferry/api.ErrShort", "ferry/api.ErrRest", "ferry/api.ErrTag", "ferry/api.ErrLength", "ferry/api.ErrSum", "ferry/api.ErrPlan", "ferry/api.ErrEnd", "ferry/api.ErrDown", "ferry/api.ErrLost", "ferry/api.ErrNone", "ferry/api.ErrText", "ferry/api.ErrStop", "ferry/api.ErrDivide", "errors.errorType"], apart := false, laid := [("errors.errorType", laid_errors_errorType), ("ferry/api.ErrShort", laid_ferry_api_ErrShort), ("ferry/api.ErrRest", laid_ferry_api_ErrRest), ("ferry/api.ErrTag", laid_ferry_api_ErrTag), ("ferry/api.ErrRange", laid_ferry_api_ErrRange), ("ferry/api.ErrLength", laid_ferry_api_ErrLength), ("ferry/api.ErrSum", laid_ferry_api_ErrSum), ("ferry/api.ErrKind", laid_ferry_api_ErrKind), ("ferry/api.ErrPlan", laid_ferry_api_ErrPlan), ("ferry/api.ErrState", laid_ferry_api_ErrState), ("ferry/api.ErrBase", laid_ferry_api_ErrBase), ("ferry/api.ErrSize", laid_ferry_api_ErrSize), ("ferry/api.ErrArg", laid_ferry_api_ErrArg), ("ferry/api.ErrEnd", laid_ferry_api_ErrEnd), ("ferry/api.ErrBusy", laid_ferry_api_ErrBusy), ("ferry/api.ErrDown", laid_ferry_api_ErrDown), ("ferry/api.ErrLost", laid_ferry_api_ErrLost), ("ferry/api.ErrNone", laid_ferry_api_ErrNone), ("ferry/api.ErrText", laid_ferry_api_ErrText), ("ferry/api.ErrStop", laid_ferry_api_ErrStop), ("ferry/api.ErrDivide", laid_ferry_api_ErrDivide)], narrowed := true }
def XferStartsUptoSaid : Prop := xferStartsUptoRow.holds Tryd.pinned (OpenSpec.upto xferStartsSpec)

/-- 'ferrylaw22.XferTakes', WHERE WHAT IT READS IS OF BULK AT MOST 1048576: true; the input reads as it did. -/
def xferTakesUptoRow : OpenClaim := { program := "ytgaihhimkodmmaadoor", sum := "8664df452ed7f3cb2186185cbf0b6031b1aa97c7f7325c1c89de33378638bea8", func := "ferry/ferrylaw22.XferTakes", spec := "xferTakes", inPlace := ["internal/abi.NoEscape", "internal/bytealg.MakeNoZero", "internal/reflectlite.TypeOf", "internal/reflectlite.ValueOf", "(internal/reflectlite.Value).Type", "(internal/reflectlite.Value).IsNil", "(internal/reflectlite.Value).Elem", "(internal/reflectlite.Value).Set"], unfollowed := true, recurses := true, named := ["ferry/api.ErrArg", "ferry/api.ErrSize", "ferry/api.ErrState", "ferry/api.ErrKind", "ferry/api.ErrRange", "ferry/api.ErrBase", "ferry/api.ErrBusy", "ferry/api.ErrShort", "ferry/api.ErrRest", "ferry/api.ErrTag", "ferry/api.ErrLength", "ferry/api.ErrSum", "ferry/api.ErrPlan", "ferry/api.ErrEnd", "ferry/api.ErrDown", "ferry/api.ErrLost", "ferry/api.ErrNone", "ferry/api.ErrText", "ferry/api.ErrStop", "ferry/api.ErrDivide", "errors.errorType"], apart := false, laid := [("errors.errorType", laid_errors_errorType), ("ferry/api.ErrShort", laid_ferry_api_ErrShort), ("ferry/api.ErrRest", laid_ferry_api_ErrRest), ("ferry/api.ErrTag", laid_ferry_api_ErrTag), ("ferry/api.ErrRange", laid_ferry_api_ErrRange), ("ferry/api.ErrLength", laid_ferry_api_ErrLength), ("ferry/api.ErrSum", laid_ferry_api_ErrSum), ("ferry/api.ErrKind", laid_ferry_api_ErrKind), ("ferry/api.ErrPlan", laid_ferry_api_ErrPlan), ("ferry/api.ErrState", laid_ferry_api_ErrState), ("ferry/api.ErrBase", laid_ferry_api_ErrBase), ("ferry/api.ErrSize", laid_ferry_api_ErrSize), ("ferry/api.ErrArg", laid_ferry_api_ErrArg), ("ferry/api.ErrEnd", laid_ferry_api_ErrEnd), ("ferry/api.ErrBusy", laid_ferry_api_ErrBusy), ("ferry/api.ErrDown", laid_ferry_api_ErrDown), ("ferry/api.ErrLost", laid_ferry_api_ErrLost), ("ferry/api.ErrNone", laid_ferry_api_ErrNone), ("ferry/api.ErrText", laid_ferry_api_ErrText), ("ferry/api.ErrStop", laid_ferry_api_ErrStop), ("ferry/api.ErrDivide", laid_ferry_api_ErrDivide)], narrowed := true }
def XferTakesUptoSaid : Prop := xferTakesUptoRow.holds Tryd.pinned (OpenSpec.upto xferTakesSpec)

/-- 'ferrylaw22.XferSends', WHERE WHAT IT READS IS OF BULK AT MOST 1048576: true; the input reads as it did. -/
def xferSendsUptoRow : OpenClaim := { program := "ytgaihhimkodmmaadoor", sum := "8664df452ed7f3cb2186185cbf0b6031b1aa97c7f7325c1c89de33378638bea8", func := "ferry/ferrylaw22.XferSends", spec := "xferSends", inPlace := ["internal/abi.NoEscape", "internal/bytealg.MakeNoZero", "internal/reflectlite.TypeOf", "internal/reflectlite.ValueOf", "(internal/reflectlite.Value).Type", "(internal/reflectlite.Value).IsNil", "(internal/reflectlite.Value).Elem", "(internal/reflectlite.Value).Set"], unfollowed := true, recurses := true, named := ["ferry/api.ErrArg", "ferry/api.ErrSize", "ferry/api.ErrState", "ferry/api.ErrKind", "ferry/api.ErrRange", "ferry/api.ErrBase", "ferry/api.ErrBusy", "ferry/api.ErrShort", "ferry/api.ErrRest", "ferry/api.ErrTag", "ferry/api.ErrLength", "ferry/api.ErrSum", "ferry/api.ErrPlan", "ferry/api.ErrEnd", "ferry/api.ErrDown", "ferry/api.ErrLost", "ferry/api.ErrNone", "ferry/api.ErrText", "ferry/api.ErrStop", "ferry/api.ErrDivide", "errors.errorType"], apart := false, laid := [("errors.errorType", laid_errors_errorType), ("ferry/api.ErrShort", laid_ferry_api_ErrShort), ("ferry/api.ErrRest", laid_ferry_api_ErrRest), ("ferry/api.ErrTag", laid_ferry_api_ErrTag), ("ferry/api.ErrRange", laid_ferry_api_ErrRange), ("ferry/api.ErrLength", laid_ferry_api_ErrLength), ("ferry/api.ErrSum", laid_ferry_api_ErrSum), ("ferry/api.ErrKind", laid_ferry_api_ErrKind), ("ferry/api.ErrPlan", laid_ferry_api_ErrPlan), ("ferry/api.ErrState", laid_ferry_api_ErrState), ("ferry/api.ErrBase", laid_ferry_api_ErrBase), ("ferry/api.ErrSize", laid_ferry_api_ErrSize), ("ferry/api.ErrArg", laid_ferry_api_ErrArg), ("ferry/api.ErrEnd", laid_ferry_api_ErrEnd), ("ferry/api.ErrBusy", laid_ferry_api_ErrBusy), ("ferry/api.ErrDown", laid_ferry_api_ErrDown), ("ferry/api.ErrLost", laid_ferry_api_ErrLost), ("ferry/api.ErrNone", laid_ferry_api_ErrNone), ("ferry/api.ErrText", laid_ferry_api_ErrText), ("ferry/api.ErrStop", laid_ferry_api_ErrStop), ("ferry/api.ErrDivide", laid_ferry_api_ErrDivide)], narrowed := true }
def XferSendsUptoSaid : Prop := xferSendsUptoRow.holds Tryd.pinned (OpenSpec.upto xferSendsSpec)

end Rows
end Go.Proofs.YtgaihhimkodmmaaDoor
