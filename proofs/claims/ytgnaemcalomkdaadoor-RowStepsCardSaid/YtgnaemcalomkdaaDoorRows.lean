/-
  NARROWER THAN 'FOR EVERY INPUT', by the rows' own cells (each row's printed sentence says how): RowSames: laid · RowCells: laid · AddAll: laid · PermutAll: laid · RingNecks: laid · RowSteps: laid · FaultMakes: laid · RingOrbits: laid · RingSteps: laid.
  DERIVED. THE GIVEN ROWS OF THIS SEAT. 9 by the template 'for every input the law returns true; each argument reads behind the call as it read before'; 0 by the template 'total and deterministic' (their statements: YtgnaemcalomkdaaDoorTotals.lean).
  GIVEN WITH THE SEED: the statements are not yours to turn. If you find one false, say at which input.
  Laid BY PROGRAM, IN A SANDBOX (cutbox-rows.mjs): the forced cells as the released guide's own fill.sh prints them over the translation 5ecacddf340735eb… (all of the seat's roots in one cut). By AI agents, Wed Nov 11 2026. No macro, syntax, notation, axiom, sorry.
-/
import Derived.Test.YtgnaemcalomkdaaDoorChecked
import GoSem.Claim
import GoSem.ClaimJoined
import GoSem.ClaimMapViews
import Derived.JoinedTies
import Derived.KernelRfl
namespace Go.Proofs.YtgnaemcalomkdaaDoor
/- THE CELL 'sum', in the pinned program and in every row, IS THE sha256 OF THE DUMP (.gsa) THAT YtgnaemcalomkdaaDoorProg.lean LOADS. Nothing in Lean hashes anything: it is a label: what it is worth is what the hold of that sum in a sandbox is worth. -/
noncomputable def Tryd.pinned : Pinned := { name := "ytgnaemcalomkdaadoor", sum := "5ecacddf340735eb23b3582c76611d986e8554d9a06b648acc1ca38fe3805d88", checked := Tryd.checked }
namespace Rows
def none {H : Type} : Left H := { results := [], args := [] }

/- WHAT THE LISTED PACKAGE-LEVEL VARIABLES READ AS WHEN THE CALL BEGINS. Each datum BY PROGRAM (the guide's laid-datum.mjs) off the statement by which the dump's own 'gosem.cut.vars' lays the variable. In a bare row this is a premise. The card (YtgnaemcalomkdaaDoorCards.lean) ties it to the program's text. -/
def laid_errors_errorType {H : Type} : DataW H := .iface "internal/reflectlite.rtype" (.agg [.ptr (.lit (.string [101, 114, 114, 111, 114]))])
def laid_eden_api_BadRule {H : Type} : DataW H := .iface "*errors.errorString" (.ptr (.agg [.lit (.string [98, 97, 100, 32, 114, 117, 108, 101])]))
def laid_eden_api_BadWord {H : Type} : DataW H := .iface "*errors.errorString" (.ptr (.agg [.lit (.string [98, 97, 100, 32, 119, 111, 114, 100])]))
def laid_eden_api_BadArg {H : Type} : DataW H := .iface "*errors.errorString" (.ptr (.agg [.lit (.string [98, 97, 100, 32, 97, 114, 103, 117, 109, 101, 110, 116])]))
def laid_eden_api_TooBig {H : Type} : DataW H := .iface "*errors.errorString" (.ptr (.agg [.lit (.string [116, 111, 111, 32, 98, 105, 103])]))
def laid_eden_api_NoBudget {H : Type} : DataW H := .iface "*errors.errorString" (.ptr (.agg [.lit (.string [110, 111, 32, 98, 117, 100, 103, 101, 116])]))
def laid_eden_api_BadText {H : Type} : DataW H := .iface "*errors.errorString" (.ptr (.agg [.lit (.string [98, 97, 100, 32, 116, 101, 120, 116])]))
def laid_eden_api_BadPatch {H : Type} : DataW H := .iface "*errors.errorString" (.ptr (.agg [.lit (.string [98, 97, 100, 32, 112, 97, 116, 99, 104])]))
def laid_eden_api_BadCert {H : Type} : DataW H := .iface "*errors.errorString" (.ptr (.agg [.lit (.string [98, 97, 100, 32, 99, 101, 114, 116, 105, 102, 105, 99, 97, 116, 101])]))
def laid_eden_api_NoInverse {H : Type} : DataW H := .iface "*errors.errorString" (.ptr (.agg [.lit (.string [110, 111, 32, 105, 110, 118, 101, 114, 115, 101])]))
def laid_eden_api_BadLine {H : Type} : DataW H := .iface "*errors.errorString" (.ptr (.agg [.lit (.string [98, 97, 100, 32, 108, 105, 110, 101])]))
def laid_eden_api_BadState {H : Type} : DataW H := .iface "*errors.errorString" (.ptr (.agg [.lit (.string [98, 97, 100, 32, 115, 116, 97, 116, 101])]))
def laid_eden_api_Unknown {H : Type} : DataW H := .iface "*errors.errorString" (.ptr (.agg [.lit (.string [117, 110, 107, 110, 111, 119, 110])]))
def laid_math_bits_deBruijn32tab {H : Type} : DataW H := .agg [.lit (.int .u8 0), .lit (.int .u8 1), .lit (.int .u8 28), .lit (.int .u8 2), .lit (.int .u8 29), .lit (.int .u8 14), .lit (.int .u8 24), .lit (.int .u8 3), .lit (.int .u8 30), .lit (.int .u8 22), .lit (.int .u8 20), .lit (.int .u8 15), .lit (.int .u8 25), .lit (.int .u8 17), .lit (.int .u8 4), .lit (.int .u8 8), .lit (.int .u8 31), .lit (.int .u8 27), .lit (.int .u8 13), .lit (.int .u8 23), .lit (.int .u8 21), .lit (.int .u8 19), .lit (.int .u8 16), .lit (.int .u8 7), .lit (.int .u8 26), .lit (.int .u8 12), .lit (.int .u8 18), .lit (.int .u8 6), .lit (.int .u8 11), .lit (.int .u8 5), .lit (.int .u8 10), .lit (.int .u8 9)]
def laid_math_bits_deBruijn64tab {H : Type} : DataW H := .agg [.lit (.int .u8 0), .lit (.int .u8 1), .lit (.int .u8 56), .lit (.int .u8 2), .lit (.int .u8 57), .lit (.int .u8 49), .lit (.int .u8 28), .lit (.int .u8 3), .lit (.int .u8 61), .lit (.int .u8 58), .lit (.int .u8 42), .lit (.int .u8 50), .lit (.int .u8 38), .lit (.int .u8 29), .lit (.int .u8 17), .lit (.int .u8 4), .lit (.int .u8 62), .lit (.int .u8 47), .lit (.int .u8 59), .lit (.int .u8 36), .lit (.int .u8 45), .lit (.int .u8 43), .lit (.int .u8 51), .lit (.int .u8 22), .lit (.int .u8 53), .lit (.int .u8 39), .lit (.int .u8 33), .lit (.int .u8 30), .lit (.int .u8 24), .lit (.int .u8 18), .lit (.int .u8 12), .lit (.int .u8 5), .lit (.int .u8 63), .lit (.int .u8 55), .lit (.int .u8 48), .lit (.int .u8 27), .lit (.int .u8 60), .lit (.int .u8 41), .lit (.int .u8 37), .lit (.int .u8 16), .lit (.int .u8 46), .lit (.int .u8 35), .lit (.int .u8 44), .lit (.int .u8 21), .lit (.int .u8 52), .lit (.int .u8 32), .lit (.int .u8 23), .lit (.int .u8 11), .lit (.int .u8 54), .lit (.int .u8 26), .lit (.int .u8 40), .lit (.int .u8 15), .lit (.int .u8 34), .lit (.int .u8 20), .lit (.int .u8 31), .lit (.int .u8 10), .lit (.int .u8 25), .lit (.int .u8 14), .lit (.int .u8 19), .lit (.int .u8 9), .lit (.int .u8 13), .lit (.int .u8 8), .lit (.int .u8 7), .lit (.int .u8 6)]
def laid_internal_strconv_uint64pow10 {H : Type} : DataW H := .agg [.lit (.int .u64 1), .lit (.int .u64 10), .lit (.int .u64 100), .lit (.int .u64 1000), .lit (.int .u64 10000), .lit (.int .u64 100000), .lit (.int .u64 1000000), .lit (.int .u64 10000000), .lit (.int .u64 100000000), .lit (.int .u64 1000000000), .lit (.int .u64 10000000000), .lit (.int .u64 100000000000), .lit (.int .u64 1000000000000), .lit (.int .u64 10000000000000), .lit (.int .u64 100000000000000), .lit (.int .u64 1000000000000000), .lit (.int .u64 10000000000000000), .lit (.int .u64 100000000000000000), .lit (.int .u64 1000000000000000000), .lit (.int .u64 10000000000000000000)]

/-- 'edenlaw07.RowSames': WHATEVER THE INPUT: true; the input reads as it did. -/
def rowSamesSpec : ChangeSpec := { name := "rowSames", fn := fun _ => fun
  | [d1, d2, d3, d4] => { results := [.lit (.bool true)], args := [d1, d2, d3, d4] }
  | _ => none }
def rowSamesRow : OpenClaim := { program := "ytgnaemcalomkdaadoor", sum := "5ecacddf340735eb23b3582c76611d986e8554d9a06b648acc1ca38fe3805d88", func := "eden/edenlaw07.RowSames", spec := "rowSames", inPlace := ["internal/reflectlite.TypeOf", "internal/reflectlite.ValueOf", "(internal/reflectlite.Value).Type", "(internal/reflectlite.Value).IsNil", "(internal/reflectlite.Value).Elem", "(internal/reflectlite.Value).Set"], unfollowed := true, recurses := true, named := ["eden/api.BadRule", "eden/api.BadWord", "eden/api.BadArg", "eden/api.TooBig", "eden/api.NoBudget", "eden/api.BadText", "eden/api.BadPatch", "eden/api.BadCert", "eden/api.NoInverse", "eden/api.BadLine", "eden/api.BadState", "eden/api.Unknown", "errors.errorType"], apart := false, laid := [("errors.errorType", laid_errors_errorType), ("eden/api.BadRule", laid_eden_api_BadRule), ("eden/api.BadWord", laid_eden_api_BadWord), ("eden/api.BadArg", laid_eden_api_BadArg), ("eden/api.TooBig", laid_eden_api_TooBig), ("eden/api.NoBudget", laid_eden_api_NoBudget), ("eden/api.BadText", laid_eden_api_BadText), ("eden/api.BadPatch", laid_eden_api_BadPatch), ("eden/api.BadCert", laid_eden_api_BadCert), ("eden/api.NoInverse", laid_eden_api_NoInverse), ("eden/api.BadLine", laid_eden_api_BadLine), ("eden/api.BadState", laid_eden_api_BadState), ("eden/api.Unknown", laid_eden_api_Unknown)] }
def RowSamesSaid : Prop := rowSamesRow.holds Tryd.pinned (OpenSpec.ofChange rowSamesSpec)

/-- ITS FALSE NEIGHBOUR: 'it returns false'. Refute it at one input. -/
def rowSamesWrong : ChangeSpec := { name := "rowSames", fn := fun _ => fun
  | [d1, d2, d3, d4] => { results := [.lit (.bool false)], args := [d1, d2, d3, d4] }
  | _ => none }
def RowSamesWrongFalsely : Prop := rowSamesRow.holds Tryd.pinned (OpenSpec.ofChange rowSamesWrong)

/-- 'edenlaw07.RowCells': WHATEVER THE INPUT: true; the input reads as it did. -/
def rowCellsSpec : ChangeSpec := { name := "rowCells", fn := fun _ => fun
  | [d1, d2, d3, d4] => { results := [.lit (.bool true)], args := [d1, d2, d3, d4] }
  | _ => none }
def rowCellsRow : OpenClaim := { program := "ytgnaemcalomkdaadoor", sum := "5ecacddf340735eb23b3582c76611d986e8554d9a06b648acc1ca38fe3805d88", func := "eden/edenlaw07.RowCells", spec := "rowCells", inPlace := ["internal/reflectlite.TypeOf", "internal/reflectlite.ValueOf", "(internal/reflectlite.Value).Type", "(internal/reflectlite.Value).IsNil", "(internal/reflectlite.Value).Elem", "(internal/reflectlite.Value).Set"], unfollowed := true, recurses := true, named := ["eden/api.BadRule", "eden/api.BadWord", "eden/api.BadArg", "eden/api.TooBig", "eden/api.NoBudget", "eden/api.BadText", "eden/api.BadPatch", "eden/api.BadCert", "eden/api.NoInverse", "eden/api.BadLine", "eden/api.BadState", "eden/api.Unknown", "errors.errorType"], apart := false, laid := [("errors.errorType", laid_errors_errorType), ("eden/api.BadRule", laid_eden_api_BadRule), ("eden/api.BadWord", laid_eden_api_BadWord), ("eden/api.BadArg", laid_eden_api_BadArg), ("eden/api.TooBig", laid_eden_api_TooBig), ("eden/api.NoBudget", laid_eden_api_NoBudget), ("eden/api.BadText", laid_eden_api_BadText), ("eden/api.BadPatch", laid_eden_api_BadPatch), ("eden/api.BadCert", laid_eden_api_BadCert), ("eden/api.NoInverse", laid_eden_api_NoInverse), ("eden/api.BadLine", laid_eden_api_BadLine), ("eden/api.BadState", laid_eden_api_BadState), ("eden/api.Unknown", laid_eden_api_Unknown)] }
def RowCellsSaid : Prop := rowCellsRow.holds Tryd.pinned (OpenSpec.ofChange rowCellsSpec)

/-- ITS FALSE NEIGHBOUR: 'it returns false'. Refute it at one input. -/
def rowCellsWrong : ChangeSpec := { name := "rowCells", fn := fun _ => fun
  | [d1, d2, d3, d4] => { results := [.lit (.bool false)], args := [d1, d2, d3, d4] }
  | _ => none }
def RowCellsWrongFalsely : Prop := rowCellsRow.holds Tryd.pinned (OpenSpec.ofChange rowCellsWrong)

/-- 'edenlaw18.AddAll': WHATEVER THE INPUT: true; the input reads as it did. -/
def addAllSpec : ChangeSpec := { name := "addAll", fn := fun _ => fun
  | [d1, d2, d3, d4, d5] => { results := [.lit (.bool true)], args := [d1, d2, d3, d4, d5] }
  | _ => none }
def addAllRow : OpenClaim := { program := "ytgnaemcalomkdaadoor", sum := "5ecacddf340735eb23b3582c76611d986e8554d9a06b648acc1ca38fe3805d88", func := "eden/edenlaw18.AddAll", spec := "addAll", inPlace := ["internal/reflectlite.TypeOf", "internal/reflectlite.ValueOf", "(internal/reflectlite.Value).Type", "(internal/reflectlite.Value).IsNil", "(internal/reflectlite.Value).Elem", "(internal/reflectlite.Value).Set"], unfollowed := true, recurses := true, named := ["eden/api.BadRule", "eden/api.BadWord", "eden/api.BadArg", "eden/api.TooBig", "eden/api.NoBudget", "eden/api.BadText", "eden/api.BadPatch", "eden/api.BadCert", "eden/api.NoInverse", "eden/api.BadLine", "eden/api.BadState", "eden/api.Unknown", "errors.errorType"], apart := false, laid := [("errors.errorType", laid_errors_errorType), ("eden/api.BadRule", laid_eden_api_BadRule), ("eden/api.BadWord", laid_eden_api_BadWord), ("eden/api.BadArg", laid_eden_api_BadArg), ("eden/api.TooBig", laid_eden_api_TooBig), ("eden/api.NoBudget", laid_eden_api_NoBudget), ("eden/api.BadText", laid_eden_api_BadText), ("eden/api.BadPatch", laid_eden_api_BadPatch), ("eden/api.BadCert", laid_eden_api_BadCert), ("eden/api.NoInverse", laid_eden_api_NoInverse), ("eden/api.BadLine", laid_eden_api_BadLine), ("eden/api.BadState", laid_eden_api_BadState), ("eden/api.Unknown", laid_eden_api_Unknown)] }
def AddAllSaid : Prop := addAllRow.holds Tryd.pinned (OpenSpec.ofChange addAllSpec)

/-- ITS FALSE NEIGHBOUR: 'it returns false'. Refute it at one input. -/
def addAllWrong : ChangeSpec := { name := "addAll", fn := fun _ => fun
  | [d1, d2, d3, d4, d5] => { results := [.lit (.bool false)], args := [d1, d2, d3, d4, d5] }
  | _ => none }
def AddAllWrongFalsely : Prop := addAllRow.holds Tryd.pinned (OpenSpec.ofChange addAllWrong)

/-- 'edenlaw19.PermutAll': WHATEVER THE INPUT: true; the input reads as it did. -/
def permutAllSpec : ChangeSpec := { name := "permutAll", fn := fun _ => fun
  | [d1, d2, d3] => { results := [.lit (.bool true)], args := [d1, d2, d3] }
  | _ => none }
def permutAllRow : OpenClaim := { program := "ytgnaemcalomkdaadoor", sum := "5ecacddf340735eb23b3582c76611d986e8554d9a06b648acc1ca38fe3805d88", func := "eden/edenlaw19.PermutAll", spec := "permutAll", inPlace := ["internal/reflectlite.TypeOf", "internal/reflectlite.ValueOf", "(internal/reflectlite.Value).Type", "(internal/reflectlite.Value).IsNil", "(internal/reflectlite.Value).Elem", "(internal/reflectlite.Value).Set"], unfollowed := true, recurses := true, named := ["eden/api.BadRule", "eden/api.BadWord", "eden/api.BadArg", "eden/api.TooBig", "eden/api.NoBudget", "eden/api.BadText", "eden/api.BadPatch", "eden/api.BadCert", "eden/api.NoInverse", "eden/api.BadLine", "eden/api.BadState", "eden/api.Unknown", "errors.errorType"], apart := false, laid := [("errors.errorType", laid_errors_errorType), ("eden/api.BadRule", laid_eden_api_BadRule), ("eden/api.BadWord", laid_eden_api_BadWord), ("eden/api.BadArg", laid_eden_api_BadArg), ("eden/api.TooBig", laid_eden_api_TooBig), ("eden/api.NoBudget", laid_eden_api_NoBudget), ("eden/api.BadText", laid_eden_api_BadText), ("eden/api.BadPatch", laid_eden_api_BadPatch), ("eden/api.BadCert", laid_eden_api_BadCert), ("eden/api.NoInverse", laid_eden_api_NoInverse), ("eden/api.BadLine", laid_eden_api_BadLine), ("eden/api.BadState", laid_eden_api_BadState), ("eden/api.Unknown", laid_eden_api_Unknown)] }
def PermutAllSaid : Prop := permutAllRow.holds Tryd.pinned (OpenSpec.ofChange permutAllSpec)

/-- ITS FALSE NEIGHBOUR: 'it returns false'. Refute it at one input. -/
def permutAllWrong : ChangeSpec := { name := "permutAll", fn := fun _ => fun
  | [d1, d2, d3] => { results := [.lit (.bool false)], args := [d1, d2, d3] }
  | _ => none }
def PermutAllWrongFalsely : Prop := permutAllRow.holds Tryd.pinned (OpenSpec.ofChange permutAllWrong)

/-- 'edenlaw06.RingNecks': WHATEVER THE INPUT: true; the input reads as it did. -/
def ringNecksSpec : ChangeSpec := { name := "ringNecks", fn := fun _ => fun
  | [d1, d2, d3] => { results := [.lit (.bool true)], args := [d1, d2, d3] }
  | _ => none }
def ringNecksRow : OpenClaim := { program := "ytgnaemcalomkdaadoor", sum := "5ecacddf340735eb23b3582c76611d986e8554d9a06b648acc1ca38fe3805d88", func := "eden/edenlaw06.RingNecks", spec := "ringNecks", inPlace := ["internal/abi.NoEscape", "internal/reflectlite.TypeOf", "internal/reflectlite.ValueOf", "(internal/reflectlite.Value).Type", "(internal/reflectlite.Value).IsNil", "(internal/reflectlite.Value).Elem", "(internal/reflectlite.Value).Set"], unfollowed := true, recurses := true, named := ["eden/api.BadRule", "eden/api.BadWord", "eden/api.BadArg", "eden/api.TooBig", "eden/api.NoBudget", "eden/api.BadText", "eden/api.BadPatch", "eden/api.BadCert", "eden/api.NoInverse", "eden/api.BadLine", "eden/api.BadState", "eden/api.Unknown", "internal/strconv.uint64pow10", "math/bits.deBruijn32tab", "math/bits.deBruijn64tab", "errors.errorType"], apart := false, laid := [("math/bits.deBruijn32tab", laid_math_bits_deBruijn32tab), ("math/bits.deBruijn64tab", laid_math_bits_deBruijn64tab), ("internal/strconv.uint64pow10", laid_internal_strconv_uint64pow10), ("errors.errorType", laid_errors_errorType), ("eden/api.BadRule", laid_eden_api_BadRule), ("eden/api.BadWord", laid_eden_api_BadWord), ("eden/api.BadArg", laid_eden_api_BadArg), ("eden/api.TooBig", laid_eden_api_TooBig), ("eden/api.NoBudget", laid_eden_api_NoBudget), ("eden/api.BadText", laid_eden_api_BadText), ("eden/api.BadPatch", laid_eden_api_BadPatch), ("eden/api.BadCert", laid_eden_api_BadCert), ("eden/api.NoInverse", laid_eden_api_NoInverse), ("eden/api.BadLine", laid_eden_api_BadLine), ("eden/api.BadState", laid_eden_api_BadState), ("eden/api.Unknown", laid_eden_api_Unknown)] }
def RingNecksSaid : Prop := ringNecksRow.holds Tryd.pinned (OpenSpec.ofChange ringNecksSpec)

/-- ITS FALSE NEIGHBOUR: 'it returns false'. Refute it at one input. -/
def ringNecksWrong : ChangeSpec := { name := "ringNecks", fn := fun _ => fun
  | [d1, d2, d3] => { results := [.lit (.bool false)], args := [d1, d2, d3] }
  | _ => none }
def RingNecksWrongFalsely : Prop := ringNecksRow.holds Tryd.pinned (OpenSpec.ofChange ringNecksWrong)

/-- 'edenlaw07.RowSteps': WHATEVER THE INPUT: true; the input reads as it did. -/
def rowStepsSpec : ChangeSpec := { name := "rowSteps", fn := fun _ => fun
  | [d1, d2] => { results := [.lit (.bool true)], args := [d1, d2] }
  | _ => none }
def rowStepsRow : OpenClaim := { program := "ytgnaemcalomkdaadoor", sum := "5ecacddf340735eb23b3582c76611d986e8554d9a06b648acc1ca38fe3805d88", func := "eden/edenlaw07.RowSteps", spec := "rowSteps", inPlace := ["internal/reflectlite.TypeOf", "internal/reflectlite.ValueOf", "(internal/reflectlite.Value).Type", "(internal/reflectlite.Value).IsNil", "(internal/reflectlite.Value).Elem", "(internal/reflectlite.Value).Set"], unfollowed := true, recurses := true, named := ["eden/api.BadRule", "eden/api.BadWord", "eden/api.BadArg", "eden/api.TooBig", "eden/api.NoBudget", "eden/api.BadText", "eden/api.BadPatch", "eden/api.BadCert", "eden/api.NoInverse", "eden/api.BadLine", "eden/api.BadState", "eden/api.Unknown", "errors.errorType"], apart := false, laid := [("errors.errorType", laid_errors_errorType), ("eden/api.BadRule", laid_eden_api_BadRule), ("eden/api.BadWord", laid_eden_api_BadWord), ("eden/api.BadArg", laid_eden_api_BadArg), ("eden/api.TooBig", laid_eden_api_TooBig), ("eden/api.NoBudget", laid_eden_api_NoBudget), ("eden/api.BadText", laid_eden_api_BadText), ("eden/api.BadPatch", laid_eden_api_BadPatch), ("eden/api.BadCert", laid_eden_api_BadCert), ("eden/api.NoInverse", laid_eden_api_NoInverse), ("eden/api.BadLine", laid_eden_api_BadLine), ("eden/api.BadState", laid_eden_api_BadState), ("eden/api.Unknown", laid_eden_api_Unknown)] }
def RowStepsSaid : Prop := rowStepsRow.holds Tryd.pinned (OpenSpec.ofChange rowStepsSpec)

/-- ITS FALSE NEIGHBOUR: 'it returns false'. Refute it at one input. -/
def rowStepsWrong : ChangeSpec := { name := "rowSteps", fn := fun _ => fun
  | [d1, d2] => { results := [.lit (.bool false)], args := [d1, d2] }
  | _ => none }
def RowStepsWrongFalsely : Prop := rowStepsRow.holds Tryd.pinned (OpenSpec.ofChange rowStepsWrong)

/-- 'edenlaw01.FaultMakes': WHATEVER THE INPUT: true; the input reads as it did. -/
def faultMakesSpec : ChangeSpec := { name := "faultMakes", fn := fun _ => fun
  | [d1, d2, d3] => { results := [.lit (.bool true)], args := [d1, d2, d3] }
  | _ => none }
def faultMakesRow : OpenClaim := { program := "ytgnaemcalomkdaadoor", sum := "5ecacddf340735eb23b3582c76611d986e8554d9a06b648acc1ca38fe3805d88", func := "eden/edenlaw01.FaultMakes", spec := "faultMakes", inPlace := ["internal/reflectlite.ValueOf", "(internal/reflectlite.Value).Type", "(internal/reflectlite.Value).IsNil", "internal/reflectlite.TypeOf", "(internal/reflectlite.Value).Elem", "(internal/reflectlite.Value).Set"], unfollowed := true, recurses := true, named := ["eden/api.BadRule", "eden/api.BadWord", "eden/api.BadArg", "eden/api.TooBig", "eden/api.NoBudget", "eden/api.BadText", "eden/api.BadPatch", "eden/api.BadCert", "eden/api.NoInverse", "eden/api.BadLine", "eden/api.BadState", "eden/api.Unknown", "errors.errorType", "internal/strconv.uint64pow10", "math/bits.deBruijn32tab", "math/bits.deBruijn64tab"], apart := false, laid := [("math/bits.deBruijn32tab", laid_math_bits_deBruijn32tab), ("math/bits.deBruijn64tab", laid_math_bits_deBruijn64tab), ("internal/strconv.uint64pow10", laid_internal_strconv_uint64pow10), ("errors.errorType", laid_errors_errorType), ("eden/api.BadRule", laid_eden_api_BadRule), ("eden/api.BadWord", laid_eden_api_BadWord), ("eden/api.BadArg", laid_eden_api_BadArg), ("eden/api.TooBig", laid_eden_api_TooBig), ("eden/api.NoBudget", laid_eden_api_NoBudget), ("eden/api.BadText", laid_eden_api_BadText), ("eden/api.BadPatch", laid_eden_api_BadPatch), ("eden/api.BadCert", laid_eden_api_BadCert), ("eden/api.NoInverse", laid_eden_api_NoInverse), ("eden/api.BadLine", laid_eden_api_BadLine), ("eden/api.BadState", laid_eden_api_BadState), ("eden/api.Unknown", laid_eden_api_Unknown)] }
def FaultMakesSaid : Prop := faultMakesRow.holds Tryd.pinned (OpenSpec.ofChange faultMakesSpec)

/-- ITS FALSE NEIGHBOUR: 'it returns false'. Refute it at one input. -/
def faultMakesWrong : ChangeSpec := { name := "faultMakes", fn := fun _ => fun
  | [d1, d2, d3] => { results := [.lit (.bool false)], args := [d1, d2, d3] }
  | _ => none }
def FaultMakesWrongFalsely : Prop := faultMakesRow.holds Tryd.pinned (OpenSpec.ofChange faultMakesWrong)

/-- 'edenlaw06.RingOrbits': WHATEVER THE INPUT: true; the input reads as it did. -/
def ringOrbitsSpec : ChangeSpec := { name := "ringOrbits", fn := fun _ => fun
  | [d1, d2] => { results := [.lit (.bool true)], args := [d1, d2] }
  | _ => none }
def ringOrbitsRow : OpenClaim := { program := "ytgnaemcalomkdaadoor", sum := "5ecacddf340735eb23b3582c76611d986e8554d9a06b648acc1ca38fe3805d88", func := "eden/edenlaw06.RingOrbits", spec := "ringOrbits", inPlace := ["internal/abi.NoEscape", "internal/reflectlite.TypeOf", "internal/reflectlite.ValueOf", "(internal/reflectlite.Value).Type", "(internal/reflectlite.Value).IsNil", "(internal/reflectlite.Value).Elem", "(internal/reflectlite.Value).Set"], unfollowed := true, recurses := true, named := ["eden/api.BadRule", "eden/api.BadWord", "eden/api.BadArg", "eden/api.TooBig", "eden/api.NoBudget", "eden/api.BadText", "eden/api.BadPatch", "eden/api.BadCert", "eden/api.NoInverse", "eden/api.BadLine", "eden/api.BadState", "eden/api.Unknown", "internal/strconv.uint64pow10", "math/bits.deBruijn32tab", "math/bits.deBruijn64tab", "errors.errorType"], apart := false, laid := [("math/bits.deBruijn32tab", laid_math_bits_deBruijn32tab), ("math/bits.deBruijn64tab", laid_math_bits_deBruijn64tab), ("internal/strconv.uint64pow10", laid_internal_strconv_uint64pow10), ("errors.errorType", laid_errors_errorType), ("eden/api.BadRule", laid_eden_api_BadRule), ("eden/api.BadWord", laid_eden_api_BadWord), ("eden/api.BadArg", laid_eden_api_BadArg), ("eden/api.TooBig", laid_eden_api_TooBig), ("eden/api.NoBudget", laid_eden_api_NoBudget), ("eden/api.BadText", laid_eden_api_BadText), ("eden/api.BadPatch", laid_eden_api_BadPatch), ("eden/api.BadCert", laid_eden_api_BadCert), ("eden/api.NoInverse", laid_eden_api_NoInverse), ("eden/api.BadLine", laid_eden_api_BadLine), ("eden/api.BadState", laid_eden_api_BadState), ("eden/api.Unknown", laid_eden_api_Unknown)] }
def RingOrbitsSaid : Prop := ringOrbitsRow.holds Tryd.pinned (OpenSpec.ofChange ringOrbitsSpec)

/-- ITS FALSE NEIGHBOUR: 'it returns false'. Refute it at one input. -/
def ringOrbitsWrong : ChangeSpec := { name := "ringOrbits", fn := fun _ => fun
  | [d1, d2] => { results := [.lit (.bool false)], args := [d1, d2] }
  | _ => none }
def RingOrbitsWrongFalsely : Prop := ringOrbitsRow.holds Tryd.pinned (OpenSpec.ofChange ringOrbitsWrong)

/-- 'edenlaw06.RingSteps': WHATEVER THE INPUT: true; the input reads as it did. -/
def ringStepsSpec : ChangeSpec := { name := "ringSteps", fn := fun _ => fun
  | [d1, d2, d3] => { results := [.lit (.bool true)], args := [d1, d2, d3] }
  | _ => none }
def ringStepsRow : OpenClaim := { program := "ytgnaemcalomkdaadoor", sum := "5ecacddf340735eb23b3582c76611d986e8554d9a06b648acc1ca38fe3805d88", func := "eden/edenlaw06.RingSteps", spec := "ringSteps", inPlace := ["internal/abi.NoEscape", "internal/reflectlite.TypeOf", "internal/reflectlite.ValueOf", "(internal/reflectlite.Value).Type", "(internal/reflectlite.Value).IsNil", "(internal/reflectlite.Value).Elem", "(internal/reflectlite.Value).Set"], unfollowed := true, recurses := true, named := ["eden/api.BadRule", "eden/api.BadWord", "eden/api.BadArg", "eden/api.TooBig", "eden/api.NoBudget", "eden/api.BadText", "eden/api.BadPatch", "eden/api.BadCert", "eden/api.NoInverse", "eden/api.BadLine", "eden/api.BadState", "eden/api.Unknown", "internal/strconv.uint64pow10", "math/bits.deBruijn32tab", "math/bits.deBruijn64tab", "errors.errorType"], apart := false, laid := [("math/bits.deBruijn32tab", laid_math_bits_deBruijn32tab), ("math/bits.deBruijn64tab", laid_math_bits_deBruijn64tab), ("internal/strconv.uint64pow10", laid_internal_strconv_uint64pow10), ("errors.errorType", laid_errors_errorType), ("eden/api.BadRule", laid_eden_api_BadRule), ("eden/api.BadWord", laid_eden_api_BadWord), ("eden/api.BadArg", laid_eden_api_BadArg), ("eden/api.TooBig", laid_eden_api_TooBig), ("eden/api.NoBudget", laid_eden_api_NoBudget), ("eden/api.BadText", laid_eden_api_BadText), ("eden/api.BadPatch", laid_eden_api_BadPatch), ("eden/api.BadCert", laid_eden_api_BadCert), ("eden/api.NoInverse", laid_eden_api_NoInverse), ("eden/api.BadLine", laid_eden_api_BadLine), ("eden/api.BadState", laid_eden_api_BadState), ("eden/api.Unknown", laid_eden_api_Unknown)] }
def RingStepsSaid : Prop := ringStepsRow.holds Tryd.pinned (OpenSpec.ofChange ringStepsSpec)

/-- ITS FALSE NEIGHBOUR: 'it returns false'. Refute it at one input. -/
def ringStepsWrong : ChangeSpec := { name := "ringSteps", fn := fun _ => fun
  | [d1, d2, d3] => { results := [.lit (.bool false)], args := [d1, d2, d3] }
  | _ => none }
def RingStepsWrongFalsely : Prop := ringStepsRow.holds Tryd.pinned (OpenSpec.ofChange ringStepsWrong)

/- THE SECOND FORM. 'bulk': how many values and letters a reading holds, each counted each time it is reached (what is shared counts as often as it is met; a slice's spare places count too). A statement '..UptoSaid' is the law's where the arguments, and the package variables that the reading takes, are together of bulk at most 1048576: NARROWER than '..Said'. Prove '..Said' where nothing that the law and all that it calls make is longer than what came in: it says more and counts as full. Else prove '..UptoSaid'. A law counts once. -/
mutual
def uptoBulk {H : Type} : DataW H → Nat
  | .lit (.string bytes) => bytes.length + 1
  | .lit _ => 1
  | .nil => 1
  | .ptr d => uptoBulk d + 1
  | .slice elems spare => uptoBulkAll elems + uptoBulkAll spare + 1
  | .agg parts => uptoBulkAll parts + 1
  | .iface _ d => uptoBulk d + 1
  | .map entries => uptoBulkEntries entries + 1
  | .held _ => 1
def uptoBulkAll {H : Type} : List (DataW H) → Nat
  | [] => 0
  | d :: r => uptoBulk d + uptoBulkAll r
def uptoBulkEntries {H : Type} : List (Lit × DataW H) → Nat
  | [] => 0
  | x :: r => uptoBulkEntry x + uptoBulkEntries r
def uptoBulkEntry {H : Type} : Lit × DataW H → Nat
  | (.string bytes, d) => bytes.length + uptoBulk d + 1
  | (_, d) => uptoBulk d + 1
 end
def uptoSmall : (H : Type) → List (DataW H) → Bool := fun _ ds => decide (uptoBulkAll ds ≤ 1048576)
def OpenSpec.upto (s : _root_.Go.ChangeSpec) : _root_.Go.OpenSpec := { _root_.Go.OpenSpec.ofChange s with cond := some uptoSmall }

/-- 'edenlaw07.RowSames', WHERE WHAT IT READS IS OF BULK AT MOST 1048576: true; the input reads as it did. -/
def rowSamesUptoRow : OpenClaim := { program := "ytgnaemcalomkdaadoor", sum := "5ecacddf340735eb23b3582c76611d986e8554d9a06b648acc1ca38fe3805d88", func := "eden/edenlaw07.RowSames", spec := "rowSames", inPlace := ["internal/reflectlite.TypeOf", "internal/reflectlite.ValueOf", "(internal/reflectlite.Value).Type", "(internal/reflectlite.Value).IsNil", "(internal/reflectlite.Value).Elem", "(internal/reflectlite.Value).Set"], unfollowed := true, recurses := true, named := ["eden/api.BadRule", "eden/api.BadWord", "eden/api.BadArg", "eden/api.TooBig", "eden/api.NoBudget", "eden/api.BadText", "eden/api.BadPatch", "eden/api.BadCert", "eden/api.NoInverse", "eden/api.BadLine", "eden/api.BadState", "eden/api.Unknown", "errors.errorType"], apart := false, laid := [("errors.errorType", laid_errors_errorType), ("eden/api.BadRule", laid_eden_api_BadRule), ("eden/api.BadWord", laid_eden_api_BadWord), ("eden/api.BadArg", laid_eden_api_BadArg), ("eden/api.TooBig", laid_eden_api_TooBig), ("eden/api.NoBudget", laid_eden_api_NoBudget), ("eden/api.BadText", laid_eden_api_BadText), ("eden/api.BadPatch", laid_eden_api_BadPatch), ("eden/api.BadCert", laid_eden_api_BadCert), ("eden/api.NoInverse", laid_eden_api_NoInverse), ("eden/api.BadLine", laid_eden_api_BadLine), ("eden/api.BadState", laid_eden_api_BadState), ("eden/api.Unknown", laid_eden_api_Unknown)], narrowed := true }
def RowSamesUptoSaid : Prop := rowSamesUptoRow.holds Tryd.pinned (OpenSpec.upto rowSamesSpec)

/-- 'edenlaw07.RowCells', WHERE WHAT IT READS IS OF BULK AT MOST 1048576: true; the input reads as it did. -/
def rowCellsUptoRow : OpenClaim := { program := "ytgnaemcalomkdaadoor", sum := "5ecacddf340735eb23b3582c76611d986e8554d9a06b648acc1ca38fe3805d88", func := "eden/edenlaw07.RowCells", spec := "rowCells", inPlace := ["internal/reflectlite.TypeOf", "internal/reflectlite.ValueOf", "(internal/reflectlite.Value).Type", "(internal/reflectlite.Value).IsNil", "(internal/reflectlite.Value).Elem", "(internal/reflectlite.Value).Set"], unfollowed := true, recurses := true, named := ["eden/api.BadRule", "eden/api.BadWord", "eden/api.BadArg", "eden/api.TooBig", "eden/api.NoBudget", "eden/api.BadText", "eden/api.BadPatch", "eden/api.BadCert", "eden/api.NoInverse", "eden/api.BadLine", "eden/api.BadState", "eden/api.Unknown", "errors.errorType"], apart := false, laid := [("errors.errorType", laid_errors_errorType), ("eden/api.BadRule", laid_eden_api_BadRule), ("eden/api.BadWord", laid_eden_api_BadWord), ("eden/api.BadArg", laid_eden_api_BadArg), ("eden/api.TooBig", laid_eden_api_TooBig), ("eden/api.NoBudget", laid_eden_api_NoBudget), ("eden/api.BadText", laid_eden_api_BadText), ("eden/api.BadPatch", laid_eden_api_BadPatch), ("eden/api.BadCert", laid_eden_api_BadCert), ("eden/api.NoInverse", laid_eden_api_NoInverse), ("eden/api.BadLine", laid_eden_api_BadLine), ("eden/api.BadState", laid_eden_api_BadState), ("eden/api.Unknown", laid_eden_api_Unknown)], narrowed := true }
def RowCellsUptoSaid : Prop := rowCellsUptoRow.holds Tryd.pinned (OpenSpec.upto rowCellsSpec)

/-- 'edenlaw18.AddAll', WHERE WHAT IT READS IS OF BULK AT MOST 1048576: true; the input reads as it did. -/
def addAllUptoRow : OpenClaim := { program := "ytgnaemcalomkdaadoor", sum := "5ecacddf340735eb23b3582c76611d986e8554d9a06b648acc1ca38fe3805d88", func := "eden/edenlaw18.AddAll", spec := "addAll", inPlace := ["internal/reflectlite.TypeOf", "internal/reflectlite.ValueOf", "(internal/reflectlite.Value).Type", "(internal/reflectlite.Value).IsNil", "(internal/reflectlite.Value).Elem", "(internal/reflectlite.Value).Set"], unfollowed := true, recurses := true, named := ["eden/api.BadRule", "eden/api.BadWord", "eden/api.BadArg", "eden/api.TooBig", "eden/api.NoBudget", "eden/api.BadText", "eden/api.BadPatch", "eden/api.BadCert", "eden/api.NoInverse", "eden/api.BadLine", "eden/api.BadState", "eden/api.Unknown", "errors.errorType"], apart := false, laid := [("errors.errorType", laid_errors_errorType), ("eden/api.BadRule", laid_eden_api_BadRule), ("eden/api.BadWord", laid_eden_api_BadWord), ("eden/api.BadArg", laid_eden_api_BadArg), ("eden/api.TooBig", laid_eden_api_TooBig), ("eden/api.NoBudget", laid_eden_api_NoBudget), ("eden/api.BadText", laid_eden_api_BadText), ("eden/api.BadPatch", laid_eden_api_BadPatch), ("eden/api.BadCert", laid_eden_api_BadCert), ("eden/api.NoInverse", laid_eden_api_NoInverse), ("eden/api.BadLine", laid_eden_api_BadLine), ("eden/api.BadState", laid_eden_api_BadState), ("eden/api.Unknown", laid_eden_api_Unknown)], narrowed := true }
def AddAllUptoSaid : Prop := addAllUptoRow.holds Tryd.pinned (OpenSpec.upto addAllSpec)

/-- 'edenlaw19.PermutAll', WHERE WHAT IT READS IS OF BULK AT MOST 1048576: true; the input reads as it did. -/
def permutAllUptoRow : OpenClaim := { program := "ytgnaemcalomkdaadoor", sum := "5ecacddf340735eb23b3582c76611d986e8554d9a06b648acc1ca38fe3805d88", func := "eden/edenlaw19.PermutAll", spec := "permutAll", inPlace := ["internal/reflectlite.TypeOf", "internal/reflectlite.ValueOf", "(internal/reflectlite.Value).Type", "(internal/reflectlite.Value).IsNil", "(internal/reflectlite.Value).Elem", "(internal/reflectlite.Value).Set"], unfollowed := true, recurses := true, named := ["eden/api.BadRule", "eden/api.BadWord", "eden/api.BadArg", "eden/api.TooBig", "eden/api.NoBudget", "eden/api.BadText", "eden/api.BadPatch", "eden/api.BadCert", "eden/api.NoInverse", "eden/api.BadLine", "eden/api.BadState", "eden/api.Unknown", "errors.errorType"], apart := false, laid := [("errors.errorType", laid_errors_errorType), ("eden/api.BadRule", laid_eden_api_BadRule), ("eden/api.BadWord", laid_eden_api_BadWord), ("eden/api.BadArg", laid_eden_api_BadArg), ("eden/api.TooBig", laid_eden_api_TooBig), ("eden/api.NoBudget", laid_eden_api_NoBudget), ("eden/api.BadText", laid_eden_api_BadText), ("eden/api.BadPatch", laid_eden_api_BadPatch), ("eden/api.BadCert", laid_eden_api_BadCert), ("eden/api.NoInverse", laid_eden_api_NoInverse), ("eden/api.BadLine", laid_eden_api_BadLine), ("eden/api.BadState", laid_eden_api_BadState), ("eden/api.Unknown", laid_eden_api_Unknown)], narrowed := true }
def PermutAllUptoSaid : Prop := permutAllUptoRow.holds Tryd.pinned (OpenSpec.upto permutAllSpec)

/-- 'edenlaw06.RingNecks', WHERE WHAT IT READS IS OF BULK AT MOST 1048576: true; the input reads as it did. -/
def ringNecksUptoRow : OpenClaim := { program := "ytgnaemcalomkdaadoor", sum := "5ecacddf340735eb23b3582c76611d986e8554d9a06b648acc1ca38fe3805d88", func := "eden/edenlaw06.RingNecks", spec := "ringNecks", inPlace := ["internal/abi.NoEscape", "internal/reflectlite.TypeOf", "internal/reflectlite.ValueOf", "(internal/reflectlite.Value).Type", "(internal/reflectlite.Value).IsNil", "(internal/reflectlite.Value).Elem", "(internal/reflectlite.Value).Set"], unfollowed := true, recurses := true, named := ["eden/api.BadRule", "eden/api.BadWord", "eden/api.BadArg", "eden/api.TooBig", "eden/api.NoBudget", "eden/api.BadText", "eden/api.BadPatch", "eden/api.BadCert", "eden/api.NoInverse", "eden/api.BadLine", "eden/api.BadState", "eden/api.Unknown", "internal/strconv.uint64pow10", "math/bits.deBruijn32tab", "math/bits.deBruijn64tab", "errors.errorType"], apart := false, laid := [("math/bits.deBruijn32tab", laid_math_bits_deBruijn32tab), ("math/bits.deBruijn64tab", laid_math_bits_deBruijn64tab), ("internal/strconv.uint64pow10", laid_internal_strconv_uint64pow10), ("errors.errorType", laid_errors_errorType), ("eden/api.BadRule", laid_eden_api_BadRule), ("eden/api.BadWord", laid_eden_api_BadWord), ("eden/api.BadArg", laid_eden_api_BadArg), ("eden/api.TooBig", laid_eden_api_TooBig), ("eden/api.NoBudget", laid_eden_api_NoBudget), ("eden/api.BadText", laid_eden_api_BadText), ("eden/api.BadPatch", laid_eden_api_BadPatch), ("eden/api.BadCert", laid_eden_api_BadCert), ("eden/api.NoInverse", laid_eden_api_NoInverse), ("eden/api.BadLine", laid_eden_api_BadLine), ("eden/api.BadState", laid_eden_api_BadState), ("eden/api.Unknown", laid_eden_api_Unknown)], narrowed := true }
def RingNecksUptoSaid : Prop := ringNecksUptoRow.holds Tryd.pinned (OpenSpec.upto ringNecksSpec)

/-- 'edenlaw07.RowSteps', WHERE WHAT IT READS IS OF BULK AT MOST 1048576: true; the input reads as it did. -/
def rowStepsUptoRow : OpenClaim := { program := "ytgnaemcalomkdaadoor", sum := "5ecacddf340735eb23b3582c76611d986e8554d9a06b648acc1ca38fe3805d88", func := "eden/edenlaw07.RowSteps", spec := "rowSteps", inPlace := ["internal/reflectlite.TypeOf", "internal/reflectlite.ValueOf", "(internal/reflectlite.Value).Type", "(internal/reflectlite.Value).IsNil", "(internal/reflectlite.Value).Elem", "(internal/reflectlite.Value).Set"], unfollowed := true, recurses := true, named := ["eden/api.BadRule", "eden/api.BadWord", "eden/api.BadArg", "eden/api.TooBig", "eden/api.NoBudget", "eden/api.BadText", "eden/api.BadPatch", "eden/api.BadCert", "eden/api.NoInverse", "eden/api.BadLine", "eden/api.BadState", "eden/api.Unknown", "errors.errorType"], apart := false, laid := [("errors.errorType", laid_errors_errorType), ("eden/api.BadRule", laid_eden_api_BadRule), ("eden/api.BadWord", laid_eden_api_BadWord), ("eden/api.BadArg", laid_eden_api_BadArg), ("eden/api.TooBig", laid_eden_api_TooBig), ("eden/api.NoBudget", laid_eden_api_NoBudget), ("eden/api.BadText", laid_eden_api_BadText), ("eden/api.BadPatch", laid_eden_api_BadPatch), ("eden/api.BadCert", laid_eden_api_BadCert), ("eden/api.NoInverse", laid_eden_api_NoInverse), ("eden/api.BadLine", laid_eden_api_BadLine), ("eden/api.BadState", laid_eden_api_BadState), ("eden/api.Unknown", laid_eden_api_Unknown)], narrowed := true }
def RowStepsUptoSaid : Prop := rowStepsUptoRow.holds Tryd.pinned (OpenSpec.upto rowStepsSpec)

/-- 'edenlaw01.FaultMakes', WHERE WHAT IT READS IS OF BULK AT MOST 1048576: true; the input reads as it did. -/
def faultMakesUptoRow : OpenClaim := { program := "ytgnaemcalomkdaadoor", sum := "5ecacddf340735eb23b3582c76611d986e8554d9a06b648acc1ca38fe3805d88", func := "eden/edenlaw01.FaultMakes", spec := "faultMakes", inPlace := ["internal/reflectlite.ValueOf", "(internal/reflectlite.Value).Type", "(internal/reflectlite.Value).IsNil", "internal/reflectlite.TypeOf", "(internal/reflectlite.Value).Elem", "(internal/reflectlite.Value).Set"], unfollowed := true, recurses := true, named := ["eden/api.BadRule", "eden/api.BadWord", "eden/api.BadArg", "eden/api.TooBig", "eden/api.NoBudget", "eden/api.BadText", "eden/api.BadPatch", "eden/api.BadCert", "eden/api.NoInverse", "eden/api.BadLine", "eden/api.BadState", "eden/api.Unknown", "errors.errorType", "internal/strconv.uint64pow10", "math/bits.deBruijn32tab", "math/bits.deBruijn64tab"], apart := false, laid := [("math/bits.deBruijn32tab", laid_math_bits_deBruijn32tab), ("math/bits.deBruijn64tab", laid_math_bits_deBruijn64tab), ("internal/strconv.uint64pow10", laid_internal_strconv_uint64pow10), ("errors.errorType", laid_errors_errorType), ("eden/api.BadRule", laid_eden_api_BadRule), ("eden/api.BadWord", laid_eden_api_BadWord), ("eden/api.BadArg", laid_eden_api_BadArg), ("eden/api.TooBig", laid_eden_api_TooBig), ("eden/api.NoBudget", laid_eden_api_NoBudget), ("eden/api.BadText", laid_eden_api_BadText), ("eden/api.BadPatch", laid_eden_api_BadPatch), ("eden/api.BadCert", laid_eden_api_BadCert), ("eden/api.NoInverse", laid_eden_api_NoInverse), ("eden/api.BadLine", laid_eden_api_BadLine), ("eden/api.BadState", laid_eden_api_BadState), ("eden/api.Unknown", laid_eden_api_Unknown)], narrowed := true }
def FaultMakesUptoSaid : Prop := faultMakesUptoRow.holds Tryd.pinned (OpenSpec.upto faultMakesSpec)

/-- 'edenlaw06.RingOrbits', WHERE WHAT IT READS IS OF BULK AT MOST 1048576: true; the input reads as it did. -/
def ringOrbitsUptoRow : OpenClaim := { program := "ytgnaemcalomkdaadoor", sum := "5ecacddf340735eb23b3582c76611d986e8554d9a06b648acc1ca38fe3805d88", func := "eden/edenlaw06.RingOrbits", spec := "ringOrbits", inPlace := ["internal/abi.NoEscape", "internal/reflectlite.TypeOf", "internal/reflectlite.ValueOf", "(internal/reflectlite.Value).Type", "(internal/reflectlite.Value).IsNil", "(internal/reflectlite.Value).Elem", "(internal/reflectlite.Value).Set"], unfollowed := true, recurses := true, named := ["eden/api.BadRule", "eden/api.BadWord", "eden/api.BadArg", "eden/api.TooBig", "eden/api.NoBudget", "eden/api.BadText", "eden/api.BadPatch", "eden/api.BadCert", "eden/api.NoInverse", "eden/api.BadLine", "eden/api.BadState", "eden/api.Unknown", "internal/strconv.uint64pow10", "math/bits.deBruijn32tab", "math/bits.deBruijn64tab", "errors.errorType"], apart := false, laid := [("math/bits.deBruijn32tab", laid_math_bits_deBruijn32tab), ("math/bits.deBruijn64tab", laid_math_bits_deBruijn64tab), ("internal/strconv.uint64pow10", laid_internal_strconv_uint64pow10), ("errors.errorType", laid_errors_errorType), ("eden/api.BadRule", laid_eden_api_BadRule), ("eden/api.BadWord", laid_eden_api_BadWord), ("eden/api.BadArg", laid_eden_api_BadArg), ("eden/api.TooBig", laid_eden_api_TooBig), ("eden/api.NoBudget", laid_eden_api_NoBudget), ("eden/api.BadText", laid_eden_api_BadText), ("eden/api.BadPatch", laid_eden_api_BadPatch), ("eden/api.BadCert", laid_eden_api_BadCert), ("eden/api.NoInverse", laid_eden_api_NoInverse), ("eden/api.BadLine", laid_eden_api_BadLine), ("eden/api.BadState", laid_eden_api_BadState), ("eden/api.Unknown", laid_eden_api_Unknown)], narrowed := true }
def RingOrbitsUptoSaid : Prop := ringOrbitsUptoRow.holds Tryd.pinned (OpenSpec.upto ringOrbitsSpec)

/-- 'edenlaw06.RingSteps', WHERE WHAT IT READS IS OF BULK AT MOST 1048576: true; the input reads as it did. -/
def ringStepsUptoRow : OpenClaim := { program := "ytgnaemcalomkdaadoor", sum := "5ecacddf340735eb23b3582c76611d986e8554d9a06b648acc1ca38fe3805d88", func := "eden/edenlaw06.RingSteps", spec := "ringSteps", inPlace := ["internal/abi.NoEscape", "internal/reflectlite.TypeOf", "internal/reflectlite.ValueOf", "(internal/reflectlite.Value).Type", "(internal/reflectlite.Value).IsNil", "(internal/reflectlite.Value).Elem", "(internal/reflectlite.Value).Set"], unfollowed := true, recurses := true, named := ["eden/api.BadRule", "eden/api.BadWord", "eden/api.BadArg", "eden/api.TooBig", "eden/api.NoBudget", "eden/api.BadText", "eden/api.BadPatch", "eden/api.BadCert", "eden/api.NoInverse", "eden/api.BadLine", "eden/api.BadState", "eden/api.Unknown", "internal/strconv.uint64pow10", "math/bits.deBruijn32tab", "math/bits.deBruijn64tab", "errors.errorType"], apart := false, laid := [("math/bits.deBruijn32tab", laid_math_bits_deBruijn32tab), ("math/bits.deBruijn64tab", laid_math_bits_deBruijn64tab), ("internal/strconv.uint64pow10", laid_internal_strconv_uint64pow10), ("errors.errorType", laid_errors_errorType), ("eden/api.BadRule", laid_eden_api_BadRule), ("eden/api.BadWord", laid_eden_api_BadWord), ("eden/api.BadArg", laid_eden_api_BadArg), ("eden/api.TooBig", laid_eden_api_TooBig), ("eden/api.NoBudget", laid_eden_api_NoBudget), ("eden/api.BadText", laid_eden_api_BadText), ("eden/api.BadPatch", laid_eden_api_BadPatch), ("eden/api.BadCert", laid_eden_api_BadCert), ("eden/api.NoInverse", laid_eden_api_NoInverse), ("eden/api.BadLine", laid_eden_api_BadLine), ("eden/api.BadState", laid_eden_api_BadState), ("eden/api.Unknown", laid_eden_api_Unknown)], narrowed := true }
def RingStepsUptoSaid : Prop := ringStepsUptoRow.holds Tryd.pinned (OpenSpec.upto ringStepsSpec)

end Rows
end Go.Proofs.YtgnaemcalomkdaaDoor
