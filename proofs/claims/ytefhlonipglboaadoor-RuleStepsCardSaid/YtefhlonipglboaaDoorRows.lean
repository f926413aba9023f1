/-
  NARROWER THAN 'FOR EVERY INPUT', by the rows' own cells (each row's printed sentence says how): OverBefore: laid · OverEdges: laid · OverPaths: laid · RuleChecks: laid · RuleSteps: laid · SubsetOntos: laid · RuleCodes: laid · SubsetWalks: laid · WordAll: laid.
  DERIVED. THE GIVEN ROWS OF THIS SEAT. 9 by the template 'for every input the law returns true; each argument reads behind the call as it read before'; 0 by the template 'total and deterministic' (their statements: YtefhlonipglboaaDoorTotals.lean).
  GIVEN WITH THE SEED: the statements are not yours to turn. If you find one false, say at which input.
  Laid BY PROGRAM, IN A SANDBOX (cutbox-rows.mjs): the forced cells as the released guide's own fill.sh prints them over the translation 8c5eebd5bf746a23… (all of the seat's roots in one cut). By AI agents, Wed Nov 11 2026. No macro, syntax, notation, axiom, sorry.
-/
import Derived.Test.YtefhlonipglboaaDoorChecked
import GoSem.Claim
import GoSem.ClaimJoined
import GoSem.ClaimMapViews
import Derived.JoinedTies
import Derived.KernelRfl
namespace Go.Proofs.YtefhlonipglboaaDoor
/- THE CELL 'sum', in the pinned program and in every row, IS THE sha256 OF THE DUMP (.gsa) THAT YtefhlonipglboaaDoorProg.lean LOADS. Nothing in Lean hashes anything: it is a label: what it is worth is what the hold of that sum in a sandbox is worth. -/
noncomputable def Tryd.pinned : Pinned := { name := "ytefhlonipglboaadoor", sum := "8c5eebd5bf746a234e928637bed3d59a3af940ac8486bc9bf23d852f591b49af", checked := Tryd.checked }
namespace Rows
def none {H : Type} : Left H := { results := [], args := [] }

/- WHAT THE LISTED PACKAGE-LEVEL VARIABLES READ AS WHEN THE CALL BEGINS. Each datum BY PROGRAM (the guide's laid-datum.mjs) off the statement by which the dump's own 'gosem.cut.vars' lays the variable. In a bare row this is a premise. The card (YtefhlonipglboaaDoorCards.lean) ties it to the program's text. -/
def laid_errors_errorType {H : Type} : DataW H := .iface "internal/reflectlite.rtype" (.agg [.ptr (.lit (.string [101, 114, 114, 111, 114]))])
def laid_eden_api_BadRule {H : Type} : DataW H := .iface "*errors.errorString" (.ptr (.agg [.lit (.string [98, 97, 100, 32, 114, 117, 108, 101])]))
def laid_eden_api_BadWord {H : Type} : DataW H := .iface "*errors.errorString" (.ptr (.agg [.lit (.string [98, 97, 100, 32, 119, 111, 114, 100])]))
def laid_eden_api_BadArg {H : Type} : DataW H := .iface "*errors.errorString" (.ptr (.agg [.lit (.string [98, 97, 100, 32, 97, 114, 103, 117, 109, 101, 110, 116])]))
def laid_eden_api_TooBig {H : Type} : DataW H := .iface "*errors.errorString" (.ptr (.agg [.lit (.string [116, 111, 111, 32, 98, 105, 103])]))
def laid_eden_api_NoBudget {H : Type} : DataW H := .iface "*errors.errorString" (.ptr (.agg [.lit (.string [110, 111, 32, 98, 117, 100, 103, 101, 116])]))
def laid_eden_api_BadText {H : Type} : DataW H := .iface "*errors.errorString" (.ptr (.agg [.lit (.string [98, 97, 100, 32, 116, 101, 120, 116])]))
def laid_eden_api_BadPatch {H : Type} : DataW H := .iface "*errors.errorString" (.ptr (.agg [.lit (.string [98, 97, 100, 32, 112, 97, 116, 99, 104])]))
def laid_eden_api_BadCert {H : Type} : DataW H := .iface "*errors.errorString" (.ptr (.agg [.lit (.string [98, 97, 100, 32, 99, 101, 114, 116, 105, 102, 105, 99, 97, 116, 101])]))
def laid_eden_api_NoInverse {H : Type} : DataW H := .iface "*errors.errorString" (.ptr (.agg [.lit (.string [110, 111, 32, 105, 110, 118, 101, 114, 115, 101])]))
def laid_eden_api_BadLine {H : Type} : DataW H := .iface "*errors.errorString" (.ptr (.agg [.lit (.string [98, 97, 100, 32, 108, 105, 110, 101])]))
def laid_eden_api_BadState {H : Type} : DataW H := .iface "*errors.errorString" (.ptr (.agg [.lit (.string [98, 97, 100, 32, 115, 116, 97, 116, 101])]))
def laid_eden_api_Unknown {H : Type} : DataW H := .iface "*errors.errorString" (.ptr (.agg [.lit (.string [117, 110, 107, 110, 111, 119, 110])]))

/-- 'edenlaw08.OverBefore': WHATEVER THE INPUT: true; the input reads as it did. -/
def overBeforeSpec : ChangeSpec := { name := "overBefore", fn := fun _ => fun
  | [d1, d2, d3] => { results := [.lit (.bool true)], args := [d1, d2, d3] }
  | _ => none }
def overBeforeRow : OpenClaim := { program := "ytefhlonipglboaadoor", sum := "8c5eebd5bf746a234e928637bed3d59a3af940ac8486bc9bf23d852f591b49af", func := "eden/edenlaw08.OverBefore", spec := "overBefore", inPlace := ["internal/reflectlite.TypeOf", "internal/reflectlite.ValueOf", "(internal/reflectlite.Value).Type", "(internal/reflectlite.Value).IsNil", "(internal/reflectlite.Value).Elem", "(internal/reflectlite.Value).Set"], unfollowed := true, recurses := true, named := ["eden/api.BadRule", "eden/api.BadWord", "eden/api.BadArg", "eden/api.TooBig", "eden/api.NoBudget", "eden/api.BadText", "eden/api.BadPatch", "eden/api.BadCert", "eden/api.NoInverse", "eden/api.BadLine", "eden/api.BadState", "eden/api.Unknown", "errors.errorType"], apart := false, laid := [("errors.errorType", laid_errors_errorType), ("eden/api.BadRule", laid_eden_api_BadRule), ("eden/api.BadWord", laid_eden_api_BadWord), ("eden/api.BadArg", laid_eden_api_BadArg), ("eden/api.TooBig", laid_eden_api_TooBig), ("eden/api.NoBudget", laid_eden_api_NoBudget), ("eden/api.BadText", laid_eden_api_BadText), ("eden/api.BadPatch", laid_eden_api_BadPatch), ("eden/api.BadCert", laid_eden_api_BadCert), ("eden/api.NoInverse", laid_eden_api_NoInverse), ("eden/api.BadLine", laid_eden_api_BadLine), ("eden/api.BadState", laid_eden_api_BadState), ("eden/api.Unknown", laid_eden_api_Unknown)] }
def OverBeforeSaid : Prop := overBeforeRow.holds Tryd.pinned (OpenSpec.ofChange overBeforeSpec)

/-- ITS FALSE NEIGHBOUR: 'it returns false'. Refute it at one input. -/
def overBeforeWrong : ChangeSpec := { name := "overBefore", fn := fun _ => fun
  | [d1, d2, d3] => { results := [.lit (.bool false)], args := [d1, d2, d3] }
  | _ => none }
def OverBeforeWrongFalsely : Prop := overBeforeRow.holds Tryd.pinned (OpenSpec.ofChange overBeforeWrong)

/-- 'edenlaw08.OverEdges': WHATEVER THE INPUT: true; the input reads as it did. -/
def overEdgesSpec : ChangeSpec := { name := "overEdges", fn := fun _ => fun
  | [d1, d2, d3] => { results := [.lit (.bool true)], args := [d1, d2, d3] }
  | _ => none }
def overEdgesRow : OpenClaim := { program := "ytefhlonipglboaadoor", sum := "8c5eebd5bf746a234e928637bed3d59a3af940ac8486bc9bf23d852f591b49af", func := "eden/edenlaw08.OverEdges", spec := "overEdges", inPlace := ["internal/reflectlite.TypeOf", "internal/reflectlite.ValueOf", "(internal/reflectlite.Value).Type", "(internal/reflectlite.Value).IsNil", "(internal/reflectlite.Value).Elem", "(internal/reflectlite.Value).Set"], unfollowed := true, recurses := true, named := ["eden/api.BadRule", "eden/api.BadWord", "eden/api.BadArg", "eden/api.TooBig", "eden/api.NoBudget", "eden/api.BadText", "eden/api.BadPatch", "eden/api.BadCert", "eden/api.NoInverse", "eden/api.BadLine", "eden/api.BadState", "eden/api.Unknown", "errors.errorType"], apart := false, laid := [("errors.errorType", laid_errors_errorType), ("eden/api.BadRule", laid_eden_api_BadRule), ("eden/api.BadWord", laid_eden_api_BadWord), ("eden/api.BadArg", laid_eden_api_BadArg), ("eden/api.TooBig", laid_eden_api_TooBig), ("eden/api.NoBudget", laid_eden_api_NoBudget), ("eden/api.BadText", laid_eden_api_BadText), ("eden/api.BadPatch", laid_eden_api_BadPatch), ("eden/api.BadCert", laid_eden_api_BadCert), ("eden/api.NoInverse", laid_eden_api_NoInverse), ("eden/api.BadLine", laid_eden_api_BadLine), ("eden/api.BadState", laid_eden_api_BadState), ("eden/api.Unknown", laid_eden_api_Unknown)] }
def OverEdgesSaid : Prop := overEdgesRow.holds Tryd.pinned (OpenSpec.ofChange overEdgesSpec)

/-- ITS FALSE NEIGHBOUR: 'it returns false'. Refute it at one input. -/
def overEdgesWrong : ChangeSpec := { name := "overEdges", fn := fun _ => fun
  | [d1, d2, d3] => { results := [.lit (.bool false)], args := [d1, d2, d3] }
  | _ => none }
def OverEdgesWrongFalsely : Prop := overEdgesRow.holds Tryd.pinned (OpenSpec.ofChange overEdgesWrong)

/-- 'edenlaw08.OverPaths': WHATEVER THE INPUT: true; the input reads as it did. -/
def overPathsSpec : ChangeSpec := { name := "overPaths", fn := fun _ => fun
  | [d1, d2] => { results := [.lit (.bool true)], args := [d1, d2] }
  | _ => none }
def overPathsRow : OpenClaim := { program := "ytefhlonipglboaadoor", sum := "8c5eebd5bf746a234e928637bed3d59a3af940ac8486bc9bf23d852f591b49af", func := "eden/edenlaw08.OverPaths", spec := "overPaths", inPlace := ["internal/reflectlite.TypeOf", "internal/reflectlite.ValueOf", "(internal/reflectlite.Value).Type", "(internal/reflectlite.Value).IsNil", "(internal/reflectlite.Value).Elem", "(internal/reflectlite.Value).Set"], unfollowed := true, recurses := true, named := ["eden/api.BadRule", "eden/api.BadWord", "eden/api.BadArg", "eden/api.TooBig", "eden/api.NoBudget", "eden/api.BadText", "eden/api.BadPatch", "eden/api.BadCert", "eden/api.NoInverse", "eden/api.BadLine", "eden/api.BadState", "eden/api.Unknown", "errors.errorType"], apart := false, laid := [("errors.errorType", laid_errors_errorType), ("eden/api.BadRule", laid_eden_api_BadRule), ("eden/api.BadWord", laid_eden_api_BadWord), ("eden/api.BadArg", laid_eden_api_BadArg), ("eden/api.TooBig", laid_eden_api_TooBig), ("eden/api.NoBudget", laid_eden_api_NoBudget), ("eden/api.BadText", laid_eden_api_BadText), ("eden/api.BadPatch", laid_eden_api_BadPatch), ("eden/api.BadCert", laid_eden_api_BadCert), ("eden/api.NoInverse", laid_eden_api_NoInverse), ("eden/api.BadLine", laid_eden_api_BadLine), ("eden/api.BadState", laid_eden_api_BadState), ("eden/api.Unknown", laid_eden_api_Unknown)] }
def OverPathsSaid : Prop := overPathsRow.holds Tryd.pinned (OpenSpec.ofChange overPathsSpec)

/-- ITS FALSE NEIGHBOUR: 'it returns false'. Refute it at one input. -/
def overPathsWrong : ChangeSpec := { name := "overPaths", fn := fun _ => fun
  | [d1, d2] => { results := [.lit (.bool false)], args := [d1, d2] }
  | _ => none }
def OverPathsWrongFalsely : Prop := overPathsRow.holds Tryd.pinned (OpenSpec.ofChange overPathsWrong)

/-- 'edenlaw04.RuleChecks': WHATEVER THE INPUT: true; the input reads as it did. -/
def ruleChecksSpec : ChangeSpec := { name := "ruleChecks", fn := fun _ => fun
  | [d1, d2, d3] => { results := [.lit (.bool true)], args := [d1, d2, d3] }
  | _ => none }
def ruleChecksRow : OpenClaim := { program := "ytefhlonipglboaadoor", sum := "8c5eebd5bf746a234e928637bed3d59a3af940ac8486bc9bf23d852f591b49af", func := "eden/edenlaw04.RuleChecks", spec := "ruleChecks", inPlace := ["internal/reflectlite.TypeOf", "internal/reflectlite.ValueOf", "(internal/reflectlite.Value).Type", "(internal/reflectlite.Value).IsNil", "(internal/reflectlite.Value).Elem", "(internal/reflectlite.Value).Set"], unfollowed := true, recurses := true, named := ["eden/api.BadRule", "eden/api.BadWord", "eden/api.BadArg", "eden/api.TooBig", "eden/api.NoBudget", "eden/api.BadText", "eden/api.BadPatch", "eden/api.BadCert", "eden/api.NoInverse", "eden/api.BadLine", "eden/api.BadState", "eden/api.Unknown", "math/bits.overflowError", "errors.errorType"], apart := false, laid := [("errors.errorType", laid_errors_errorType), ("eden/api.BadRule", laid_eden_api_BadRule), ("eden/api.BadWord", laid_eden_api_BadWord), ("eden/api.BadArg", laid_eden_api_BadArg), ("eden/api.TooBig", laid_eden_api_TooBig), ("eden/api.NoBudget", laid_eden_api_NoBudget), ("eden/api.BadText", laid_eden_api_BadText), ("eden/api.BadPatch", laid_eden_api_BadPatch), ("eden/api.BadCert", laid_eden_api_BadCert), ("eden/api.NoInverse", laid_eden_api_NoInverse), ("eden/api.BadLine", laid_eden_api_BadLine), ("eden/api.BadState", laid_eden_api_BadState), ("eden/api.Unknown", laid_eden_api_Unknown)] }
def RuleChecksSaid : Prop := ruleChecksRow.holds Tryd.pinned (OpenSpec.ofChange ruleChecksSpec)

/-- ITS FALSE NEIGHBOUR: 'it returns false'. Refute it at one input. -/
def ruleChecksWrong : ChangeSpec := { name := "ruleChecks", fn := fun _ => fun
  | [d1, d2, d3] => { results := [.lit (.bool false)], args := [d1, d2, d3] }
  | _ => none }
def RuleChecksWrongFalsely : Prop := ruleChecksRow.holds Tryd.pinned (OpenSpec.ofChange ruleChecksWrong)

/-- 'edenlaw04.RuleSteps': WHATEVER THE INPUT: true; the input reads as it did. -/
def ruleStepsSpec : ChangeSpec := { name := "ruleSteps", fn := fun _ => fun
  | [d1, d2, d3] => { results := [.lit (.bool true)], args := [d1, d2, d3] }
  | _ => none }
def ruleStepsRow : OpenClaim := { program := "ytefhlonipglboaadoor", sum := "8c5eebd5bf746a234e928637bed3d59a3af940ac8486bc9bf23d852f591b49af", func := "eden/edenlaw04.RuleSteps", spec := "ruleSteps", inPlace := ["internal/reflectlite.TypeOf", "internal/reflectlite.ValueOf", "(internal/reflectlite.Value).Type", "(internal/reflectlite.Value).IsNil", "(internal/reflectlite.Value).Elem", "(internal/reflectlite.Value).Set"], unfollowed := true, recurses := true, named := ["eden/api.BadRule", "eden/api.BadWord", "eden/api.BadArg", "eden/api.TooBig", "eden/api.NoBudget", "eden/api.BadText", "eden/api.BadPatch", "eden/api.BadCert", "eden/api.NoInverse", "eden/api.BadLine", "eden/api.BadState", "eden/api.Unknown", "math/bits.overflowError", "errors.errorType"], apart := false, laid := [("errors.errorType", laid_errors_errorType), ("eden/api.BadRule", laid_eden_api_BadRule), ("eden/api.BadWord", laid_eden_api_BadWord), ("eden/api.BadArg", laid_eden_api_BadArg), ("eden/api.TooBig", laid_eden_api_TooBig), ("eden/api.NoBudget", laid_eden_api_NoBudget), ("eden/api.BadText", laid_eden_api_BadText), ("eden/api.BadPatch", laid_eden_api_BadPatch), ("eden/api.BadCert", laid_eden_api_BadCert), ("eden/api.NoInverse", laid_eden_api_NoInverse), ("eden/api.BadLine", laid_eden_api_BadLine), ("eden/api.BadState", laid_eden_api_BadState), ("eden/api.Unknown", laid_eden_api_Unknown)] }
def RuleStepsSaid : Prop := ruleStepsRow.holds Tryd.pinned (OpenSpec.ofChange ruleStepsSpec)

/-- ITS FALSE NEIGHBOUR: 'it returns false'. Refute it at one input. -/
def ruleStepsWrong : ChangeSpec := { name := "ruleSteps", fn := fun _ => fun
  | [d1, d2, d3] => { results := [.lit (.bool false)], args := [d1, d2, d3] }
  | _ => none }
def RuleStepsWrongFalsely : Prop := ruleStepsRow.holds Tryd.pinned (OpenSpec.ofChange ruleStepsWrong)

/-- 'edenlaw10.SubsetOntos': WHATEVER THE INPUT: true; the input reads as it did. -/
def subsetOntosSpec : ChangeSpec := { name := "subsetOntos", fn := fun _ => fun
  | [d] => { results := [.lit (.bool true)], args := [d] }
  | _ => none }
def subsetOntosRow : OpenClaim := { program := "ytefhlonipglboaadoor", sum := "8c5eebd5bf746a234e928637bed3d59a3af940ac8486bc9bf23d852f591b49af", func := "eden/edenlaw10.SubsetOntos", spec := "subsetOntos", inPlace := ["internal/reflectlite.ValueOf", "(internal/reflectlite.Value).Type", "(internal/reflectlite.Value).IsNil", "internal/reflectlite.TypeOf", "(internal/reflectlite.Value).Elem", "(internal/reflectlite.Value).Set"], unfollowed := true, recurses := true, named := ["eden/api.BadRule", "eden/api.BadWord", "eden/api.BadArg", "eden/api.TooBig", "eden/api.NoBudget", "eden/api.BadText", "eden/api.BadPatch", "eden/api.BadCert", "eden/api.NoInverse", "eden/api.BadLine", "eden/api.BadState", "eden/api.Unknown", "errors.errorType"], apart := false, laid := [("errors.errorType", laid_errors_errorType), ("eden/api.BadRule", laid_eden_api_BadRule), ("eden/api.BadWord", laid_eden_api_BadWord), ("eden/api.BadArg", laid_eden_api_BadArg), ("eden/api.TooBig", laid_eden_api_TooBig), ("eden/api.NoBudget", laid_eden_api_NoBudget), ("eden/api.BadText", laid_eden_api_BadText), ("eden/api.BadPatch", laid_eden_api_BadPatch), ("eden/api.BadCert", laid_eden_api_BadCert), ("eden/api.NoInverse", laid_eden_api_NoInverse), ("eden/api.BadLine", laid_eden_api_BadLine), ("eden/api.BadState", laid_eden_api_BadState), ("eden/api.Unknown", laid_eden_api_Unknown)] }
def SubsetOntosSaid : Prop := subsetOntosRow.holds Tryd.pinned (OpenSpec.ofChange subsetOntosSpec)

/-- ITS FALSE NEIGHBOUR: 'it returns false'. Refute it at one input. -/
def subsetOntosWrong : ChangeSpec := { name := "subsetOntos", fn := fun _ => fun
  | [d] => { results := [.lit (.bool false)], args := [d] }
  | _ => none }
def SubsetOntosWrongFalsely : Prop := subsetOntosRow.holds Tryd.pinned (OpenSpec.ofChange subsetOntosWrong)

/-- 'edenlaw04.RuleCodes': WHATEVER THE INPUT: true; the input reads as it did. -/
def ruleCodesSpec : ChangeSpec := { name := "ruleCodes", fn := fun _ => fun
  | [d1, d2, d3, d4] => { results := [.lit (.bool true)], args := [d1, d2, d3, d4] }
  | _ => none }
def ruleCodesRow : OpenClaim := { program := "ytefhlonipglboaadoor", sum := "8c5eebd5bf746a234e928637bed3d59a3af940ac8486bc9bf23d852f591b49af", func := "eden/edenlaw04.RuleCodes", spec := "ruleCodes", inPlace := ["internal/reflectlite.TypeOf", "internal/reflectlite.ValueOf", "(internal/reflectlite.Value).Type", "(internal/reflectlite.Value).IsNil", "(internal/reflectlite.Value).Elem", "(internal/reflectlite.Value).Set"], unfollowed := true, recurses := true, named := ["eden/api.BadRule", "eden/api.BadWord", "eden/api.BadArg", "eden/api.TooBig", "eden/api.NoBudget", "eden/api.BadText", "eden/api.BadPatch", "eden/api.BadCert", "eden/api.NoInverse", "eden/api.BadLine", "eden/api.BadState", "eden/api.Unknown", "math/bits.overflowError", "errors.errorType"], apart := false, laid := [("errors.errorType", laid_errors_errorType), ("eden/api.BadRule", laid_eden_api_BadRule), ("eden/api.BadWord", laid_eden_api_BadWord), ("eden/api.BadArg", laid_eden_api_BadArg), ("eden/api.TooBig", laid_eden_api_TooBig), ("eden/api.NoBudget", laid_eden_api_NoBudget), ("eden/api.BadText", laid_eden_api_BadText), ("eden/api.BadPatch", laid_eden_api_BadPatch), ("eden/api.BadCert", laid_eden_api_BadCert), ("eden/api.NoInverse", laid_eden_api_NoInverse), ("eden/api.BadLine", laid_eden_api_BadLine), ("eden/api.BadState", laid_eden_api_BadState), ("eden/api.Unknown", laid_eden_api_Unknown)] }
def RuleCodesSaid : Prop := ruleCodesRow.holds Tryd.pinned (OpenSpec.ofChange ruleCodesSpec)

/-- ITS FALSE NEIGHBOUR: 'it returns false'. Refute it at one input. -/
def ruleCodesWrong : ChangeSpec := { name := "ruleCodes", fn := fun _ => fun
  | [d1, d2, d3, d4] => { results := [.lit (.bool false)], args := [d1, d2, d3, d4] }
  | _ => none }
def RuleCodesWrongFalsely : Prop := ruleCodesRow.holds Tryd.pinned (OpenSpec.ofChange ruleCodesWrong)

/-- 'edenlaw10.SubsetWalks': WHATEVER THE INPUT: true; the input reads as it did. -/
def subsetWalksSpec : ChangeSpec := { name := "subsetWalks", fn := fun _ => fun
  | [d] => { results := [.lit (.bool true)], args := [d] }
  | _ => none }
def subsetWalksRow : OpenClaim := { program := "ytefhlonipglboaadoor", sum := "8c5eebd5bf746a234e928637bed3d59a3af940ac8486bc9bf23d852f591b49af", func := "eden/edenlaw10.SubsetWalks", spec := "subsetWalks", inPlace := ["internal/reflectlite.ValueOf", "(internal/reflectlite.Value).Type", "(internal/reflectlite.Value).IsNil", "internal/reflectlite.TypeOf", "(internal/reflectlite.Value).Elem", "(internal/reflectlite.Value).Set"], unfollowed := true, recurses := true, named := ["eden/api.BadRule", "eden/api.BadWord", "eden/api.BadArg", "eden/api.TooBig", "eden/api.NoBudget", "eden/api.BadText", "eden/api.BadPatch", "eden/api.BadCert", "eden/api.NoInverse", "eden/api.BadLine", "eden/api.BadState", "eden/api.Unknown", "errors.errorType"], apart := false, laid := [("errors.errorType", laid_errors_errorType), ("eden/api.BadRule", laid_eden_api_BadRule), ("eden/api.BadWord", laid_eden_api_BadWord), ("eden/api.BadArg", laid_eden_api_BadArg), ("eden/api.TooBig", laid_eden_api_TooBig), ("eden/api.NoBudget", laid_eden_api_NoBudget), ("eden/api.BadText", laid_eden_api_BadText), ("eden/api.BadPatch", laid_eden_api_BadPatch), ("eden/api.BadCert", laid_eden_api_BadCert), ("eden/api.NoInverse", laid_eden_api_NoInverse), ("eden/api.BadLine", laid_eden_api_BadLine), ("eden/api.BadState", laid_eden_api_BadState), ("eden/api.Unknown", laid_eden_api_Unknown)] }
def SubsetWalksSaid : Prop := subsetWalksRow.holds Tryd.pinned (OpenSpec.ofChange subsetWalksSpec)

/-- ITS FALSE NEIGHBOUR: 'it returns false'. Refute it at one input. -/
def subsetWalksWrong : ChangeSpec := { name := "subsetWalks", fn := fun _ => fun
  | [d] => { results := [.lit (.bool false)], args := [d] }
  | _ => none }
def SubsetWalksWrongFalsely : Prop := subsetWalksRow.holds Tryd.pinned (OpenSpec.ofChange subsetWalksWrong)

/-- 'edenlaw03.WordAll': WHATEVER THE INPUT: true; the input reads as it did. -/
def wordAllSpec : ChangeSpec := { name := "wordAll", fn := fun _ => fun
  | [d] => { results := [.lit (.bool true)], args := [d] }
  | _ => none }
def wordAllRow : OpenClaim := { program := "ytefhlonipglboaadoor", sum := "8c5eebd5bf746a234e928637bed3d59a3af940ac8486bc9bf23d852f591b49af", func := "eden/edenlaw03.WordAll", spec := "wordAll", inPlace := ["internal/reflectlite.TypeOf", "internal/reflectlite.ValueOf", "(internal/reflectlite.Value).Type", "(internal/reflectlite.Value).IsNil", "(internal/reflectlite.Value).Elem", "(internal/reflectlite.Value).Set"], unfollowed := true, recurses := true, named := ["eden/api.BadRule", "eden/api.BadWord", "eden/api.BadArg", "eden/api.TooBig", "eden/api.NoBudget", "eden/api.BadText", "eden/api.BadPatch", "eden/api.BadCert", "eden/api.NoInverse", "eden/api.BadLine", "eden/api.BadState", "eden/api.Unknown", "errors.errorType", "math/bits.overflowError"], apart := false, laid := [("errors.errorType", laid_errors_errorType), ("eden/api.BadRule", laid_eden_api_BadRule), ("eden/api.BadWord", laid_eden_api_BadWord), ("eden/api.BadArg", laid_eden_api_BadArg), ("eden/api.TooBig", laid_eden_api_TooBig), ("eden/api.NoBudget", laid_eden_api_NoBudget), ("eden/api.BadText", laid_eden_api_BadText), ("eden/api.BadPatch", laid_eden_api_BadPatch), ("eden/api.BadCert", laid_eden_api_BadCert), ("eden/api.NoInverse", laid_eden_api_NoInverse), ("eden/api.BadLine", laid_eden_api_BadLine), ("eden/api.BadState", laid_eden_api_BadState), ("eden/api.Unknown", laid_eden_api_Unknown)] }
def WordAllSaid : Prop := wordAllRow.holds Tryd.pinned (OpenSpec.ofChange wordAllSpec)

/-- ITS FALSE NEIGHBOUR: 'it returns false'. Refute it at one input. -/
def wordAllWrong : ChangeSpec := { name := "wordAll", fn := fun _ => fun
  | [d] => { results := [.lit (.bool false)], args := [d] }
  | _ => none }
def WordAllWrongFalsely : Prop := wordAllRow.holds Tryd.pinned (OpenSpec.ofChange wordAllWrong)

/- THE SECOND FORM. 'bulk': how many values and letters a reading holds, each counted each time it is reached (what is shared counts as often as it is met; a slice's spare places count too). A statement '..UptoSaid' is the law's where the arguments, and the package variables that the reading takes, are together of bulk at most 1048576: NARROWER than '..Said'. Prove '..Said' where nothing that the law and all that it calls make is longer than what came in: it says more and counts as full. Else prove '..UptoSaid'. A law counts once. -/
mutual
def uptoBulk {H : Type} : DataW H → Nat
  | .lit (.string bytes) => bytes.length + 1
  | .lit _ => 1
  | .nil => 1
  | .ptr d => uptoBulk d + 1
  | .slice elems spare => uptoBulkAll elems + uptoBulkAll spare + 1
  | .agg parts => uptoBulkAll parts + 1
  | .iface _ d => uptoBulk d + 1
  | .map entries => uptoBulkEntries entries + 1
  | .held _ => 1
def uptoBulkAll {H : Type} : List (DataW H) → Nat
  | [] => 0
  | d :: r => uptoBulk d + uptoBulkAll r
def uptoBulkEntries {H : Type} : List (Lit × DataW H) → Nat
  | [] => 0
  | x :: r => uptoBulkEntry x + uptoBulkEntries r
def uptoBulkEntry {H : Type} : Lit × DataW H → Nat
  | (.string bytes, d) => bytes.length + uptoBulk d + 1
  | (_, d) => uptoBulk d + 1
 end
def uptoSmall : (H : Type) → List (DataW H) → Bool := fun _ ds => decide (uptoBulkAll ds ≤ 1048576)
def OpenSpec.upto (s : _root_.Go.ChangeSpec) : _root_.Go.OpenSpec := { _root_.Go.OpenSpec.ofChange s with cond := some uptoSmall }

/-- 'edenlaw08.OverBefore', WHERE WHAT IT READS IS OF BULK AT MOST 1048576: true; the input reads as it did. -/
def overBeforeUptoRow : OpenClaim := { program := "ytefhlonipglboaadoor", sum := "8c5eebd5bf746a234e928637bed3d59a3af940ac8486bc9bf23d852f591b49af", func := "eden/edenlaw08.OverBefore", spec := "overBefore", inPlace := ["internal/reflectlite.TypeOf", "internal/reflectlite.ValueOf", "(internal/reflectlite.Value).Type", "(internal/reflectlite.Value).IsNil", "(internal/reflectlite.Value).Elem", "(internal/reflectlite.Value).Set"], unfollowed := true, recurses := true, named := ["eden/api.BadRule", "eden/api.BadWord", "eden/api.BadArg", "eden/api.TooBig", "eden/api.NoBudget", "eden/api.BadText", "eden/api.BadPatch", "eden/api.BadCert", "eden/api.NoInverse", "eden/api.BadLine", "eden/api.BadState", "eden/api.Unknown", "errors.errorType"], apart := false, laid := [("errors.errorType", laid_errors_errorType), ("eden/api.BadRule", laid_eden_api_BadRule), ("eden/api.BadWord", laid_eden_api_BadWord), ("eden/api.BadArg", laid_eden_api_BadArg), ("eden/api.TooBig", laid_eden_api_TooBig), ("eden/api.NoBudget", laid_eden_api_NoBudget), ("eden/api.BadText", laid_eden_api_BadText), ("eden/api.BadPatch", laid_eden_api_BadPatch), ("eden/api.BadCert", laid_eden_api_BadCert), ("eden/api.NoInverse", laid_eden_api_NoInverse), ("eden/api.BadLine", laid_eden_api_BadLine), ("eden/api.BadState", laid_eden_api_BadState), ("eden/api.Unknown", laid_eden_api_Unknown)], narrowed := true }
def OverBeforeUptoSaid : Prop := overBeforeUptoRow.holds Tryd.pinned (OpenSpec.upto overBeforeSpec)

/-- 'edenlaw08.OverEdges', WHERE WHAT IT READS IS OF BULK AT MOST 1048576: true; the input reads as it did. -/
def overEdgesUptoRow : OpenClaim := { program := "ytefhlonipglboaadoor", sum := "8c5eebd5bf746a234e928637bed3d59a3af940ac8486bc9bf23d852f591b49af", func := "eden/edenlaw08.OverEdges", spec := "overEdges", inPlace := ["internal/reflectlite.TypeOf", "internal/reflectlite.ValueOf", "(internal/reflectlite.Value).Type", "(internal/reflectlite.Value).IsNil", "(internal/reflectlite.Value).Elem", "(internal/reflectlite.Value).Set"], unfollowed := true, recurses := true, named := ["eden/api.BadRule", "eden/api.BadWord", "eden/api.BadArg", "eden/api.TooBig", "eden/api.NoBudget", "eden/api.BadText", "eden/api.BadPatch", "eden/api.BadCert", "eden/api.NoInverse", "eden/api.BadLine", "eden/api.BadState", "eden/api.Unknown", "errors.errorType"], apart := false, laid := [("errors.errorType", laid_errors_errorType), ("eden/api.BadRule", laid_eden_api_BadRule), ("eden/api.BadWord", laid_eden_api_BadWord), ("eden/api.BadArg", laid_eden_api_BadArg), ("eden/api.TooBig", laid_eden_api_TooBig), ("eden/api.NoBudget", laid_eden_api_NoBudget), ("eden/api.BadText", laid_eden_api_BadText), ("eden/api.BadPatch", laid_eden_api_BadPatch), ("eden/api.BadCert", laid_eden_api_BadCert), ("eden/api.NoInverse", laid_eden_api_NoInverse), ("eden/api.BadLine", laid_eden_api_BadLine), ("eden/api.BadState", laid_eden_api_BadState), ("eden/api.Unknown", laid_eden_api_Unknown)], narrowed := true }
def OverEdgesUptoSaid : Prop := overEdgesUptoRow.holds Tryd.pinned (OpenSpec.upto overEdgesSpec)

/-- 'edenlaw08.OverPaths', WHERE WHAT IT READS IS OF BULK AT MOST 1048576: true; the input reads as it did. -/
def overPathsUptoRow : OpenClaim := { program := "ytefhlonipglboaadoor", sum := "8c5eebd5bf746a234e928637bed3d59a3af940ac8486bc9bf23d852f591b49af", func := "eden/edenlaw08.OverPaths", spec := "overPaths", inPlace := ["internal/reflectlite.TypeOf", "internal/reflectlite.ValueOf", "(internal/reflectlite.Value).Type", "(internal/reflectlite.Value).IsNil", "(internal/reflectlite.Value).Elem", "(internal/reflectlite.Value).Set"], unfollowed := true, recurses := true, named := ["eden/api.BadRule", "eden/api.BadWord", "eden/api.BadArg", "eden/api.TooBig", "eden/api.NoBudget", "eden/api.BadText", "eden/api.BadPatch", "eden/api.BadCert", "eden/api.NoInverse", "eden/api.BadLine", "eden/api.BadState", "eden/api.Unknown", "errors.errorType"], apart := false, laid := [("errors.errorType", laid_errors_errorType), ("eden/api.BadRule", laid_eden_api_BadRule), ("eden/api.BadWord", laid_eden_api_BadWord), ("eden/api.BadArg", laid_eden_api_BadArg), ("eden/api.TooBig", laid_eden_api_TooBig), ("eden/api.NoBudget", laid_eden_api_NoBudget), ("eden/api.BadText", laid_eden_api_BadText), ("eden/api.BadPatch", laid_eden_api_BadPatch), ("eden/api.BadCert", laid_eden_api_BadCert), ("eden/api.NoInverse", laid_eden_api_NoInverse), ("eden/api.BadLine", laid_eden_api_BadLine), ("eden/api.BadState", laid_eden_api_BadState), ("eden/api.Unknown", laid_eden_api_Unknown)], narrowed := true }
def OverPathsUptoSaid : Prop := overPathsUptoRow.holds Tryd.pinned (OpenSpec.upto overPathsSpec)

/-- 'edenlaw04.RuleChecks', WHERE WHAT IT READS IS OF BULK AT MOST 1048576: true; the input reads as it did. -/
def ruleChecksUptoRow : OpenClaim := { program := "ytefhlonipglboaadoor", sum := "8c5eebd5bf746a234e928637bed3d59a3af940ac8486bc9bf23d852f591b49af", func := "eden/edenlaw04.RuleChecks", spec := "ruleChecks", inPlace := ["internal/reflectlite.TypeOf", "internal/reflectlite.ValueOf", "(internal/reflectlite.Value).Type", "(internal/reflectlite.Value).IsNil", "(internal/reflectlite.Value).Elem", "(internal/reflectlite.Value).Set"], unfollowed := true, recurses := true, named := ["eden/api.BadRule", "eden/api.BadWord", "eden/api.BadArg", "eden/api.TooBig", "eden/api.NoBudget", "eden/api.BadText", "eden/api.BadPatch", "eden/api.BadCert", "eden/api.NoInverse", "eden/api.BadLine", "eden/api.BadState", "eden/api.Unknown", "math/bits.overflowError", "errors.errorType"], apart := false, laid := [("errors.errorType", laid_errors_errorType), ("eden/api.BadRule", laid_eden_api_BadRule), ("eden/api.BadWord", laid_eden_api_BadWord), ("eden/api.BadArg", laid_eden_api_BadArg), ("eden/api.TooBig", laid_eden_api_TooBig), ("eden/api.NoBudget", laid_eden_api_NoBudget), ("eden/api.BadText", laid_eden_api_BadText), ("eden/api.BadPatch", laid_eden_api_BadPatch), ("eden/api.BadCert", laid_eden_api_BadCert), ("eden/api.NoInverse", laid_eden_api_NoInverse), ("eden/api.BadLine", laid_eden_api_BadLine), ("eden/api.BadState", laid_eden_api_BadState), ("eden/api.Unknown", laid_eden_api_Unknown)], narrowed := true }
def RuleChecksUptoSaid : Prop := ruleChecksUptoRow.holds Tryd.pinned (OpenSpec.upto ruleChecksSpec)

/-- 'edenlaw04.RuleSteps', WHERE WHAT IT READS IS OF BULK AT MOST 1048576: true; the input reads as it did. -/
def ruleStepsUptoRow : OpenClaim := { program := "ytefhlonipglboaadoor", sum := "8c5eebd5bf746a234e928637bed3d59a3af940ac8486bc9bf23d852f591b49af", func := "eden/edenlaw04.RuleSteps", spec := "ruleSteps", inPlace := ["internal/reflectlite.TypeOf", "internal/reflectlite.ValueOf", "(internal/reflectlite.Value).Type", "(internal/reflectlite.Value).IsNil", "(internal/reflectlite.Value).Elem", "(internal/reflectlite.Value).Set"], unfollowed := true, recurses := true, named := ["eden/api.BadRule", "eden/api.BadWord", "eden/api.BadArg", "eden/api.TooBig", "eden/api.NoBudget", "eden/api.BadText", "eden/api.BadPatch", "eden/api.BadCert", "eden/api.NoInverse", "eden/api.BadLine", "eden/api.BadState", "eden/api.Unknown", "math/bits.overflowError", "errors.errorType"], apart := false, laid := [("errors.errorType", laid_errors_errorType), ("eden/api.BadRule", laid_eden_api_BadRule), ("eden/api.BadWord", laid_eden_api_BadWord), ("eden/api.BadArg", laid_eden_api_BadArg), ("eden/api.TooBig", laid_eden_api_TooBig), ("eden/api.NoBudget", laid_eden_api_NoBudget), ("eden/api.BadText", laid_eden_api_BadText), ("eden/api.BadPatch", laid_eden_api_BadPatch), ("eden/api.BadCert", laid_eden_api_BadCert), ("eden/api.NoInverse", laid_eden_api_NoInverse), ("eden/api.BadLine", laid_eden_api_BadLine), ("eden/api.BadState", laid_eden_api_BadState), ("eden/api.Unknown", laid_eden_api_Unknown)], narrowed := true }
def RuleStepsUptoSaid : Prop := ruleStepsUptoRow.holds Tryd.pinned (OpenSpec.upto ruleStepsSpec)

/-- 'edenlaw10.SubsetOntos', WHERE WHAT IT READS IS OF BULK AT MOST 1048576: true; the input reads as it did. -/
def subsetOntosUptoRow : OpenClaim := { program := "ytefhlonipglboaadoor", sum := "8c5eebd5bf746a234e928637bed3d59a3af940ac8486bc9bf23d852f591b49af", func := "eden/edenlaw10.SubsetOntos", spec := "subsetOntos", inPlace := ["internal/reflectlite.ValueOf", "(internal/reflectlite.Value).Type", "(internal/reflectlite.Value).IsNil", "internal/reflectlite.TypeOf", "(internal/reflectlite.Value).Elem", "(internal/reflectlite.Value).Set"], unfollowed := true, recurses := true, named := ["eden/api.BadRule", "eden/api.BadWord", "eden/api.BadArg", "eden/api.TooBig", "eden/api.NoBudget", "eden/api.BadText", "eden/api.BadPatch", "eden/api.BadCert", "eden/api.NoInverse", "eden/api.BadLine", "eden/api.BadState", "eden/api.Unknown", "errors.errorType"], apart := false, laid := [("errors.errorType", laid_errors_errorType), ("eden/api.BadRule", laid_eden_api_BadRule), ("eden/api.BadWord", laid_eden_api_BadWord), ("eden/api.BadArg", laid_eden_api_BadArg), ("eden/api.TooBig", laid_eden_api_TooBig), ("eden/api.NoBudget", laid_eden_api_NoBudget), ("eden/api.BadText", laid_eden_api_BadText), ("eden/api.BadPatch", laid_eden_api_BadPatch), ("eden/api.BadCert", laid_eden_api_BadCert), ("eden/api.NoInverse", laid_eden_api_NoInverse), ("eden/api.BadLine", laid_eden_api_BadLine), ("eden/api.BadState", laid_eden_api_BadState), ("eden/api.Unknown", laid_eden_api_Unknown)], narrowed := true }
def SubsetOntosUptoSaid : Prop := subsetOntosUptoRow.holds Tryd.pinned (OpenSpec.upto subsetOntosSpec)

/-- 'edenlaw04.RuleCodes', WHERE WHAT IT READS IS OF BULK AT MOST 1048576: true; the input reads as it did. -/
def ruleCodesUptoRow : OpenClaim := { program := "ytefhlonipglboaadoor", sum := "8c5eebd5bf746a234e928637bed3d59a3af940ac8486bc9bf23d852f591b49af", func := "eden/edenlaw04.RuleCodes", spec := "ruleCodes", inPlace := ["internal/reflectlite.TypeOf", "internal/reflectlite.ValueOf", "(internal/reflectlite.Value).Type", "(internal/reflectlite.Value).IsNil", "(internal/reflectlite.Value).Elem", "(internal/reflectlite.Value).Set"], unfollowed := true, recurses := true, named := ["eden/api.BadRule", "eden/api.BadWord", "eden/api.BadArg", "eden/api.TooBig", "eden/api.NoBudget", "eden/api.BadText", "eden/api.BadPatch", "eden/api.BadCert", "eden/api.NoInverse", "eden/api.BadLine", "eden/api.BadState", "eden/api.Unknown", "math/bits.overflowError", "errors.errorType"], apart := false, laid := [("errors.errorType", laid_errors_errorType), ("eden/api.BadRule", laid_eden_api_BadRule), ("eden/api.BadWord", laid_eden_api_BadWord), ("eden/api.BadArg", laid_eden_api_BadArg), ("eden/api.TooBig", laid_eden_api_TooBig), ("eden/api.NoBudget", laid_eden_api_NoBudget), ("eden/api.BadText", laid_eden_api_BadText), ("eden/api.BadPatch", laid_eden_api_BadPatch), ("eden/api.BadCert", laid_eden_api_BadCert), ("eden/api.NoInverse", laid_eden_api_NoInverse), ("eden/api.BadLine", laid_eden_api_BadLine), ("eden/api.BadState", laid_eden_api_BadState), ("eden/api.Unknown", laid_eden_api_Unknown)], narrowed := true }
def RuleCodesUptoSaid : Prop := ruleCodesUptoRow.holds Tryd.pinned (OpenSpec.upto ruleCodesSpec)

/-- 'edenlaw10.SubsetWalks', WHERE WHAT IT READS IS OF BULK AT MOST 1048576: true; the input reads as it did. -/
def subsetWalksUptoRow : OpenClaim := { program := "ytefhlonipglboaadoor", sum := "8c5eebd5bf746a234e928637bed3d59a3af940ac8486bc9bf23d852f591b49af", func := "eden/edenlaw10.SubsetWalks", spec := "subsetWalks", inPlace := ["internal/reflectlite.ValueOf", "(internal/reflectlite.Value).Type", "(internal/reflectlite.Value).IsNil", "internal/reflectlite.TypeOf", "(internal/reflectlite.Value).Elem", "(internal/reflectlite.Value).Set"], unfollowed := true, recurses := true, named := ["eden/api.BadRule", "eden/api.BadWord", "eden/api.BadArg", "eden/api.TooBig", "eden/api.NoBudget", "eden/api.BadText", "eden/api.BadPatch", "eden/api.BadCert", "eden/api.NoInverse", "eden/api.BadLine", "eden/api.BadState", "eden/api.Unknown", "errors.errorType"], apart := false, laid := [("errors.errorType", laid_errors_errorType), ("eden/api.BadRule", laid_eden_api_BadRule), ("eden/api.BadWord", laid_eden_api_BadWord), ("eden/api.BadArg", laid_eden_api_BadArg), ("eden/api.TooBig", laid_eden_api_TooBig), ("eden/api.NoBudget", laid_eden_api_NoBudget), ("eden/api.BadText", laid_eden_api_BadText), ("eden/api.BadPatch", laid_eden_api_BadPatch), ("eden/api.BadCert", laid_eden_api_BadCert), ("eden/api.NoInverse", laid_eden_api_NoInverse), ("eden/api.BadLine", laid_eden_api_BadLine), ("eden/api.BadState", laid_eden_api_BadState), ("eden/api.Unknown", laid_eden_api_Unknown)], narrowed := true }
def SubsetWalksUptoSaid : Prop := subsetWalksUptoRow.holds Tryd.pinned (OpenSpec.upto subsetWalksSpec)

/-- 'edenlaw03.WordAll', WHERE WHAT IT READS IS OF BULK AT MOST 1048576: true; the input reads as it did. -/
def wordAllUptoRow : OpenClaim := { program := "ytefhlonipglboaadoor", sum := "8c5eebd5bf746a234e928637bed3d59a3af940ac8486bc9bf23d852f591b49af", func := "eden/edenlaw03.WordAll", spec := "wordAll", inPlace := ["internal/reflectlite.TypeOf", "internal/reflectlite.ValueOf", "(internal/reflectlite.Value).Type", "(internal/reflectlite.Value).IsNil", "(internal/reflectlite.Value).Elem", "(internal/reflectlite.Value).Set"], unfollowed := true, recurses := true, named := ["eden/api.BadRule", "eden/api.BadWord", "eden/api.BadArg", "eden/api.TooBig", "eden/api.NoBudget", "eden/api.BadText", "eden/api.BadPatch", "eden/api.BadCert", "eden/api.NoInverse", "eden/api.BadLine", "eden/api.BadState", "eden/api.Unknown", "errors.errorType", "math/bits.overflowError"], apart := false, laid := [("errors.errorType", laid_errors_errorType), ("eden/api.BadRule", laid_eden_api_BadRule), ("eden/api.BadWord", laid_eden_api_BadWord), ("eden/api.BadArg", laid_eden_api_BadArg), ("eden/api.TooBig", laid_eden_api_TooBig), ("eden/api.NoBudget", laid_eden_api_NoBudget), ("eden/api.BadText", laid_eden_api_BadText), ("eden/api.BadPatch", laid_eden_api_BadPatch), ("eden/api.BadCert", laid_eden_api_BadCert), ("eden/api.NoInverse", laid_eden_api_NoInverse), ("eden/api.BadLine", laid_eden_api_BadLine), ("eden/api.BadState", laid_eden_api_BadState), ("eden/api.Unknown", laid_eden_api_Unknown)], narrowed := true }
def WordAllUptoSaid : Prop := wordAllUptoRow.holds Tryd.pinned (OpenSpec.upto wordAllSpec)

end Rows
end Go.Proofs.YtefhlonipglboaaDoor
