-- PRINTED by print.py (a twelfth state) out of the translation. Not trusted: Lean checks it.
import Derived.Test.YtefhlonipglboaaDoorProg
import Derived.Below
import Derived.Deep.Draws
import Derived.Deep.AppendLies
import Derived.Maps.AppendAt
import Derived.OwnWalk
import Derived.Laws.BytesArg
import Derived.Laws.MakeOwn
import Derived.Laws.OwnMore
import Derived.Deep.OwnRows
import Derived.Tactics
import Derived.Lib.ConvBytes
import Derived.Laws.Slices
import Derived.WalkKit
import Derived.KernelRfl
import Derived.RowKit3
import Derived.Deep.LoopGhost
import Derived.Deep.QuietTactic
import Derived.BigQuiet
import Derived.WideLaws
import Derived.Deep.DeepCutAuto
import Derived.Deep.CutBlock
import Derived.Deep.RegionHeld3
import Derived.Laws.Rows
import Derived.Lib.AppendStr
import Derived.ArgAppend
import Derived.Laws.IdiomCopy
import Derived.OrdersHeld
import Derived.Laws.BitsLemmas
import Derived.RowKit
import Derived.Test.YtefhlonipglboaaDoorWWords
import Derived.Test.YtefhlonipglboaaDoorWLast
import Derived.Test.YtefhlonipglboaaDoorWTab
import Derived.Test.YtefhlonipglboaaDoorWFour
import Derived.Test.YtefhlonipglboaaDoorWQPut
import Derived.Test.YtefhlonipglboaaDoorWApart
import Derived.Test.YtefhlonipglboaaDoorWArr
import Derived.Test.YtefhlonipglboaaDoorWZeros
import Derived.Test.YtefhlonipglboaaDoorWFoot
import Derived.Test.YtefhlonipglboaaDoorWKept
import Derived.Test.YtefhlonipglboaaDoorWShare
import Derived.Test.YtefhlonipglboaaDoorWN
import Derived.Test.YtefhlonipglboaaDoorWFootNe
import Derived.Test.YtefhlonipglboaaDoorWAt
import Derived.Test.YtefhlonipglboaaDoorWEqStruct
import Derived.Test.YtefhlonipglboaaDoorWRepsOne
import Derived.Test.YtefhlonipglboaaDoorWInv
import Derived.Test.YtefhlonipglboaaDoorWInvWords
import Derived.Test.YtefhlonipglboaaDoorWGuard
import Derived.Test.YtefhlonipglboaaDoorWNEv
import Derived.Test.YtefhlonipglboaaDoorWMore
namespace Go.Proofs.YtefhlonipglboaaDoor.GNat
open Go.RowKit Go.Proofs.YtefhlonipglboaaDoorW.PrintWords Go.Proofs.YtefhlonipglboaaDoorW.PrintLast Go.Proofs.YtefhlonipglboaaDoorW.PrintMore
attribute [local go_sem] max2_int min2_int max_two min_two max_three min_three max_four min_four   -- for this text's walks alone
set_option linter.unusedVariables false
set_option linter.unusedSimpArgs false



def errW : Option Int → Value
  | none => .nilIface
  | some c => .iface 0 (.int .i64 c)
theorem errW_none : errW none = .nilIface := rfl
theorem errW_some (c : Int) : errW (some c) = .iface 0 (.int .i64 c) := rfl

theorem info3 : (Tryd.prog.info? 3).map (fun i => (i.zero, i.size, i.bytes)) = some (some (.int .i64 0), 1, 8) := by kernel_rfl
theorem info9 : (Tryd.prog.info? 9).map (fun i => (i.zero, i.size, i.bytes)) = some (some (.string ⟨#[]⟩), 1, 16) := by kernel_rfl
theorem info152 : (Tryd.prog.info? 152).map (fun i => (i.zero, i.size, i.bytes)) = some (some (.int .u32 0), 1, 4) := by kernel_rfl
-- the values' own types

end Go.Proofs.YtefhlonipglboaaDoor.GNat
