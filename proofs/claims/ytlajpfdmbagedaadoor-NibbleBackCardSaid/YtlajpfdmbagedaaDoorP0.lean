/- What Go functions of the program come to: a Lean function and its contract for each. Written by a program of this session over the kit's printer, some contracts by hand. -/
import Derived.Test.YtlajpfdmbagedaaDoorProg
import Derived.Below
import Derived.Deep.Draws
import Derived.Deep.AppendLies
import Derived.Maps.AppendAt
import Derived.OwnWalk
import Derived.Laws.BytesArg
import Derived.Laws.MakeOwn
import Derived.Laws.OwnMore
import Derived.Deep.OwnRows
import Derived.Tactics
import Derived.Lib.ConvBytes
import Derived.Laws.Slices
import Derived.WalkKit
import Derived.KernelRfl
import Derived.RowKit3
import Derived.Deep.LoopGhost
import Derived.Deep.QuietTactic
import Derived.BigQuiet
import Derived.WideLaws
import Derived.Deep.DeepCutAuto
import Derived.Deep.CutBlock
import Derived.Deep.RegionHeld3
import Derived.Laws.Rows
import Derived.Lib.AppendStr
import Derived.ArgAppend
import Derived.Laws.IdiomCopy
import Derived.OrdersHeld
import Derived.Laws.BitsLemmas
import Derived.RowKit
import Derived.Test.YtlajpfdmbagedaaDoorOwn
import Derived.Test.YtlajpfdmbagedaaDoorOwnMake
import Derived.Lib.Hide
import Derived.Laws.EntriesVeiled
import Derived.Test.YtlajpfdmbagedaaDoorWWords
import Derived.Test.YtlajpfdmbagedaaDoorWLast
import Derived.Test.YtlajpfdmbagedaaDoorWTab
import Derived.Test.YtlajpfdmbagedaaDoorWFour
import Derived.Test.YtlajpfdmbagedaaDoorWQPut
import Derived.Test.YtlajpfdmbagedaaDoorWApart
import Derived.Test.YtlajpfdmbagedaaDoorWArr
import Derived.Test.YtlajpfdmbagedaaDoorWZeros
import Derived.Test.YtlajpfdmbagedaaDoorWFoot
import Derived.Test.YtlajpfdmbagedaaDoorWKept
import Derived.Test.YtlajpfdmbagedaaDoorWShare
import Derived.Test.YtlajpfdmbagedaaDoorWN
import Derived.Test.YtlajpfdmbagedaaDoorWFootNe
import Derived.Test.YtlajpfdmbagedaaDoorWAt
import Derived.Test.YtlajpfdmbagedaaDoorWEqStruct
import Derived.Test.YtlajpfdmbagedaaDoorWRepsOne
import Derived.Test.YtlajpfdmbagedaaDoorWInv
import Derived.Test.YtlajpfdmbagedaaDoorWInvWords
import Derived.Test.YtlajpfdmbagedaaDoorWGuard
import Derived.Test.YtlajpfdmbagedaaDoorWNEv
import Derived.Test.YtlajpfdmbagedaaDoorWMore
namespace Go.Proofs.YtlajpfdmbagedaaDoor.P
open Go.RowKit Go.Proofs.YtlajpfdmbagedaaDoorW.PrintWords Go.Proofs.YtlajpfdmbagedaaDoorW.PrintLast Go.Proofs.YtlajpfdmbagedaaDoorW.PrintMore
attribute [local go_sem] max2_int min2_int max_two min_two max_three min_three max_four min_four   -- for this text's walks alone
set_option linter.unusedVariables false
set_option linter.unusedSimpArgs false



def errW : Option Int → Value
  | none => .nilIface
  | some c => .iface 0 (.int .i64 c)
theorem errW_none : errW none = .nilIface := rfl
theorem errW_some (c : Int) : errW (some c) = .iface 0 (.int .i64 c) := rfl

theorem info5 : (Tryd.prog.info? 5).map (fun i => (i.zero, i.size, i.bytes)) = some (some (.int .u8 0), 1, 1) := by kernel_rfl
-- the values' own types

end Go.Proofs.YtlajpfdmbagedaaDoor.P
