/- Written by a program of this claim (the kit's print, with changes): Go functions as Lean functions, and the proofs that the calls come to just these; or the row of a law. No condition of its own. -/
import Derived.Test.YtcggnjaimdjgmaaProg
import Derived.Below
import Derived.Deep.Draws
import Derived.Deep.AppendLies
import Derived.Maps.AppendAt
import Derived.OwnWalk
import Derived.Laws.BytesArg
import Derived.Laws.MakeOwn
import Derived.Laws.OwnMore
import Derived.Deep.OwnRows
import Derived.Tactics
import Derived.Lib.ConvBytes
import Derived.Laws.Slices
import Derived.WalkKit
import Derived.KernelRfl
import Derived.RowKit3
import Derived.Deep.LoopGhost
import Derived.Deep.QuietTactic
import Derived.BigQuiet
import Derived.WideLaws
import Derived.Deep.DeepCutAuto
import Derived.Deep.CutBlock
import Derived.Deep.RegionHeld3
import Derived.Laws.Rows
import Derived.Lib.AppendStr
import Derived.ArgAppend
import Derived.Laws.IdiomCopy
import Derived.OrdersHeld
import Derived.Laws.BitsLemmas
import Derived.RowKit
import Derived.Test.YtcggnjaimdjgmaaWWords
import Derived.Test.YtcggnjaimdjgmaaWLast
import Derived.Test.YtcggnjaimdjgmaaWTab
import Derived.Test.YtcggnjaimdjgmaaWFour
import Derived.Test.YtcggnjaimdjgmaaWQPut
import Derived.Test.YtcggnjaimdjgmaaWApart
import Derived.Test.YtcggnjaimdjgmaaWArr
import Derived.Test.YtcggnjaimdjgmaaWZeros
import Derived.Test.YtcggnjaimdjgmaaWFoot
import Derived.Test.YtcggnjaimdjgmaaWKept
import Derived.Test.YtcggnjaimdjgmaaWShare
import Derived.Test.YtcggnjaimdjgmaaWN
import Derived.Test.YtcggnjaimdjgmaaWFootNe
import Derived.Test.YtcggnjaimdjgmaaWAt
import Derived.Test.YtcggnjaimdjgmaaWEqStruct
import Derived.Test.YtcggnjaimdjgmaaWRepsOne
import Derived.Test.YtcggnjaimdjgmaaWInv
import Derived.Test.YtcggnjaimdjgmaaWInvWords
import Derived.Test.YtcggnjaimdjgmaaWGuard
import Derived.Test.YtcggnjaimdjgmaaWNEv
import Derived.Test.YtcggnjaimdjgmaaWMore
namespace Go.Proofs.Ytcggnjaimdjgmaa.PChange
open Go.RowKit Go.Proofs.YtcggnjaimdjgmaaW.PrintWords Go.Proofs.YtcggnjaimdjgmaaW.PrintLast Go.Proofs.YtcggnjaimdjgmaaW.PrintMore
attribute [local go_sem] max2_int min2_int max_two min_two max_three min_three max_four min_four   -- for this text's walks alone
set_option linter.unusedVariables false
set_option linter.unusedSimpArgs false



def errW : Option Int → Value
  | none => .nilIface
  | some c => .iface 0 (.int .i64 c)
theorem errW_none : errW none = .nilIface := rfl
theorem errW_some (c : Int) : errW (some c) = .iface 0 (.int .i64 c) := rfl

theorem info5 : (Try.prog.info? 5).map (fun i => (i.zero, i.size, i.bytes)) = some (some (.int .u8 0), 1, 1) := by kernel_rfl
-- the values' own types

end Go.Proofs.Ytcggnjaimdjgmaa.PChange
