-- PRINTED BY print.sh 35421559b90ae4d0a3588c463048766b98c2df88dd9212a6774a882060cdf62d: not written by this session
import Derived.Test.YtdbdcnpajeflkaaDoorProg
import Derived.Below
import Derived.Deep.Draws
import Derived.Deep.AppendLies
import Derived.Maps.AppendAt
import Derived.OwnWalk
import Derived.Laws.BytesArg
import Derived.Laws.MakeOwn
import Derived.Laws.OwnMore
import Derived.Deep.OwnRows
import Derived.Tactics
import Derived.Lib.ConvBytes
import Derived.Laws.Slices
import Derived.WalkKit
import Derived.KernelRfl
import Derived.RowKit3
import Derived.Deep.LoopGhost
import Derived.Deep.QuietTactic
import Derived.BigQuiet
import Derived.WideLaws
import Derived.Deep.DeepCutAuto
import Derived.Deep.CutBlock
import Derived.Deep.RegionHeld3
import Derived.Laws.Rows
import Derived.Lib.AppendStr
import Derived.ArgAppend
import Derived.Laws.IdiomCopy
import Derived.OrdersHeld
import Derived.Laws.BitsLemmas
import Derived.RowKit
import Derived.Test.YtdbdcnpajeflkaaDoorWWords
import Derived.Test.YtdbdcnpajeflkaaDoorWLast
import Derived.Test.YtdbdcnpajeflkaaDoorWTab
import Derived.Test.YtdbdcnpajeflkaaDoorWFour
import Derived.Test.YtdbdcnpajeflkaaDoorWQPut
import Derived.Test.YtdbdcnpajeflkaaDoorWApart
import Derived.Test.YtdbdcnpajeflkaaDoorWArr
import Derived.Test.YtdbdcnpajeflkaaDoorWZeros
import Derived.Test.YtdbdcnpajeflkaaDoorWFoot
import Derived.Test.YtdbdcnpajeflkaaDoorWKept
import Derived.Test.YtdbdcnpajeflkaaDoorWShare
import Derived.Test.YtdbdcnpajeflkaaDoorWN
import Derived.Test.YtdbdcnpajeflkaaDoorWFootNe
import Derived.Test.YtdbdcnpajeflkaaDoorWAt
import Derived.Test.YtdbdcnpajeflkaaDoorWEqStruct
import Derived.Test.YtdbdcnpajeflkaaDoorWRepsOne
import Derived.Test.YtdbdcnpajeflkaaDoorWInv
import Derived.Test.YtdbdcnpajeflkaaDoorWInvWords
import Derived.Test.YtdbdcnpajeflkaaDoorWGuard
import Derived.Test.YtdbdcnpajeflkaaDoorWNEv
import Derived.Test.YtdbdcnpajeflkaaDoorWMore
namespace Go.Proofs.YtdbdcnpajeflkaaDoor.PRopeRuns
open Go.RowKit Go.Proofs.YtdbdcnpajeflkaaDoorW.PrintWords Go.Proofs.YtdbdcnpajeflkaaDoorW.PrintLast Go.Proofs.YtdbdcnpajeflkaaDoorW.PrintMore
attribute [local go_sem] max2_int min2_int max_two min_two max_three min_three max_four min_four   -- for this text's walks alone
set_option linter.unusedVariables false
set_option linter.unusedSimpArgs false



def errW : Option Int → Value
  | none => .nilIface
  | some c => .iface 0 (.int .i64 c)
theorem errW_none : errW none = .nilIface := rfl
theorem errW_some (c : Int) : errW (some c) = .iface 0 (.int .i64 c) := rfl

theorem info21 : (Tryd.prog.info? 21).map (fun i => (i.zero, i.size, i.bytes)) = some (some (.int .i32 0), 1, 4) := by kernel_rfl
-- the values' own types

end Go.Proofs.YtdbdcnpajeflkaaDoor.PRopeRuns
