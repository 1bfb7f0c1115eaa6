-- PRINTED BY print.sh 35421559b90ae4d0a3588c463048766b98c2df88dd9212a6774a882060cdf62d: not written by this session
import Derived.Test.YtgbljjemmnobnaaProg
import Derived.Below
import Derived.Deep.Draws
import Derived.Deep.AppendLies
import Derived.Maps.AppendAt
import Derived.OwnWalk
import Derived.Laws.BytesArg
import Derived.Laws.MakeOwn
import Derived.Laws.OwnMore
import Derived.Deep.OwnRows
import Derived.Tactics
import Derived.Lib.ConvBytes
import Derived.Laws.Slices
import Derived.WalkKit
import Derived.KernelRfl
import Derived.RowKit3
import Derived.Deep.LoopGhost
import Derived.Deep.QuietTactic
import Derived.BigQuiet
import Derived.WideLaws
import Derived.Deep.DeepCutAuto
import Derived.Deep.CutBlock
import Derived.Deep.RegionHeld3
import Derived.Laws.Rows
import Derived.Lib.AppendStr
import Derived.ArgAppend
import Derived.Laws.IdiomCopy
import Derived.OrdersHeld
import Derived.Laws.BitsLemmas
import Derived.RowKit
import Derived.Test.YtgbljjemmnobnaaWWords
import Derived.Test.YtgbljjemmnobnaaWLast
import Derived.Test.YtgbljjemmnobnaaWTab
import Derived.Test.YtgbljjemmnobnaaWFour
import Derived.Test.YtgbljjemmnobnaaWQPut
import Derived.Test.YtgbljjemmnobnaaWApart
import Derived.Test.YtgbljjemmnobnaaWArr
import Derived.Test.YtgbljjemmnobnaaWZeros
import Derived.Test.YtgbljjemmnobnaaWFoot
import Derived.Test.YtgbljjemmnobnaaWKept
import Derived.Test.YtgbljjemmnobnaaWShare
import Derived.Test.YtgbljjemmnobnaaWN
import Derived.Test.YtgbljjemmnobnaaWFootNe
import Derived.Test.YtgbljjemmnobnaaWAt
import Derived.Test.YtgbljjemmnobnaaWEqStruct
import Derived.Test.YtgbljjemmnobnaaWRepsOne
import Derived.Test.YtgbljjemmnobnaaWInv
import Derived.Test.YtgbljjemmnobnaaWInvWords
import Derived.Test.YtgbljjemmnobnaaWGuard
import Derived.Test.YtgbljjemmnobnaaWNEv
import Derived.Test.YtgbljjemmnobnaaWMore
namespace Go.Proofs.Ytgbljjemmnobnaa.PWordMosts
open Go.RowKit Go.Proofs.YtgbljjemmnobnaaW.PrintWords Go.Proofs.YtgbljjemmnobnaaW.PrintLast Go.Proofs.YtgbljjemmnobnaaW.PrintMore
attribute [local go_sem] max2_int min2_int max_two min_two max_three min_three max_four min_four   -- for this text's walks alone
set_option linter.unusedVariables false
set_option linter.unusedSimpArgs false



def errW : Option Int → Value
  | none => .nilIface
  | some c => .iface 0 (.int .i64 c)
theorem errW_none : errW none = .nilIface := rfl
theorem errW_some (c : Int) : errW (some c) = .iface 0 (.int .i64 c) := rfl

theorem info26 : (Try.prog.info? 26).map (fun i => (i.zero, i.size, i.bytes)) = some (some (.int .u64 0), 1, 8) := by kernel_rfl
-- the values' own types

end Go.Proofs.Ytgbljjemmnobnaa.PWordMosts
