-- PRINTED BY print.sh 35421559b90ae4d0a3588c463048766b98c2df88dd9212a6774a882060cdf62d: not written by this session
import Derived.Test.YtfldlagiiidebaaProg
import Derived.Below
import Derived.Deep.Draws
import Derived.Deep.AppendLies
import Derived.Maps.AppendAt
import Derived.OwnWalk
import Derived.Laws.BytesArg
import Derived.Laws.MakeOwn
import Derived.Laws.OwnMore
import Derived.Deep.OwnRows
import Derived.Tactics
import Derived.Lib.ConvBytes
import Derived.Laws.Slices
import Derived.WalkKit
import Derived.KernelRfl
import Derived.RowKit3
import Derived.Deep.LoopGhost
import Derived.Deep.QuietTactic
import Derived.BigQuiet
import Derived.WideLaws
import Derived.Deep.DeepCutAuto
import Derived.Deep.CutBlock
import Derived.Deep.RegionHeld3
import Derived.Laws.Rows
import Derived.Lib.AppendStr
import Derived.ArgAppend
import Derived.Laws.IdiomCopy
import Derived.OrdersHeld
import Derived.Laws.BitsLemmas
import Derived.RowKit
import Derived.Test.YtfldlagiiidebaaWWords
import Derived.Test.YtfldlagiiidebaaWLast
import Derived.Test.YtfldlagiiidebaaWTab
import Derived.Test.YtfldlagiiidebaaWFour
import Derived.Test.YtfldlagiiidebaaWQPut
import Derived.Test.YtfldlagiiidebaaWApart
import Derived.Test.YtfldlagiiidebaaWArr
import Derived.Test.YtfldlagiiidebaaWZeros
import Derived.Test.YtfldlagiiidebaaWFoot
import Derived.Test.YtfldlagiiidebaaWKept
import Derived.Test.YtfldlagiiidebaaWShare
import Derived.Test.YtfldlagiiidebaaWN
import Derived.Test.YtfldlagiiidebaaWFootNe
import Derived.Test.YtfldlagiiidebaaWAt
import Derived.Test.YtfldlagiiidebaaWEqStruct
import Derived.Test.YtfldlagiiidebaaWRepsOne
import Derived.Test.YtfldlagiiidebaaWInv
import Derived.Test.YtfldlagiiidebaaWInvWords
import Derived.Test.YtfldlagiiidebaaWGuard
import Derived.Test.YtfldlagiiidebaaWNEv
import Derived.Test.YtfldlagiiidebaaWMore
namespace Go.Proofs.Ytfldlagiiidebaa.PFnExactSumWays
open Go.RowKit Go.Proofs.YtfldlagiiidebaaW.PrintWords Go.Proofs.YtfldlagiiidebaaW.PrintLast Go.Proofs.YtfldlagiiidebaaW.PrintMore
attribute [local go_sem] max2_int min2_int max_two min_two max_three min_three max_four min_four   -- for this text's walks alone
set_option linter.unusedVariables false
set_option linter.unusedSimpArgs false



def errW : Option Int → Value
  | none => .nilIface
  | some c => .iface 0 (.int .i64 c)
theorem errW_none : errW none = .nilIface := rfl
theorem errW_some (c : Int) : errW (some c) = .iface 0 (.int .i64 c) := rfl

theorem info3 : (Try.prog.info? 3).map (fun i => (i.zero, i.size, i.bytes)) = some (some (.int .i64 0), 1, 8) := by kernel_rfl
-- the values' own types

end Go.Proofs.Ytfldlagiiidebaa.PFnExactSumWays
