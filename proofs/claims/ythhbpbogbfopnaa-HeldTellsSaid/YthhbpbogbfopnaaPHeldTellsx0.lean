-- PRINTED BY print.sh 35421559b90ae4d0a3588c463048766b98c2df88dd9212a6774a882060cdf62d: not written by this session
import Derived.Test.YthhbpbogbfopnaaProg
import Derived.Below
import Derived.Deep.Draws
import Derived.Deep.AppendLies
import Derived.Maps.AppendAt
import Derived.OwnWalk
import Derived.Laws.BytesArg
import Derived.Laws.MakeOwn
import Derived.Laws.OwnMore
import Derived.Deep.OwnRows
import Derived.Tactics
import Derived.Lib.ConvBytes
import Derived.Laws.Slices
import Derived.WalkKit
import Derived.KernelRfl
import Derived.RowKit3
import Derived.Deep.LoopGhost
import Derived.Deep.QuietTactic
import Derived.BigQuiet
import Derived.WideLaws
import Derived.Deep.DeepCutAuto
import Derived.Deep.CutBlock
import Derived.Deep.RegionHeld3
import Derived.Laws.Rows
import Derived.Lib.AppendStr
import Derived.ArgAppend
import Derived.Laws.IdiomCopy
import Derived.OrdersHeld
import Derived.Laws.BitsLemmas
import Derived.RowKit
import Derived.Test.YthhbpbogbfopnaaWWords
import Derived.Test.YthhbpbogbfopnaaWLast
import Derived.Test.YthhbpbogbfopnaaWTab
import Derived.Test.YthhbpbogbfopnaaWFour
import Derived.Test.YthhbpbogbfopnaaWQPut
import Derived.Test.YthhbpbogbfopnaaWApart
import Derived.Test.YthhbpbogbfopnaaWArr
import Derived.Test.YthhbpbogbfopnaaWZeros
import Derived.Test.YthhbpbogbfopnaaWFoot
import Derived.Test.YthhbpbogbfopnaaWKept
import Derived.Test.YthhbpbogbfopnaaWShare
import Derived.Test.YthhbpbogbfopnaaWN
import Derived.Test.YthhbpbogbfopnaaWFootNe
import Derived.Test.YthhbpbogbfopnaaWAt
import Derived.Test.YthhbpbogbfopnaaWEqStruct
import Derived.Test.YthhbpbogbfopnaaWRepsOne
import Derived.Test.YthhbpbogbfopnaaWInv
import Derived.Test.YthhbpbogbfopnaaWInvWords
import Derived.Test.YthhbpbogbfopnaaWGuard
import Derived.Test.YthhbpbogbfopnaaWNEv
import Derived.Test.YthhbpbogbfopnaaWMore
namespace Go.Proofs.Ythhbpbogbfopnaa.PHeldTells
open Go.RowKit Go.Proofs.YthhbpbogbfopnaaW.PrintWords Go.Proofs.YthhbpbogbfopnaaW.PrintLast Go.Proofs.YthhbpbogbfopnaaW.PrintMore
attribute [local go_sem] max2_int min2_int max_two min_two max_three min_three max_four min_four   -- for this text's walks alone
set_option linter.unusedVariables false
set_option linter.unusedSimpArgs false



def errW : Option Int → Value
  | none => .nilIface
  | some c => .iface 0 (.int .i64 c)
theorem errW_none : errW none = .nilIface := rfl
theorem errW_some (c : Int) : errW (some c) = .iface 0 (.int .i64 c) := rfl

theorem info3 : (Try.prog.info? 3).map (fun i => (i.zero, i.size, i.bytes)) = some (some (.int .i64 0), 1, 8) := by kernel_rfl
-- the values' own types

end Go.Proofs.Ythhbpbogbfopnaa.PHeldTells
