-- Written by gprint.py, a program of this session, over the kit's print of the loaded functions. Not trusted: Lean checks it.
import Derived.Test.YtfifcanpdjdhcaaProg
import Derived.Below
import Derived.Deep.Draws
import Derived.Deep.AppendLies
import Derived.Maps.AppendAt
import Derived.OwnWalk
import Derived.Laws.BytesArg
import Derived.Laws.MakeOwn
import Derived.Laws.OwnMore
import Derived.Deep.OwnRows
import Derived.Tactics
import Derived.Lib.ConvBytes
import Derived.Laws.Slices
import Derived.WalkKit
import Derived.KernelRfl
import Derived.RowKit3
import Derived.Deep.LoopGhost
import Derived.Deep.QuietTactic
import Derived.BigQuiet
import Derived.WideLaws
import Derived.Deep.DeepCutAuto
import Derived.Deep.CutBlock
import Derived.Deep.RegionHeld3
import Derived.Laws.Rows
import Derived.Lib.AppendStr
import Derived.ArgAppend
import Derived.Laws.IdiomCopy
import Derived.OrdersHeld
import Derived.Laws.BitsLemmas
import Derived.RowKit
import Derived.Test.YtfifcanpdjdhcaaRefList
import Derived.Test.YtfifcanpdjdhcaaGx3
import Derived.Test.YtfifcanpdjdhcaaWWords
import Derived.Test.YtfifcanpdjdhcaaWLast
import Derived.Test.YtfifcanpdjdhcaaWTab
import Derived.Test.YtfifcanpdjdhcaaWFour
import Derived.Test.YtfifcanpdjdhcaaWQPut
import Derived.Test.YtfifcanpdjdhcaaWApart
import Derived.Test.YtfifcanpdjdhcaaWArr
import Derived.Test.YtfifcanpdjdhcaaWZeros
import Derived.Test.YtfifcanpdjdhcaaWFoot
import Derived.Test.YtfifcanpdjdhcaaWKept
import Derived.Test.YtfifcanpdjdhcaaWShare
import Derived.Test.YtfifcanpdjdhcaaWN
import Derived.Test.YtfifcanpdjdhcaaWFootNe
import Derived.Test.YtfifcanpdjdhcaaWAt
import Derived.Test.YtfifcanpdjdhcaaWEqStruct
import Derived.Test.YtfifcanpdjdhcaaWRepsOne
import Derived.Test.YtfifcanpdjdhcaaWInv
import Derived.Test.YtfifcanpdjdhcaaWInvWords
import Derived.Test.YtfifcanpdjdhcaaWGuard
import Derived.Test.YtfifcanpdjdhcaaWNEv
import Derived.Test.YtfifcanpdjdhcaaWMore
namespace Go.Proofs.Ytfifcanpdjdhcaa.H
open Go.RowKit Go.Proofs.YtfifcanpdjdhcaaW.PrintWords Go.Proofs.YtfifcanpdjdhcaaW.PrintLast Go.Proofs.YtfifcanpdjdhcaaW.PrintMore Go.Proofs.Ytfifcanpdjdhcaa.RefList Go.Proofs.Ytfifcanpdjdhcaa.G
attribute [local go_sem] max2_int min2_int max_two min_two max_three min_three max_four min_four   -- for this text's walks alone
set_option linter.unusedVariables false
set_option linter.unusedSimpArgs false



def errW : Option Int → Value
  | none => .nilIface
  | some c => .iface 0 (.int .i64 c)
theorem errW_none : errW none = .nilIface := rfl
theorem errW_some (c : Int) : errW (some c) = .iface 0 (.int .i64 c) := rfl

-- the values' own types

end Go.Proofs.Ytfifcanpdjdhcaa.H
