/- WRITTEN FOR THIS CLAIM by a program of the prover's own (the kit's printing program, with constructs added): for each Go function that the statement reaches a Lean function with the same answers, and the proof of that. Not trusted: Lean checks it. -/
import Derived.Test.YtjibdkbfjjeheaaProg
import Derived.Below
import Derived.Deep.Draws
import Derived.Deep.AppendLies
import Derived.Maps.AppendAt
import Derived.OwnWalk
import Derived.Laws.BytesArg
import Derived.Laws.MakeOwn
import Derived.Laws.OwnMore
import Derived.Deep.OwnRows
import Derived.Tactics
import Derived.Lib.ConvBytes
import Derived.Laws.Slices
import Derived.WalkKit
import Derived.KernelRfl
import Derived.RowKit3
import Derived.Deep.LoopGhost
import Derived.Deep.QuietTactic
import Derived.BigQuiet
import Derived.WideLaws
import Derived.Deep.DeepCutAuto
import Derived.Deep.CutBlock
import Derived.Deep.RegionHeld3
import Derived.Laws.Rows
import Derived.Lib.AppendStr
import Derived.ArgAppend
import Derived.Laws.IdiomCopy
import Derived.OrdersHeld
import Derived.Laws.BitsLemmas
import Derived.RowKit
import Derived.Test.YtjibdkbfjjeheaaWWords
import Derived.Test.YtjibdkbfjjeheaaWLast
import Derived.Test.YtjibdkbfjjeheaaWTab
import Derived.Test.YtjibdkbfjjeheaaWFour
import Derived.Test.YtjibdkbfjjeheaaWQPut
import Derived.Test.YtjibdkbfjjeheaaWApart
import Derived.Test.YtjibdkbfjjeheaaWArr
import Derived.Test.YtjibdkbfjjeheaaWZeros
import Derived.Test.YtjibdkbfjjeheaaWFoot
import Derived.Test.YtjibdkbfjjeheaaWKept
import Derived.Test.YtjibdkbfjjeheaaWShare
import Derived.Test.YtjibdkbfjjeheaaWN
import Derived.Test.YtjibdkbfjjeheaaWFootNe
import Derived.Test.YtjibdkbfjjeheaaWAt
import Derived.Test.YtjibdkbfjjeheaaWEqStruct
import Derived.Test.YtjibdkbfjjeheaaWRepsOne
import Derived.Test.YtjibdkbfjjeheaaWInv
import Derived.Test.YtjibdkbfjjeheaaWInvWords
import Derived.Test.YtjibdkbfjjeheaaWGuard
import Derived.Test.YtjibdkbfjjeheaaWNEv
import Derived.Test.YtjibdkbfjjeheaaWMore
namespace Go.Proofs.Ytjibdkbfjjeheaa.PCrcSums
open Go.RowKit Go.Proofs.YtjibdkbfjjeheaaW.PrintWords Go.Proofs.YtjibdkbfjjeheaaW.PrintLast Go.Proofs.YtjibdkbfjjeheaaW.PrintMore
attribute [local go_sem] max2_int min2_int max_two min_two max_three min_three max_four min_four   -- for this text's walks alone
set_option linter.unusedVariables false
set_option linter.unusedSimpArgs false



def errW : Option Int → Value
  | none => .nilIface
  | some c => .iface 0 (.int .i64 c)
theorem errW_none : errW none = .nilIface := rfl
theorem errW_some (c : Int) : errW (some c) = .iface 0 (.int .i64 c) := rfl

theorem info5 : (Try.prog.info? 5).map (fun i => (i.zero, i.size, i.bytes)) = some (some (.int .u8 0), 1, 1) := by kernel_rfl
-- the values' own types

end Go.Proofs.Ytjibdkbfjjeheaa.PCrcSums
