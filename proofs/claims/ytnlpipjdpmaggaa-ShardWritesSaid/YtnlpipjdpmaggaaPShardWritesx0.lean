/- WRITTEN FOR THIS CLAIM by a program of the prover's own (the kit's printing program, with constructs added): for each Go function that the statement reaches a Lean function with the same answers, and the proof of that. Not trusted: Lean checks it. -/
import Derived.Test.YtnlpipjdpmaggaaProg
import Derived.Below
import Derived.Deep.Draws
import Derived.Deep.AppendLies
import Derived.Maps.AppendAt
import Derived.OwnWalk
import Derived.Laws.BytesArg
import Derived.Laws.MakeOwn
import Derived.Laws.OwnMore
import Derived.Deep.OwnRows
import Derived.Tactics
import Derived.Lib.ConvBytes
import Derived.Laws.Slices
import Derived.WalkKit
import Derived.KernelRfl
import Derived.RowKit3
import Derived.Deep.LoopGhost
import Derived.Deep.QuietTactic
import Derived.BigQuiet
import Derived.WideLaws
import Derived.Deep.DeepCutAuto
import Derived.Deep.CutBlock
import Derived.Deep.RegionHeld3
import Derived.Laws.Rows
import Derived.Lib.AppendStr
import Derived.ArgAppend
import Derived.Laws.IdiomCopy
import Derived.OrdersHeld
import Derived.Laws.BitsLemmas
import Derived.RowKit
import Derived.Test.YtnlpipjdpmaggaaWWords
import Derived.Test.YtnlpipjdpmaggaaWLast
import Derived.Test.YtnlpipjdpmaggaaWTab
import Derived.Test.YtnlpipjdpmaggaaWFour
import Derived.Test.YtnlpipjdpmaggaaWQPut
import Derived.Test.YtnlpipjdpmaggaaWApart
import Derived.Test.YtnlpipjdpmaggaaWArr
import Derived.Test.YtnlpipjdpmaggaaWZeros
import Derived.Test.YtnlpipjdpmaggaaWFoot
import Derived.Test.YtnlpipjdpmaggaaWKept
import Derived.Test.YtnlpipjdpmaggaaWShare
import Derived.Test.YtnlpipjdpmaggaaWN
import Derived.Test.YtnlpipjdpmaggaaWFootNe
import Derived.Test.YtnlpipjdpmaggaaWAt
import Derived.Test.YtnlpipjdpmaggaaWEqStruct
import Derived.Test.YtnlpipjdpmaggaaWRepsOne
import Derived.Test.YtnlpipjdpmaggaaWInv
import Derived.Test.YtnlpipjdpmaggaaWInvWords
import Derived.Test.YtnlpipjdpmaggaaWGuard
import Derived.Test.YtnlpipjdpmaggaaWNEv
import Derived.Test.YtnlpipjdpmaggaaWMore
namespace Go.Proofs.Ytnlpipjdpmaggaa.PShardWrites
open Go.RowKit Go.Proofs.YtnlpipjdpmaggaaW.PrintWords Go.Proofs.YtnlpipjdpmaggaaW.PrintLast Go.Proofs.YtnlpipjdpmaggaaW.PrintMore
attribute [local go_sem] max2_int min2_int max_two min_two max_three min_three max_four min_four   -- for this text's walks alone
set_option linter.unusedVariables false
set_option linter.unusedSimpArgs false



def errW : Option Int → Value
  | none => .nilIface
  | some c => .iface 0 (.int .i64 c)
theorem errW_none : errW none = .nilIface := rfl
theorem errW_some (c : Int) : errW (some c) = .iface 0 (.int .i64 c) := rfl

theorem info5 : (Try.prog.info? 5).map (fun i => (i.zero, i.size, i.bytes)) = some (some (.int .u8 0), 1, 1) := by kernel_rfl
-- the values' own types

end Go.Proofs.Ytnlpipjdpmaggaa.PShardWrites
