/- strongboxref4.MayHead: a call of it answers as its Lean function tells. Put together out of the ways through its condition. -/
import Derived.Test.YtnlpipjdpmaggaaMayHead0
import Derived.Test.YtnlpipjdpmaggaaMayHead1
import Derived.Test.YtnlpipjdpmaggaaMayHead2
import Derived.Test.YtnlpipjdpmaggaaMayHead3
namespace Go.Proofs.Ytnlpipjdpmaggaa.PShardWrites
open Go.RowKit Go.Proofs.YtnlpipjdpmaggaaW.PrintWords Go.Proofs.YtnlpipjdpmaggaaW.PrintLast Go.Proofs.YtnlpipjdpmaggaaW.PrintMore
attribute [local go_sem] max2_int min2_int max_two min_two max_three min_three max_four min_four   -- for this text's walks alone
set_option linter.unusedVariables false
set_option linter.unusedSimpArgs false

def strongboxref4_MayHead.f (a0_0 : Int) (a0_1 : Int) (a0_2 : Int) (a0_3 : Int) (a0_4 : Int) (a0_5 : Int) : Option (Bool) := if a0_0 ≥ 1 then (if a0_1 ≥ 1 then (if a0_0 ≤ 255 then (if a0_1 ≤ (wrap64 (255 - a0_0)) then (if a0_2 ≥ 0 then (if a0_2 < (wrap64 (a0_0 + a0_1)) then (if a0_3 ≥ 16 then (if a0_3 ≤ 4096 then (if a0_4 ≥ 0 then (if a0_4 ≤ 65536 then (if a0_5 ≥ 0 then (some (decide (a0_5 ≤ 2147483647))) else (some false)) else (some false)) else (some false)) else (some false)) else (some false)) else (some false)) else (some false)) else (some false)) else (some false)) else (some false)) else (some false)
theorem strongboxref4_MayHead.calls (a0_0 : Int) (a0_1 : Int) (a0_2 : Int) (a0_3 : Int) (a0_4 : Int) (a0_5 : Int) (r : Bool) (w : World) (h : strongboxref4_MayHead.f a0_0 a0_1 a0_2 a0_3 a0_4 a0_5 = some r) :
    Calls Try.prog 34 #[.agg #[.int .i64 a0_0, .int .i64 a0_1, .int .i64 a0_2, .int .i64 a0_3, .int .i64 a0_4, .int .i64 a0_5]] w fun e w' => e = .returned (.bool r) ∧ Below w.heap.size w w' := by
  unfold strongboxref4_MayHead.f at h
  by_cases c2 : a0_0 ≥ 1
  case neg => rw [if_neg c2] at h; obtain rfl := Option.some.inj h; exact strongboxref4_MayHead.leaf0 a0_0 a0_1 a0_2 a0_3 a0_4 a0_5 w c2
  rw [if_pos c2] at h
  by_cases c3 : a0_1 ≥ 1
  case neg => rw [if_neg c3] at h; obtain rfl := Option.some.inj h; exact strongboxref4_MayHead.leaf1 a0_0 a0_1 a0_2 a0_3 a0_4 a0_5 w c2 c3
  rw [if_pos c3] at h
  by_cases c4 : a0_0 ≤ 255
  case neg => rw [if_neg c4] at h; obtain rfl := Option.some.inj h; exact strongboxref4_MayHead.leaf2 a0_0 a0_1 a0_2 a0_3 a0_4 a0_5 w c2 c3 c4
  rw [if_pos c4] at h
  by_cases c5 : a0_1 ≤ (wrap64 (255 - a0_0))
  case neg => rw [if_neg c5] at h; obtain rfl := Option.some.inj h; exact strongboxref4_MayHead.leaf3 a0_0 a0_1 a0_2 a0_3 a0_4 a0_5 w c2 c3 c4 c5
  rw [if_pos c5] at h
  by_cases c6 : a0_2 ≥ 0
  case neg => rw [if_neg c6] at h; obtain rfl := Option.some.inj h; exact strongboxref4_MayHead.leaf4 a0_0 a0_1 a0_2 a0_3 a0_4 a0_5 w c2 c3 c4 c5 c6
  rw [if_pos c6] at h
  by_cases c7 : a0_2 < (wrap64 (a0_0 + a0_1))
  case neg => rw [if_neg c7] at h; obtain rfl := Option.some.inj h; exact strongboxref4_MayHead.leaf5 a0_0 a0_1 a0_2 a0_3 a0_4 a0_5 w c2 c3 c4 c5 c6 c7
  rw [if_pos c7] at h
  by_cases c8 : a0_3 ≥ 16
  case neg => rw [if_neg c8] at h; obtain rfl := Option.some.inj h; exact strongboxref4_MayHead.leaf6 a0_0 a0_1 a0_2 a0_3 a0_4 a0_5 w c2 c3 c4 c5 c6 c7 c8
  rw [if_pos c8] at h
  by_cases c9 : a0_3 ≤ 4096
  case neg => rw [if_neg c9] at h; obtain rfl := Option.some.inj h; exact strongboxref4_MayHead.leaf7 a0_0 a0_1 a0_2 a0_3 a0_4 a0_5 w c2 c3 c4 c5 c6 c7 c8 c9
  rw [if_pos c9] at h
  by_cases c10 : a0_4 ≥ 0
  case neg => rw [if_neg c10] at h; obtain rfl := Option.some.inj h; exact strongboxref4_MayHead.leaf8 a0_0 a0_1 a0_2 a0_3 a0_4 a0_5 w c2 c3 c4 c5 c6 c7 c8 c9 c10
  rw [if_pos c10] at h
  by_cases c11 : a0_4 ≤ 65536
  case neg => rw [if_neg c11] at h; obtain rfl := Option.some.inj h; exact strongboxref4_MayHead.leaf9 a0_0 a0_1 a0_2 a0_3 a0_4 a0_5 w c2 c3 c4 c5 c6 c7 c8 c9 c10 c11
  rw [if_pos c11] at h
  by_cases c12 : a0_5 ≥ 0
  case neg => rw [if_neg c12] at h; obtain rfl := Option.some.inj h; exact strongboxref4_MayHead.leaf10 a0_0 a0_1 a0_2 a0_3 a0_4 a0_5 w c2 c3 c4 c5 c6 c7 c8 c9 c10 c11 c12
  rw [if_pos c12] at h
  obtain rfl := Option.some.inj h
  exact strongboxref4_MayHead.leaf10t a0_0 a0_1 a0_2 a0_3 a0_4 a0_5 w c2 c3 c4 c5 c6 c7 c8 c9 c10 c11 c12
end Go.Proofs.Ytnlpipjdpmaggaa.PShardWrites
