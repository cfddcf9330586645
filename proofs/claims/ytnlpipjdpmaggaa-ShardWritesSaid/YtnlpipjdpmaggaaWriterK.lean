/- The Lean function of the law ShardWrites, and that more rounds change no answer. The printing program's text, turned by a program of the prover's. -/
import Derived.Test.YtnlpipjdpmaggaaPShardWritesx0
import Derived.Test.YtnlpipjdpmaggaaPShardWritesx2
import Derived.Test.YtnlpipjdpmaggaaPShardWritesx3
import Derived.Test.YtnlpipjdpmaggaaPShardWritesx7
import Derived.Test.YtnlpipjdpmaggaaPShardWritesx8
import Derived.Test.YtnlpipjdpmaggaaPShardWritesx9
import Derived.Test.YtnlpipjdpmaggaaMayHead
import Derived.Test.YtnlpipjdpmaggaaWriterA
import Derived.Test.YtnlpipjdpmaggaaWriterC
import Derived.Test.YtnlpipjdpmaggaaWriterD
import Derived.Test.YtnlpipjdpmaggaaWriterE
import Derived.Test.YtnlpipjdpmaggaaWriterF
import Derived.Test.YtnlpipjdpmaggaaWriterG
namespace Go.Proofs.Ytnlpipjdpmaggaa.PShardWrites
open Go.RowKit Go.Proofs.YtnlpipjdpmaggaaW.PrintWords Go.Proofs.YtnlpipjdpmaggaaW.PrintLast Go.Proofs.YtnlpipjdpmaggaaW.PrintMore
attribute [local go_sem] max2_int min2_int max_two min_two max_three min_three max_four min_four   -- for this text's walks alone
set_option linter.unusedVariables false
set_option linter.unusedSimpArgs false

/-! ### strongboxlaw5_ShardWrites: function 10 -/
mutual
def strongboxlaw5_ShardWrites.j0 : Nat → List Int → List Int → Bool → Int → Int → Int → Int → Int → Int → Option (Bool)
  | 0, _, _, _, _, _, _, _, _, _ => none
  | k + 1, x1, x2, x30, x381000, x381001, x381002, x381003, x381004, x381005 => if x30 = true then (some true) else ((strongboxlaw5_Head.f x381000 x381001 x381002 x381003 x381004 x381005).bind fun bt382 => ((shard_Write.f k bt382.1 bt382.2.1 bt382.2.2.1 bt382.2.2.2.1 bt382.2.2.2.2.1 bt382.2.2.2.2.2 x1).bind fun bt388 => ((strongboxref4_Write.f k x381000 x381001 x381002 x381003 x381004 x381005 x1).bind fun bt392 => (if (strOfNums bt388.1).toList = (strOfNums bt392.1).toList then (if bt388.2 = bt392.2 then ((strongboxlaw5_Head.f x381000 x381001 x381002 x381003 x381004 x381005).bind fun bt396 => ((shard_May.f k bt396.1 bt396.2.1 bt396.2.2.1 bt396.2.2.2.1 bt396.2.2.2.2.1 bt396.2.2.2.2.2).bind fun t402 => ((strongboxref4_MayHead.f x381000 x381001 x381002 x381003 x381004 x381005).bind fun t403 => (strongboxlaw5_ShardWrites.j1 k x1 x2 bt392.1 (t402 != t403) x381000 x381001 x381002 x381003 x381004 x381005)))) else (strongboxlaw5_ShardWrites.j1 k x1 x2 bt392.1 true x381000 x381001 x381002 x381003 x381004 x381005)) else (strongboxlaw5_ShardWrites.j1 k x1 x2 bt392.1 true x381000 x381001 x381002 x381003 x381004 x381005)))))
def strongboxlaw5_ShardWrites.j1 : Nat → List Int → List Int → List Int → Bool → Int → Int → Int → Int → Int → Int → Option (Bool)
  | 0, _, _, _, _, _, _, _, _, _, _ => none
  | k + 1, x1, x2, x9, x61, x381000, x381001, x381002, x381003, x381004, x381005 => if x61 = true then (none) else ((strongboxlaw5_Head.f x381000 x381001 x381002 x381003 x381004 x381005).bind fun bt404 => ((shard_NewWriter.f k bt404.1 bt404.2.1 bt404.2.2.1 bt404.2.2.2.1 bt404.2.2.2.2.1 bt404.2.2.2.2.2).bind fun bt410 => (strongboxlaw5_ShardWrites.l0 k x1 x2 x9 0 0 x381000 x381001 x381002 x381003 x381004 x381005 bt410.1 bt410.2.1 bt410.2.2.1 bt410.2.2.2.1 bt410.2.2.2.2.1 bt410.2.2.2.2.2.1 bt410.2.2.2.2.2.2.1 bt410.2.2.2.2.2.2.2.1 bt410.2.2.2.2.2.2.2.2.1 bt410.2.2.2.2.2.2.2.2.2)))
def strongboxlaw5_ShardWrites.l0 : Nat → List Int → List Int → List Int → Int → Int → Int → Int → Int → Int → Int → Int → Int → Int → Int → Int → Int → Int → List Int → List Int → Int → Bool → Option (Bool)
  | 0, _, _, _, _, _, _, _, _, _, _, _, _, _, _, _, _, _, _, _, _, _ => none
  | k + 1, x1, x2, x9, x12, x13, x381000, x381001, x381002, x381003, x381004, x381005, x425000, x425001, x425002, x425003, x425004, x425005, x425006, x425007, x425008, x425009 => if x13 < (x2.length : Int) then (if 0 ≤ x13 then (if 0 ≤ x12 then (if x12 ≤ (wrap64 (x12 + (mn (wrap64 (rd x2 x13)) (wrap64 ((x1.length : Int) - x12))))) then (if (wrap64 (x12 + (mn (wrap64 (rd x2 x13)) (wrap64 ((x1.length : Int) - x12))))) ≤ (x1.length : Int) then ((shard_Writer_Add.f k x425000 x425001 x425002 x425003 x425004 x425005 x425006 x425007 x425008 x425009 ((x1.take ((wrap64 (x12 + (mn (wrap64 (rd x2 x13)) (wrap64 ((x1.length : Int) - x12))))) : Int).toNat).drop (x12 : Int).toNat)).bind fun bt430 => ((strongboxref4_MayHead.f x381000 x381001 x381002 x381003 x381004 x381005).bind fun t445 => (if t445 = true then (if (wrap64 (x12 + (mn (wrap64 (rd x2 x13)) (wrap64 ((x1.length : Int) - x12))))) > x381004 then (some (bt430.2.2.2.2.2.2.2.2.2.2 == 3)) else (if bt430.2.2.2.2.2.2.2.2.2.2 = 0 then (strongboxlaw5_ShardWrites.l0 k x1 x2 x9 (wrap64 (x12 + (mn (wrap64 (rd x2 x13)) (wrap64 ((x1.length : Int) - x12))))) (wrap64 (x13 + 1)) x381000 x381001 x381002 x381003 x381004 x381005 bt430.1 bt430.2.1 bt430.2.2.1 bt430.2.2.2.1 bt430.2.2.2.2.1 bt430.2.2.2.2.2.1 bt430.2.2.2.2.2.2.1 bt430.2.2.2.2.2.2.2.1 bt430.2.2.2.2.2.2.2.2.1 bt430.2.2.2.2.2.2.2.2.2.1) else (none))) else (some (bt430.2.2.2.2.2.2.2.2.2.2 == 1))))) else (none)) else (none)) else (none)) else (none)) else (if 0 ≤ x12 then (if x12 ≤ (x1.length : Int) then ((shard_Writer_Add.f k x425000 x425001 x425002 x425003 x425004 x425005 x425006 x425007 x425008 x425009 (x1.drop (x12 : Int).toNat)).bind fun bt450 => ((shard_Writer_End.f k bt450.1 bt450.2.1 bt450.2.2.1 bt450.2.2.2.1 bt450.2.2.2.2.1 bt450.2.2.2.2.2.1 bt450.2.2.2.2.2.2.1 bt450.2.2.2.2.2.2.2.1 bt450.2.2.2.2.2.2.2.2.1 bt450.2.2.2.2.2.2.2.2.2.1).bind fun bt465 => ((strongboxref4_MayHead.f x381000 x381001 x381002 x381003 x381004 x381005).bind fun t483 => (if t483 = true then (if (x1.length : Int) > x381004 then (some (bt450.2.2.2.2.2.2.2.2.2.2 == 3)) else (if (x1.length : Int) < x381004 then (if bt450.2.2.2.2.2.2.2.2.2.2 = 0 then (some (bt465.2.2.2.2.2.2.2.2.2.2.2 == 2)) else (none)) else (if bt450.2.2.2.2.2.2.2.2.2.2 = 0 then (if bt465.2.2.2.2.2.2.2.2.2.2.2 = 0 then (if (strOfNums bt465.2.2.2.2.2.2.2.2.2.2.1).toList = (strOfNums x9).toList then (some (1 == 1)) else (none)) else (none)) else (none)))) else (if bt450.2.2.2.2.2.2.2.2.2.2 = 1 then (some (bt465.2.2.2.2.2.2.2.2.2.2.2 == 1)) else (none)))))) else (none)) else (none))
end
def strongboxlaw5_ShardWrites.f (k : Nat) (a0_0 : Int) (a0_1 : Int) (a0_2 : Int) (a0_3 : Int) (a0_4 : Int) (a0_5 : Int) (l1 : List Int) (l2 : List Int) : Option (Bool) := (strongboxlaw5_awake.f k).bind fun t381 => (if t381 = true then (if (l1.length : Int) > 5000 then (strongboxlaw5_ShardWrites.j0 k l1 l2 true a0_0 a0_1 a0_2 a0_3 a0_4 a0_5) else (strongboxlaw5_ShardWrites.j0 k l1 l2 (decide ((l2.length : Int) > 50)) a0_0 a0_1 a0_2 a0_3 a0_4 a0_5)) else (none))
theorem strongboxlaw5_ShardWrites.mono_l : ∀ k, (∀ y0 y1 y2 y3 y4 y5 y6 y7 y8, LeO (strongboxlaw5_ShardWrites.j0 k y0 y1 y2 y3 y4 y5 y6 y7 y8) (strongboxlaw5_ShardWrites.j0 (k + 1) y0 y1 y2 y3 y4 y5 y6 y7 y8)) ∧ (∀ y0 y1 y2 y3 y4 y5 y6 y7 y8 y9, LeO (strongboxlaw5_ShardWrites.j1 k y0 y1 y2 y3 y4 y5 y6 y7 y8 y9) (strongboxlaw5_ShardWrites.j1 (k + 1) y0 y1 y2 y3 y4 y5 y6 y7 y8 y9)) ∧ (∀ y0 y1 y2 y3 y4 y5 y6 y7 y8 y9 y10 y11 y12 y13 y14 y15 y16 y17 y18 y19 y20, LeO (strongboxlaw5_ShardWrites.l0 k y0 y1 y2 y3 y4 y5 y6 y7 y8 y9 y10 y11 y12 y13 y14 y15 y16 y17 y18 y19 y20) (strongboxlaw5_ShardWrites.l0 (k + 1) y0 y1 y2 y3 y4 y5 y6 y7 y8 y9 y10 y11 y12 y13 y14 y15 y16 y17 y18 y19 y20))
  | 0 => ⟨fun _ _ _ _ _ _ _ _ _ r h => by simp [strongboxlaw5_ShardWrites.j0] at h, fun _ _ _ _ _ _ _ _ _ _ r h => by simp [strongboxlaw5_ShardWrites.j1] at h, fun _ _ _ _ _ _ _ _ _ _ _ _ _ _ _ _ _ _ _ _ _ r h => by simp [strongboxlaw5_ShardWrites.l0] at h⟩
  | k + 1 => by
    obtain ⟨ih0, ih1, ih2⟩ := strongboxlaw5_ShardWrites.mono_l k
    refine ⟨?_, ?_, ?_⟩
    · intro y0 y1 y2 y3 y4 y5 y6 y7 y8
      unfold strongboxlaw5_ShardWrites.j0
      repeat' first
      | (with_reducible exact ih0 _ _ _ _ _ _ _ _ _)
      | (with_reducible exact ih1 _ _ _ _ _ _ _ _ _ _)
      | (with_reducible exact ih2 _ _ _ _ _ _ _ _ _ _ _ _ _ _ _ _ _ _ _ _ _)
      | (with_reducible exact shard_May.mono _ _ _ _ _ _ _)
      | (with_reducible exact shard_NewWriter.mono _ _ _ _ _ _ _)
      | (with_reducible exact shard_Write.mono _ _ _ _ _ _ _ _)
      | (with_reducible exact shard_Writer_Add.mono _ _ _ _ _ _ _ _ _ _ _ _)
      | (with_reducible exact shard_Writer_End.mono _ _ _ _ _ _ _ _ _ _ _)
      | (with_reducible exact strongboxlaw5_awake.mono _)
      | (with_reducible exact strongboxref4_Write.mono _ _ _ _ _ _ _ _)
      | (with_reducible exact LeO.refl _)
      | (with_reducible exact LeO.none _)
      | (with_reducible refine LeO.ite ?_ ?_)
      | (with_reducible refine LeO.bind ?_ (fun _ => ?_))
      | exact ih0 _ _ _ _ _ _ _ _ _
      | exact ih1 _ _ _ _ _ _ _ _ _ _
      | exact ih2 _ _ _ _ _ _ _ _ _ _ _ _ _ _ _ _ _ _ _ _ _
      | exact shard_May.mono _ _ _ _ _ _ _
      | exact shard_NewWriter.mono _ _ _ _ _ _ _
      | exact shard_Write.mono _ _ _ _ _ _ _ _
      | exact shard_Writer_Add.mono _ _ _ _ _ _ _ _ _ _ _ _
      | exact shard_Writer_End.mono _ _ _ _ _ _ _ _ _ _ _
      | exact strongboxlaw5_awake.mono _
      | exact strongboxref4_Write.mono _ _ _ _ _ _ _ _
      | exact LeO.none _
      | refine LeO.ite ?_ ?_
      | refine LeO.bind ?_ (fun _ => ?_)
    · intro y0 y1 y2 y3 y4 y5 y6 y7 y8 y9
      unfold strongboxlaw5_ShardWrites.j1
      repeat' first
      | (with_reducible exact ih0 _ _ _ _ _ _ _ _ _)
      | (with_reducible exact ih1 _ _ _ _ _ _ _ _ _ _)
      | (with_reducible exact ih2 _ _ _ _ _ _ _ _ _ _ _ _ _ _ _ _ _ _ _ _ _)
      | (with_reducible exact shard_May.mono _ _ _ _ _ _ _)
      | (with_reducible exact shard_NewWriter.mono _ _ _ _ _ _ _)
      | (with_reducible exact shard_Write.mono _ _ _ _ _ _ _ _)
      | (with_reducible exact shard_Writer_Add.mono _ _ _ _ _ _ _ _ _ _ _ _)
      | (with_reducible exact shard_Writer_End.mono _ _ _ _ _ _ _ _ _ _ _)
      | (with_reducible exact strongboxlaw5_awake.mono _)
      | (with_reducible exact strongboxref4_Write.mono _ _ _ _ _ _ _ _)
      | (with_reducible exact LeO.refl _)
      | (with_reducible exact LeO.none _)
      | (with_reducible refine LeO.ite ?_ ?_)
      | (with_reducible refine LeO.bind ?_ (fun _ => ?_))
      | exact ih0 _ _ _ _ _ _ _ _ _
      | exact ih1 _ _ _ _ _ _ _ _ _ _
      | exact ih2 _ _ _ _ _ _ _ _ _ _ _ _ _ _ _ _ _ _ _ _ _
      | exact shard_May.mono _ _ _ _ _ _ _
      | exact shard_NewWriter.mono _ _ _ _ _ _ _
      | exact shard_Write.mono _ _ _ _ _ _ _ _
      | exact shard_Writer_Add.mono _ _ _ _ _ _ _ _ _ _ _ _
      | exact shard_Writer_End.mono _ _ _ _ _ _ _ _ _ _ _
      | exact strongboxlaw5_awake.mono _
      | exact strongboxref4_Write.mono _ _ _ _ _ _ _ _
      | exact LeO.none _
      | refine LeO.ite ?_ ?_
      | refine LeO.bind ?_ (fun _ => ?_)
    · intro y0 y1 y2 y3 y4 y5 y6 y7 y8 y9 y10 y11 y12 y13 y14 y15 y16 y17 y18 y19 y20
      unfold strongboxlaw5_ShardWrites.l0
      repeat' first
      | (with_reducible exact ih0 _ _ _ _ _ _ _ _ _)
      | (with_reducible exact ih1 _ _ _ _ _ _ _ _ _ _)
      | (with_reducible exact ih2 _ _ _ _ _ _ _ _ _ _ _ _ _ _ _ _ _ _ _ _ _)
      | (with_reducible exact shard_May.mono _ _ _ _ _ _ _)
      | (with_reducible exact shard_NewWriter.mono _ _ _ _ _ _ _)
      | (with_reducible exact shard_Write.mono _ _ _ _ _ _ _ _)
      | (with_reducible exact shard_Writer_Add.mono _ _ _ _ _ _ _ _ _ _ _ _)
      | (with_reducible exact shard_Writer_End.mono _ _ _ _ _ _ _ _ _ _ _)
      | (with_reducible exact strongboxlaw5_awake.mono _)
      | (with_reducible exact strongboxref4_Write.mono _ _ _ _ _ _ _ _)
      | (with_reducible exact LeO.refl _)
      | (with_reducible exact LeO.none _)
      | (with_reducible refine LeO.ite ?_ ?_)
      | (with_reducible refine LeO.bind ?_ (fun _ => ?_))
      | exact ih0 _ _ _ _ _ _ _ _ _
      | exact ih1 _ _ _ _ _ _ _ _ _ _
      | exact ih2 _ _ _ _ _ _ _ _ _ _ _ _ _ _ _ _ _ _ _ _ _
      | exact shard_May.mono _ _ _ _ _ _ _
      | exact shard_NewWriter.mono _ _ _ _ _ _ _
      | exact shard_Write.mono _ _ _ _ _ _ _ _
      | exact shard_Writer_Add.mono _ _ _ _ _ _ _ _ _ _ _ _
      | exact shard_Writer_End.mono _ _ _ _ _ _ _ _ _ _ _
      | exact strongboxlaw5_awake.mono _
      | exact strongboxref4_Write.mono _ _ _ _ _ _ _ _
      | exact LeO.none _
      | refine LeO.ite ?_ ?_
      | refine LeO.bind ?_ (fun _ => ?_)
theorem strongboxlaw5_ShardWrites.mono : ∀ a0 a1 a2 a3 a4 a5 a6 a7 k, LeO (strongboxlaw5_ShardWrites.f k a0 a1 a2 a3 a4 a5 a6 a7) (strongboxlaw5_ShardWrites.f (k + 1) a0 a1 a2 a3 a4 a5 a6 a7) := by
  intro a0 a1 a2 a3 a4 a5 a6 a7 k
  obtain ⟨ih0, ih1, ih2⟩ := strongboxlaw5_ShardWrites.mono_l k
  unfold strongboxlaw5_ShardWrites.f
  repeat' first
      | (with_reducible exact ih0 _ _ _ _ _ _ _ _ _)
      | (with_reducible exact ih1 _ _ _ _ _ _ _ _ _ _)
      | (with_reducible exact ih2 _ _ _ _ _ _ _ _ _ _ _ _ _ _ _ _ _ _ _ _ _)
      | (with_reducible exact shard_May.mono _ _ _ _ _ _ _)
      | (with_reducible exact shard_NewWriter.mono _ _ _ _ _ _ _)
      | (with_reducible exact shard_Write.mono _ _ _ _ _ _ _ _)
      | (with_reducible exact shard_Writer_Add.mono _ _ _ _ _ _ _ _ _ _ _ _)
      | (with_reducible exact shard_Writer_End.mono _ _ _ _ _ _ _ _ _ _ _)
      | (with_reducible exact strongboxlaw5_awake.mono _)
      | (with_reducible exact strongboxref4_Write.mono _ _ _ _ _ _ _ _)
      | (with_reducible exact LeO.refl _)
      | (with_reducible exact LeO.none _)
      | (with_reducible refine LeO.ite ?_ ?_)
      | (with_reducible refine LeO.bind ?_ (fun _ => ?_))
      | exact ih0 _ _ _ _ _ _ _ _ _
      | exact ih1 _ _ _ _ _ _ _ _ _ _
      | exact ih2 _ _ _ _ _ _ _ _ _ _ _ _ _ _ _ _ _ _ _ _ _
      | exact shard_May.mono _ _ _ _ _ _ _
      | exact shard_NewWriter.mono _ _ _ _ _ _ _
      | exact shard_Write.mono _ _ _ _ _ _ _ _
      | exact shard_Writer_Add.mono _ _ _ _ _ _ _ _ _ _ _ _
      | exact shard_Writer_End.mono _ _ _ _ _ _ _ _ _ _ _
      | exact strongboxlaw5_awake.mono _
      | exact strongboxref4_Write.mono _ _ _ _ _ _ _ _
      | exact LeO.none _
      | refine LeO.ite ?_ ?_
      | refine LeO.bind ?_ (fun _ => ?_)
end Go.Proofs.Ytnlpipjdpmaggaa.PShardWrites
