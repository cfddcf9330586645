/- WRITTEN FOR THIS CLAIM by a program of the prover's own (the kit's printing program, with constructs added): for each Go function that the statement reaches a Lean function with the same answers, and the proof of that. Not trusted: Lean checks it. -/
import Derived.Test.YtnlpipjdpmaggaaPJournalReadsx0
import Derived.Test.YtnlpipjdpmaggaaPJournalReadsx1
import Derived.Test.YtnlpipjdpmaggaaPJournalReadsx4
import Derived.Test.YtnlpipjdpmaggaaPJournalReadsx7
import Derived.Test.YtnlpipjdpmaggaaPJournalChangesx8
import Derived.Test.YtnlpipjdpmaggaaPJournalChangesx10
import Derived.Test.YtnlpipjdpmaggaaPJournalChangesx11
import Derived.Test.YtnlpipjdpmaggaaPJournalChangesx12
import Derived.Test.YtnlpipjdpmaggaaPJournalChangesx13
import Derived.Test.YtnlpipjdpmaggaaPJournalChangesx14
namespace Go.Proofs.Ytnlpipjdpmaggaa.PJournalReads
open Go.RowKit Go.Proofs.YtnlpipjdpmaggaaW.PrintWords Go.Proofs.YtnlpipjdpmaggaaW.PrintLast Go.Proofs.YtnlpipjdpmaggaaW.PrintMore
attribute [local go_sem] max2_int min2_int max_two min_two max_three min_three max_four min_four   -- for this text's walks alone
def bA_62 (m : Nat) : Array Bool := ((List.range 62).map fun i => m.testBit i).toArray
set_option linter.unusedVariables false
set_option linter.unusedSimpArgs false

attribute [local go_sem high] eqA72
/-! ### strongboxlaw7_JournalChanges: function 13 -/
def strongboxlaw7_JournalChanges.j0 : Nat → Int → Bool → Int → ByteArray → List (S72) → Int → Bool → Int → Int → Option (Bool)
 | 0, _, _, _, _, _, _, _, _, _ => none
 | k + 1, x2, x33, x293000, x293001, x293002, x294000, x294001, x294002, x294003 => if x33 = true then (some true) else ((strongboxlaw7_Journal.f x293000 x293001 x293002).bind fun bt297 => ((journal_Find.f bt297.1 bt297.2.1 bt297.2.2 x2).bind fun bt303 => ((strongboxref4_Find.f k x293000 x293001 x293002 x2).bind fun bt309 => ((journal_Latest.f bt297.1 bt297.2.1 bt297.2.2).bind fun bt315 => ((strongboxref4_Latest.f x293000 x293001 x293002).bind fun bt321 => ((journal_Add.f k bt297.1 bt297.2.1 bt297.2.2 x294000 x294001 x294002 x294003).bind fun bt327 => ((strongboxref4_Add.f k x293000 x293001 x293002 x294000 x294001 x294002 x294003).bind fun bt334 => ((journal_Drop.f bt297.1 bt297.2.1 bt297.2.2 x2).bind fun bt341 => ((strongboxref4_Drop.f k x293000 x293001 x293002 x2).bind fun bt348 => (if (bt303.1 == bt309.1 && (bt303.2.1 == bt309.2.1 && (bt303.2.2.1 == bt309.2.2.1 && (bt303.2.2.2.1 == bt309.2.2.2.1)))) = true then (if (bt303.2.2.2.2 == bt309.2.2.2.2) = true then (if (bt315.1 == bt321.1 && (bt315.2.1 == bt321.2.1 && (bt315.2.2.1 == bt321.2.2.1 && (bt315.2.2.2.1 == bt321.2.2.2.1)))) = true then (if (bt315.2.2.2.2 == bt321.2.2.2.2) = true then (if bt327.2.2.2 = bt334.2.2.2 then ((strongboxlaw7_Back.f bt327.1 bt327.2.1 bt327.2.2.1).bind fun bt355 => ((strongboxref4_Same.f k bt355.1 bt355.2.1 bt355.2.2 bt334.1 bt334.2.1 bt334.2.2.1).bind fun t360 => (if t360 = true then (if (bt341.2.2.2 == bt348.2.2.2) = true then ((strongboxlaw7_Back.f bt341.1 bt341.2.1 bt341.2.2.1).bind fun bt361 => ((strongboxref4_Same.f k bt361.1 bt361.2.1 bt361.2.2 bt348.1 bt348.2.1 bt348.2.2.1).bind fun t366 => (if t366 = true then ((strongboxlaw7_Back.f bt297.1 bt297.2.1 bt297.2.2).bind fun bt367 => ((strongboxref4_Same.f k bt367.1 bt367.2.1 bt367.2.2 x293000 x293001 x293002).bind fun t372 => (if t372 = true then ((strongboxlaw7_Journal.f x293000 x293001 x293002).bind fun bt373 => ((journal_Same.f k bt297.1 bt297.2.1 bt297.2.2 bt373.1 bt373.2.1 bt373.2.2).bind fun t378 => (if t378 = true then ((journal_Same.f k bt297.1 bt297.2.1 bt297.2.2 bt327.1 bt327.2.1 bt327.2.2.1).bind fun t379 => ((strongboxref4_Same.f k x293000 x293001 x293002 bt334.1 bt334.2.1 bt334.2.2.1).bind fun t380 => (some (t379 == t380)))) else (none)))) else (none)))) else (none)))) else (none)) else (none)))) else (none)) else (none)) else (none)) else (none)) else (none)))))))))))
def strongboxlaw7_JournalChanges.f (k : Nat) (a0_0 : Int) (a0_1 : ByteArray) (l0_2 : List (S72)) (a1_0 : Int) (a1_1 : Bool) (a1_2 : Int) (a1_3 : Int) (a2 : Int) : Option (Bool) := (strongboxlaw7_awake.f k).bind fun t294 => (if t294 = true then ((strongboxlaw7_Room.f a0_0 a0_1 l0_2).bind fun t295 => (if t295 = true then ((strongboxref4_May.f k a0_0 a0_1 l0_2).bind fun t296 => (strongboxlaw7_JournalChanges.j0 k a2 (!t296) a0_0 a0_1 l0_2 a1_0 a1_1 a1_2 a1_3)) else (strongboxlaw7_JournalChanges.j0 k a2 true a0_0 a0_1 l0_2 a1_0 a1_1 a1_2 a1_3))) else (none))
theorem strongboxlaw7_JournalChanges.mono_l : ∀ k, (∀ y0 y1 y2 y3 y4 y5 y6 y7 y8, LeO (strongboxlaw7_JournalChanges.j0 k y0 y1 y2 y3 y4 y5 y6 y7 y8) (strongboxlaw7_JournalChanges.j0 (k + 1) y0 y1 y2 y3 y4 y5 y6 y7 y8))
 | 0 => fun _ _ _ _ _ _ _ _ _ r h => by simp [strongboxlaw7_JournalChanges.j0] at h
 | k + 1 => by
  have ih0 := strongboxlaw7_JournalChanges.mono_l k
  ·intro y0 y1 y2 y3 y4 y5 y6 y7 y8
   unfold strongboxlaw7_JournalChanges.j0
   repeat' first
   | (with_reducible exact ih0 _ _ _ _ _ _ _ _ _)
   | (with_reducible exact journal_Add.mono _ _ _ _ _ _ _ _)
   | (with_reducible exact journal_Same.mono _ _ _ _ _ _ _)
   | (with_reducible exact strongboxlaw7_awake.mono _)
   | (with_reducible exact strongboxref4_Add.mono _ _ _ _ _ _ _ _)
   | (with_reducible exact strongboxref4_Drop.mono _ _ _ _ _)
   | (with_reducible exact strongboxref4_Find.mono _ _ _ _ _)
   | (with_reducible exact strongboxref4_May.mono _ _ _ _)
   | (with_reducible exact strongboxref4_Same.mono _ _ _ _ _ _ _)
   | (with_reducible exact LeO.refl _)
   | (with_reducible exact LeO.none _)
   | (with_reducible refine LeO.ite ?_ ?_)
   | (with_reducible refine LeO.bind ?_ (fun _ => ?_))
   | exact ih0 _ _ _ _ _ _ _ _ _
   | exact journal_Add.mono _ _ _ _ _ _ _ _
   | exact journal_Same.mono _ _ _ _ _ _ _
   | exact strongboxlaw7_awake.mono _
   | exact strongboxref4_Add.mono _ _ _ _ _ _ _ _
   | exact strongboxref4_Drop.mono _ _ _ _ _
   | exact strongboxref4_Find.mono _ _ _ _ _
   | exact strongboxref4_May.mono _ _ _ _
   | exact strongboxref4_Same.mono _ _ _ _ _ _ _
   | exact LeO.none _
   | refine LeO.ite ?_ ?_
   | refine LeO.bind ?_ (fun _ => ?_)
theorem strongboxlaw7_JournalChanges.mono : ∀ a0 a1 a2 a3 a4 a5 a6 a7 k, LeO (strongboxlaw7_JournalChanges.f k a0 a1 a2 a3 a4 a5 a6 a7) (strongboxlaw7_JournalChanges.f (k + 1) a0 a1 a2 a3 a4 a5 a6 a7) := by
 intro a0 a1 a2 a3 a4 a5 a6 a7 k
 have ih0 := strongboxlaw7_JournalChanges.mono_l k
 unfold strongboxlaw7_JournalChanges.f
 repeat' first
   | (with_reducible exact ih0 _ _ _ _ _ _ _ _ _)
   | (with_reducible exact journal_Add.mono _ _ _ _ _ _ _ _)
   | (with_reducible exact journal_Same.mono _ _ _ _ _ _ _)
   | (with_reducible exact strongboxlaw7_awake.mono _)
   | (with_reducible exact strongboxref4_Add.mono _ _ _ _ _ _ _ _)
   | (with_reducible exact strongboxref4_Drop.mono _ _ _ _ _)
   | (with_reducible exact strongboxref4_Find.mono _ _ _ _ _)
   | (with_reducible exact strongboxref4_May.mono _ _ _ _)
   | (with_reducible exact strongboxref4_Same.mono _ _ _ _ _ _ _)
   | (with_reducible exact LeO.refl _)
   | (with_reducible exact LeO.none _)
   | (with_reducible refine LeO.ite ?_ ?_)
   | (with_reducible refine LeO.bind ?_ (fun _ => ?_))
   | exact ih0 _ _ _ _ _ _ _ _ _
   | exact journal_Add.mono _ _ _ _ _ _ _ _
   | exact journal_Same.mono _ _ _ _ _ _ _
   | exact strongboxlaw7_awake.mono _
   | exact strongboxref4_Add.mono _ _ _ _ _ _ _ _
   | exact strongboxref4_Drop.mono _ _ _ _ _
   | exact strongboxref4_Find.mono _ _ _ _ _
   | exact strongboxref4_May.mono _ _ _ _
   | exact strongboxref4_Same.mono _ _ _ _ _ _ _
   | exact LeO.none _
   | refine LeO.ite ?_ ?_
   | refine LeO.bind ?_ (fun _ => ?_)
def strongboxlaw7_JournalChanges.T14 : Bool × List (List Nat × List Nat) := (true, [([], []), ([], []), ([0, 1], [0, 1]), ([2], [2]), ([3], [3]), ([3], [3]), ([4, 5, 3], [3, 4, 5]), ([3, 6], [3, 6]), ([7, 3], [7]), ([8], [8]), ([8], [8]), ([9, 10, 8], [8, 9, 10]), ([8, 11], [8, 11]), ([12, 8], [12]), ([13], [13]), ([13], [13]), ([14, 15, 13], [13, 14, 15]), ([13, 16], [13, 16]), ([17, 13], [17]), ([18], [18]), ([18], [18]), ([19, 20, 18], [18, 19, 20]), ([18, 21], [18, 21]), ([22, 18], [22]), ([23], [23]), ([24, 23, 23], [23, 24]), ([23], [23]), ([25, 26, 25, 23], [23, 25, 26]), ([23, 27], [23, 27]), ([28, 27], [28]), ([29], [29]), ([29], [29]), ([30, 31, 29], [29, 30, 31]), ([29, 32], [29, 32]), ([33, 29], [33]), ([34], [34]), ([35, 34, 34], [34, 35]), ([34], [34]), ([36, 37, 36, 34], [34, 36, 37]), ([34, 38], [34, 38]), ([39, 38], [39]), ([40], [40]), ([41, 40, 40], [40, 41]), ([40], [40]), ([42, 43, 42, 40], [40, 42, 43]), ([40, 44], [40, 44]), ([45, 44], [45]), ([46], [46]), ([46], [46]), ([48, 46, 46], [46, 48]), ([47, 49, 49, 46], [46, 47, 49]), ([46, 50], [46, 50]), ([51, 50], [51]), ([52], [52]), ([52], [52]), ([53, 54, 52, 52], [52, 53, 54]), ([52], [52]), ([52], [52]), ([56, 57, 55, 52], [52, 56, 57]), ([55, 58, 52], [52, 55, 58]), ([52, 59], [52, 59]), ([60, 58, 0, 1, 2, 3, 4, 5, 6, 7, 8, 9, 10, 11, 12, 13, 14, 15, 16, 17, 18, 19, 20, 21, 22, 23, 24, 25, 26, 27, 28, 29, 30, 31, 32, 33, 34, 35, 36, 37, 38, 39, 40, 41, 42, 43, 44, 45, 46, 47, 48, 49, 50, 51, 52, 53, 54, 55, 56, 57, 58, 59, 60], [60])])
def strongboxlaw7_JournalChanges.B14 : List Nat := [0, 0, 3, 7, 15, 15, 63, 127, 255, 511, 511, 2047, 4095, 8191, 16383, 16383, 65535, 131071, 262143, 524287, 524287, 2097151, 4194303, 8388607, 16777215, 33554431, 16777215, 134217727, 268435455, 536870911, 1073741823, 1073741823, 4294967295, 8589934591, 17179869183, 34359738367, 68719476735, 34359738367, 274877906943, 549755813887, 1099511627775, 2199023255551, 4398046511103, 2199023255551, 17592186044415, 35184372088831, 70368744177663, 140737488355327, 140737488355327, 422212465065983, 1125899906842623, 2251799813685247, 4503599627370495, 9007199254740991, 9007199254740991, 36028797018963967, 9007199254740991, 9007199254740991, 288230376151711743, 576460752303423487, 1152921504606846975, 2305843009213693951]
theorem strongboxlaw7_JournalChanges.tab14 : rtab .any (opsOf Try.f13 14) = strongboxlaw7_JournalChanges.T14 := by kernel_rfl
theorem strongboxlaw7_JournalChanges.bits14 : waitsOk strongboxlaw7_JournalChanges.T14.2 strongboxlaw7_JournalChanges.B14 = true := by kernel_rfl

end Go.Proofs.Ytnlpipjdpmaggaa.PJournalReads
