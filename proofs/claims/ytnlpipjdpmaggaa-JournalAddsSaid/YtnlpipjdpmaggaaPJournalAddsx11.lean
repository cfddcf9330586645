/- WRITTEN FOR THIS CLAIM by a program of the prover's own (the kit's printing program, with constructs added): for each Go function that the statement reaches a Lean function with the same answers, and the proof of that. Not trusted: Lean checks it. -/
import Derived.Test.YtnlpipjdpmaggaaPJournalReadsx0
import Derived.Test.YtnlpipjdpmaggaaPJournalReadsx2
import Derived.Test.YtnlpipjdpmaggaaPJournalAddsx8
import Derived.Test.YtnlpipjdpmaggaaPJournalAddsx9
import Derived.Test.YtnlpipjdpmaggaaPJournalAddsx10
namespace Go.Proofs.Ytnlpipjdpmaggaa.PJournalReads
open Go.RowKit Go.Proofs.YtnlpipjdpmaggaaW.PrintWords Go.Proofs.YtnlpipjdpmaggaaW.PrintLast Go.Proofs.YtnlpipjdpmaggaaW.PrintMore
attribute [local go_sem] max2_int min2_int max_two min_two max_three min_three max_four min_four   -- for this text's walks alone
theorem info3 : (Try.prog.info? 3).map (fun i => (i.zero, i.size, i.bytes)) = some (some (.int .i64 0), 1, 8) := by kernel_rfl
def bA_11 (m : Nat) : Array Bool := ((List.range 11).map fun i => m.testBit i).toArray
def bA_12 (m : Nat) : Array Bool := ((List.range 12).map fun i => m.testBit i).toArray
def bA_31 (m : Nat) : Array Bool := ((List.range 31).map fun i => m.testBit i).toArray
def bA_33 (m : Nat) : Array Bool := ((List.range 33).map fun i => m.testBit i).toArray
set_option linter.unusedVariables false
set_option linter.unusedSimpArgs false

/-! ### law7Adds: function 12 -/
mutual
def law7Adds.j0 : Nat → List Int → List Int → Bool → Option (Bool)
 | 0, _, _, _ => none
 | k + 1, x0, x1, x33 => if x33 = true then (some true) else (law7Adds.l0 k x0 x1 0 ([] : List Int) 0 0 (⟨#[120]⟩ : ByteArray) ([] : List (S72)))
def law7Adds.l0 : Nat → List Int → List Int → Int → List Int → Int → Int → ByteArray → List (S72) → Option (Bool)
 | 0, _, _, _, _, _, _, _, _ => none
 | k + 1, x0, x1, x6, x7, x8, x250000, x250001, x250002 => if x8 < (x0.length : Int) then (if 0 ≤ x8 then ((journal_Add.f k x250000 x250001 x250002 (wrap64 ((wrap64 (x6 + 1)) + (Int.tmod (wrap64 (rd x0 x8)) 9))) false 0 0).bind fun bt251 => ((journal_Add.f k bt251.1 bt251.2.1 bt251.2.2.1 (wrap64 ((wrap64 ((wrap64 (x6 + 1)) + (Int.tmod (wrap64 (rd x0 x8)) 9))) - 1)) false 0 0).bind fun bt258 => (if bt251.2.2.2 = 0 then (if bt258.2.2.2 = 1 then (if x7.length < 17592186044416 then (law7Adds.l0 k x0 x1 (wrap64 ((wrap64 (x6 + 1)) + (Int.tmod (wrap64 (rd x0 x8)) 9))) (x7 ++ [wrap64 ((wrap64 (x6 + 1)) + (Int.tmod (wrap64 (rd x0 x8)) 9))]) (wrap64 (x8 + 1)) bt251.1 bt251.2.1 bt251.2.2.1) else (none)) else (none)) else (none)))) else (none)) else (law7Adds.l1 k x1 x7 0 x250000 x250001 x250002)
def law7Adds.l1 : Nat → List Int → List Int → Int → Int → ByteArray → List (S72) → Option (Bool)
 | 0, _, _, _, _, _, _ => none
 | k + 1, x1, x7, x13, x250000, x250001, x250002 => if x13 < (x1.length : Int) then (law7Adds.j3 k x1 x7 x13 (decide ((x7.length : Int) > 0)) x250000 x250001 x250002) else (law7Adds.j3 k x1 x7 x13 false x250000 x250001 x250002)
def law7Adds.j3 : Nat → List Int → List Int → Int → Bool → Int → ByteArray → List (S72) → Option (Bool)
 | 0, _, _, _, _, _, _, _ => none
 | k + 1, x1, x7, x13, x84, x250000, x250001, x250002 => if x84 = true then (if 0 ≤ x13 then (if x13 < (x1.length : Int) then (if (x7.length : Int) = 0 then (none) else (if 0 ≤ (Int.tmod (wrap64 (rd x1 x13)) (x7.length : Int)) then (if (Int.tmod (wrap64 (rd x1 x13)) (x7.length : Int)) < (x7.length : Int) then ((journal_Drop.f x250000 x250001 x250002 (rd x7 (Int.tmod (wrap64 (rd x1 x13)) (x7.length : Int)))).bind fun bt270 => ((journal_Drop.f bt270.1 bt270.2.1 bt270.2.2.1 (rd x7 (Int.tmod (wrap64 (rd x1 x13)) (x7.length : Int)))).bind fun bt278 => (if bt270.2.2.2 = true then (if bt278.2.2.2 = true then (none) else ((some (([] : List Int) : List Int)).bind fun y285 => (if (Int.tmod (wrap64 (rd x1 x13)) (x7.length : Int)) ≤ (x7.length : Int) then ((some (x7.take ((Int.tmod (wrap64 (rd x1 x13)) (x7.length : Int)) : Int).toNat : List Int)).bind fun y288 => (if y285.length + y288.length < 17592186044416 then ((some (y285 ++ y288 : List Int)).bind fun y292 => (if 0 ≤ (wrap64 ((Int.tmod (wrap64 (rd x1 x13)) (x7.length : Int)) + 1)) then (if (wrap64 ((Int.tmod (wrap64 (rd x1 x13)) (x7.length : Int)) + 1)) ≤ (x7.length : Int) then ((some (x7.drop ((wrap64 ((Int.tmod (wrap64 (rd x1 x13)) (x7.length : Int)) + 1)) : Int).toNat : List Int)).bind fun y295 => (if y292.length + y295.length < 17592186044416 then (law7Adds.l1 k x1 (y292 ++ y295) (wrap64 (x13 + 1)) bt270.1 bt270.2.1 bt270.2.2.1) else (none))) else (none)) else (none))) else (none))) else (none)))) else (none)))) else (none)) else (none))) else (none)) else (none)) else (law7Adds.l2 k x7 0 x250000 x250001 x250002)
def law7Adds.l2 : Nat → List Int → Int → Int → ByteArray → List (S72) → Option (Bool)
 | 0, _, _, _, _, _ => none
 | k + 1, x7, x19, x250000, x250001, x250002 => if x19 < (x7.length : Int) then (if 0 ≤ x19 then ((journal_Find.f x250000 x250001 x250002 (rd x7 x19)).bind fun bt303 => (if bt303.2.2.2.2 = true then (if bt303.1 = (rd x7 x19) then (if x19 ≥ (x250002.length : Int) then (none) else (if x19 < (x250002.length : Int) then (if ((rd_T72 x250002 x19).f0) = (rd x7 x19) then (law7Adds.l2 k x7 (wrap64 (x19 + 1)) x250000 x250001 x250002) else (none)) else (none))) else (none)) else (none))) else (none)) else ((journal_Latest.f x250000 x250001 x250002).bind fun bt312 => (if (x250002.length : Int) = (x7.length : Int) then (if (bt312.2.2.2.2 == (decide ((x7.length : Int) > 0))) = true then (if bt312.2.2.2.2 = true then (if 0 ≤ (wrap64 ((x7.length : Int) - 1)) then (if (wrap64 ((x7.length : Int) - 1)) < (x7.length : Int) then (if bt312.1 = (rd x7 (wrap64 ((x7.length : Int) - 1))) then ((journal_May.f k x250000 x250001 x250002).bind fun t319 => (some t319)) else (none)) else (none)) else (none)) else ((journal_May.f k x250000 x250001 x250002).bind fun t320 => (some t320))) else (none)) else (none)))
end
def law7Adds.f (k : Nat) (l0 : List Int) (l1 : List Int) : Option (Bool) := (strongboxlaw7_awake.f k).bind fun t248 => (if t248 = true then (if (l0.length : Int) > 60 then (law7Adds.j0 k l0 l1 true) else (law7Adds.j0 k l0 l1 (decide ((l1.length : Int) > 60)))) else (none))
theorem law7Adds.mono_l : ∀ k, (∀ y0 y1 y2, LeO (law7Adds.j0 k y0 y1 y2) (law7Adds.j0 (k + 1) y0 y1 y2)) ∧ (∀ y0 y1 y2 y3 y4 y5 y6 y7, LeO (law7Adds.l0 k y0 y1 y2 y3 y4 y5 y6 y7) (law7Adds.l0 (k + 1) y0 y1 y2 y3 y4 y5 y6 y7)) ∧ (∀ y0 y1 y2 y3 y4 y5, LeO (law7Adds.l1 k y0 y1 y2 y3 y4 y5) (law7Adds.l1 (k + 1) y0 y1 y2 y3 y4 y5)) ∧ (∀ y0 y1 y2 y3 y4 y5 y6, LeO (law7Adds.j3 k y0 y1 y2 y3 y4 y5 y6) (law7Adds.j3 (k + 1) y0 y1 y2 y3 y4 y5 y6)) ∧ (∀ y0 y1 y2 y3 y4, LeO (law7Adds.l2 k y0 y1 y2 y3 y4) (law7Adds.l2 (k + 1) y0 y1 y2 y3 y4))
 | 0 => ⟨fun _ _ _ r h => by simp [law7Adds.j0] at h, fun _ _ _ _ _ _ _ _ r h => by simp [law7Adds.l0] at h, fun _ _ _ _ _ _ r h => by simp [law7Adds.l1] at h, fun _ _ _ _ _ _ _ r h => by simp [law7Adds.j3] at h, fun _ _ _ _ _ r h => by simp [law7Adds.l2] at h⟩
 | k + 1 => by
  obtain ⟨ih0, ih1, ih2, ih3, ih4⟩ := law7Adds.mono_l k
  refine ⟨?_, ?_, ?_, ?_, ?_⟩
  ·intro y0 y1 y2
   unfold law7Adds.j0
   repeat' first
   | (with_reducible exact ih0 _ _ _)
   | (with_reducible exact ih1 _ _ _ _ _ _ _ _)
   | (with_reducible exact ih2 _ _ _ _ _ _)
   | (with_reducible exact ih3 _ _ _ _ _ _ _)
   | (with_reducible exact ih4 _ _ _ _ _)
   | (with_reducible exact journal_Add.mono _ _ _ _ _ _ _ _)
   | (with_reducible exact journal_May.mono _ _ _ _)
   | (with_reducible exact strongboxlaw7_awake.mono _)
   | (with_reducible exact LeO.refl _)
   | (with_reducible exact LeO.none _)
   | (with_reducible refine LeO.ite ?_ ?_)
   | (with_reducible refine LeO.bind ?_ (fun _ => ?_))
   | exact ih0 _ _ _
   | exact ih1 _ _ _ _ _ _ _ _
   | exact ih2 _ _ _ _ _ _
   | exact ih3 _ _ _ _ _ _ _
   | exact ih4 _ _ _ _ _
   | exact journal_Add.mono _ _ _ _ _ _ _ _
   | exact journal_May.mono _ _ _ _
   | exact strongboxlaw7_awake.mono _
   | exact LeO.none _
   | refine LeO.ite ?_ ?_
   | refine LeO.bind ?_ (fun _ => ?_)
  ·intro y0 y1 y2 y3 y4 y5 y6 y7
   unfold law7Adds.l0
   repeat' first
   | (with_reducible exact ih0 _ _ _)
   | (with_reducible exact ih1 _ _ _ _ _ _ _ _)
   | (with_reducible exact ih2 _ _ _ _ _ _)
   | (with_reducible exact ih3 _ _ _ _ _ _ _)
   | (with_reducible exact ih4 _ _ _ _ _)
   | (with_reducible exact journal_Add.mono _ _ _ _ _ _ _ _)
   | (with_reducible exact journal_May.mono _ _ _ _)
   | (with_reducible exact strongboxlaw7_awake.mono _)
   | (with_reducible exact LeO.refl _)
   | (with_reducible exact LeO.none _)
   | (with_reducible refine LeO.ite ?_ ?_)
   | (with_reducible refine LeO.bind ?_ (fun _ => ?_))
   | exact ih0 _ _ _
   | exact ih1 _ _ _ _ _ _ _ _
   | exact ih2 _ _ _ _ _ _
   | exact ih3 _ _ _ _ _ _ _
   | exact ih4 _ _ _ _ _
   | exact journal_Add.mono _ _ _ _ _ _ _ _
   | exact journal_May.mono _ _ _ _
   | exact strongboxlaw7_awake.mono _
   | exact LeO.none _
   | refine LeO.ite ?_ ?_
   | refine LeO.bind ?_ (fun _ => ?_)
  ·intro y0 y1 y2 y3 y4 y5
   unfold law7Adds.l1
   repeat' first
   | (with_reducible exact ih0 _ _ _)
   | (with_reducible exact ih1 _ _ _ _ _ _ _ _)
   | (with_reducible exact ih2 _ _ _ _ _ _)
   | (with_reducible exact ih3 _ _ _ _ _ _ _)
   | (with_reducible exact ih4 _ _ _ _ _)
   | (with_reducible exact journal_Add.mono _ _ _ _ _ _ _ _)
   | (with_reducible exact journal_May.mono _ _ _ _)
   | (with_reducible exact strongboxlaw7_awake.mono _)
   | (with_reducible exact LeO.refl _)
   | (with_reducible exact LeO.none _)
   | (with_reducible refine LeO.ite ?_ ?_)
   | (with_reducible refine LeO.bind ?_ (fun _ => ?_))
   | exact ih0 _ _ _
   | exact ih1 _ _ _ _ _ _ _ _
   | exact ih2 _ _ _ _ _ _
   | exact ih3 _ _ _ _ _ _ _
   | exact ih4 _ _ _ _ _
   | exact journal_Add.mono _ _ _ _ _ _ _ _
   | exact journal_May.mono _ _ _ _
   | exact strongboxlaw7_awake.mono _
   | exact LeO.none _
   | refine LeO.ite ?_ ?_
   | refine LeO.bind ?_ (fun _ => ?_)
  ·intro y0 y1 y2 y3 y4 y5 y6
   unfold law7Adds.j3
   repeat' first
   | (with_reducible exact ih0 _ _ _)
   | (with_reducible exact ih1 _ _ _ _ _ _ _ _)
   | (with_reducible exact ih2 _ _ _ _ _ _)
   | (with_reducible exact ih3 _ _ _ _ _ _ _)
   | (with_reducible exact ih4 _ _ _ _ _)
   | (with_reducible exact journal_Add.mono _ _ _ _ _ _ _ _)
   | (with_reducible exact journal_May.mono _ _ _ _)
   | (with_reducible exact strongboxlaw7_awake.mono _)
   | (with_reducible exact LeO.refl _)
   | (with_reducible exact LeO.none _)
   | (with_reducible refine LeO.ite ?_ ?_)
   | (with_reducible refine LeO.bind ?_ (fun _ => ?_))
   | exact ih0 _ _ _
   | exact ih1 _ _ _ _ _ _ _ _
   | exact ih2 _ _ _ _ _ _
   | exact ih3 _ _ _ _ _ _ _
   | exact ih4 _ _ _ _ _
   | exact journal_Add.mono _ _ _ _ _ _ _ _
   | exact journal_May.mono _ _ _ _
   | exact strongboxlaw7_awake.mono _
   | exact LeO.none _
   | refine LeO.ite ?_ ?_
   | refine LeO.bind ?_ (fun _ => ?_)
  ·intro y0 y1 y2 y3 y4
   unfold law7Adds.l2
   repeat' first
   | (with_reducible exact ih0 _ _ _)
   | (with_reducible exact ih1 _ _ _ _ _ _ _ _)
   | (with_reducible exact ih2 _ _ _ _ _ _)
   | (with_reducible exact ih3 _ _ _ _ _ _ _)
   | (with_reducible exact ih4 _ _ _ _ _)
   | (with_reducible exact journal_Add.mono _ _ _ _ _ _ _ _)
   | (with_reducible exact journal_May.mono _ _ _ _)
   | (with_reducible exact strongboxlaw7_awake.mono _)
   | (with_reducible exact LeO.refl _)
   | (with_reducible exact LeO.none _)
   | (with_reducible refine LeO.ite ?_ ?_)
   | (with_reducible refine LeO.bind ?_ (fun _ => ?_))
   | exact ih0 _ _ _
   | exact ih1 _ _ _ _ _ _ _ _
   | exact ih2 _ _ _ _ _ _
   | exact ih3 _ _ _ _ _ _ _
   | exact ih4 _ _ _ _ _
   | exact journal_Add.mono _ _ _ _ _ _ _ _
   | exact journal_May.mono _ _ _ _
   | exact strongboxlaw7_awake.mono _
   | exact LeO.none _
   | refine LeO.ite ?_ ?_
   | refine LeO.bind ?_ (fun _ => ?_)
theorem law7Adds.mono : ∀ a0 a1 k, LeO (law7Adds.f k a0 a1) (law7Adds.f (k + 1) a0 a1) := by
 intro a0 a1 k
 obtain ⟨ih0, ih1, ih2, ih3, ih4⟩ := law7Adds.mono_l k
 unfold law7Adds.f
 repeat' first
   | (with_reducible exact ih0 _ _ _)
   | (with_reducible exact ih1 _ _ _ _ _ _ _ _)
   | (with_reducible exact ih2 _ _ _ _ _ _)
   | (with_reducible exact ih3 _ _ _ _ _ _ _)
   | (with_reducible exact ih4 _ _ _ _ _)
   | (with_reducible exact journal_Add.mono _ _ _ _ _ _ _ _)
   | (with_reducible exact journal_May.mono _ _ _ _)
   | (with_reducible exact strongboxlaw7_awake.mono _)
   | (with_reducible exact LeO.refl _)
   | (with_reducible exact LeO.none _)
   | (with_reducible refine LeO.ite ?_ ?_)
   | (with_reducible refine LeO.bind ?_ (fun _ => ?_))
   | exact ih0 _ _ _
   | exact ih1 _ _ _ _ _ _ _ _
   | exact ih2 _ _ _ _ _ _
   | exact ih3 _ _ _ _ _ _ _
   | exact ih4 _ _ _ _ _
   | exact journal_Add.mono _ _ _ _ _ _ _ _
   | exact journal_May.mono _ _ _ _
   | exact strongboxlaw7_awake.mono _
   | exact LeO.none _
   | refine LeO.ite ?_ ?_
   | refine LeO.bind ?_ (fun _ => ?_)
def law7Adds.T22 : Bool × List (List Nat × List Nat) := (true, [([], []), ([], []), ([], []), ([1, 2], [1, 2]), ([3], [3]), ([0, 4], [0, 4]), ([5], [5]), ([6], [6]), ([6], [6]), ([], []), ([9, 7, 5, 0, 1, 2, 3, 4, 5, 6, 7, 9], [7, 9]), ([8, 10, 0, 1, 2, 3, 4, 5, 6, 7, 8, 9, 10], [8])])
def law7Adds.B22 : List Nat := [0, 0, 0, 6, 14, 31, 63, 127, 127, 0, 767, 2047]
theorem law7Adds.tab22 : rtab .any (opsOf Try.f12 22) = law7Adds.T22 := by kernel_rfl
theorem law7Adds.bits22 : waitsOk law7Adds.T22.2 law7Adds.B22 = true := by kernel_rfl
def law7Adds.T23 : Bool × List (List Nat × List Nat) := (true, [([], []), ([], []), ([], []), ([1, 2], [1, 2]), ([3], [3]), ([0, 4], [0, 4]), ([5], [5]), ([6], [6]), ([6], [6]), ([], []), ([9, 7, 5, 0, 1, 2, 3, 4, 5, 6, 7, 9], [7, 9]), ([8, 10, 0, 1, 2, 3, 4, 5, 6, 7, 8, 9, 10], [8])])
def law7Adds.B23 : List Nat := [0, 0, 0, 6, 14, 31, 63, 127, 127, 0, 767, 2047]
theorem law7Adds.tab23 : rtab .any (opsOf Try.f12 23) = law7Adds.T23 := by kernel_rfl
theorem law7Adds.bits23 : waitsOk law7Adds.T23.2 law7Adds.B23 = true := by kernel_rfl
def law7Adds.T27 : Bool × List (List Nat × List Nat) := (true, [([], []), ([], []), ([], []), ([1, 2], [1, 2]), ([0, 3], [0, 3]), ([], []), ([], []), ([6], [6]), ([5, 7], [5, 7]), ([4, 8, 4], [4, 8]), ([9, 9, 0, 1, 2, 3, 4, 5, 6, 7, 8, 9], [1, 5, 9])])
def law7Adds.B27 : List Nat := [0, 0, 0, 6, 15, 0, 0, 64, 224, 511, 1023]
theorem law7Adds.tab27 : rtab .any (opsOf Try.f12 27) = law7Adds.T27 := by kernel_rfl
theorem law7Adds.bits27 : waitsOk law7Adds.T27.2 law7Adds.B27 = true := by kernel_rfl
def law7Adds.T31 : Bool × List (List Nat × List Nat) := (true, [([], []), ([], []), ([], []), ([1, 2], [1, 2]), ([3], [3]), ([0, 4], [0, 4]), ([5], [5]), ([6], [6]), ([6], [6]), ([], []), ([9, 7, 5, 0, 1, 2, 3, 4, 5, 6, 7, 9], [7, 9]), ([8, 10, 0, 1, 2, 3, 4, 5, 6, 7, 8, 9, 10], [8])])
def law7Adds.B31 : List Nat := [0, 0, 0, 6, 14, 31, 63, 127, 127, 0, 767, 2047]
theorem law7Adds.tab31 : rtab .any (opsOf Try.f12 31) = law7Adds.T31 := by kernel_rfl
theorem law7Adds.bits31 : waitsOk law7Adds.T31.2 law7Adds.B31 = true := by kernel_rfl
def law7Adds.T32 : Bool × List (List Nat × List Nat) := (true, [([], []), ([0], [0]), ([1], [1]), ([2], [2]), ([3, 2], [2, 3]), ([2], [2]), ([2], [2]), ([5, 6, 2], [2, 5, 6]), ([7, 2], [2, 7]), ([4, 8, 2], [2, 4, 8]), ([2, 9], [2, 9]), ([10, 2], [10]), ([11], [11]), ([11], [11]), ([13, 11], [11, 13]), ([14, 11], [11, 14]), ([12, 15, 11], [11, 12, 15]), ([11, 16], [11, 16]), ([17, 11], [17]), ([18], [18]), ([19, 18], [18, 19]), ([18], [18]), ([20, 21, 18], [18, 20, 21]), ([22, 18], [18, 22]), ([23, 18], [18, 23]), ([18], [18]), ([18], [18]), ([25, 26, 18], [18, 25, 26]), ([27, 18], [18, 27]), ([24, 28, 18], [18, 24, 28]), ([18, 29], [18, 29])])
def law7Adds.B32 : List Nat := [0, 1, 3, 7, 15, 7, 7, 103, 231, 511, 1023, 2047, 4095, 4095, 12287, 28671, 65535, 131071, 262143, 524287, 1048575, 524287, 4194303, 8388607, 16777215, 524287, 524287, 101187583, 235405311, 536870911, 1073741823]
theorem law7Adds.tab32 : rtab .any (opsOf Try.f12 32) = law7Adds.T32 := by kernel_rfl
theorem law7Adds.bits32 : waitsOk law7Adds.T32.2 law7Adds.B32 = true := by kernel_rfl
def law7Adds.T35 : Bool × List (List Nat × List Nat) := (true, [([], []), ([0], [0]), ([1], [1]), ([], []), ([3], [3]), ([2, 4], [2, 4]), ([5], [5]), ([6], [6]), ([6], [6]), ([8, 6], [6, 8]), ([9, 6], [6, 9]), ([7, 10, 6], [6, 7, 10]), ([6, 11], [6, 11]), ([12, 6], [12]), ([13], [13]), ([14, 13], [13, 14]), ([15, 13, 13], [13, 15]), ([16], [16]), ([17, 16], [16, 17]), ([16], [16]), ([16], [16]), ([20, 16], [16, 20]), ([21, 16], [16, 21]), ([19, 22, 16], [16, 19, 22]), ([23, 16], [16, 23]), ([18, 24, 16], [16, 18, 24]), ([16, 25, 13], [13, 16, 25]), ([13, 26], [13, 26]), ([27, 16], [27]), ([28], [28]), ([29, 28, 28], [28, 29]), ([28, 30], [28, 30]), ([31, 30, 0, 1, 2, 3, 4, 5, 6, 7, 8, 9, 10, 11, 12, 13, 14, 15, 16, 17, 18, 19, 20, 21, 22, 23, 24, 25, 26, 27, 28, 29, 30, 31], [31])])
def law7Adds.B35 : List Nat := [0, 1, 3, 0, 8, 31, 63, 127, 127, 383, 895, 2047, 4095, 8191, 16383, 32767, 65535, 131071, 262143, 131071, 131071, 1179647, 3276799, 7995391, 16383999, 33554431, 67108863, 134217727, 268435455, 536870911, 1073741823, 2147483647, 4294967295]
theorem law7Adds.tab35 : rtab .any (opsOf Try.f12 35) = law7Adds.T35 := by kernel_rfl
theorem law7Adds.bits35 : waitsOk law7Adds.T35.2 law7Adds.B35 = true := by kernel_rfl

end Go.Proofs.Ytnlpipjdpmaggaa.PJournalReads
