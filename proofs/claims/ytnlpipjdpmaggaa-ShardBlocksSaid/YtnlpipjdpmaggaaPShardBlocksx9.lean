/- WRITTEN FOR THIS CLAIM by a program of the prover's own (the kit's printing program, with constructs added): for each Go function that the statement reaches a Lean function with the same answers, and the proof of that. Not trusted: Lean checks it. -/
import Derived.Test.YtnlpipjdpmaggaaPShardBlocksx0
import Derived.Test.YtnlpipjdpmaggaaPShardBlocksx2
import Derived.Test.YtnlpipjdpmaggaaPShardBlocksx3
import Derived.Test.YtnlpipjdpmaggaaPShardBlocksx7
import Derived.Test.YtnlpipjdpmaggaaPShardBlocksx8
namespace Go.Proofs.Ytnlpipjdpmaggaa.PShardBlocks
open Go.RowKit Go.Proofs.YtnlpipjdpmaggaaW.PrintWords Go.Proofs.YtnlpipjdpmaggaaW.PrintLast Go.Proofs.YtnlpipjdpmaggaaW.PrintMore
attribute [local go_sem] max2_int min2_int max_two min_two max_three min_three max_four min_four   -- for this text's walks alone
set_option linter.unusedVariables false
set_option linter.unusedSimpArgs false

/-! ### strongboxlaw5_ShardBlocks: function 5 -/
mutual
def strongboxlaw5_ShardBlocks.j0 : Nat → List Int → List Int → Int → Bool → Int → Int → Int → Int → Int → Int → Option (Bool)
  | 0, _, _, _, _, _, _, _, _, _, _ => none
  | k + 1, x0, x6, x8, x49, x276000, x276001, x276002, x276003, x276004, x276005 => if x49 = true then (none) else (strongboxlaw5_ShardBlocks.l0 k x0 x6 x8 24 0 x276000 x276001 x276002 x276003 x276004 x276005)
def strongboxlaw5_ShardBlocks.l0 : Nat → List Int → List Int → Int → Int → Int → Int → Int → Int → Int → Int → Int → Option (Bool)
  | 0, _, _, _, _, _, _, _, _, _, _, _ => none
  | k + 1, x0, x6, x8, x9, x10, x276000, x276001, x276002, x276003, x276004, x276005 => if x10 < x8 then (if 0 ≤ (wrap64 (x10 * x276003)) then (if (wrap64 (x10 * x276003)) ≤ (mn (wrap64 ((wrap64 (x10 + 1)) * x276003)) (x0.length : Int)) then (if (mn (wrap64 ((wrap64 (x10 + 1)) * x276003)) (x0.length : Int)) ≤ (x0.length : Int) then (if 0 ≤ x9 then (if x9 ≤ (wrap64 (x9 + (((x0.take ((mn (wrap64 ((wrap64 (x10 + 1)) * x276003)) (x0.length : Int)) : Int).toNat).drop ((wrap64 (x10 * x276003)) : Int).toNat).length : Int))) then (if (wrap64 (x9 + (((x0.take ((mn (wrap64 ((wrap64 (x10 + 1)) * x276003)) (x0.length : Int)) : Int).toNat).drop ((wrap64 (x10 * x276003)) : Int).toNat).length : Int))) ≤ (x6.length : Int) then (if (strOfNums ((x6.take ((wrap64 (x9 + (((x0.take ((mn (wrap64 ((wrap64 (x10 + 1)) * x276003)) (x0.length : Int)) : Int).toNat).drop ((wrap64 (x10 * x276003)) : Int).toNat).length : Int))) : Int).toNat).drop (x9 : Int).toNat)).toList = (strOfNums ((x0.take ((mn (wrap64 ((wrap64 (x10 + 1)) * x276003)) (x0.length : Int)) : Int).toNat).drop ((wrap64 (x10 * x276003)) : Int).toNat)).toList then (if 0 ≤ (wrap64 (x9 + (((x0.take ((mn (wrap64 ((wrap64 (x10 + 1)) * x276003)) (x0.length : Int)) : Int).toNat).drop ((wrap64 (x10 * x276003)) : Int).toNat).length : Int))) then (if (wrap64 (x9 + (((x0.take ((mn (wrap64 ((wrap64 (x10 + 1)) * x276003)) (x0.length : Int)) : Int).toNat).drop ((wrap64 (x10 * x276003)) : Int).toNat).length : Int))) ≤ (wrap64 ((wrap64 (x9 + (((x0.take ((mn (wrap64 ((wrap64 (x10 + 1)) * x276003)) (x0.length : Int)) : Int).toNat).drop ((wrap64 (x10 * x276003)) : Int).toNat).length : Int))) + 4)) then (if (wrap64 ((wrap64 (x9 + (((x0.take ((mn (wrap64 ((wrap64 (x10 + 1)) * x276003)) (x0.length : Int)) : Int).toNat).drop ((wrap64 (x10 * x276003)) : Int).toNat).length : Int))) + 4)) ≤ (x6.length : Int) then ((strongboxref4_Sum.f k ((x0.take ((mn (wrap64 ((wrap64 (x10 + 1)) * x276003)) (x0.length : Int)) : Int).toNat).drop ((wrap64 (x10 * x276003)) : Int).toNat)).bind fun t307 => ((strongboxref4_Bytes.f k t307).bind fun t308 => (if (strOfNums ((x6.take ((wrap64 ((wrap64 (x9 + (((x0.take ((mn (wrap64 ((wrap64 (x10 + 1)) * x276003)) (x0.length : Int)) : Int).toNat).drop ((wrap64 (x10 * x276003)) : Int).toNat).length : Int))) + 4)) : Int).toNat).drop ((wrap64 (x9 + (((x0.take ((mn (wrap64 ((wrap64 (x10 + 1)) * x276003)) (x0.length : Int)) : Int).toNat).drop ((wrap64 (x10 * x276003)) : Int).toNat).length : Int))) : Int).toNat)).toList = (strOfNums t308).toList then (strongboxlaw5_ShardBlocks.l0 k x0 x6 x8 (wrap64 ((wrap64 (x9 + (((x0.take ((mn (wrap64 ((wrap64 (x10 + 1)) * x276003)) (x0.length : Int)) : Int).toNat).drop ((wrap64 (x10 * x276003)) : Int).toNat).length : Int))) + 4)) (wrap64 (x10 + 1)) x276000 x276001 x276002 x276003 x276004 x276005) else (none)))) else (none)) else (none)) else (none)) else (none)) else (none)) else (none)) else (none)) else (none)) else (none)) else (none)) else (if x9 = (x6.length : Int) then (if 20 ≤ 24 then (if 24 ≤ (x6.length : Int) then (if 20 ≤ (x6.length : Int) then ((strongboxref4_Sum.f k (x6.take 20)).bind fun t294 => ((strongboxref4_Bytes.f k t294).bind fun t295 => (some ((strOfNums ((x6.take 24).drop 20)).toList == (strOfNums t295).toList)))) else (none)) else (none)) else (none)) else (none))
end
def strongboxlaw5_ShardBlocks.f (k : Nat) (l0 : List Int) (a1 : Int) : Option (Bool) := (strongboxlaw5_awake.f k).bind fun t268 => (if t268 = true then (if (l0.length : Int) > 4000 then (some true) else ((strongboxlaw5_One.f (l0.length : Int) a1).bind fun bt269 => ((strongboxlaw5_Head.f bt269.1 bt269.2.1 bt269.2.2.1 bt269.2.2.2.1 bt269.2.2.2.2.1 bt269.2.2.2.2.2).bind fun bt276 => ((shard_Write.f k bt276.1 bt276.2.1 bt276.2.2.1 bt276.2.2.2.1 bt276.2.2.2.2.1 bt276.2.2.2.2.2 l0).bind fun bt282 => (if bt269.2.2.2.1 = 0 then (none) else (if bt282.2 = 0 then (strongboxlaw5_ShardBlocks.j0 k l0 bt282.1 (wrap64 (Int.tdiv (wrap64 ((wrap64 ((l0.length : Int) + bt269.2.2.2.1)) - 1)) bt269.2.2.2.1)) ((bt282.1.length : Int) != (wrap64 ((wrap64 (24 + (l0.length : Int))) + (wrap64 (4 * (wrap64 (Int.tdiv (wrap64 ((wrap64 ((l0.length : Int) + bt269.2.2.2.1)) - 1)) bt269.2.2.2.1))))))) bt269.1 bt269.2.1 bt269.2.2.1 bt269.2.2.2.1 bt269.2.2.2.2.1 bt269.2.2.2.2.2) else (strongboxlaw5_ShardBlocks.j0 k l0 bt282.1 (wrap64 (Int.tdiv (wrap64 ((wrap64 ((l0.length : Int) + bt269.2.2.2.1)) - 1)) bt269.2.2.2.1)) true bt269.1 bt269.2.1 bt269.2.2.1 bt269.2.2.2.1 bt269.2.2.2.2.1 bt269.2.2.2.2.2))))))) else (none))
theorem strongboxlaw5_ShardBlocks.mono_l : ∀ k, (∀ y0 y1 y2 y3 y4 y5 y6 y7 y8 y9, LeO (strongboxlaw5_ShardBlocks.j0 k y0 y1 y2 y3 y4 y5 y6 y7 y8 y9) (strongboxlaw5_ShardBlocks.j0 (k + 1) y0 y1 y2 y3 y4 y5 y6 y7 y8 y9)) ∧ (∀ y0 y1 y2 y3 y4 y5 y6 y7 y8 y9 y10, LeO (strongboxlaw5_ShardBlocks.l0 k y0 y1 y2 y3 y4 y5 y6 y7 y8 y9 y10) (strongboxlaw5_ShardBlocks.l0 (k + 1) y0 y1 y2 y3 y4 y5 y6 y7 y8 y9 y10))
  | 0 => ⟨fun _ _ _ _ _ _ _ _ _ _ r h => by simp [strongboxlaw5_ShardBlocks.j0] at h, fun _ _ _ _ _ _ _ _ _ _ _ r h => by simp [strongboxlaw5_ShardBlocks.l0] at h⟩
  | k + 1 => by
    obtain ⟨ih0, ih1⟩ := strongboxlaw5_ShardBlocks.mono_l k
    refine ⟨?_, ?_⟩
    · intro y0 y1 y2 y3 y4 y5 y6 y7 y8 y9
      unfold strongboxlaw5_ShardBlocks.j0
      repeat' first
      | (with_reducible exact ih0 _ _ _ _ _ _ _ _ _ _)
      | (with_reducible exact ih1 _ _ _ _ _ _ _ _ _ _ _)
      | (with_reducible exact shard_Write.mono _ _ _ _ _ _ _ _)
      | (with_reducible exact strongboxlaw5_awake.mono _)
      | (with_reducible exact strongboxref4_Bytes.mono _ _)
      | (with_reducible exact strongboxref4_Sum.mono _ _)
      | (with_reducible exact LeO.refl _)
      | (with_reducible exact LeO.none _)
      | (with_reducible refine LeO.ite ?_ ?_)
      | (with_reducible refine LeO.bind ?_ (fun _ => ?_))
      | exact ih0 _ _ _ _ _ _ _ _ _ _
      | exact ih1 _ _ _ _ _ _ _ _ _ _ _
      | exact shard_Write.mono _ _ _ _ _ _ _ _
      | exact strongboxlaw5_awake.mono _
      | exact strongboxref4_Bytes.mono _ _
      | exact strongboxref4_Sum.mono _ _
      | exact LeO.none _
      | refine LeO.ite ?_ ?_
      | refine LeO.bind ?_ (fun _ => ?_)
    · intro y0 y1 y2 y3 y4 y5 y6 y7 y8 y9 y10
      unfold strongboxlaw5_ShardBlocks.l0
      repeat' first
      | (with_reducible exact ih0 _ _ _ _ _ _ _ _ _ _)
      | (with_reducible exact ih1 _ _ _ _ _ _ _ _ _ _ _)
      | (with_reducible exact shard_Write.mono _ _ _ _ _ _ _ _)
      | (with_reducible exact strongboxlaw5_awake.mono _)
      | (with_reducible exact strongboxref4_Bytes.mono _ _)
      | (with_reducible exact strongboxref4_Sum.mono _ _)
      | (with_reducible exact LeO.refl _)
      | (with_reducible exact LeO.none _)
      | (with_reducible refine LeO.ite ?_ ?_)
      | (with_reducible refine LeO.bind ?_ (fun _ => ?_))
      | exact ih0 _ _ _ _ _ _ _ _ _ _
      | exact ih1 _ _ _ _ _ _ _ _ _ _ _
      | exact shard_Write.mono _ _ _ _ _ _ _ _
      | exact strongboxlaw5_awake.mono _
      | exact strongboxref4_Bytes.mono _ _
      | exact strongboxref4_Sum.mono _ _
      | exact LeO.none _
      | refine LeO.ite ?_ ?_
      | refine LeO.bind ?_ (fun _ => ?_)
theorem strongboxlaw5_ShardBlocks.mono : ∀ a0 a1 k, LeO (strongboxlaw5_ShardBlocks.f k a0 a1) (strongboxlaw5_ShardBlocks.f (k + 1) a0 a1) := by
  intro a0 a1 k
  obtain ⟨ih0, ih1⟩ := strongboxlaw5_ShardBlocks.mono_l k
  unfold strongboxlaw5_ShardBlocks.f
  repeat' first
      | (with_reducible exact ih0 _ _ _ _ _ _ _ _ _ _)
      | (with_reducible exact ih1 _ _ _ _ _ _ _ _ _ _ _)
      | (with_reducible exact shard_Write.mono _ _ _ _ _ _ _ _)
      | (with_reducible exact strongboxlaw5_awake.mono _)
      | (with_reducible exact strongboxref4_Bytes.mono _ _)
      | (with_reducible exact strongboxref4_Sum.mono _ _)
      | (with_reducible exact LeO.refl _)
      | (with_reducible exact LeO.none _)
      | (with_reducible refine LeO.ite ?_ ?_)
      | (with_reducible refine LeO.bind ?_ (fun _ => ?_))
      | exact ih0 _ _ _ _ _ _ _ _ _ _
      | exact ih1 _ _ _ _ _ _ _ _ _ _ _
      | exact shard_Write.mono _ _ _ _ _ _ _ _
      | exact strongboxlaw5_awake.mono _
      | exact strongboxref4_Bytes.mono _ _
      | exact strongboxref4_Sum.mono _ _
      | exact LeO.none _
      | refine LeO.ite ?_ ?_
      | refine LeO.bind ?_ (fun _ => ?_)
def strongboxlaw5_ShardBlocks.T15 : Bool × List (List Nat × List Nat) := (true, [([], []), ([], []), ([], []), ([], []), ([3], [3]), ([2, 4], [2, 4]), ([0, 1, 5], [0, 1, 5]), ([6], [6]), ([], []), ([8], [8]), ([7, 9], [7, 9]), ([10], [10]), ([11], [11]), ([11], [11]), ([11], [11]), ([14, 11], [11, 14]), ([13, 15, 11], [11, 13, 15]), ([11], [11]), ([11], [11]), ([18, 11], [11, 18]), ([17, 19, 11], [11, 17, 19]), ([20, 11], [11, 20]), ([12, 16, 21, 11], [11, 12, 16, 21]), ([22, 11], [11, 22]), ([11], [11]), ([24, 11, 11], [11, 24]), ([25, 25, 11], [11, 25]), ([26, 11], [11, 26]), ([23, 27, 11], [11, 23, 27]), ([11, 28], [11, 28])])
def strongboxlaw5_ShardBlocks.B15 : List Nat := [0, 0, 0, 0, 8, 28, 63, 127, 0, 256, 1023, 2047, 4095, 4095, 4095, 20479, 61439, 4095, 4095, 266239, 921599, 1970175, 4194303, 8388607, 4095, 16781311, 50335743, 117444607, 268435455, 536870911]
theorem strongboxlaw5_ShardBlocks.tab15 : rtab .any (opsOf Try.f5 15) = strongboxlaw5_ShardBlocks.T15 := by kernel_rfl
theorem strongboxlaw5_ShardBlocks.bits15 : waitsOk strongboxlaw5_ShardBlocks.T15.2 strongboxlaw5_ShardBlocks.B15 = true := by kernel_rfl
def strongboxlaw5_ShardBlocks.T18 : Bool × List (List Nat × List Nat) := (true, [([], []), ([], []), ([1], [1]), ([0, 2], [0, 2]), ([3], [3]), ([4], [4]), ([5, 4], [4, 5]), ([6, 4], [4, 6]), ([4], [4]), ([8, 4], [4, 8]), ([9, 4, 4], [4, 9]), ([10, 10, 4], [4, 10]), ([11, 4], [4, 11]), ([7, 12, 4], [4, 7, 12]), ([4, 13], [4, 13]), ([14, 11, 0, 1, 2, 3, 4, 5, 6, 7, 8, 9, 10, 11, 12, 13, 14], [14])])
def strongboxlaw5_ShardBlocks.B18 : List Nat := [0, 0, 2, 7, 15, 31, 63, 127, 31, 287, 799, 1823, 3871, 8191, 16383, 32767]
theorem strongboxlaw5_ShardBlocks.tab18 : rtab .any (opsOf Try.f5 18) = strongboxlaw5_ShardBlocks.T18 := by kernel_rfl
theorem strongboxlaw5_ShardBlocks.bits18 : waitsOk strongboxlaw5_ShardBlocks.T18.2 strongboxlaw5_ShardBlocks.B18 = true := by kernel_rfl
set_option maxHeartbeats 8000000 in
set_option maxRecDepth 100000 in
theorem strongboxlaw5_ShardBlocks.calls (k : Nat) (A0 : Option Addr) (c0 : Nat) (l0 : List Int) (a1 : Int) (r : Bool) (w : World) (hr0 : Kd.C (Kd.int .u8) w A0 l0.length l0) (hc0 : l0.length ≤ c0) (h : strongboxlaw5_ShardBlocks.f k l0 a1 = some r) :
    Calls Try.prog 5 #[.slice A0 l0.length c0, .int .u8 a1] w fun e w' => e = .returned (.bool r) ∧ Below w.heap.size w w' := by
  have hu27 := Try.underlying27
  have HR0 := Aside0.mk hr0
  have HC0 := Aside0.mk hc0
  clear hr0 hc0
  have HB := Aside0.mk (Below.refl w.heap.size w)
  have H : ((strongboxlaw5_awake.f k).bind fun t268 => (if t268 = true then (if (l0.length : Int) > 4000 then (some true) else ((strongboxlaw5_One.f (l0.length : Int) a1).bind fun bt269 => ((strongboxlaw5_Head.f bt269.1 bt269.2.1 bt269.2.2.1 bt269.2.2.2.1 bt269.2.2.2.2.1 bt269.2.2.2.2.2).bind fun bt276 => ((shard_Write.f k bt276.1 bt276.2.1 bt276.2.2.1 bt276.2.2.2.1 bt276.2.2.2.2.1 bt276.2.2.2.2.2 l0).bind fun bt282 => (if bt269.2.2.2.1 = 0 then (none) else (if bt282.2 = 0 then (strongboxlaw5_ShardBlocks.j0 k l0 bt282.1 (wrap64 (Int.tdiv (wrap64 ((wrap64 ((l0.length : Int) + bt269.2.2.2.1)) - 1)) bt269.2.2.2.1)) ((bt282.1.length : Int) != (wrap64 ((wrap64 (24 + (l0.length : Int))) + (wrap64 (4 * (wrap64 (Int.tdiv (wrap64 ((wrap64 ((l0.length : Int) + bt269.2.2.2.1)) - 1)) bt269.2.2.2.1))))))) bt269.1 bt269.2.1 bt269.2.2.1 bt269.2.2.2.1 bt269.2.2.2.2.1 bt269.2.2.2.2.2) else (strongboxlaw5_ShardBlocks.j0 k l0 bt282.1 (wrap64 (Int.tdiv (wrap64 ((wrap64 ((l0.length : Int) + bt269.2.2.2.1)) - 1)) bt269.2.2.2.1)) true bt269.1 bt269.2.1 bt269.2.2.1 bt269.2.2.2.1 bt269.2.2.2.2.1 bt269.2.2.2.2.2))))))) else (none))) = some r := h
  clear h
  replace H := Option.bind_eq_some_iff.mp H
  obtain ⟨t268, A30, H⟩ := H
  replace H : (if t268 = true then (if (l0.length : Int) > 4000 then (some true) else ((strongboxlaw5_One.f (l0.length : Int) a1).bind fun bt269 => ((strongboxlaw5_Head.f bt269.1 bt269.2.1 bt269.2.2.1 bt269.2.2.2.1 bt269.2.2.2.2.1 bt269.2.2.2.2.2).bind fun bt276 => ((shard_Write.f k bt276.1 bt276.2.1 bt276.2.2.1 bt276.2.2.2.1 bt276.2.2.2.2.1 bt276.2.2.2.2.2 l0).bind fun bt282 => (if bt269.2.2.2.1 = 0 then (none) else (if bt282.2 = 0 then (strongboxlaw5_ShardBlocks.j0 k l0 bt282.1 (wrap64 (Int.tdiv (wrap64 ((wrap64 ((l0.length : Int) + bt269.2.2.2.1)) - 1)) bt269.2.2.2.1)) ((bt282.1.length : Int) != (wrap64 ((wrap64 (24 + (l0.length : Int))) + (wrap64 (4 * (wrap64 (Int.tdiv (wrap64 ((wrap64 ((l0.length : Int) + bt269.2.2.2.1)) - 1)) bt269.2.2.2.1))))))) bt269.1 bt269.2.1 bt269.2.2.1 bt269.2.2.2.1 bt269.2.2.2.2.1 bt269.2.2.2.2.2) else (strongboxlaw5_ShardBlocks.j0 k l0 bt282.1 (wrap64 (Int.tdiv (wrap64 ((wrap64 ((l0.length : Int) + bt269.2.2.2.1)) - 1)) bt269.2.2.2.1)) true bt269.1 bt269.2.1 bt269.2.2.1 bt269.2.2.2.1 bt269.2.2.2.2.1 bt269.2.2.2.2.2))))))) else (none)) = some r := H
  have A3 := Aside0.mk A30
  clear A30
  by_cases c4 : t268 = true
  · subst c4
    have H1 : (if (l0.length : Int) > 4000 then (some true) else ((strongboxlaw5_One.f (l0.length : Int) a1).bind fun bt269 => ((strongboxlaw5_Head.f bt269.1 bt269.2.1 bt269.2.2.1 bt269.2.2.2.1 bt269.2.2.2.2.1 bt269.2.2.2.2.2).bind fun bt276 => ((shard_Write.f k bt276.1 bt276.2.1 bt276.2.2.1 bt276.2.2.2.1 bt276.2.2.2.2.1 bt276.2.2.2.2.2 l0).bind fun bt282 => (if bt269.2.2.2.1 = 0 then (none) else (if bt282.2 = 0 then (strongboxlaw5_ShardBlocks.j0 k l0 bt282.1 (wrap64 (Int.tdiv (wrap64 ((wrap64 ((l0.length : Int) + bt269.2.2.2.1)) - 1)) bt269.2.2.2.1)) ((bt282.1.length : Int) != (wrap64 ((wrap64 (24 + (l0.length : Int))) + (wrap64 (4 * (wrap64 (Int.tdiv (wrap64 ((wrap64 ((l0.length : Int) + bt269.2.2.2.1)) - 1)) bt269.2.2.2.1))))))) bt269.1 bt269.2.1 bt269.2.2.1 bt269.2.2.2.1 bt269.2.2.2.2.1 bt269.2.2.2.2.2) else (strongboxlaw5_ShardBlocks.j0 k l0 bt282.1 (wrap64 (Int.tdiv (wrap64 ((wrap64 ((l0.length : Int) + bt269.2.2.2.1)) - 1)) bt269.2.2.2.1)) true bt269.1 bt269.2.1 bt269.2.2.1 bt269.2.2.2.1 bt269.2.2.2.2.1 bt269.2.2.2.2.2))))))) = some r := by rw [if_pos rfl] at H; exact H
    clear H
    have H := H1
    clear H1
    by_cases c5 : (l0.length : Int) > 4000
    · rw [if_pos c5] at H
      have c5b0 : decide (4000 < (l0.length : Int)) = true := decide_eq_true c5
      have c5b1 : decide (4000 < l0.length) = true := decide_eq_true (by omega)
      clear c5
      obtain rfl := Option.some.inj H
      go_enter Try.func5, Try.ntmps5
      go_wp2_with (first | ((with_reducible refine gate_callee (f := 14) rfl ?_); refine goesL_ (some 12) rfl rfl Try.func14 (by kernel_rfl) rfl #[] rfl (by (try simp only [List.map_toArray, List.map_cons, List.map_nil]); first | done | rfl | (simp only [List.length_drop, List.length_take]; rfl)) ?_; (with_reducible refine (strongboxlaw5_awake.calls k  true _ A3.out).mono ?_); rintro e w6 ⟨rfl, hb⟩; refine ⟨_, rfl, ?_⟩; have n0_ := Aside0.mk (below_step (by repeat (first | (with_reducible first | exact HB.out | apply below_alloc | apply pw_below_drewN | apply below_drew1) | exact HB.out)) hb); clear HB; have HB := n0_; clear n0_; (try clear hb); (try clear hb2); (try clear hk); (try clear hi)))
      go_ret
      exact ⟨by first | rfl | (simp [errW_none, errW_some] <;> rfl) | (simp [*, errW_none, errW_some] <;> rfl), by repeat (first | (with_reducible first | exact HB.out | apply below_alloc | apply pw_below_drewN | apply below_drew1) | exact HB.out)⟩
    · rw [if_neg c5] at H
      have c5b0 : decide (4000 < (l0.length : Int)) = false := decide_eq_false c5
      have c5b1 : decide (4000 < l0.length) = false := decide_eq_false (by omega)
      clear c5
      replace H := Option.bind_eq_some_iff.mp H
      obtain ⟨⟨t269, t270, t271, t272, t273, t274⟩, A70, H⟩ := H
      replace H : ((strongboxlaw5_Head.f t269 t270 t271 t272 t273 t274).bind fun bt276 => ((shard_Write.f k bt276.1 bt276.2.1 bt276.2.2.1 bt276.2.2.2.1 bt276.2.2.2.2.1 bt276.2.2.2.2.2 l0).bind fun bt282 => (if t272 = 0 then (none) else (if bt282.2 = 0 then (strongboxlaw5_ShardBlocks.j0 k l0 bt282.1 (wrap64 (Int.tdiv (wrap64 ((wrap64 ((l0.length : Int) + t272)) - 1)) t272)) ((bt282.1.length : Int) != (wrap64 ((wrap64 (24 + (l0.length : Int))) + (wrap64 (4 * (wrap64 (Int.tdiv (wrap64 ((wrap64 ((l0.length : Int) + t272)) - 1)) t272))))))) t269 t270 t271 t272 t273 t274) else (strongboxlaw5_ShardBlocks.j0 k l0 bt282.1 (wrap64 (Int.tdiv (wrap64 ((wrap64 ((l0.length : Int) + t272)) - 1)) t272)) true t269 t270 t271 t272 t273 t274))))) = some r := H
      have A7 := Aside0.mk A70
      clear A70
      replace H := Option.bind_eq_some_iff.mp H
      obtain ⟨⟨t276, t277, t278, t279, t280, t281⟩, A80, H⟩ := H
      replace H : ((shard_Write.f k t276 t277 t278 t279 t280 t281 l0).bind fun bt282 => (if t272 = 0 then (none) else (if bt282.2 = 0 then (strongboxlaw5_ShardBlocks.j0 k l0 bt282.1 (wrap64 (Int.tdiv (wrap64 ((wrap64 ((l0.length : Int) + t272)) - 1)) t272)) ((bt282.1.length : Int) != (wrap64 ((wrap64 (24 + (l0.length : Int))) + (wrap64 (4 * (wrap64 (Int.tdiv (wrap64 ((wrap64 ((l0.length : Int) + t272)) - 1)) t272))))))) t269 t270 t271 t272 t273 t274) else (strongboxlaw5_ShardBlocks.j0 k l0 bt282.1 (wrap64 (Int.tdiv (wrap64 ((wrap64 ((l0.length : Int) + t272)) - 1)) t272)) true t269 t270 t271 t272 t273 t274)))) = some r := H
      have A8 := Aside0.mk A80
      clear A80
      replace H := Option.bind_eq_some_iff.mp H
      obtain ⟨⟨t282, t285⟩, A90, H⟩ := H
      replace H : (if t272 = 0 then (none) else (if t285 = 0 then (strongboxlaw5_ShardBlocks.j0 k l0 t282 (wrap64 (Int.tdiv (wrap64 ((wrap64 ((l0.length : Int) + t272)) - 1)) t272)) ((t282.length : Int) != (wrap64 ((wrap64 (24 + (l0.length : Int))) + (wrap64 (4 * (wrap64 (Int.tdiv (wrap64 ((wrap64 ((l0.length : Int) + t272)) - 1)) t272))))))) t269 t270 t271 t272 t273 t274) else (strongboxlaw5_ShardBlocks.j0 k l0 t282 (wrap64 (Int.tdiv (wrap64 ((wrap64 ((l0.length : Int) + t272)) - 1)) t272)) true t269 t270 t271 t272 t273 t274))) = some r := H
      have A9 := Aside0.mk A90
      clear A90
      by_cases c10 : t272 = 0
      · rw [if_pos c10] at H
        exact absurd H (by simp)
      · rw [if_neg c10] at H
        have c10b0 : (t272 == 0) = false := beq_eq_false_iff_ne.mpr c10
        have c10b1 : (t272 != 0) = true := bne_iff_ne.mpr c10
        have HC11 := Aside0.mk H
        clear H
        go_enter Try.func5, Try.ntmps5
        go_upto_region 8 with (first | ((with_reducible refine gate_callee (f := 14) rfl ?_); refine goesL_ (some 12) rfl rfl Try.func14 (by kernel_rfl) rfl #[] rfl (by (try simp only [List.map_toArray, List.map_cons, List.map_nil]); first | done | rfl | (simp only [List.length_drop, List.length_take]; rfl)) ?_; (with_reducible refine (strongboxlaw5_awake.calls k  true _ A3.out).mono ?_); rintro e w12 ⟨rfl, hb⟩; refine ⟨_, rfl, ?_⟩; have n0_ := Aside0.mk (below_step (by repeat (first | (with_reducible first | exact HB.out | apply below_alloc | apply pw_below_drewN | apply below_drew1) | exact HB.out)) hb); clear HB; have HB := n0_; clear n0_; (try clear hb); (try clear hb2); (try clear hk); (try clear hi)) | ((with_reducible refine gate_callee (f := 15) rfl ?_); refine goesL_ (some 20) rfl rfl Try.func15 (by kernel_rfl) rfl #[.int .i64 (l0.length : Int), .int .u8 a1] rfl (by (try simp only [List.map_toArray, List.map_cons, List.map_nil]); first | done | rfl | (simp only [List.length_drop, List.length_take]; rfl)) ?_; (with_reducible refine (strongboxlaw5_One.calls (l0.length : Int) a1 t269 t270 t271 t272 t273 t274 _ A7.out).mono ?_); rintro e w13 ⟨rfl, hb⟩; refine ⟨_, rfl, ?_⟩; have n0_ := Aside0.mk (below_step (by repeat (first | (with_reducible first | exact HB.out | apply below_alloc | apply pw_below_drewN | apply below_drew1) | exact HB.out)) hb); clear HB; have HB := n0_; clear n0_; (try clear hb); (try clear hb2); (try clear hk); (try clear hi)) | ((with_reducible refine gate_dst (N := 5) rfl ?_); (try (refine gate_guard (by rfl) ?_; dsimp only)); refine box_event ?hg (N := 5) ?hd (cs := #[.int .i64 0, .int .i64 0, .int .i64 0, .int .i64 0, .int .i64 0, .int .i64 0]) (t := 27) ?hr ?_; (case hd => rfl); (case hg => rfl); (case hr => first | (go_simp; done) | (go_simp; rfl)); intro gb275 hg w14 hbox hb; have n0_ := Aside0.mk (below_step (by repeat (first | (with_reducible first | exact HB.out | apply below_alloc | apply pw_below_drewN | apply below_drew1) | exact HB.out)) hb); have n1_ := Aside0.mk (hbox); have n2_ := Aside0.mk ((by rw [hg]; exact (below_size (by repeat (first | (with_reducible first | exact HB.out | apply below_alloc | apply pw_below_drewN | apply below_drew1) | exact HB.out))) : w.heap.size ≤ gb275)); have n3_ := Aside0.mk ((by rw [hg]; exact (below_size (by repeat (first | (with_reducible first | exact HB.out | apply below_alloc | apply pw_below_drewN | apply below_drew1) | exact HB.out))) : w.heap.size ≤ gb275)); clear HB; have HB := n0_; have BK275 := n1_; have GW275 := n2_; have GE275 := n3_; clear n0_ n1_ n2_ n3_; clear hb hbox hg; have hcz15_0 : w14.cell? ⟨gb275, 0, none⟩ = some (.int .i64 0) := (blk_cell BK275.out 0).trans rfl; have hcz15_1 : w14.cell? ⟨gb275, 1, none⟩ = some (.int .i64 0) := (blk_cell BK275.out 1).trans rfl; have hcz15_2 : w14.cell? ⟨gb275, 2, none⟩ = some (.int .i64 0) := (blk_cell BK275.out 2).trans rfl; have hcz15_3 : w14.cell? ⟨gb275, 3, none⟩ = some (.int .i64 0) := (blk_cell BK275.out 3).trans rfl; have hcz15_4 : w14.cell? ⟨gb275, 4, none⟩ = some (.int .i64 0) := (blk_cell BK275.out 4).trans rfl; have hcz15_5 : w14.cell? ⟨gb275, 5, none⟩ = some (.int .i64 0) := (blk_cell BK275.out 5).trans rfl; have hfz15_0 := blk_frozen BK275.out 0; have hfz15_1 := blk_frozen BK275.out 1; have hfz15_2 := blk_frozen BK275.out 2; have hfz15_3 := blk_frozen BK275.out 3; have hfz15_4 := blk_frozen BK275.out 4; have hfz15_5 := blk_frozen BK275.out 5) | ((with_reducible refine gate_callee (f := 17) rfl ?_); refine goesL_ (some 23) rfl rfl Try.func17 (by kernel_rfl) rfl #[.agg #[.int .i64 t269, .int .i64 t270, .int .i64 t271, .int .i64 t272, .int .i64 t273, .int .i64 t274]] rfl (by (try simp only [List.map_toArray, List.map_cons, List.map_nil]); first | done | rfl | (simp only [List.length_drop, List.length_take]; rfl)) ?_; (with_reducible refine (strongboxlaw5_Head.calls t269 t270 t271 t272 t273 t274 t276 t277 t278 t279 t280 t281 _ A8.out).mono ?_); rintro e w16 ⟨rfl, hb⟩; refine ⟨_, rfl, ?_⟩; have n0_ := Aside0.mk (blk_below (g := gb275) (o := .cells #[.int .i64 t269, .int .i64 t270, .int .i64 t271, .int .i64 t272, .int .i64 t273, .int .i64 t274] 27 (0, 0)) (by (with_reducible repeat (first | refine blk_drewN ?_ _ | refine blk_drew ?_ | refine blk_alloc ?_ _)); refine blk_put (cs := #[.int .i64 t269, .int .i64 t270, .int .i64 t271, .int .i64 t272, .int .i64 t273, .int .i64 0]) ?_ 5 _ rfl; (with_reducible repeat (first | refine blk_drewN ?_ _ | refine blk_drew ?_ | refine blk_alloc ?_ _)); refine blk_put (cs := #[.int .i64 t269, .int .i64 t270, .int .i64 t271, .int .i64 t272, .int .i64 0, .int .i64 0]) ?_ 4 _ rfl; (with_reducible repeat (first | refine blk_drewN ?_ _ | refine blk_drew ?_ | refine blk_alloc ?_ _)); refine blk_put (cs := #[.int .i64 t269, .int .i64 t270, .int .i64 t271, .int .i64 0, .int .i64 0, .int .i64 0]) ?_ 3 _ rfl; (with_reducible repeat (first | refine blk_drewN ?_ _ | refine blk_drew ?_ | refine blk_alloc ?_ _)); refine blk_put (cs := #[.int .i64 t269, .int .i64 t270, .int .i64 0, .int .i64 0, .int .i64 0, .int .i64 0]) ?_ 2 _ rfl; (with_reducible repeat (first | refine blk_drewN ?_ _ | refine blk_drew ?_ | refine blk_alloc ?_ _)); refine blk_put (cs := #[.int .i64 t269, .int .i64 0, .int .i64 0, .int .i64 0, .int .i64 0, .int .i64 0]) ?_ 1 _ rfl; (with_reducible repeat (first | refine blk_drewN ?_ _ | refine blk_drew ?_ | refine blk_alloc ?_ _)); refine blk_put (cs := #[.int .i64 0, .int .i64 0, .int .i64 0, .int .i64 0, .int .i64 0, .int .i64 0]) ?_ 0 _ rfl; (with_reducible repeat (first | refine blk_drewN ?_ _ | refine blk_drew ?_ | refine blk_alloc ?_ _)); exact BK275.out) hb); have n1_ := Aside0.mk (below_step (by repeat (first | (with_reducible first | exact HB.out | apply below_alloc | apply pw_below_drewN | apply below_drew1 | refine below_set ?_ GE275.out) | exact HB.out)) hb); clear BK275; clear HB; have BK275 := n0_; have HB := n1_; clear n0_ n1_; (try clear hb); (try clear hb2); (try clear hk); (try clear hi)) | ((with_reducible refine gate_callee (f := 16) rfl ?_); refine goesL_ (some 25) rfl rfl Try.func16 (by kernel_rfl) rfl #[.agg #[.int .i64 t276, .int .i64 t277, .int .i64 t278, .int .i64 t279, .int .i64 t280, .int .i64 t281], .slice A0 l0.length c0] rfl (by (try simp only [List.map_toArray, List.map_cons, List.map_nil]); first | done | rfl | (simp only [List.length_drop, List.length_take]; rfl)) ?_; (with_reducible refine (shard_Write.calls k t276 t277 t278 t279 t280 t281 _ _ l0 t282 t285 _ ?side1 ?side2 A9.out).mono ?_); (case side1 => repeat (first | exact (Kd.C_below HR0.out HB.out) | (with_reducible refine Kd.C_alloc ?_ _) | (with_reducible refine Kd.C_drewN ?_ _) | (with_reducible refine Kd.C_drew ?_))); (case side2 => exact HC0.out); rintro e w17 ⟨v283, rfl, ho0, hb⟩; refine ⟨_, rfl, ?_⟩; have n0_ := Aside0.mk (Kd.R_lower ho0 (below_size (by repeat (first | (with_reducible first | exact HB.out | apply below_alloc | apply pw_below_drewN | apply below_drew1 | refine below_set ?_ GE275.out) | exact HB.out)))); have n1_ := Aside0.mk (blk_below (g := gb275) (o := .cells #[.int .i64 t269, .int .i64 t270, .int .i64 t271, .int .i64 t272, .int .i64 t273, .int .i64 t274] 27 (0, 0)) (by (with_reducible repeat (first | refine blk_drewN ?_ _ | refine blk_drew ?_ | refine blk_alloc ?_ _)); exact BK275.out) hb); have n2_ := Aside0.mk (below_step (by repeat (first | (with_reducible first | exact HB.out | apply below_alloc | apply pw_below_drewN | apply below_drew1 | refine below_set ?_ GE275.out) | exact HB.out)) hb); clear BK275; clear HB; have HO284 := n0_; have BK275 := n1_; have HB := n2_; clear n0_ n1_ n2_; (try clear hb); (try clear hb2); (try clear hk); (try clear hi); (try clear ho0); have hcz18_0 : w17.cell? ⟨gb275, 0, none⟩ = some (.int .i64 t269) := (blk_cell BK275.out 0).trans rfl; have hcz18_1 : w17.cell? ⟨gb275, 1, none⟩ = some (.int .i64 t270) := (blk_cell BK275.out 1).trans rfl; have hcz18_2 : w17.cell? ⟨gb275, 2, none⟩ = some (.int .i64 t271) := (blk_cell BK275.out 2).trans rfl; have hcz18_3 : w17.cell? ⟨gb275, 3, none⟩ = some (.int .i64 t272) := (blk_cell BK275.out 3).trans rfl; have hcz18_4 : w17.cell? ⟨gb275, 4, none⟩ = some (.int .i64 t273) := (blk_cell BK275.out 4).trans rfl; have hcz18_5 : w17.cell? ⟨gb275, 5, none⟩ = some (.int .i64 t274) := (blk_cell BK275.out 5).trans rfl; have hfz18_0 := blk_frozen BK275.out 0; have hfz18_1 := blk_frozen BK275.out 1; have hfz18_2 := blk_frozen BK275.out 2; have hfz18_3 := blk_frozen BK275.out 3; have hfz18_4 := blk_frozen BK275.out 4; have hfz18_5 := blk_frozen BK275.out 5))
        (try simp only [Act.put, List.setIfInBounds_toArray, List.set_cons_zero, List.set_cons_succ])
        go_cut [49] (fun v49 wc => ∃ (kq : Nat) (x49_10 : Bool), v49 = .bool x49_10 ∧ Aside0 (strongboxlaw5_ShardBlocks.j0 kq l0 t282 (wrap64 (Int.tdiv (wrap64 ((wrap64 ((l0.length : Int) + t272)) - 1)) t272)) x49_10 t269 t270 t271 t272 t273 t274 = some r) ∧ Aside0 (kq ≤ k) ∧ Aside0 (Kd.R (Kd.int .u8) 5 wc w.heap.size (fun _ => True) v283 t282) ∧ Aside0 (wc.heap[gb275]? = some (.cells #[.int .i64 t269, .int .i64 t270, .int .i64 t271, .int .i64 t272, .int .i64 t273, .int .i64 t274] 27 (0, 0))) ∧ Aside0 (Below w.heap.size w wc))
        case first =>
          have H := HC11.out
          clear HC11
          by_cases c19 : t285 = 0
          · rw [if_pos c19] at H
            have c19b0 : (t285 == 0) = true := beq_iff_eq.mpr c19
            have c19b1 : (t285 != 0) = false := bne_eq_false_iff_eq.mpr c19
            clear c19
            (first | rw [c19b0] | (simp only [i64_w, i32_w]; rw [c19b0]) | skip)
            have H' := Aside0.mk H
            clear H
            obtain ⟨Ao20, co20, eo20⟩ := Kd.R_slice HO284.out
            subst eo20
            go_wp2
            go_meet
            case rel => exact ⟨_, (((t282.length : Int) != (wrap64 ((wrap64 (24 + (l0.length : Int))) + (wrap64 (4 * (wrap64 (Int.tdiv (wrap64 ((wrap64 ((l0.length : Int) + t272)) - 1)) t272)))))))), (by first | rfl | (simp; done) | (simp [*]; done)), H', ⟨by first | omega | exact Nat.le_refl _⟩, ⟨by (with_reducible repeat (first | apply Kd.R_alloc | apply Kd.R_drewN | apply Kd.R_drew)); exact HO284.out⟩, ⟨by (with_reducible repeat (first | refine blk_drewN ?_ _ | refine blk_drew ?_ | refine blk_alloc ?_ _)); exact BK275.out⟩, ⟨by repeat (first | (with_reducible first | exact HB.out | apply below_alloc | apply pw_below_drewN | apply below_drew1 | refine below_set ?_ GE275.out) | exact HB.out)⟩⟩
          · rw [if_neg c19] at H
            have c19b0 : (t285 == 0) = false := beq_eq_false_iff_ne.mpr c19
            have c19b1 : (t285 != 0) = true := bne_iff_ne.mpr c19
            (first | rw [c19b0] | (simp only [i64_w, i32_w]; rw [c19b0]) | skip)
            have H' := Aside0.mk H
            clear H
            go_wp2
            go_meet
            case rel => exact ⟨_, (true), (by first | rfl | (simp; done) | (simp [*]; done)), H', ⟨by first | omega | exact Nat.le_refl _⟩, ⟨by (with_reducible repeat (first | apply Kd.R_alloc | apply Kd.R_drewN | apply Kd.R_drew)); exact HO284.out⟩, ⟨by (with_reducible repeat (first | refine blk_drewN ?_ _ | refine blk_drew ?_ | refine blk_alloc ?_ _)); exact BK275.out⟩, ⟨by repeat (first | (with_reducible first | exact HB.out | apply below_alloc | apply pw_below_drewN | apply below_drew1 | refine below_set ?_ GE275.out) | exact HB.out)⟩⟩
        case rest =>
          clear HC11
          try clear c1
          try clear p2
          try clear c4
          try clear c5
          try clear c5b0
          try clear c5b1
          try clear p6
          try clear c10
          try clear c10b0
          try clear c10b1
          try clear c14
          try clear c15
          try clear c16
          try clear c17
          try clear c19
          try clear c19b0
          try clear c19b1
          try clear hcz15_0
          try clear hcz15_1
          try clear hcz15_2
          try clear hcz15_3
          try clear hcz15_4
          try clear hcz15_5
          try clear hcz18_0
          try clear hcz18_1
          try clear hcz18_2
          try clear hcz18_3
          try clear hcz18_4
          try clear hcz18_5
          try clear hfz15_0
          try clear hfz15_1
          try clear hfz15_2
          try clear hfz15_3
          try clear hfz15_4
          try clear hfz15_5
          try clear hfz18_0
          try clear hfz18_1
          try clear hfz18_2
          try clear hfz18_3
          try clear hfz18_4
          try clear hfz18_5
          obtain ⟨kq, x49_10, rfl, HA, HJ10, HO_6, BK275, HB⟩ := hcut
          cases kq with
          | zero => exact absurd HA.out (by simp [strongboxlaw5_ShardBlocks.j0])
          | succ kj10 =>
            have H := HA.out
            clear HA
            simp only [strongboxlaw5_ShardBlocks.j0] at H
            by_cases c21 : x49_10 = true
            · subst c21
              have H1 : (none) = some r := by rw [if_pos rfl] at H; exact H
              clear H
              have H := H1
              clear H1
              exact absurd H (by simp)
            · replace c21 := Bool.eq_false_iff.mpr c21
              subst c21
              have H1 : (strongboxlaw5_ShardBlocks.l0 kj10 l0 t282 (wrap64 (Int.tdiv (wrap64 ((wrap64 ((l0.length : Int) + t272)) - 1)) t272)) 24 0 t269 t270 t271 t272 t273 t274) = some r := by rw [if_neg (show ¬ (false = true) by decide)] at H; exact H
              clear H
              have H := H1
              clear H1
              have H' := Aside0.mk H
              clear H
              go_wp2
              go_loopg [9, 10] kj10 (fun kq v9 v10 w' => ∃ (x9_2 : Int) (x10_2 : Int), v9 = .int .i64 x9_2 ∧ v10 = .int .i64 x10_2 ∧ Aside0 (strongboxlaw5_ShardBlocks.l0 kq l0 t282 (wrap64 (Int.tdiv (wrap64 ((wrap64 ((l0.length : Int) + t272)) - 1)) t272)) x9_2 x10_2 t269 t270 t271 t272 t273 t274 = some r) ∧ Aside0 (kq ≤ kj10) ∧ Aside0 (Kd.R (Kd.int .u8) 5 w' w.heap.size (fun _ => True) v283 t282) ∧ Aside0 (w'.heap[gb275]? = some (.cells #[.int .i64 t269, .int .i64 t270, .int .i64 t271, .int .i64 t272, .int .i64 t273, .int .i64 t274] 27 (0, 0))) ∧ Aside0 (Below w.heap.size w w'))
              case atStart => exact ⟨(24), (0), (by first | rfl | (simp; done) | (simp [*]; done)), (by first | rfl | (simp; done) | (simp [*]; done)), H', ⟨Nat.le_refl _⟩, ⟨by (with_reducible repeat (first | apply Kd.R_alloc | apply Kd.R_drewN | apply Kd.R_drew)); exact HO_6.out⟩, ⟨by (with_reducible repeat (first | refine blk_drewN ?_ _ | refine blk_drew ?_ | refine blk_alloc ?_ _)); exact BK275.out⟩, ⟨by repeat (first | (with_reducible first | exact HB.out | apply below_alloc | apply pw_below_drewN | apply below_drew1 | refine below_set ?_ GE275.out) | exact HB.out)⟩⟩
              case round =>
                clear H'
                try clear c1
                try clear c2
                try clear p2
                try clear c4
                try clear c5
                try clear c5b0
                try clear c5b1
                try clear p6
                try clear c10
                try clear c10b0
                try clear c10b1
                try clear c14
                try clear c15
                try clear c16
                try clear c17
                try clear c19
                try clear c19b0
                try clear c19b1
                try clear c21
                try clear hcz15_0
                try clear hcz15_1
                try clear hcz15_2
                try clear hcz15_3
                try clear hcz15_4
                try clear hcz15_5
                try clear hcz18_0
                try clear hcz18_1
                try clear hcz18_2
                try clear hcz18_3
                try clear hcz18_4
                try clear hcz18_5
                try clear hfz15_0
                try clear hfz15_1
                try clear hfz15_2
                try clear hfz15_3
                try clear hfz15_4
                try clear hfz15_5
                try clear hfz18_0
                try clear hfz18_1
                try clear hfz18_2
                try clear hfz18_3
                try clear hfz18_4
                try clear hfz18_5
                try clear p2
                try clear p6
                obtain ⟨x9_2, x10_2, rfl, rfl, HA, HK2, HO_6, BK275, HB⟩ := hrel
                cases gk with
                | zero => exact absurd HA.out (by simp [strongboxlaw5_ShardBlocks.l0])
                | succ k2 =>
                  have H := HA.out
                  clear HA
                  simp only [strongboxlaw5_ShardBlocks.l0] at H
                  by_cases c22 : x10_2 < (wrap64 (Int.tdiv (wrap64 ((wrap64 ((l0.length : Int) + t272)) - 1)) t272))
                  · rw [if_pos c22] at H
                    have c22b0 : decide (x10_2 < (wrap64 (Int.tdiv (wrap64 ((wrap64 ((l0.length : Int) + t272)) - 1)) t272))) = true := decide_eq_true c22
                    clear c22
                    obtain ⟨ji23, hji23⟩ : ∃ j_ : Int, (mn (wrap64 ((wrap64 (x10_2 + 1)) * t272)) (l0.length : Int)) = j_ := ⟨_, rfl⟩
                    replace H : (if 0 ≤ (wrap64 (x10_2 * t272)) then (if (wrap64 (x10_2 * t272)) ≤ (ji23) then (if (ji23) ≤ (l0.length : Int) then (if 0 ≤ x9_2 then (if x9_2 ≤ (wrap64 (x9_2 + (((l0.take ((ji23) : Int).toNat).drop ((wrap64 (x10_2 * t272)) : Int).toNat).length : Int))) then (if (wrap64 (x9_2 + (((l0.take ((ji23) : Int).toNat).drop ((wrap64 (x10_2 * t272)) : Int).toNat).length : Int))) ≤ (t282.length : Int) then (if (strOfNums ((t282.take ((wrap64 (x9_2 + (((l0.take ((ji23) : Int).toNat).drop ((wrap64 (x10_2 * t272)) : Int).toNat).length : Int))) : Int).toNat).drop (x9_2 : Int).toNat)).toList = (strOfNums ((l0.take ((ji23) : Int).toNat).drop ((wrap64 (x10_2 * t272)) : Int).toNat)).toList then (if 0 ≤ (wrap64 (x9_2 + (((l0.take ((ji23) : Int).toNat).drop ((wrap64 (x10_2 * t272)) : Int).toNat).length : Int))) then (if (wrap64 (x9_2 + (((l0.take ((ji23) : Int).toNat).drop ((wrap64 (x10_2 * t272)) : Int).toNat).length : Int))) ≤ (wrap64 ((wrap64 (x9_2 + (((l0.take ((ji23) : Int).toNat).drop ((wrap64 (x10_2 * t272)) : Int).toNat).length : Int))) + 4)) then (if (wrap64 ((wrap64 (x9_2 + (((l0.take ((ji23) : Int).toNat).drop ((wrap64 (x10_2 * t272)) : Int).toNat).length : Int))) + 4)) ≤ (t282.length : Int) then ((strongboxref4_Sum.f k2 ((l0.take ((ji23) : Int).toNat).drop ((wrap64 (x10_2 * t272)) : Int).toNat)).bind fun t307 => ((strongboxref4_Bytes.f k2 t307).bind fun t308 => (if (strOfNums ((t282.take ((wrap64 ((wrap64 (x9_2 + (((l0.take ((ji23) : Int).toNat).drop ((wrap64 (x10_2 * t272)) : Int).toNat).length : Int))) + 4)) : Int).toNat).drop ((wrap64 (x9_2 + (((l0.take ((ji23) : Int).toNat).drop ((wrap64 (x10_2 * t272)) : Int).toNat).length : Int))) : Int).toNat)).toList = (strOfNums t308).toList then (strongboxlaw5_ShardBlocks.l0 k2 l0 t282 (wrap64 (Int.tdiv (wrap64 ((wrap64 ((l0.length : Int) + t272)) - 1)) t272)) (wrap64 ((wrap64 (x9_2 + (((l0.take ((ji23) : Int).toNat).drop ((wrap64 (x10_2 * t272)) : Int).toNat).length : Int))) + 4)) (wrap64 (x10_2 + 1)) t269 t270 t271 t272 t273 t274) else (none)))) else (none)) else (none)) else (none)) else (none)) else (none)) else (none)) else (none)) else (none)) else (none)) else (none)) = some r := by first | (rw [hji23] at H; exact H) | (simp only [hji23] at H ⊢; exact H)
                    have hji23_ : (if (l0.length : Int) < (wrap64 ((wrap64 (x10_2 + 1)) * t272)) then (l0.length : Int) else (wrap64 ((wrap64 (x10_2 + 1)) * t272))) = ji23 := hji23
                    obtain ⟨ji24, hji24⟩ : ∃ j_ : Int, (wrap64 (x10_2 * t272)) = j_ := ⟨_, rfl⟩
                    replace H : (if 0 ≤ (ji24) then (if (ji24) ≤ (ji23) then (if (ji23) ≤ (l0.length : Int) then (if 0 ≤ x9_2 then (if x9_2 ≤ (wrap64 (x9_2 + (((l0.take ((ji23) : Int).toNat).drop ((ji24) : Int).toNat).length : Int))) then (if (wrap64 (x9_2 + (((l0.take ((ji23) : Int).toNat).drop ((ji24) : Int).toNat).length : Int))) ≤ (t282.length : Int) then (if (strOfNums ((t282.take ((wrap64 (x9_2 + (((l0.take ((ji23) : Int).toNat).drop ((ji24) : Int).toNat).length : Int))) : Int).toNat).drop (x9_2 : Int).toNat)).toList = (strOfNums ((l0.take ((ji23) : Int).toNat).drop ((ji24) : Int).toNat)).toList then (if 0 ≤ (wrap64 (x9_2 + (((l0.take ((ji23) : Int).toNat).drop ((ji24) : Int).toNat).length : Int))) then (if (wrap64 (x9_2 + (((l0.take ((ji23) : Int).toNat).drop ((ji24) : Int).toNat).length : Int))) ≤ (wrap64 ((wrap64 (x9_2 + (((l0.take ((ji23) : Int).toNat).drop ((ji24) : Int).toNat).length : Int))) + 4)) then (if (wrap64 ((wrap64 (x9_2 + (((l0.take ((ji23) : Int).toNat).drop ((ji24) : Int).toNat).length : Int))) + 4)) ≤ (t282.length : Int) then ((strongboxref4_Sum.f k2 ((l0.take ((ji23) : Int).toNat).drop ((ji24) : Int).toNat)).bind fun t307 => ((strongboxref4_Bytes.f k2 t307).bind fun t308 => (if (strOfNums ((t282.take ((wrap64 ((wrap64 (x9_2 + (((l0.take ((ji23) : Int).toNat).drop ((ji24) : Int).toNat).length : Int))) + 4)) : Int).toNat).drop ((wrap64 (x9_2 + (((l0.take ((ji23) : Int).toNat).drop ((ji24) : Int).toNat).length : Int))) : Int).toNat)).toList = (strOfNums t308).toList then (strongboxlaw5_ShardBlocks.l0 k2 l0 t282 (wrap64 (Int.tdiv (wrap64 ((wrap64 ((l0.length : Int) + t272)) - 1)) t272)) (wrap64 ((wrap64 (x9_2 + (((l0.take ((ji23) : Int).toNat).drop ((ji24) : Int).toNat).length : Int))) + 4)) (wrap64 (x10_2 + 1)) t269 t270 t271 t272 t273 t274) else (none)))) else (none)) else (none)) else (none)) else (none)) else (none)) else (none)) else (none)) else (none)) else (none)) else (none)) = some r := by first | (rw [hji24] at H; exact H) | (simp only [hji24] at H ⊢; exact H)
                    have hji24w : (IntKind.i64.wrap (x10_2 * t272)) = ji24 := (i64_w _).trans hji24
                    by_cases c25 : 0 ≤ (ji24)
                    · rw [if_pos c25] at H
                      have c25b0 := eq_true c25
                      have c25b1 : decide (0 ≤ (ji24)) = true := decide_eq_true c25
                      clear c25
                      by_cases c26 : (ji24) ≤ (ji23)
                      · rw [if_pos c26] at H
                        have c26b0 := eq_true c26
                        have c26b1 : decide ((ji24) ≤ (ji23)) = true := decide_eq_true c26
                        clear c26
                        by_cases c27 : (ji23) ≤ (l0.length : Int)
                        · rw [if_pos c27] at H
                          have c27b0 := eq_true c27
                          have c27b1 : decide ((ji23) ≤ (l0.length : Int)) = true := decide_eq_true c27
                          clear c27
                          obtain ⟨xx, hxx⟩ : ∃ xx_ : List Int, xx_ = ((l0.take ((ji23) : Int).toNat).drop ((ji24) : Int).toNat) := ⟨_, rfl⟩
                          simp only [← hxx] at H
                          have Nxx := Aside0.mk hxx
                          clear hxx
                          by_cases c28 : 0 ≤ x9_2
                          · rw [if_pos c28] at H
                            have c28b0 := eq_true c28
                            have c28b1 : decide (0 ≤ x9_2) = true := decide_eq_true c28
                            clear c28
                            by_cases c29 : x9_2 ≤ (wrap64 (x9_2 + (xx.length : Int)))
                            · rw [if_pos c29] at H
                              have c29b0 := eq_true c29
                              have c29b1 : decide (x9_2 ≤ (wrap64 (x9_2 + (xx.length : Int)))) = true := decide_eq_true c29
                              by_cases c30 : (wrap64 (x9_2 + (xx.length : Int))) ≤ (t282.length : Int)
                              · rw [if_pos c30] at H
                                have c30b0 := eq_true c30
                                have c30b1 : decide ((wrap64 (x9_2 + (xx.length : Int))) ≤ (t282.length : Int)) = true := decide_eq_true c30
                                obtain ⟨y299, hy299⟩ : ∃ y_ : List Int, y_ = ((t282.take ((wrap64 (x9_2 + (xx.length : Int))) : Int).toNat).drop (x9_2 : Int).toNat) := ⟨_, rfl⟩
                                replace H : (if (strOfNums y299).toList = (strOfNums xx).toList then (if 0 ≤ (wrap64 (x9_2 + (xx.length : Int))) then (if (wrap64 (x9_2 + (xx.length : Int))) ≤ (wrap64 ((wrap64 (x9_2 + (xx.length : Int))) + 4)) then (if (wrap64 ((wrap64 (x9_2 + (xx.length : Int))) + 4)) ≤ (t282.length : Int) then ((strongboxref4_Sum.f k2 xx).bind fun t307 => ((strongboxref4_Bytes.f k2 t307).bind fun t308 => (if (strOfNums ((t282.take ((wrap64 ((wrap64 (x9_2 + (xx.length : Int))) + 4)) : Int).toNat).drop ((wrap64 (x9_2 + (xx.length : Int))) : Int).toNat)).toList = (strOfNums t308).toList then (strongboxlaw5_ShardBlocks.l0 k2 l0 t282 (wrap64 (Int.tdiv (wrap64 ((wrap64 ((l0.length : Int) + t272)) - 1)) t272)) (wrap64 ((wrap64 (x9_2 + (xx.length : Int))) + 4)) (wrap64 (x10_2 + 1)) t269 t270 t271 t272 t273 t274) else (none)))) else (none)) else (none)) else (none)) else (none)) = some r := by first | (rw [hy299]; with_reducible exact H) | (have H2_ := (Option.bind_some _ _).symm.trans H; rw [hy299]; with_reducible exact H2_) | (have H2_ := (Option.bind_some _ _).symm.trans H; with_reducible exact H2_) | with_reducible exact H | (rw [hy299]; exact H) | exact H
                                have Ny299 := Aside0.mk hy299
                                clear hy299
                                by_cases c31 : (strOfNums y299).toList = (strOfNums xx).toList
                                · rw [if_pos c31] at H
                                  have c31b0 : ((strOfNums y299).toList == (strOfNums xx).toList) = true := beq_iff_eq.mpr c31
                                  have c31b1 : ((strOfNums y299).toList != (strOfNums xx).toList) = false := bne_eq_false_iff_eq.mpr c31
                                  clear c31
                                  obtain ⟨ji32, hji32⟩ : ∃ j_ : Int, (wrap64 (x9_2 + (xx.length : Int))) = j_ := ⟨_, rfl⟩
                                  replace H : (if 0 ≤ (ji32) then (if (ji32) ≤ (wrap64 ((ji32) + 4)) then (if (wrap64 ((ji32) + 4)) ≤ (t282.length : Int) then ((strongboxref4_Sum.f k2 xx).bind fun t307 => ((strongboxref4_Bytes.f k2 t307).bind fun t308 => (if (strOfNums ((t282.take ((wrap64 ((ji32) + 4)) : Int).toNat).drop ((ji32) : Int).toNat)).toList = (strOfNums t308).toList then (strongboxlaw5_ShardBlocks.l0 k2 l0 t282 (wrap64 (Int.tdiv (wrap64 ((wrap64 ((l0.length : Int) + t272)) - 1)) t272)) (wrap64 ((ji32) + 4)) (wrap64 (x10_2 + 1)) t269 t270 t271 t272 t273 t274) else (none)))) else (none)) else (none)) else (none)) = some r := by first | (rw [hji32] at H; exact H) | (simp only [hji32] at H ⊢; exact H)
                                  (try rw [hji32] at c29b0)
                                  (try rw [hji32] at c29b1)
                                  (try rw [hji32] at c29)
                                  (try rw [hji32] at c30b0)
                                  (try rw [hji32] at c30b1)
                                  (try rw [hji32] at c30)
                                  (try rw [hji32] at Ny299)
                                  (try rw [hji32] at Ny299)
                                  have hji32w : (IntKind.i64.wrap (x9_2 + (xx.length : Int))) = ji32 := (i64_w _).trans hji32
                                  by_cases c33 : 0 ≤ (ji32)
                                  · rw [if_pos c33] at H
                                    have c33b0 := eq_true c33
                                    have c33b1 : decide (0 ≤ (ji32)) = true := decide_eq_true c33
                                    clear c33
                                    by_cases c34 : (ji32) ≤ (wrap64 ((ji32) + 4))
                                    · rw [if_pos c34] at H
                                      have c34b0 := eq_true c34
                                      have c34b1 : decide ((ji32) ≤ (wrap64 ((ji32) + 4))) = true := decide_eq_true c34
                                      by_cases c35 : (wrap64 ((ji32) + 4)) ≤ (t282.length : Int)
                                      · rw [if_pos c35] at H
                                        have c35b0 := eq_true c35
                                        have c35b1 : decide ((wrap64 ((ji32) + 4)) ≤ (t282.length : Int)) = true := decide_eq_true c35
                                        obtain ⟨y303, hy303⟩ : ∃ y_ : List Int, y_ = ((t282.take ((wrap64 ((ji32) + 4)) : Int).toNat).drop ((ji32) : Int).toNat) := ⟨_, rfl⟩
                                        replace H : ((strongboxref4_Sum.f k2 xx).bind fun t307 => ((strongboxref4_Bytes.f k2 t307).bind fun t308 => (if (strOfNums y303).toList = (strOfNums t308).toList then (strongboxlaw5_ShardBlocks.l0 k2 l0 t282 (wrap64 (Int.tdiv (wrap64 ((wrap64 ((l0.length : Int) + t272)) - 1)) t272)) (wrap64 ((ji32) + 4)) (wrap64 (x10_2 + 1)) t269 t270 t271 t272 t273 t274) else (none)))) = some r := by first | (rw [hy303]; with_reducible exact H) | (have H2_ := (Option.bind_some _ _).symm.trans H; rw [hy303]; with_reducible exact H2_) | (have H2_ := (Option.bind_some _ _).symm.trans H; with_reducible exact H2_) | with_reducible exact H | (rw [hy303]; exact H) | exact H
                                        have Ny303 := Aside0.mk hy303
                                        clear hy303
                                        replace H := Option.bind_eq_some_iff.mp H
                                        obtain ⟨t307, A360, H⟩ := H
                                        replace H : ((strongboxref4_Bytes.f k2 t307).bind fun t308 => (if (strOfNums y303).toList = (strOfNums t308).toList then (strongboxlaw5_ShardBlocks.l0 k2 l0 t282 (wrap64 (Int.tdiv (wrap64 ((wrap64 ((l0.length : Int) + t272)) - 1)) t272)) (wrap64 ((ji32) + 4)) (wrap64 (x10_2 + 1)) t269 t270 t271 t272 t273 t274) else (none))) = some r := H
                                        have A36 := Aside0.mk A360
                                        clear A360
                                        replace H := Option.bind_eq_some_iff.mp H
                                        obtain ⟨t308, A370, H⟩ := H
                                        replace H : (if (strOfNums y303).toList = (strOfNums t308).toList then (strongboxlaw5_ShardBlocks.l0 k2 l0 t282 (wrap64 (Int.tdiv (wrap64 ((wrap64 ((l0.length : Int) + t272)) - 1)) t272)) (wrap64 ((ji32) + 4)) (wrap64 (x10_2 + 1)) t269 t270 t271 t272 t273 t274) else (none)) = some r := H
                                        have A37 := Aside0.mk A370
                                        clear A370
                                        by_cases c38 : (strOfNums y303).toList = (strOfNums t308).toList
                                        · rw [if_pos c38] at H
                                          have c38b0 : ((strOfNums y303).toList == (strOfNums t308).toList) = true := beq_iff_eq.mpr c38
                                          have c38b1 : ((strOfNums y303).toList != (strOfNums t308).toList) = false := bne_eq_false_iff_eq.mpr c38
                                          clear c38
                                          have H' := Aside0.mk H
                                          clear H
                                          have hcz39_0 : wr.cell? ⟨gb275, 0, none⟩ = some (.int .i64 t269) := (blk_cell BK275.out 0).trans rfl
                                          have hcz39_1 : wr.cell? ⟨gb275, 1, none⟩ = some (.int .i64 t270) := (blk_cell BK275.out 1).trans rfl
                                          have hcz39_2 : wr.cell? ⟨gb275, 2, none⟩ = some (.int .i64 t271) := (blk_cell BK275.out 2).trans rfl
                                          have hcz39_3 : wr.cell? ⟨gb275, 3, none⟩ = some (.int .i64 t272) := (blk_cell BK275.out 3).trans rfl
                                          have hcz39_4 : wr.cell? ⟨gb275, 4, none⟩ = some (.int .i64 t273) := (blk_cell BK275.out 4).trans rfl
                                          have hcz39_5 : wr.cell? ⟨gb275, 5, none⟩ = some (.int .i64 t274) := (blk_cell BK275.out 5).trans rfl
                                          have hfz39_0 := blk_frozen BK275.out 0
                                          have hfz39_1 := blk_frozen BK275.out 1
                                          have hfz39_2 := blk_frozen BK275.out 2
                                          have hfz39_3 := blk_frozen BK275.out 3
                                          have hfz39_4 := blk_frozen BK275.out 4
                                          have hfz39_5 := blk_frozen BK275.out 5
                                          obtain ⟨i040, hi040, _, hsz40, _⟩ := info_parts info5
                                          obtain ⟨A40, hcut40, hA40, hC40⟩ := print_mid_of (P := Try.prog) (Value.int .u8) 0 22 5 .i64 .i64 Try.underlying22 hi040 hsz40 A0 c0 l0 (ji24) (ji23) (of_decide_eq_true (by first | (with_reducible assumption) | assumption)) (by first | omega | exact of_decide_eq_true (by first | (with_reducible assumption) | assumption)) (of_decide_eq_true (by first | (with_reducible assumption) | assumption)) HC0.out
                                          simp only [← Nxx.out] at hcut40 hA40 hC40
                                          have HR298 := Aside0.mk (Kd.C_of_reads (h1 := fun _ => rfl) (hA40 _ (Kd.reads_of_C HR0.out)))
                                          have HC298 := Aside0.mk hC40
                                          clear hA40 hC40 hi040 hsz40
                                          try go_wp2
                                          have n0_ := Aside0.mk (Kd.R_drew HO_6.out)
                                          have n1_ := Aside0.mk (blk_drew BK275.out)
                                          have n2_ := Aside0.mk (below_drew1 HB.out)
                                          clear HO_6
                                          clear BK275
                                          clear HB
                                          have HO_6 := n0_
                                          have BK275 := n1_
                                          have HB := n2_
                                          clear n0_ n1_ n2_
                                          obtain ⟨Ao43, co43, eo43⟩ := Kd.R_slice HO_6.out
                                          (first | subst eo43 | (injection eo43 with f1_ f2_ f3_; have f4_ := f1_.symm; have f5_ := f3_.symm; clear f1_ f2_ f3_; subst f4_; subst f5_))
                                          have q42 : ((ji32) : Int) ≤ ((t282.length : Int) : Int) := of_decide_eq_true (by first | (with_reducible assumption) | assumption)
                                          obtain ⟨i042, hi042, _, hsz42, _⟩ := info_parts info5
                                          have hroom42 : t282.length ≤ co43 := (Kd.R_reads' HO_6.out).2.1
                                          have hC42 : Kd.C (Kd.int .u8) _ Ao43 t282.length t282 := (Kd.R_reads' HO_6.out).2.2
                                          have ql42 : (x9_2 : Int) ≤ ((ji32) : Int) := of_decide_eq_true (by first | (with_reducible assumption) | assumption)
                                          have q042 : (0 : Int) ≤ (x9_2 : Int) := of_decide_eq_true (by first | (with_reducible assumption) | assumption)
                                          have hcut42 := cut_mid (P := Try.prog) 22 5 .i64 .i64 Try.underlying22 hi042 1 hsz42 Ao43 t282.length co43 x9_2 (ji32) q042 ql42 q42 hroom42
                                          have hr42 := Kd.C_mid (lo := (x9_2 : Int).toNat) (hi := ((ji32) : Int).toNat) (c := co43) hC42 (by omega) (by omega) hroom42
                                          obtain ⟨A42, hA42⟩ : ∃ A1, A1 = (if co43 = (x9_2 : Int).toNat then Ao43 else (Ao43 : Option Addr).map (·.add ((x9_2 : Int).toNat * 1))) := ⟨_, rfl⟩
                                          obtain ⟨c42, hc42⟩ : ∃ c1, c1 = co43 - (x9_2 : Int).toNat := ⟨_, rfl⟩
                                          have hy42 : y299.length = ((ji32) : Int).toNat - (x9_2 : Int).toNat := (by rw [Ny299.out, List.length_drop, List.length_take] <;> omega)
                                          rw [show ((t282).take ((ji32) : Int).toNat).drop (x9_2 : Int).toNat = y299 from Ny299.out.symm] at hr42
                                          replace hr42 : Kd.C (Kd.int .u8) _ A42 y299.length y299 := (by rw [hA42]; exact hr42)
                                          rw [← hy42, ← hA42, ← hc42] at hcut42
                                          have HR302 := Aside0.mk hr42
                                          have HC302 := Aside0.mk (show y299.length ≤ c42 from by rw [hy42, hc42]; exact Nat.sub_le_sub_right (Nat.le_trans (by omega) hroom42) _)
                                          clear hr42 hC42 hroom42 hi042 hsz42 hc42
                                          have KY42 := Aside0.mk hy42
                                          have KA42 := Aside0.mk hA42
                                          clear hy42 hA42
                                          have KL42 := Aside0.mk (show ((ji32) : Int).toNat ≤ t282.length from by omega)
                                          have KM42 := Aside0.mk (show (x9_2 : Int).toNat ≤ ((ji32) : Int).toNat from by omega)
                                          replace q42 := eq_true q42
                                          have q46 : ((wrap64 ((ji32) + 4)) : Int) ≤ ((t282.length : Int) : Int) := of_decide_eq_true (by first | (with_reducible assumption) | assumption)
                                          obtain ⟨i046, hi046, _, hsz46, _⟩ := info_parts info5
                                          have hroom46 : t282.length ≤ co43 := (Kd.R_reads' HO_6.out).2.1
                                          have hC46 : Kd.C (Kd.int .u8) _ Ao43 t282.length t282 := (Kd.R_reads' HO_6.out).2.2
                                          have ql46 : ((ji32) : Int) ≤ ((wrap64 ((ji32) + 4)) : Int) := of_decide_eq_true (by first | (with_reducible assumption) | assumption)
                                          have q046 : (0 : Int) ≤ ((ji32) : Int) := of_decide_eq_true (by first | (with_reducible assumption) | assumption)
                                          have hcut46 := cut_mid (P := Try.prog) 22 5 .i64 .i64 Try.underlying22 hi046 1 hsz46 Ao43 t282.length co43 (ji32) (wrap64 ((ji32) + 4)) q046 ql46 q46 hroom46
                                          have hr46 := Kd.C_mid (lo := ((ji32) : Int).toNat) (hi := ((wrap64 ((ji32) + 4)) : Int).toNat) (c := co43) hC46 (by omega) (by omega) hroom46
                                          obtain ⟨A46, hA46⟩ : ∃ A1, A1 = (if co43 = ((ji32) : Int).toNat then Ao43 else (Ao43 : Option Addr).map (·.add (((ji32) : Int).toNat * 1))) := ⟨_, rfl⟩
                                          obtain ⟨c46, hc46⟩ : ∃ c1, c1 = co43 - ((ji32) : Int).toNat := ⟨_, rfl⟩
                                          have hy46 : y303.length = ((wrap64 ((ji32) + 4)) : Int).toNat - ((ji32) : Int).toNat := (by rw [Ny303.out, List.length_drop, List.length_take] <;> omega)
                                          rw [show ((t282).take ((wrap64 ((ji32) + 4)) : Int).toNat).drop ((ji32) : Int).toNat = y303 from Ny303.out.symm] at hr46
                                          replace hr46 : Kd.C (Kd.int .u8) _ A46 y303.length y303 := (by rw [hA46]; exact hr46)
                                          rw [← hy46, ← hA46, ← hc46] at hcut46
                                          have HR306 := Aside0.mk hr46
                                          have HC306 := Aside0.mk (show y303.length ≤ c46 from by rw [hy46, hc46]; exact Nat.sub_le_sub_right (Nat.le_trans (by omega) hroom46) _)
                                          clear hr46 hC46 hroom46 hi046 hsz46 hc46
                                          have KY46 := Aside0.mk hy46
                                          have KA46 := Aside0.mk hA46
                                          clear hy46 hA46
                                          have KL46 := Aside0.mk (show ((wrap64 ((ji32) + 4)) : Int).toNat ≤ t282.length from by omega)
                                          have KM46 := Aside0.mk (show ((ji32) : Int).toNat ≤ ((wrap64 ((ji32) + 4)) : Int).toNat from by omega)
                                          replace q46 := eq_true q46
                                          refine start_ (n := 30) (S := fun w' => (convert 22 9 (.slice A42 y299.length c42)).run Try.prog w' = .ok (.string (strOfNums y299)) w' ∧ (convert 22 9 (.slice A40 xx.length (c0 - (ji24).toNat))).run Try.prog w' = .ok (.string (strOfNums xx)) w' ∧ (convert 22 9 (.slice A46 y303.length c46)).run Try.prog w' = .ok (.string (strOfNums y303)) w') (ds := []) #[false, false, false, false, false, false, false, false, false, false, false, false, false, false, false, false, false, false, false, false, false, false, false, false, false, false, false, false, false, false] (by kernel_rfl) rfl rfl ⟨(Kd.C_string (P := Try.prog) (A := A42) (c := c42) Try.underlying22 Try.underlying5 Try.underlying9 (by repeat (first | (with_reducible exact HR302.out) | (with_reducible refine Kd.C_alloc ?_ _) | (with_reducible refine Kd.C_drewN ?_ _) | (with_reducible refine Kd.C_drew ?_) | exact HR302.out))), (Kd.C_string (P := Try.prog) (A := A40) (c := (c0 - (ji24).toNat)) Try.underlying22 Try.underlying5 Try.underlying9 (Kd.C_below HR298.out (by repeat (first | (with_reducible first | exact HB.out | apply below_alloc | apply pw_below_drewN | apply below_drew1) | exact HB.out)))), (Kd.C_string (P := Try.prog) (A := A46) (c := c46) Try.underlying22 Try.underlying5 Try.underlying9 (by repeat (first | (with_reducible exact HR306.out) | (with_reducible refine Kd.C_alloc ?_ _) | (with_reducible refine Kd.C_drewN ?_ _) | (with_reducible refine Kd.C_drew ?_) | exact HR306.out)))⟩ (fun hHeld => ?_); refine with_tabW strongboxlaw5_ShardBlocks.tab15 strongboxlaw5_ShardBlocks.bits15 (fun HT_ HW_ => ?_)
                                          generalize wr.drew = w41 at HO_6 BK275 HB HR302 HR306 hHeld ⊢
                                          refine pure_ (i := 0) (N := some 69) (v := ?_) (a' := ?_) #[true, false, false, false, false, false, false, false, false, false, false, false, false, false, false, false, false, false, false, false, false, false, false, false, false, false, false, false, false, false] rfl rfl (any_of HT_.out (by kernel_rfl)) (fun _ _ _ h => h) (Or.inl ⟨by rfl, ?_⟩) ?_ ?_
                                          rotate_left
                                          · intro w'
                                            go_simp
                                            with_reducible rfl
                                          rotate_left
                                          · simp only [Act.put, List.setIfInBounds_toArray, List.set_cons_zero, List.set_cons_succ, i64_w, i32_w]
                                            rfl
                                          refine pure_ (i := 1) (N := some 70) (v := ?_) (a' := ?_) #[true, true, false, false, false, false, false, false, false, false, false, false, false, false, false, false, false, false, false, false, false, false, false, false, false, false, false, false, false, false] rfl rfl (any_of HT_.out (by kernel_rfl)) (fun _ _ _ h => h) (Or.inl ⟨by rfl, ?_⟩) ?_ ?_
                                          rotate_left
                                          · intro w'
                                            go_simp
                                            with_reducible rfl
                                          rotate_left
                                          · simp only [Act.put, List.setIfInBounds_toArray, List.set_cons_zero, List.set_cons_succ, i64_w, i32_w]
                                            rfl
                                          refine pure_ (i := 2) (N := some 71) (v := ?_) (a' := ?_) #[true, true, true, false, false, false, false, false, false, false, false, false, false, false, false, false, false, false, false, false, false, false, false, false, false, false, false, false, false, false] rfl rfl (any_of HT_.out (by kernel_rfl)) (fun _ _ _ h => h) (Or.inl ⟨by rfl, ?_⟩) ?_ ?_
                                          rotate_left
                                          · intro w'
                                            go_simp
                                            with_reducible rfl
                                          rotate_left
                                          · simp only [Act.put, List.setIfInBounds_toArray, List.set_cons_zero, List.set_cons_succ, i64_w, i32_w]
                                            rfl
                                          refine pure_ (i := 3) (N := some 72) (v := ?_) (a' := ?_) #[true, true, true, true, false, false, false, false, false, false, false, false, false, false, false, false, false, false, false, false, false, false, false, false, false, false, false, false, false, false] rfl rfl (any_of HT_.out (by kernel_rfl)) (fun _ _ _ h => h) (Or.inl ⟨by rfl, ?_⟩) ?_ ?_
                                          rotate_left
                                          · intro w'
                                            go_simp
                                            with_reducible rfl
                                          rotate_left
                                          · simp only [Act.put, List.setIfInBounds_toArray, List.set_cons_zero, List.set_cons_succ, i64_w, i32_w]
                                            rfl
                                          refine pure_ (i := 4) (N := some 73) (v := ?_) (a' := ?_) #[true, true, true, true, true, false, false, false, false, false, false, false, false, false, false, false, false, false, false, false, false, false, false, false, false, false, false, false, false, false] rfl rfl (any_of HT_.out (by kernel_rfl)) (fun _ _ _ h => h) (Or.inl ⟨by rfl, ?_⟩) ?_ ?_
                                          rotate_left
                                          · intro w'
                                            go_simp
                                            with_reducible rfl
                                          rotate_left
                                          · simp only [Act.put, List.setIfInBounds_toArray, List.set_cons_zero, List.set_cons_succ, i64_w, i32_w]
                                            rfl
                                          refine pure_ (i := 5) (N := some 74) (v := ?_) (a' := ?_) #[true, true, true, true, true, true, false, false, false, false, false, false, false, false, false, false, false, false, false, false, false, false, false, false, false, false, false, false, false, false] rfl rfl (any_of HT_.out (by kernel_rfl)) (fun _ _ _ h => h) (Or.inl ⟨by rfl, ?_⟩) ?_ ?_
                                          rotate_left
                                          · intro w'
                                            go_simp
                                            with_reducible rfl
                                          rotate_left
                                          · simp only [Act.put, List.setIfInBounds_toArray, List.set_cons_zero, List.set_cons_succ, i64_w, i32_w]
                                            rfl
                                          refine pure_ (i := 6) (N := some 75) (v := ?_) (a' := ?_) #[true, true, true, true, true, true, true, false, false, false, false, false, false, false, false, false, false, false, false, false, false, false, false, false, false, false, false, false, false, false] rfl rfl (any_of HT_.out (by kernel_rfl)) (fun _ _ _ h => h) (Or.inl ⟨by rfl, ?_⟩) ?_ ?_
                                          rotate_left
                                          · intro w'
                                            go_simp
                                            with_reducible rfl
                                          rotate_left
                                          · simp only [Act.put, List.setIfInBounds_toArray, List.set_cons_zero, List.set_cons_succ, i64_w, i32_w]
                                            rfl
                                          refine pure_ (i := 8) (N := some 77) (v := ?_) (a' := ?_) #[true, true, true, true, true, true, true, false, true, false, false, false, false, false, false, false, false, false, false, false, false, false, false, false, false, false, false, false, false, false] rfl rfl (any_of HT_.out (by kernel_rfl)) (fun _ _ _ h => h) (Or.inl ⟨by rfl, ?_⟩) ?_ ?_
                                          rotate_left
                                          · intro w'
                                            go_simp
                                            with_reducible rfl
                                          rotate_left
                                          · simp only [Act.put, List.setIfInBounds_toArray, List.set_cons_zero, List.set_cons_succ, i64_w, i32_w]
                                            rfl
                                          refine take_ (i := 7) (N := some 76) (v := ?_) (a' := ?_) #[true, true, true, true, true, true, true, true, true, false, false, false, false, false, false, false, false, false, false, false, false, false, false, false, false, false, false, false, false, false] rfl rfl (take_ofW HT_.out HW_.out (by kernel_rfl)) (fun _ _ _ h => h) (Or.inl ⟨by rfl, ?_⟩) hHeld ?_ ?_
                                          rotate_left
                                          · rintro w' ⟨s0, s1, s2⟩
                                            go_simp
                                            with_reducible rfl
                                          rotate_left
                                          · simp only [Act.put, List.setIfInBounds_toArray, List.set_cons_zero, List.set_cons_succ, i64_w, i32_w]
                                            rfl
                                          refine take_ (i := 9) (N := some 78) (v := ?_) (a' := ?_) #[true, true, true, true, true, true, true, true, true, true, false, false, false, false, false, false, false, false, false, false, false, false, false, false, false, false, false, false, false, false] rfl rfl (take_ofW HT_.out HW_.out (by kernel_rfl)) (fun _ _ _ h => h) (Or.inl ⟨by rfl, ?_⟩) hHeld ?_ ?_
                                          rotate_left
                                          · rintro w' ⟨s0, s1, s2⟩
                                            go_simp
                                            with_reducible rfl
                                          rotate_left
                                          · simp only [Act.put, List.setIfInBounds_toArray, List.set_cons_zero, List.set_cons_succ, i64_w, i32_w]
                                            rfl
                                          refine pure_ (i := 10) (N := some 79) (v := ?_) (a' := ?_) #[true, true, true, true, true, true, true, true, true, true, true, false, false, false, false, false, false, false, false, false, false, false, false, false, false, false, false, false, false, false] rfl rfl (any_of HT_.out (by kernel_rfl)) (fun _ _ _ h => h) (Or.inl ⟨by rfl, ?_⟩) ?_ ?_
                                          rotate_left
                                          · intro w'
                                            go_simp
                                            with_reducible rfl
                                          rotate_left
                                          · simp only [Act.put, List.setIfInBounds_toArray, List.set_cons_zero, List.set_cons_succ, i64_w, i32_w]
                                            rfl
                                          refine pure_ (i := 11) (N := some 80) (v := ?_) (a' := ?_) #[true, true, true, true, true, true, true, true, true, true, true, true, false, false, false, false, false, false, false, false, false, false, false, false, false, false, false, false, false, false] rfl rfl (any_of HT_.out (by kernel_rfl)) (fun _ _ _ h => h) (Or.inl ⟨by rfl, ?_⟩) ?_ ?_
                                          rotate_left
                                          · intro w'
                                            go_simp
                                            with_reducible rfl
                                          rotate_left
                                          · simp only [Act.put, List.setIfInBounds_toArray, List.set_cons_zero, List.set_cons_succ, i64_w, i32_w]
                                            rfl
                                          refine pure_ (i := 12) (N := some 81) (v := ?_) (a' := ?_) #[true, true, true, true, true, true, true, true, true, true, true, true, true, false, false, false, false, false, false, false, false, false, false, false, false, false, false, false, false, false] rfl rfl (any_of HT_.out (by kernel_rfl)) (fun _ _ _ h => h) (Or.inl ⟨by rfl, ?_⟩) ?_ ?_
                                          rotate_left
                                          · intro w'
                                            go_simp
                                            with_reducible rfl
                                          rotate_left
                                          · simp only [Act.put, List.setIfInBounds_toArray, List.set_cons_zero, List.set_cons_succ, i64_w, i32_w]
                                            rfl
                                          refine pure_ (i := 13) (N := some 82) (v := ?_) (a' := ?_) #[true, true, true, true, true, true, true, true, true, true, true, true, true, true, false, false, false, false, false, false, false, false, false, false, false, false, false, false, false, false] rfl rfl (any_of HT_.out (by kernel_rfl)) (fun _ _ _ h => h) (Or.inl ⟨by rfl, ?_⟩) ?_ ?_
                                          rotate_left
                                          · intro w'
                                            go_simp
                                            with_reducible rfl
                                          rotate_left
                                          · simp only [Act.put, List.setIfInBounds_toArray, List.set_cons_zero, List.set_cons_succ, i64_w, i32_w]
                                            rfl
                                          refine pure_ (i := 14) (N := some 83) (v := ?_) (a' := ?_) #[true, true, true, true, true, true, true, true, true, true, true, true, true, true, true, false, false, false, false, false, false, false, false, false, false, false, false, false, false, false] rfl rfl (any_of HT_.out (by kernel_rfl)) (fun _ _ _ h => h) (Or.inl ⟨by rfl, ?_⟩) ?_ ?_
                                          rotate_left
                                          · intro w'
                                            go_simp
                                            with_reducible rfl
                                          rotate_left
                                          · simp only [Act.put, List.setIfInBounds_toArray, List.set_cons_zero, List.set_cons_succ, i64_w, i32_w]
                                            rfl
                                          refine pure_ (i := 15) (N := some 84) (v := ?_) (a' := ?_) #[true, true, true, true, true, true, true, true, true, true, true, true, true, true, true, true, false, false, false, false, false, false, false, false, false, false, false, false, false, false] rfl rfl (any_of HT_.out (by kernel_rfl)) (fun _ _ _ h => h) (Or.inl ⟨by rfl, ?_⟩) ?_ ?_
                                          rotate_left
                                          · intro w'
                                            go_simp
                                            with_reducible rfl
                                          rotate_left
                                          · simp only [Act.put, List.setIfInBounds_toArray, List.set_cons_zero, List.set_cons_succ, i64_w, i32_w]
                                            rfl
                                          refine pure_ (i := 16) (N := some 85) (v := ?_) (a' := ?_) #[true, true, true, true, true, true, true, true, true, true, true, true, true, true, true, true, true, false, false, false, false, false, false, false, false, false, false, false, false, false] rfl rfl (any_of HT_.out (by kernel_rfl)) (fun _ _ _ h => h) (Or.inl ⟨by rfl, ?_⟩) ?_ ?_
                                          rotate_left
                                          · intro w'
                                            go_simp
                                            with_reducible rfl
                                          rotate_left
                                          · simp only [Act.put, List.setIfInBounds_toArray, List.set_cons_zero, List.set_cons_succ, i64_w, i32_w]
                                            rfl
                                          refine pure_ (i := 17) (N := some 86) (v := ?_) (a' := ?_) #[true, true, true, true, true, true, true, true, true, true, true, true, true, true, true, true, true, true, false, false, false, false, false, false, false, false, false, false, false, false] rfl rfl (any_of HT_.out (by kernel_rfl)) (fun _ _ _ h => h) (Or.inl ⟨by rfl, ?_⟩) ?_ ?_
                                          rotate_left
                                          · intro w'
                                            go_simp
                                            with_reducible rfl
                                          rotate_left
                                          · simp only [Act.put, List.setIfInBounds_toArray, List.set_cons_zero, List.set_cons_succ, i64_w, i32_w]
                                            rfl
                                          refine pure_ (i := 18) (N := some 87) (v := ?_) (a' := ?_) #[true, true, true, true, true, true, true, true, true, true, true, true, true, true, true, true, true, true, true, false, false, false, false, false, false, false, false, false, false, false] rfl rfl (any_of HT_.out (by kernel_rfl)) (fun _ _ _ h => h) (Or.inl ⟨by rfl, ?_⟩) ?_ ?_
                                          rotate_left
                                          · intro w'
                                            go_simp
                                            with_reducible rfl
                                          rotate_left
                                          · simp only [Act.put, List.setIfInBounds_toArray, List.set_cons_zero, List.set_cons_succ, i64_w, i32_w]
                                            rfl
                                          refine pure_ (i := 19) (N := some 88) (v := ?_) (a' := ?_) #[true, true, true, true, true, true, true, true, true, true, true, true, true, true, true, true, true, true, true, true, false, false, false, false, false, false, false, false, false, false] rfl rfl (any_of HT_.out (by kernel_rfl)) (fun _ _ _ h => h) (Or.inl ⟨by rfl, ?_⟩) ?_ ?_
                                          rotate_left
                                          · intro w'
                                            go_simp
                                            with_reducible rfl
                                          rotate_left
                                          · simp only [Act.put, List.setIfInBounds_toArray, List.set_cons_zero, List.set_cons_succ, i64_w, i32_w]
                                            rfl
                                          refine pure_ (i := 20) (N := some 89) (v := ?_) (a' := ?_) #[true, true, true, true, true, true, true, true, true, true, true, true, true, true, true, true, true, true, true, true, true, false, false, false, false, false, false, false, false, false] rfl rfl (any_of HT_.out (by kernel_rfl)) (fun _ _ _ h => h) (Or.inl ⟨by rfl, ?_⟩) ?_ ?_
                                          rotate_left
                                          · intro w'
                                            go_simp
                                            with_reducible rfl
                                          rotate_left
                                          · simp only [Act.put, List.setIfInBounds_toArray, List.set_cons_zero, List.set_cons_succ, i64_w, i32_w]
                                            rfl
                                          refine pure_ (i := 21) (N := some 90) (v := ?_) (a' := ?_) #[true, true, true, true, true, true, true, true, true, true, true, true, true, true, true, true, true, true, true, true, true, true, false, false, false, false, false, false, false, false] rfl rfl (any_of HT_.out (by kernel_rfl)) (fun _ _ _ h => h) (Or.inl ⟨by rfl, ?_⟩) ?_ ?_
                                          rotate_left
                                          · intro w'
                                            go_simp
                                            with_reducible rfl
                                          rotate_left
                                          · simp only [Act.put, List.setIfInBounds_toArray, List.set_cons_zero, List.set_cons_succ, i64_w, i32_w]
                                            rfl
                                          refine pure_ (i := 22) (N := some 91) (v := ?_) (a' := ?_) #[true, true, true, true, true, true, true, true, true, true, true, true, true, true, true, true, true, true, true, true, true, true, true, false, false, false, false, false, false, false] rfl rfl (any_of HT_.out (by kernel_rfl)) (fun _ _ _ h => h) (Or.inl ⟨by rfl, ?_⟩) ?_ ?_
                                          rotate_left
                                          · intro w'
                                            go_simp
                                            with_reducible rfl
                                          rotate_left
                                          · simp only [Act.put, List.setIfInBounds_toArray, List.set_cons_zero, List.set_cons_succ, i64_w, i32_w]
                                            rfl
                                          refine pure_ (i := 24) (N := some 93) (v := ?_) (a' := ?_) #[true, true, true, true, true, true, true, true, true, true, true, true, true, true, true, true, true, true, true, true, true, true, true, false, true, false, false, false, false, false] rfl rfl (any_of HT_.out (by kernel_rfl)) (fun _ _ _ h => h) (Or.inl ⟨by rfl, ?_⟩) ?_ ?_
                                          rotate_left
                                          · intro w'
                                            go_simp
                                            with_reducible rfl
                                          rotate_left
                                          · simp only [Act.put, List.setIfInBounds_toArray, List.set_cons_zero, List.set_cons_succ, i64_w, i32_w]
                                            rfl
                                          refine take_ (i := 23) (N := some 92) (v := ?_) (a' := ?_) #[true, true, true, true, true, true, true, true, true, true, true, true, true, true, true, true, true, true, true, true, true, true, true, true, true, false, false, false, false, false] rfl rfl (take_ofW HT_.out HW_.out (by kernel_rfl)) (fun _ _ _ h => h) (Or.inl ⟨by rfl, ?_⟩) hHeld ?_ ?_
                                          rotate_left
                                          · rintro w' ⟨s0, s1, s2⟩
                                            go_simp
                                            with_reducible rfl
                                          rotate_left
                                          · simp only [Act.put, List.setIfInBounds_toArray, List.set_cons_zero, List.set_cons_succ, i64_w, i32_w]
                                            rfl
                                          refine one_ (i := 25) (N := some 94) #[true, true, true, true, true, true, true, true, true, true, true, true, true, true, true, true, true, true, true, true, true, true, true, true, true, true, false, false, false, false] rfl rfl (one_of HT_.out (by kernel_rfl)) (by decide) (fun K hK => ?_)
                                          refine goes_ Try.func20 (by kernel_rfl) rfl #[.slice A40 xx.length (c0 - (ji24).toNat)] (by rfl) rfl rfl (by (try simp only [List.map_toArray, List.map_cons, List.map_nil]); first | done | (rw [show xx.length = ((ji23).toNat - (ji24).toNat) from (by rw [List.length_drop, List.length_take]; have h_ : ((ji23) : Int) ≤ (l0.length : Int) := of_decide_eq_true (by first | (with_reducible assumption) | assumption); omega)] <;> rfl) | (simp only [hji23, hji24]; rfl) | rfl | (simp only [List.length_drop, List.length_take]; rfl)) ?_
                                          with_reducible refine (strongboxref4_Sum.calls k2 _ _ xx t307 _ ?side1 ?side2 A36.out).mono ?_
                                          (case side1 => repeat (first | exact (Kd.C_below HR298.out HB.out) | (with_reducible refine Kd.C_alloc ?_ _) | (with_reducible refine Kd.C_drewN ?_ _) | (with_reducible refine Kd.C_drew ?_)))
                                          (case side2 => exact HC298.out)
                                          rintro e w' ⟨rfl, ⟨nd, rfl⟩⟩
                                          refine ⟨_, rfl, ?_⟩
                                          refine hK.out _ _ ⟨(Kd.C_string (P := Try.prog) (A := A42) (c := c42) Try.underlying22 Try.underlying5 Try.underlying9 (by repeat (first | (with_reducible exact HR302.out) | (with_reducible refine Kd.C_alloc ?_ _) | (with_reducible refine Kd.C_drewN ?_ _) | (with_reducible refine Kd.C_drew ?_) | exact HR302.out))), (Kd.C_string (P := Try.prog) (A := A40) (c := (c0 - (ji24).toNat)) Try.underlying22 Try.underlying5 Try.underlying9 (Kd.C_below HR298.out (by repeat (first | (with_reducible first | exact HB.out | apply below_alloc | apply pw_below_drewN | apply below_drew1) | exact HB.out)))), (Kd.C_string (P := Try.prog) (A := A46) (c := c46) Try.underlying22 Try.underlying5 Try.underlying9 (by repeat (first | (with_reducible exact HR306.out) | (with_reducible refine Kd.C_alloc ?_ _) | (with_reducible refine Kd.C_drewN ?_ _) | (with_reducible refine Kd.C_drew ?_) | exact HR306.out)))⟩ (fun hHeld => ?_)
                                          clear hK K
                                          refine norm_ (a' := ?_) ?_ ?_
                                          rotate_left
                                          · show Act.put _ (some 94) _ = _
                                            simp only [Act.put, List.setIfInBounds_toArray, List.set_cons_zero, List.set_cons_succ, i64_w, i32_w]
                                            rfl
                                          refine one_ (i := 26) (N := some 95) #[true, true, true, true, true, true, true, true, true, true, true, true, true, true, true, true, true, true, true, true, true, true, true, true, true, true, true, false, false, false] rfl rfl (one_of HT_.out (by kernel_rfl)) (by decide) (fun K hK => ?_)
                                          refine goes_ Try.func19 (by kernel_rfl) rfl #[.int .u32 t307] (by rfl) rfl rfl (by (try simp only [List.map_toArray, List.map_cons, List.map_nil]); first | done | rfl | (simp only [List.length_drop, List.length_take]; rfl)) ?_
                                          with_reducible refine (strongboxref4_Bytes.calls k2 t307 t308 _ A37.out).mono ?_
                                          rintro e w48 ⟨v309, rfl, ho0, hb⟩
                                          refine ⟨_, rfl, ?_⟩
                                          have n0_ := Aside0.mk (Kd.R_elder' (by (with_reducible repeat (first | apply Kd.R_alloc | apply Kd.R_drewN | apply Kd.R_drew)); exact HO_6.out) (Kd.R_base ho0) hb)
                                          have n1_ := Aside0.mk (Kd.R_lower (Kd.R_new' ho0 (Kd.R_lt (by (with_reducible repeat (first | apply Kd.R_alloc | apply Kd.R_drewN | apply Kd.R_drew)); exact HO_6.out))) (below_size (by repeat (first | (with_reducible first | exact HB.out | apply below_alloc | apply pw_below_drewN | apply below_drew1 | refine below_set ?_ GE275.out) | exact HB.out))))
                                          have n2_ := Aside0.mk (blk_below (g := gb275) (o := .cells #[.int .i64 t269, .int .i64 t270, .int .i64 t271, .int .i64 t272, .int .i64 t273, .int .i64 t274] 27 (0, 0)) (by (with_reducible repeat (first | refine blk_drewN ?_ _ | refine blk_drew ?_ | refine blk_alloc ?_ _)); exact BK275.out) hb)
                                          have n3_ := Aside0.mk (Kd.C_below (by first | exact Kd.C_drewN HR302.out _ | exact HR302.out) hb)
                                          have n4_ := Aside0.mk (Kd.C_below (by first | exact Kd.C_drewN HR306.out _ | exact HR306.out) hb)
                                          have n5_ := Aside0.mk (below_step (by repeat (first | (with_reducible first | exact HB.out | apply below_alloc | apply pw_below_drewN | apply below_drew1 | refine below_set ?_ GE275.out) | exact HB.out)) hb)
                                          clear HO_6
                                          clear BK275
                                          clear HR302
                                          clear HR306
                                          clear HB
                                          have HO_6 := n0_
                                          have HO310 := n1_
                                          have BK275 := n2_
                                          have HR302 := n3_
                                          have HR306 := n4_
                                          have HB := n5_
                                          clear n0_ n1_ n2_ n3_ n4_ n5_
                                          (try clear hb)
                                          (try clear hb2)
                                          (try clear hk)
                                          (try clear hi)
                                          (try clear ho0)
                                          refine hK.out _ _ ⟨(Kd.C_string (P := Try.prog) (A := A42) (c := c42) Try.underlying22 Try.underlying5 Try.underlying9 (by repeat (first | (with_reducible exact HR302.out) | (with_reducible refine Kd.C_alloc ?_ _) | (with_reducible refine Kd.C_drewN ?_ _) | (with_reducible refine Kd.C_drew ?_) | exact HR302.out))), (Kd.C_string (P := Try.prog) (A := A40) (c := (c0 - (ji24).toNat)) Try.underlying22 Try.underlying5 Try.underlying9 (Kd.C_below HR298.out (by repeat (first | (with_reducible first | exact HB.out | apply below_alloc | apply pw_below_drewN | apply below_drew1) | exact HB.out)))), (Kd.C_string (P := Try.prog) (A := A46) (c := c46) Try.underlying22 Try.underlying5 Try.underlying9 (by repeat (first | (with_reducible exact HR306.out) | (with_reducible refine Kd.C_alloc ?_ _) | (with_reducible refine Kd.C_drewN ?_ _) | (with_reducible refine Kd.C_drew ?_) | exact HR306.out)))⟩ (fun hHeld => ?_)
                                          clear hK K
                                          refine norm_ (a' := ?_) ?_ ?_
                                          rotate_left
                                          · show Act.put _ (some 95) _ = _
                                            simp only [Act.put, List.setIfInBounds_toArray, List.set_cons_zero, List.set_cons_succ, i64_w, i32_w]
                                            rfl
                                          refine one_ (i := 27) (N := some 96) #[true, true, true, true, true, true, true, true, true, true, true, true, true, true, true, true, true, true, true, true, true, true, true, true, true, true, true, true, false, false] rfl rfl (one_of HT_.out (by kernel_rfl)) (by decide) (fun K hK => ?_)
                                          have hcv49 := own_string (P := Try.prog) Try.underlying22 Try.underlying5 Try.underlying9 (Kd.own_of_R HO310.out)
                                          refine value_ (w1 := ?_) (v := ?_) (by rfl) rfl ?_ ?_
                                          rotate_left 2
                                          · go_simp
                                            constructor
                                            · rfl
                                            · rfl
                                          clear hcv49
                                          refine hK.out _ _ ⟨(Kd.C_string (P := Try.prog) (A := A42) (c := c42) Try.underlying22 Try.underlying5 Try.underlying9 (by repeat (first | (with_reducible exact HR302.out) | (with_reducible refine Kd.C_alloc ?_ _) | (with_reducible refine Kd.C_drewN ?_ _) | (with_reducible refine Kd.C_drew ?_) | exact HR302.out))), (Kd.C_string (P := Try.prog) (A := A40) (c := (c0 - (ji24).toNat)) Try.underlying22 Try.underlying5 Try.underlying9 (Kd.C_below HR298.out (by repeat (first | (with_reducible first | exact HB.out | apply below_alloc | apply pw_below_drewN | apply below_drew1) | exact HB.out)))), (Kd.C_string (P := Try.prog) (A := A46) (c := c46) Try.underlying22 Try.underlying5 Try.underlying9 (by repeat (first | (with_reducible exact HR306.out) | (with_reducible refine Kd.C_alloc ?_ _) | (with_reducible refine Kd.C_drewN ?_ _) | (with_reducible refine Kd.C_drew ?_) | exact HR306.out)))⟩ (fun hHeld => ?_)
                                          clear hK K
                                          refine norm_ (a' := ?_) ?_ ?_
                                          rotate_left
                                          · show Act.put _ (some 96) _ = _
                                            simp only [Act.put, List.setIfInBounds_toArray, List.set_cons_zero, List.set_cons_succ, i64_w, i32_w]
                                            rfl
                                          refine pure_ (i := 28) (N := some 97) (v := ?_) (a' := ?_) #[true, true, true, true, true, true, true, true, true, true, true, true, true, true, true, true, true, true, true, true, true, true, true, true, true, true, true, true, true, false] rfl rfl (any_of HT_.out (by kernel_rfl)) (fun _ _ _ h => h) (Or.inl ⟨by rfl, ?_⟩) ?_ ?_
                                          rotate_left
                                          · intro w'
                                            go_simp
                                            with_reducible rfl
                                          rotate_left
                                          · simp only [Act.put, List.setIfInBounds_toArray, List.set_cons_zero, List.set_cons_succ, i64_w, i32_w]
                                            rfl
                                          refine pure_ (i := 29) (N := some 98) (v := ?_) (a' := ?_) #[true, true, true, true, true, true, true, true, true, true, true, true, true, true, true, true, true, true, true, true, true, true, true, true, true, true, true, true, true, true] rfl rfl (any_of HT_.out (by kernel_rfl)) (fun _ _ _ h => h) (Or.inl ⟨by rfl, ?_⟩) ?_ ?_
                                          rotate_left
                                          · intro w'
                                            go_simp
                                            with_reducible rfl
                                          rotate_left
                                          · simp only [Act.put, List.setIfInBounds_toArray, List.set_cons_zero, List.set_cons_succ, i64_w, i32_w]
                                            rfl
                                          refine done_ (done_of HT_.out (by kernel_rfl)) ?_
                                          try go_wp2
                                          go_roundg k2
                                          case measure => have := HJ10.out; have := HK2.out; omega
                                          case rel => exact ⟨(wrap64 ((ji32) + 4)), (wrap64 (x10_2 + 1)), (by first | rfl | (simp; done) | (simp only [← hji32] <;> (first | rfl | simp)) | (simp [*]; done)), (by first | rfl | (simp; done) | (simp [*]; done)), H', ⟨by have := HJ10.out; have := HK2.out; omega⟩, ⟨by (with_reducible repeat (first | apply Kd.R_alloc | apply Kd.R_drewN | apply Kd.R_drew)); exact Kd.R_mono HO_6.out (fun _ hk => trivial)⟩, ⟨by (with_reducible repeat (first | refine blk_drewN ?_ _ | refine blk_drew ?_ | refine blk_alloc ?_ _)); exact BK275.out⟩, ⟨by repeat (first | (with_reducible first | exact HB.out | apply below_alloc | apply pw_below_drewN | apply below_drew1 | refine below_set ?_ GE275.out) | exact HB.out)⟩⟩
                                        · rw [if_neg c38] at H
                                          exact absurd H (by simp)
                                      · rw [if_neg c35] at H
                                        exact absurd H (by simp)
                                    · rw [if_neg c34] at H
                                      exact absurd H (by simp)
                                  · rw [if_neg c33] at H
                                    exact absurd H (by simp)
                                · rw [if_neg c31] at H
                                  exact absurd H (by simp)
                              · rw [if_neg c30] at H
                                exact absurd H (by simp)
                            · rw [if_neg c29] at H
                              exact absurd H (by simp)
                          · rw [if_neg c28] at H
                            exact absurd H (by simp)
                        · rw [if_neg c27] at H
                          exact absurd H (by simp)
                      · rw [if_neg c26] at H
                        exact absurd H (by simp)
                    · rw [if_neg c25] at H
                      exact absurd H (by simp)
                  · rw [if_neg c22] at H
                    have c22b0 : decide (x10_2 < (wrap64 (Int.tdiv (wrap64 ((wrap64 ((l0.length : Int) + t272)) - 1)) t272))) = false := decide_eq_false c22
                    clear c22
                    by_cases c73 : x9_2 = (t282.length : Int)
                    · rw [if_pos c73] at H
                      have c73b0 : (x9_2 == (t282.length : Int)) = true := beq_iff_eq.mpr c73
                      have c73b1 : (x9_2 != (t282.length : Int)) = false := bne_eq_false_iff_eq.mpr c73
                      clear c73
                      by_cases c74 : 20 ≤ 24
                      · rw [if_pos c74] at H
                        have c74b0 := eq_true c74
                        have c74b1 : decide (20 ≤ 24) = true := decide_eq_true c74
                        clear c74
                        by_cases c75 : 24 ≤ (t282.length : Int)
                        · rw [if_pos c75] at H
                          have c75b0 := eq_true c75
                          have c75b1 : decide (24 ≤ (t282.length : Int)) = true := decide_eq_true c75
                          clear c75
                          obtain ⟨y286, hy286⟩ : ∃ y_ : List Int, y_ = ((t282.take 24).drop 20) := ⟨_, rfl⟩
                          replace H : (if 20 ≤ (t282.length : Int) then ((strongboxref4_Sum.f k2 (t282.take 20)).bind fun t294 => ((strongboxref4_Bytes.f k2 t294).bind fun t295 => (some ((strOfNums y286).toList == (strOfNums t295).toList)))) else (none)) = some r := by first | (rw [hy286]; with_reducible exact H) | (have H2_ := (Option.bind_some _ _).symm.trans H; rw [hy286]; with_reducible exact H2_) | (have H2_ := (Option.bind_some _ _).symm.trans H; with_reducible exact H2_) | with_reducible exact H | (rw [hy286]; exact H) | exact H
                          have Ny286 := Aside0.mk hy286
                          clear hy286
                          by_cases c76 : 20 ≤ (t282.length : Int)
                          · rw [if_pos c76] at H
                            have c76b0 := eq_true c76
                            have c76b1 : decide (20 ≤ (t282.length : Int)) = true := decide_eq_true c76
                            clear c76
                            obtain ⟨y290, hy290⟩ : ∃ y_ : List Int, y_ = (t282.take 20) := ⟨_, rfl⟩
                            replace H : ((strongboxref4_Sum.f k2 y290).bind fun t294 => ((strongboxref4_Bytes.f k2 t294).bind fun t295 => (some ((strOfNums y286).toList == (strOfNums t295).toList)))) = some r := by first | (rw [hy290]; with_reducible exact H) | (have H2_ := (Option.bind_some _ _).symm.trans H; rw [hy290]; with_reducible exact H2_) | (have H2_ := (Option.bind_some _ _).symm.trans H; with_reducible exact H2_) | with_reducible exact H | (rw [hy290]; exact H) | exact H
                            have Ny290 := Aside0.mk hy290
                            clear hy290
                            replace H := Option.bind_eq_some_iff.mp H
                            obtain ⟨t294, A770, H⟩ := H
                            replace H : ((strongboxref4_Bytes.f k2 t294).bind fun t295 => (some ((strOfNums y286).toList == (strOfNums t295).toList))) = some r := H
                            have A77 := Aside0.mk A770
                            clear A770
                            replace H := Option.bind_eq_some_iff.mp H
                            obtain ⟨t295, A780, H⟩ := H
                            replace H : (some ((strOfNums y286).toList == (strOfNums t295).toList)) = some r := H
                            have A78 := Aside0.mk A780
                            clear A780
                            obtain rfl := Option.some.inj H
                            try go_wp2
                            have n0_ := Aside0.mk (Kd.R_drew HO_6.out)
                            have n1_ := Aside0.mk (blk_drew BK275.out)
                            have n2_ := Aside0.mk (below_drew1 HB.out)
                            clear HO_6
                            clear BK275
                            clear HB
                            have HO_6 := n0_
                            have BK275 := n1_
                            have HB := n2_
                            clear n0_ n1_ n2_
                            obtain ⟨Ao80, co80, eo80⟩ := Kd.R_slice HO_6.out
                            (first | subst eo80 | (injection eo80 with f1_ f2_ f3_; have f4_ := f1_.symm; have f5_ := f3_.symm; clear f1_ f2_ f3_; subst f4_; subst f5_))
                            have q81 : (24 : Int) ≤ ((t282.length : Int) : Int) := of_decide_eq_true (by first | (with_reducible assumption) | assumption)
                            obtain ⟨i081, hi081, _, hsz81, _⟩ := info_parts info5
                            have hroom81 : t282.length ≤ co80 := (Kd.R_reads' HO_6.out).2.1
                            have hC81 : Kd.C (Kd.int .u8) _ Ao80 t282.length t282 := (Kd.R_reads' HO_6.out).2.2
                            have ql81 : (20 : Int) ≤ (24 : Int) := (by omega)
                            have hcut81 := cut_mid (P := Try.prog) 22 5 .i64 .i64 Try.underlying22 hi081 1 hsz81 Ao80 t282.length co80 20 24 (by omega) ql81 q81 hroom81
                            have hr81 := Kd.C_mid (lo := (20 : Int).toNat) (hi := (24 : Int).toNat) (c := co80) hC81 (by omega) (by omega) hroom81
                            obtain ⟨A81, hA81⟩ : ∃ A1, A1 = (if co80 = (20 : Int).toNat then Ao80 else (Ao80 : Option Addr).map (·.add ((20 : Int).toNat * 1))) := ⟨_, rfl⟩
                            obtain ⟨c81, hc81⟩ : ∃ c1, c1 = co80 - (20 : Int).toNat := ⟨_, rfl⟩
                            have hy81 : y286.length = (24 : Int).toNat - (20 : Int).toNat := (by rw [Ny286.out, List.length_drop, List.length_take] <;> omega)
                            rw [show ((t282).take (24 : Int).toNat).drop (20 : Int).toNat = y286 from Ny286.out.symm] at hr81
                            replace hr81 : Kd.C (Kd.int .u8) _ A81 y286.length y286 := (by rw [hA81]; exact hr81)
                            rw [← hy81, ← hA81, ← hc81] at hcut81
                            have HR289 := Aside0.mk hr81
                            have HC289 := Aside0.mk (show y286.length ≤ c81 from by rw [hy81, hc81]; exact Nat.sub_le_sub_right (Nat.le_trans (by omega) hroom81) _)
                            clear hr81 hC81 hroom81 hi081 hsz81 hc81
                            have KY81 := Aside0.mk hy81
                            have KA81 := Aside0.mk hA81
                            clear hy81 hA81
                            have KL81 := Aside0.mk (show 24 ≤ t282.length from by omega)
                            have KM81 := Aside0.mk (show 20 ≤ 24 from by omega)
                            replace q81 := eq_true q81
                            have q82 : (20 : Int) ≤ ((t282.length : Int) : Int) := of_decide_eq_true (by first | (with_reducible assumption) | assumption)
                            obtain ⟨i082, hi082, _, hsz82, _⟩ := info_parts info5
                            have hroom82 : t282.length ≤ co80 := (Kd.R_reads' HO_6.out).2.1
                            have hC82 : Kd.C (Kd.int .u8) _ Ao80 t282.length t282 := (Kd.R_reads' HO_6.out).2.2
                            have hcut82 := cut_to (P := Try.prog) 22 5 .i64 Try.underlying22 hi082 Ao80 t282.length co80 20 (by omega) q82 hroom82
                            have hr82 := Kd.C_take (m := 20) hC82 (by omega)
                            have hy82 : y290.length = (20 : Int).toNat := (by rw [Ny290.out, List.length_take]; omega)
                            rw [← Ny290.out] at hr82
                            rw [← hy82] at hcut82
                            have HR293 := Aside0.mk hr82
                            have HC293 := Aside0.mk (show y290.length ≤ co80 from by omega)
                            clear hr82 hC82 hroom82 hi082 hsz82
                            have KY82 := Aside0.mk hy82
                            clear hy82
                            have KL82 := Aside0.mk (show 20 ≤ t282.length from by omega)
                            replace q82 := eq_true q82
                            refine start_ (n := 16) (S := fun w' => (convert 22 9 (.slice A81 y286.length c81)).run Try.prog w' = .ok (.string (strOfNums y286)) w') (ds := []) #[false, false, false, false, false, false, false, false, false, false, false, false, false, false, false, false] (by kernel_rfl) rfl rfl ((Kd.C_string (P := Try.prog) (A := A81) (c := c81) Try.underlying22 Try.underlying5 Try.underlying9 (by repeat (first | (with_reducible exact HR289.out) | (with_reducible refine Kd.C_alloc ?_ _) | (with_reducible refine Kd.C_drewN ?_ _) | (with_reducible refine Kd.C_drew ?_) | exact HR289.out)))) (fun hHeld => ?_); refine with_tabW strongboxlaw5_ShardBlocks.tab18 strongboxlaw5_ShardBlocks.bits18 (fun HT_ HW_ => ?_)
                            generalize wr.drew = w79 at HO_6 BK275 HB HR289 HR293 hHeld ⊢
                            refine pure_ (i := 0) (N := some 104) (v := ?_) (a' := ?_) #[true, false, false, false, false, false, false, false, false, false, false, false, false, false, false, false] rfl rfl (any_of HT_.out (by kernel_rfl)) (fun _ _ _ h => h) (Or.inl ⟨by rfl, ?_⟩) ?_ ?_
                            rotate_left
                            · intro w'
                              go_simp
                              with_reducible rfl
                            rotate_left
                            · simp only [Act.put, List.setIfInBounds_toArray, List.set_cons_zero, List.set_cons_succ, i64_w, i32_w]
                              rfl
                            refine pure_ (i := 1) (N := some 105) (v := ?_) (a' := ?_) #[true, true, false, false, false, false, false, false, false, false, false, false, false, false, false, false] rfl rfl (any_of HT_.out (by kernel_rfl)) (fun _ _ _ h => h) (Or.inl ⟨by rfl, ?_⟩) ?_ ?_
                            rotate_left
                            · intro w'
                              go_simp
                              with_reducible rfl
                            rotate_left
                            · simp only [Act.put, List.setIfInBounds_toArray, List.set_cons_zero, List.set_cons_succ, i64_w, i32_w]
                              rfl
                            refine pure_ (i := 2) (N := some 106) (v := ?_) (a' := ?_) #[true, true, true, false, false, false, false, false, false, false, false, false, false, false, false, false] rfl rfl (any_of HT_.out (by kernel_rfl)) (fun _ _ _ h => h) (Or.inl ⟨by rfl, ?_⟩) ?_ ?_
                            rotate_left
                            · intro w'
                              go_simp
                              with_reducible rfl
                            rotate_left
                            · simp only [Act.put, List.setIfInBounds_toArray, List.set_cons_zero, List.set_cons_succ, i64_w, i32_w]
                              rfl
                            refine pure_ (i := 3) (N := some 107) (v := ?_) (a' := ?_) #[true, true, true, true, false, false, false, false, false, false, false, false, false, false, false, false] rfl rfl (any_of HT_.out (by kernel_rfl)) (fun _ _ _ h => h) (Or.inl ⟨by rfl, ?_⟩) ?_ ?_
                            rotate_left
                            · intro w'
                              go_simp
                              with_reducible rfl
                            rotate_left
                            · simp only [Act.put, List.setIfInBounds_toArray, List.set_cons_zero, List.set_cons_succ, i64_w, i32_w]
                              rfl
                            refine pure_ (i := 4) (N := some 108) (v := ?_) (a' := ?_) #[true, true, true, true, true, false, false, false, false, false, false, false, false, false, false, false] rfl rfl (any_of HT_.out (by kernel_rfl)) (fun _ _ _ h => h) (Or.inl ⟨by rfl, ?_⟩) ?_ ?_
                            rotate_left
                            · intro w'
                              go_simp
                              with_reducible rfl
                            rotate_left
                            · simp only [Act.put, List.setIfInBounds_toArray, List.set_cons_zero, List.set_cons_succ, i64_w, i32_w]
                              rfl
                            refine pure_ (i := 5) (N := some 109) (v := ?_) (a' := ?_) #[true, true, true, true, true, true, false, false, false, false, false, false, false, false, false, false] rfl rfl (any_of HT_.out (by kernel_rfl)) (fun _ _ _ h => h) (Or.inl ⟨by rfl, ?_⟩) ?_ ?_
                            rotate_left
                            · intro w'
                              go_simp
                              with_reducible rfl
                            rotate_left
                            · simp only [Act.put, List.setIfInBounds_toArray, List.set_cons_zero, List.set_cons_succ, i64_w, i32_w]
                              rfl
                            refine pure_ (i := 6) (N := some 110) (v := ?_) (a' := ?_) #[true, true, true, true, true, true, true, false, false, false, false, false, false, false, false, false] rfl rfl (any_of HT_.out (by kernel_rfl)) (fun _ _ _ h => h) (Or.inl ⟨by rfl, ?_⟩) ?_ ?_
                            rotate_left
                            · intro w'
                              go_simp
                              with_reducible rfl
                            rotate_left
                            · simp only [Act.put, List.setIfInBounds_toArray, List.set_cons_zero, List.set_cons_succ, i64_w, i32_w]
                              rfl
                            refine pure_ (i := 8) (N := some 112) (v := ?_) (a' := ?_) #[true, true, true, true, true, true, true, false, true, false, false, false, false, false, false, false] rfl rfl (any_of HT_.out (by kernel_rfl)) (fun _ _ _ h => h) (Or.inl ⟨by rfl, ?_⟩) ?_ ?_
                            rotate_left
                            · intro w'
                              go_simp
                              with_reducible rfl
                            rotate_left
                            · simp only [Act.put, List.setIfInBounds_toArray, List.set_cons_zero, List.set_cons_succ, i64_w, i32_w]
                              rfl
                            refine pure_ (i := 9) (N := some 113) (v := ?_) (a' := ?_) #[true, true, true, true, true, true, true, false, true, true, false, false, false, false, false, false] rfl rfl (any_of HT_.out (by kernel_rfl)) (fun _ _ _ h => h) (Or.inl ⟨by rfl, ?_⟩) ?_ ?_
                            rotate_left
                            · intro w'
                              go_simp
                              with_reducible rfl
                            rotate_left
                            · simp only [Act.put, List.setIfInBounds_toArray, List.set_cons_zero, List.set_cons_succ, i64_w, i32_w]
                              rfl
                            refine take_ (i := 7) (N := some 111) (v := ?_) (a' := ?_) #[true, true, true, true, true, true, true, true, true, true, false, false, false, false, false, false] rfl rfl (take_ofW HT_.out HW_.out (by kernel_rfl)) (fun _ _ _ h => h) (Or.inl ⟨by rfl, ?_⟩) hHeld ?_ ?_
                            rotate_left
                            · intro w' s0
                              go_simp
                              with_reducible rfl
                            rotate_left
                            · simp only [Act.put, List.setIfInBounds_toArray, List.set_cons_zero, List.set_cons_succ, i64_w, i32_w]
                              rfl
                            refine one_ (i := 10) (N := some 114) #[true, true, true, true, true, true, true, true, true, true, true, false, false, false, false, false] rfl rfl (one_of HT_.out (by kernel_rfl)) (by decide) (fun K hK => ?_)
                            refine goes_ Try.func20 (by kernel_rfl) rfl #[.slice Ao80 y290.length co80] (by rfl) rfl rfl (by (try simp only [List.map_toArray, List.map_cons, List.map_nil]); first | done | rfl | (simp only [List.length_drop, List.length_take]; rfl)) ?_
                            with_reducible refine (strongboxref4_Sum.calls k2 _ _ y290 t294 _ ?side1 ?side2 A77.out).mono ?_
                            (case side1 => repeat (first | exact (by repeat (first | (with_reducible exact HR293.out) | (with_reducible refine Kd.C_alloc ?_ _) | (with_reducible refine Kd.C_drewN ?_ _) | (with_reducible refine Kd.C_drew ?_) | exact HR293.out)) | (with_reducible refine Kd.C_alloc ?_ _) | (with_reducible refine Kd.C_drewN ?_ _) | (with_reducible refine Kd.C_drew ?_)))
                            (case side2 => exact HC293.out)
                            rintro e w' ⟨rfl, ⟨nd, rfl⟩⟩
                            refine ⟨_, rfl, ?_⟩
                            refine hK.out _ _ ((Kd.C_string (P := Try.prog) (A := A81) (c := c81) Try.underlying22 Try.underlying5 Try.underlying9 (by repeat (first | (with_reducible exact HR289.out) | (with_reducible refine Kd.C_alloc ?_ _) | (with_reducible refine Kd.C_drewN ?_ _) | (with_reducible refine Kd.C_drew ?_) | exact HR289.out)))) (fun hHeld => ?_)
                            clear hK K
                            refine norm_ (a' := ?_) ?_ ?_
                            rotate_left
                            · show Act.put _ (some 114) _ = _
                              simp only [Act.put, List.setIfInBounds_toArray, List.set_cons_zero, List.set_cons_succ, i64_w, i32_w]
                              rfl
                            refine one_ (i := 11) (N := some 115) #[true, true, true, true, true, true, true, true, true, true, true, true, false, false, false, false] rfl rfl (one_of HT_.out (by kernel_rfl)) (by decide) (fun K hK => ?_)
                            refine goes_ Try.func19 (by kernel_rfl) rfl #[.int .u32 t294] (by rfl) rfl rfl (by (try simp only [List.map_toArray, List.map_cons, List.map_nil]); first | done | rfl | (simp only [List.length_drop, List.length_take]; rfl)) ?_
                            with_reducible refine (strongboxref4_Bytes.calls k2 t294 t295 _ A78.out).mono ?_
                            rintro e w84 ⟨v296, rfl, ho0, hb⟩
                            refine ⟨_, rfl, ?_⟩
                            have n0_ := Aside0.mk (Kd.R_elder' (by (with_reducible repeat (first | apply Kd.R_alloc | apply Kd.R_drewN | apply Kd.R_drew)); exact HO_6.out) (Kd.R_base ho0) hb)
                            have n1_ := Aside0.mk (Kd.R_lower (Kd.R_new' ho0 (Kd.R_lt (by (with_reducible repeat (first | apply Kd.R_alloc | apply Kd.R_drewN | apply Kd.R_drew)); exact HO_6.out))) (below_size (by repeat (first | (with_reducible first | exact HB.out | apply below_alloc | apply pw_below_drewN | apply below_drew1 | refine below_set ?_ GE275.out) | exact HB.out))))
                            have n2_ := Aside0.mk (blk_below (g := gb275) (o := .cells #[.int .i64 t269, .int .i64 t270, .int .i64 t271, .int .i64 t272, .int .i64 t273, .int .i64 t274] 27 (0, 0)) (by (with_reducible repeat (first | refine blk_drewN ?_ _ | refine blk_drew ?_ | refine blk_alloc ?_ _)); exact BK275.out) hb)
                            have n3_ := Aside0.mk (Kd.C_below (by repeat (first | (with_reducible exact HR289.out) | (with_reducible refine Kd.C_alloc ?_ _) | (with_reducible refine Kd.C_drewN ?_ _) | (with_reducible refine Kd.C_drew ?_) | exact HR289.out)) hb)
                            have n4_ := Aside0.mk (Kd.C_below (by repeat (first | (with_reducible exact HR293.out) | (with_reducible refine Kd.C_alloc ?_ _) | (with_reducible refine Kd.C_drewN ?_ _) | (with_reducible refine Kd.C_drew ?_) | exact HR293.out)) hb)
                            have n5_ := Aside0.mk (below_step (by repeat (first | (with_reducible first | exact HB.out | apply below_alloc | apply pw_below_drewN | apply below_drew1 | refine below_set ?_ GE275.out) | exact HB.out)) hb)
                            clear HO_6
                            clear BK275
                            clear HR289
                            clear HR293
                            clear HB
                            have HO_6 := n0_
                            have HO297 := n1_
                            have BK275 := n2_
                            have HR289 := n3_
                            have HR293 := n4_
                            have HB := n5_
                            clear n0_ n1_ n2_ n3_ n4_ n5_
                            (try clear hb)
                            (try clear hb2)
                            (try clear hk)
                            (try clear hi)
                            (try clear ho0)
                            refine hK.out _ _ ((Kd.C_string (P := Try.prog) (A := A81) (c := c81) Try.underlying22 Try.underlying5 Try.underlying9 (by repeat (first | (with_reducible exact HR289.out) | (with_reducible refine Kd.C_alloc ?_ _) | (with_reducible refine Kd.C_drewN ?_ _) | (with_reducible refine Kd.C_drew ?_) | exact HR289.out)))) (fun hHeld => ?_)
                            clear hK K
                            refine norm_ (a' := ?_) ?_ ?_
                            rotate_left
                            · show Act.put _ (some 115) _ = _
                              simp only [Act.put, List.setIfInBounds_toArray, List.set_cons_zero, List.set_cons_succ, i64_w, i32_w]
                              rfl
                            refine one_ (i := 12) (N := some 116) #[true, true, true, true, true, true, true, true, true, true, true, true, true, false, false, false] rfl rfl (one_of HT_.out (by kernel_rfl)) (by decide) (fun K hK => ?_)
                            have hcv85 := own_string (P := Try.prog) Try.underlying22 Try.underlying5 Try.underlying9 (Kd.own_of_R HO297.out)
                            refine value_ (w1 := ?_) (v := ?_) (by rfl) rfl ?_ ?_
                            rotate_left 2
                            · go_simp
                              constructor
                              · rfl
                              · rfl
                            clear hcv85
                            refine hK.out _ _ ((Kd.C_string (P := Try.prog) (A := A81) (c := c81) Try.underlying22 Try.underlying5 Try.underlying9 (by repeat (first | (with_reducible exact HR289.out) | (with_reducible refine Kd.C_alloc ?_ _) | (with_reducible refine Kd.C_drewN ?_ _) | (with_reducible refine Kd.C_drew ?_) | exact HR289.out)))) (fun hHeld => ?_)
                            clear hK K
                            refine norm_ (a' := ?_) ?_ ?_
                            rotate_left
                            · show Act.put _ (some 116) _ = _
                              simp only [Act.put, List.setIfInBounds_toArray, List.set_cons_zero, List.set_cons_succ, i64_w, i32_w]
                              rfl
                            refine pure_ (i := 13) (N := some 117) (v := ?_) (a' := ?_) #[true, true, true, true, true, true, true, true, true, true, true, true, true, true, false, false] rfl rfl (any_of HT_.out (by kernel_rfl)) (fun _ _ _ h => h) (Or.inl ⟨by rfl, ?_⟩) ?_ ?_
                            rotate_left
                            · intro w'
                              go_simp
                              with_reducible rfl
                            rotate_left
                            · simp only [Act.put, List.setIfInBounds_toArray, List.set_cons_zero, List.set_cons_succ, i64_w, i32_w]
                              rfl
                            refine pure_ (i := 14) (N := some 118) (v := ?_) (a' := ?_) #[true, true, true, true, true, true, true, true, true, true, true, true, true, true, true, false] rfl rfl (any_of HT_.out (by kernel_rfl)) (fun _ _ _ h => h) (Or.inl ⟨by rfl, ?_⟩) ?_ ?_
                            rotate_left
                            · intro w'
                              go_simp
                              with_reducible rfl
                            rotate_left
                            · simp only [Act.put, List.setIfInBounds_toArray, List.set_cons_zero, List.set_cons_succ, i64_w, i32_w]
                              rfl
                            refine pure_ (i := 15) (N := some 4) (v := ?_) (a' := ?_) #[true, true, true, true, true, true, true, true, true, true, true, true, true, true, true, true] rfl rfl (any_of HT_.out (by kernel_rfl)) (fun _ _ _ h => h) (Or.inl ⟨by rfl, ?_⟩) ?_ ?_
                            rotate_left
                            · intro w'
                              go_simp
                              with_reducible rfl
                            rotate_left
                            · simp only [Act.put, List.setIfInBounds_toArray, List.set_cons_zero, List.set_cons_succ, i64_w, i32_w]
                              rfl
                            refine done_ (done_of HT_.out (by kernel_rfl)) ?_
                            try go_wp2
                            go_ret
                            exact ⟨by first | rfl | (simp [errW_none, errW_some] <;> rfl) | (simp [*, errW_none, errW_some] <;> rfl), by repeat (first | (with_reducible first | exact HB.out | apply below_alloc | apply pw_below_drewN | apply below_drew1 | refine below_set ?_ GE275.out) | exact HB.out)⟩
                          · rw [if_neg c76] at H
                            exact absurd H (by simp)
                        · rw [if_neg c75] at H
                          exact absurd H (by simp)
                      · rw [if_neg c74] at H
                        exact absurd H (by simp)
                    · rw [if_neg c73] at H
                      exact absurd H (by simp)
  · replace c4 := Bool.eq_false_iff.mpr c4
    subst c4
    have H1 : (none) = some r := by rw [if_neg (show ¬ (false = true) by decide)] at H; exact H
    clear H
    have H := H1
    clear H1
    exact absurd H (by simp)

/-- THE ONE PURE STATEMENT of strongboxlaw5_ShardBlocks: yours. -/
def strongboxlaw5_ShardBlocks.Pure : Prop := ∀ (l0 : List Int) (a1 : Int), l0.length ≤ maxLen → l0.length * 1 ≤ 140737488351232 → (∀ x ∈ l0, (Lit.int .u8 x).wf = true) → (Lit.int .u8 a1).wf = true → ∃ k, strongboxlaw5_ShardBlocks.f k l0 a1 = some true
theorem strongboxlaw5_ShardBlocks.walk (P : strongboxlaw5_ShardBlocks.Pure) (a0 : Option Addr) (len0 cap0 : Nat) (z0 : List Int) (a1 : Int) (w : World) (w0 : (a0 = none ∧ len0 = 0 ∧ cap0 = 0 ∧ z0 = []) ∨ ∃ x, a0 = some x ∧ len0 ≤ cap0 ∧ cap0 ≤ maxLen ∧ z0.length = cap0 ∧ (∀ i, i < z0.length → w.cell? (x.add i) = some (.int .u8 (z0.getD i 0))) ∧ ∀ n ∈ z0, (Lit.int .u8 n).wf = true) (y0 : len0 * 1 ≤ 140737488351232) (w1 : (Lit.int .u8 a1).wf = true) :
    Calls Try.prog 5 #[.slice a0 len0 cap0, .int .u8 a1] w fun e w' => e = .returned (.bool true) ∧ Below w.heap.size w w' := by
  obtain ⟨l0, rfl, hr0, hm0, hw0, hc0⟩ := ReadsInt.ofRowC w0
  obtain ⟨k, h⟩ := P l0 a1 hm0 y0 hw0 w1
  refine (strongboxlaw5_ShardBlocks.calls k _ _ l0 a1 true w (Kd.C_of_reads (d := (0 : Int)) (h1 := fun _ => rfl) hr0) hc0 h).mono ?_
  rintro e w' ⟨rfl, hd⟩
  exact ⟨rfl, hd⟩

end Go.Proofs.Ytnlpipjdpmaggaa.PShardBlocks
