/- The law ShardWrites walked: where its Lean function tells true, the call returns true and writes to nothing that came in. The printing program's text, turned by a program of the prover's to a writer behind a pointer. -/
import Derived.Test.YtnlpipjdpmaggaaPShardWritesx0
import Derived.Test.YtnlpipjdpmaggaaPShardWritesx2
import Derived.Test.YtnlpipjdpmaggaaPShardWritesx3
import Derived.Test.YtnlpipjdpmaggaaPShardWritesx7
import Derived.Test.YtnlpipjdpmaggaaPShardWritesx8
import Derived.Test.YtnlpipjdpmaggaaPShardWritesx9
import Derived.Test.YtnlpipjdpmaggaaMayHead
import Derived.Test.YtnlpipjdpmaggaaWriterA
import Derived.Test.YtnlpipjdpmaggaaWriterC
import Derived.Test.YtnlpipjdpmaggaaWriterD
import Derived.Test.YtnlpipjdpmaggaaWriterE
import Derived.Test.YtnlpipjdpmaggaaWriterF
import Derived.Test.YtnlpipjdpmaggaaWriterG
import Derived.Test.YtnlpipjdpmaggaaWriterK
namespace Go.Proofs.Ytnlpipjdpmaggaa.PShardWrites
open Go.RowKit Go.Proofs.YtnlpipjdpmaggaaW.PrintWords Go.Proofs.YtnlpipjdpmaggaaW.PrintLast Go.Proofs.YtnlpipjdpmaggaaW.PrintMore
attribute [local go_sem] max2_int min2_int max_two min_two max_three min_three max_four min_four   -- for this text's walks alone
set_option linter.unusedVariables false
set_option linter.unusedSimpArgs false

def strongboxlaw5_ShardWrites.T7 : Bool × List (List Nat × List Nat) := (true, [([], []), ([0], [0]), ([], []), ([2], [2]), ([1, 3], [1, 3]), ([4], [4]), ([5], [5]), ([5], [5]), ([6, 7, 5], [5, 6, 7]), ([5, 8], [5, 8]), ([9, 5], [9]), ([10], [10]), ([11, 10, 10], [10, 11]), ([12, 12, 10], [10, 12]), ([10], [10]), ([14, 13, 10], [10, 14]), ([13, 15, 10], [10, 13, 15]), ([10, 16], [10, 16])])
def strongboxlaw5_ShardWrites.B7 : List Nat := [0, 1, 0, 4, 15, 31, 63, 63, 255, 511, 1023, 2047, 4095, 8191, 2047, 32767, 65535, 131071]
theorem strongboxlaw5_ShardWrites.tab7 : rtab .any (opsOf Try.f10 7) = strongboxlaw5_ShardWrites.T7 := by kernel_rfl
theorem strongboxlaw5_ShardWrites.bits7 : waitsOk strongboxlaw5_ShardWrites.T7.2 strongboxlaw5_ShardWrites.B7 = true := by kernel_rfl
set_option maxHeartbeats 8000000 in
set_option maxRecDepth 100000 in
theorem strongboxlaw5_ShardWrites.calls (k : Nat) (a0_0 : Int) (a0_1 : Int) (a0_2 : Int) (a0_3 : Int) (a0_4 : Int) (a0_5 : Int) (A1 : Option Addr) (c1 : Nat) (l1 : List Int) (A2 : Option Addr) (c2 : Nat) (l2 : List Int) (r : Bool) (w : World) (hr1 : Kd.C (Kd.int .u8) w A1 l1.length l1) (hc1 : l1.length ≤ c1) (hr2 : Kd.C (Kd.int .u8) w A2 l2.length l2) (hc2 : l2.length ≤ c2) (h : strongboxlaw5_ShardWrites.f k a0_0 a0_1 a0_2 a0_3 a0_4 a0_5 l1 l2 = some r) :
  Calls Try.prog 10 #[.agg #[.int .i64 a0_0, .int .i64 a0_1, .int .i64 a0_2, .int .i64 a0_3, .int .i64 a0_4, .int .i64 a0_5], .slice A1 l1.length c1, .slice A2 l2.length c2] w fun e w' => e = .returned (.bool r) ∧ Below w.heap.size w w' := by
 have hu27 := Try.underlying27
 have hu105 := Try.underlying105
 have HR1 := Aside0.mk hr1
 have HC1 := Aside0.mk hc1
 clear hr1 hc1
 have HR2 := Aside0.mk hr2
 have HC2 := Aside0.mk hc2
 clear hr2 hc2
 have HB := Aside0.mk (Below.refl w.heap.size w)
 have H : ((strongboxlaw5_awake.f k).bind fun t381 => (if t381 = true then (if (l1.length : Int) > 5000 then (strongboxlaw5_ShardWrites.j0 k l1 l2 true a0_0 a0_1 a0_2 a0_3 a0_4 a0_5) else (strongboxlaw5_ShardWrites.j0 k l1 l2 (decide ((l2.length : Int) > 50)) a0_0 a0_1 a0_2 a0_3 a0_4 a0_5)) else (none))) = some r := h
 clear h
 replace H := Option.bind_eq_some_iff.mp H
 obtain ⟨t381, A40, H⟩ := H
 replace H : (if t381 = true then (if (l1.length : Int) > 5000 then (strongboxlaw5_ShardWrites.j0 k l1 l2 true a0_0 a0_1 a0_2 a0_3 a0_4 a0_5) else (strongboxlaw5_ShardWrites.j0 k l1 l2 (decide ((l2.length : Int) > 50)) a0_0 a0_1 a0_2 a0_3 a0_4 a0_5)) else (none)) = some r := H
 have A4 := Aside0.mk A40
 clear A40
 by_cases c5 : t381 = true
 ·subst c5
  have H1 : (if (l1.length : Int) > 5000 then (strongboxlaw5_ShardWrites.j0 k l1 l2 true a0_0 a0_1 a0_2 a0_3 a0_4 a0_5) else (strongboxlaw5_ShardWrites.j0 k l1 l2 (decide ((l2.length : Int) > 50)) a0_0 a0_1 a0_2 a0_3 a0_4 a0_5)) = some r := by rw [if_pos rfl] at H; exact H
  clear H
  have H := H1
  clear H1
  have HC6 := Aside0.mk H
  clear H
  go_enter Try.func10, Try.ntmps10
  go_upto_region 3 with (first | ((with_reducible refine gate_dst (N := 3) rfl ?_); (try (refine gate_guard (by rfl) ?_; dsimp only)); refine box_event ?hg (N := 3) ?hd (cs := #[.int .i64 a0_0, .int .i64 a0_1, .int .i64 a0_2, .int .i64 a0_3, .int .i64 a0_4, .int .i64 a0_5]) (t := 27) ?hr ?_; (case hd => rfl); (case hg => rfl); (case hr => first | (go_simp; done) | (go_simp; rfl)); intro gb380 hg w7 hbox hb; have n0_ := Aside0.mk (below_step (by repeat (first | (with_reducible first | exact HB.out | apply below_alloc | apply pw_below_drewN | apply below_drew1) | exact HB.out)) hb); have n1_ := Aside0.mk (hbox); have n2_ := Aside0.mk ((by rw [hg]; exact (below_size (by repeat (first | (with_reducible first | exact HB.out | apply below_alloc | apply pw_below_drewN | apply below_drew1) | exact HB.out))) : w.heap.size ≤ gb380)); have n3_ := Aside0.mk ((by rw [hg]; exact (below_size (by repeat (first | (with_reducible first | exact HB.out | apply below_alloc | apply pw_below_drewN | apply below_drew1) | exact HB.out))) : w.heap.size ≤ gb380)); clear HB; have HB := n0_; have BK380 := n1_; have GW380 := n2_; have GE380 := n3_; clear n0_ n1_ n2_ n3_; clear hb hbox hg) | ((with_reducible refine gate_callee (f := 14) rfl ?_); refine goesL_ (some 21) rfl rfl Try.func14 (by kernel_rfl) rfl #[] rfl (by (try simp only [List.map_toArray, List.map_cons, List.map_nil]); first | done | rfl | (simp only [List.length_drop, List.length_take]; rfl)) ?_; (with_reducible refine (strongboxlaw5_awake.calls k  true _ A4.out).mono ?_); rintro e w8 ⟨rfl, hb⟩; refine ⟨_, rfl, ?_⟩; have n0_ := Aside0.mk (blk_below (g := gb380) (o := .cells #[.int .i64 a0_0, .int .i64 a0_1, .int .i64 a0_2, .int .i64 a0_3, .int .i64 a0_4, .int .i64 a0_5] 27 (0, 0)) (by (with_reducible repeat (first | refine blk_drewN ?_ _ | refine blk_drew ?_ | refine blk_alloc ?_ _)); exact BK380.out) hb); have n1_ := Aside0.mk (below_step (by repeat (first | (with_reducible first | exact HB.out | apply below_alloc | apply pw_below_drewN | apply below_drew1 | refine below_set ?_ GE380.out) | exact HB.out)) hb); clear BK380; clear HB; have BK380 := n0_; have HB := n1_; clear n0_ n1_; (try clear hb); (try clear hb2); (try clear hk); (try clear hi)))
  (try simp only [Act.put, List.setIfInBounds_toArray, List.set_cons_zero, List.set_cons_succ])
  go_cut [30] (fun v30 wc => ∃ (kq : Nat) (x30_5 : Bool), v30 = .bool x30_5 ∧ Aside0 (strongboxlaw5_ShardWrites.j0 kq l1 l2 x30_5 a0_0 a0_1 a0_2 a0_3 a0_4 a0_5 = some r) ∧ Aside0 (kq ≤ k) ∧ Aside0 (wc.heap[gb380]? = some (.cells #[.int .i64 a0_0, .int .i64 a0_1, .int .i64 a0_2, .int .i64 a0_3, .int .i64 a0_4, .int .i64 a0_5] 27 (0, 0))) ∧ Aside0 (Below w.heap.size w wc))
  case first =>
   have H := HC6.out
   clear HC6
   by_cases c9 : (l1.length : Int) > 5000
   ·rw [if_pos c9] at H
    have c9b0 : decide (5000 < (l1.length : Int)) = true := decide_eq_true c9
    have c9b1 : decide (5000 < l1.length) = true := decide_eq_true (by omega)
    clear c9
    (first | rw [c9b0] | (simp only [i64_w, i32_w]; rw [c9b0]) | skip)
    have H' := Aside0.mk H
    clear H
    go_wp2
    go_meet
    case rel => exact ⟨_, (true), (by first | rfl | (simp; done) | (simp [*]; done)), H', ⟨by first | omega | exact Nat.le_refl _⟩, ⟨by (with_reducible repeat (first | refine blk_drewN ?_ _ | refine blk_drew ?_ | refine blk_alloc ?_ _)); exact BK380.out⟩, ⟨by repeat (first | (with_reducible first | exact HB.out | apply below_alloc | apply pw_below_drewN | apply below_drew1 | refine below_set ?_ GE380.out) | exact HB.out)⟩⟩
   ·rw [if_neg c9] at H
    have c9b0 : decide (5000 < (l1.length : Int)) = false := decide_eq_false c9
    have c9b1 : decide (5000 < l1.length) = false := decide_eq_false (by omega)
    clear c9
    (first | rw [c9b0] | (simp only [i64_w, i32_w]; rw [c9b0]) | skip)
    have H' := Aside0.mk H
    clear H
    go_wp2
    go_meet
    case rel => exact ⟨_, (decide ((l2.length : Int) > 50)), (by first | rfl | (simp; done) | (simp [*]; done)), H', ⟨by first | omega | exact Nat.le_refl _⟩, ⟨by (with_reducible repeat (first | refine blk_drewN ?_ _ | refine blk_drew ?_ | refine blk_alloc ?_ _)); exact BK380.out⟩, ⟨by repeat (first | (with_reducible first | exact HB.out | apply below_alloc | apply pw_below_drewN | apply below_drew1 | refine below_set ?_ GE380.out) | exact HB.out)⟩⟩
  case rest =>
   clear HC6
   try clear c1
   try clear c2
   try clear p2
   try clear c5
   try clear c9
   try clear c9b0
   try clear c9b1
   obtain ⟨kq, x30_5, rfl, HA, HJ5, BK380, HB⟩ := hcut
   cases kq with
   | zero => exact absurd HA.out (by simp [strongboxlaw5_ShardWrites.j0])
   | succ kj5 =>
    have H := HA.out
    clear HA
    simp only [strongboxlaw5_ShardWrites.j0] at H
    by_cases c10 : x30_5 = true
    ·subst c10
     have H1 : (some true) = some r := by rw [if_pos rfl] at H; exact H
     clear H
     have H := H1
     clear H1
     obtain rfl := Option.some.inj H
     go_wp2
     go_ret
     exact ⟨by first | rfl | (simp [errW_none, errW_some] <;> rfl) | (simp [*, errW_none, errW_some] <;> rfl), by repeat (first | (with_reducible first | exact HB.out | apply below_alloc | apply pw_below_drewN | apply below_drew1 | refine below_set ?_ GE380.out) | exact HB.out)⟩
    ·replace c10 := Bool.eq_false_iff.mpr c10
     subst c10
     have H1 : ((strongboxlaw5_Head.f a0_0 a0_1 a0_2 a0_3 a0_4 a0_5).bind fun bt382 => ((shard_Write.f kj5 bt382.1 bt382.2.1 bt382.2.2.1 bt382.2.2.2.1 bt382.2.2.2.2.1 bt382.2.2.2.2.2 l1).bind fun bt388 => ((strongboxref4_Write.f kj5 a0_0 a0_1 a0_2 a0_3 a0_4 a0_5 l1).bind fun bt392 => (if (strOfNums bt388.1).toList = (strOfNums bt392.1).toList then (if bt388.2 = bt392.2 then ((strongboxlaw5_Head.f a0_0 a0_1 a0_2 a0_3 a0_4 a0_5).bind fun bt396 => ((shard_May.f kj5 bt396.1 bt396.2.1 bt396.2.2.1 bt396.2.2.2.1 bt396.2.2.2.2.1 bt396.2.2.2.2.2).bind fun t402 => ((strongboxref4_MayHead.f a0_0 a0_1 a0_2 a0_3 a0_4 a0_5).bind fun t403 => (strongboxlaw5_ShardWrites.j1 kj5 l1 l2 bt392.1 (t402 != t403) a0_0 a0_1 a0_2 a0_3 a0_4 a0_5)))) else (strongboxlaw5_ShardWrites.j1 kj5 l1 l2 bt392.1 true a0_0 a0_1 a0_2 a0_3 a0_4 a0_5)) else (strongboxlaw5_ShardWrites.j1 kj5 l1 l2 bt392.1 true a0_0 a0_1 a0_2 a0_3 a0_4 a0_5))))) = some r := by rw [if_neg (show ¬ (false = true) by decide)] at H; exact H
     clear H
     have H := H1
     clear H1
     replace H := Option.bind_eq_some_iff.mp H
     obtain ⟨⟨t382, t383, t384, t385, t386, t387⟩, A110, H⟩ := H
     replace H : ((shard_Write.f kj5 t382 t383 t384 t385 t386 t387 l1).bind fun bt388 => ((strongboxref4_Write.f kj5 a0_0 a0_1 a0_2 a0_3 a0_4 a0_5 l1).bind fun bt392 => (if (strOfNums bt388.1).toList = (strOfNums bt392.1).toList then (if bt388.2 = bt392.2 then ((strongboxlaw5_Head.f a0_0 a0_1 a0_2 a0_3 a0_4 a0_5).bind fun bt396 => ((shard_May.f kj5 bt396.1 bt396.2.1 bt396.2.2.1 bt396.2.2.2.1 bt396.2.2.2.2.1 bt396.2.2.2.2.2).bind fun t402 => ((strongboxref4_MayHead.f a0_0 a0_1 a0_2 a0_3 a0_4 a0_5).bind fun t403 => (strongboxlaw5_ShardWrites.j1 kj5 l1 l2 bt392.1 (t402 != t403) a0_0 a0_1 a0_2 a0_3 a0_4 a0_5)))) else (strongboxlaw5_ShardWrites.j1 kj5 l1 l2 bt392.1 true a0_0 a0_1 a0_2 a0_3 a0_4 a0_5)) else (strongboxlaw5_ShardWrites.j1 kj5 l1 l2 bt392.1 true a0_0 a0_1 a0_2 a0_3 a0_4 a0_5)))) = some r := H
     have A11 := Aside0.mk A110
     clear A110
     replace H := Option.bind_eq_some_iff.mp H
     obtain ⟨⟨t388, t391⟩, A120, H⟩ := H
     replace H : ((strongboxref4_Write.f kj5 a0_0 a0_1 a0_2 a0_3 a0_4 a0_5 l1).bind fun bt392 => (if (strOfNums t388).toList = (strOfNums bt392.1).toList then (if t391 = bt392.2 then ((strongboxlaw5_Head.f a0_0 a0_1 a0_2 a0_3 a0_4 a0_5).bind fun bt396 => ((shard_May.f kj5 bt396.1 bt396.2.1 bt396.2.2.1 bt396.2.2.2.1 bt396.2.2.2.2.1 bt396.2.2.2.2.2).bind fun t402 => ((strongboxref4_MayHead.f a0_0 a0_1 a0_2 a0_3 a0_4 a0_5).bind fun t403 => (strongboxlaw5_ShardWrites.j1 kj5 l1 l2 bt392.1 (t402 != t403) a0_0 a0_1 a0_2 a0_3 a0_4 a0_5)))) else (strongboxlaw5_ShardWrites.j1 kj5 l1 l2 bt392.1 true a0_0 a0_1 a0_2 a0_3 a0_4 a0_5)) else (strongboxlaw5_ShardWrites.j1 kj5 l1 l2 bt392.1 true a0_0 a0_1 a0_2 a0_3 a0_4 a0_5))) = some r := H
     have A12 := Aside0.mk A120
     clear A120
     replace H := Option.bind_eq_some_iff.mp H
     obtain ⟨⟨t392, t395⟩, A130, H⟩ := H
     replace H : (if (strOfNums t388).toList = (strOfNums t392).toList then (if t391 = t395 then ((strongboxlaw5_Head.f a0_0 a0_1 a0_2 a0_3 a0_4 a0_5).bind fun bt396 => ((shard_May.f kj5 bt396.1 bt396.2.1 bt396.2.2.1 bt396.2.2.2.1 bt396.2.2.2.2.1 bt396.2.2.2.2.2).bind fun t402 => ((strongboxref4_MayHead.f a0_0 a0_1 a0_2 a0_3 a0_4 a0_5).bind fun t403 => (strongboxlaw5_ShardWrites.j1 kj5 l1 l2 t392 (t402 != t403) a0_0 a0_1 a0_2 a0_3 a0_4 a0_5)))) else (strongboxlaw5_ShardWrites.j1 kj5 l1 l2 t392 true a0_0 a0_1 a0_2 a0_3 a0_4 a0_5)) else (strongboxlaw5_ShardWrites.j1 kj5 l1 l2 t392 true a0_0 a0_1 a0_2 a0_3 a0_4 a0_5)) = some r := H
     have A13 := Aside0.mk A130
     clear A130
     have HC14 := Aside0.mk H
     clear H
     have hcz15_0 : wc.cell? ⟨gb380, 0, none⟩ = some (.int .i64 a0_0) := (blk_cell BK380.out 0).trans rfl
     have hcz15_1 : wc.cell? ⟨gb380, 1, none⟩ = some (.int .i64 a0_1) := (blk_cell BK380.out 1).trans rfl
     have hcz15_2 : wc.cell? ⟨gb380, 2, none⟩ = some (.int .i64 a0_2) := (blk_cell BK380.out 2).trans rfl
     have hcz15_3 : wc.cell? ⟨gb380, 3, none⟩ = some (.int .i64 a0_3) := (blk_cell BK380.out 3).trans rfl
     have hcz15_4 : wc.cell? ⟨gb380, 4, none⟩ = some (.int .i64 a0_4) := (blk_cell BK380.out 4).trans rfl
     have hcz15_5 : wc.cell? ⟨gb380, 5, none⟩ = some (.int .i64 a0_5) := (blk_cell BK380.out 5).trans rfl
     have hfz15_0 := blk_frozen BK380.out 0
     have hfz15_1 := blk_frozen BK380.out 1
     have hfz15_2 := blk_frozen BK380.out 2
     have hfz15_3 := blk_frozen BK380.out 3
     have hfz15_4 := blk_frozen BK380.out 4
     have hfz15_5 := blk_frozen BK380.out 5
     go_upto_region 7 with (first | ((with_reducible refine gate_callee (f := 17) rfl ?_); refine goesL_ (some 33) rfl rfl Try.func17 (by kernel_rfl) rfl #[.agg #[.int .i64 a0_0, .int .i64 a0_1, .int .i64 a0_2, .int .i64 a0_3, .int .i64 a0_4, .int .i64 a0_5]] rfl (by (try simp only [List.map_toArray, List.map_cons, List.map_nil]); first | done | rfl | (simp only [List.length_drop, List.length_take]; rfl)) ?_; (with_reducible refine (strongboxlaw5_Head.calls a0_0 a0_1 a0_2 a0_3 a0_4 a0_5 t382 t383 t384 t385 t386 t387 _ A11.out).mono ?_); rintro e w16 ⟨rfl, hb⟩; refine ⟨_, rfl, ?_⟩; have n0_ := Aside0.mk (blk_below (g := gb380) (o := .cells #[.int .i64 a0_0, .int .i64 a0_1, .int .i64 a0_2, .int .i64 a0_3, .int .i64 a0_4, .int .i64 a0_5] 27 (0, 0)) (by (with_reducible repeat (first | refine blk_drewN ?_ _ | refine blk_drew ?_ | refine blk_alloc ?_ _)); exact BK380.out) hb); have n1_ := Aside0.mk (below_step (by repeat (first | (with_reducible first | exact HB.out | apply below_alloc | apply pw_below_drewN | apply below_drew1 | refine below_set ?_ GE380.out) | exact HB.out)) hb); clear BK380; clear HB; have BK380 := n0_; have HB := n1_; clear n0_ n1_; (try clear hb); (try clear hb2); (try clear hk); (try clear hi)) | ((with_reducible refine gate_callee (f := 16) rfl ?_); refine goesL_ (some 35) rfl rfl Try.func16 (by kernel_rfl) rfl #[.agg #[.int .i64 t382, .int .i64 t383, .int .i64 t384, .int .i64 t385, .int .i64 t386, .int .i64 t387], .slice A1 l1.length c1] rfl (by (try simp only [List.map_toArray, List.map_cons, List.map_nil]); first | done | rfl | (simp only [List.length_drop, List.length_take]; rfl)) ?_; (with_reducible refine (shard_Write.calls kj5 t382 t383 t384 t385 t386 t387 _ _ l1 t388 t391 _ ?side1 ?side2 A12.out).mono ?_); (case side1 => repeat (first | exact (Kd.C_below HR1.out HB.out) | (with_reducible refine Kd.C_alloc ?_ _) | (with_reducible refine Kd.C_drewN ?_ _) | (with_reducible refine Kd.C_drew ?_))); (case side2 => exact HC1.out); rintro e w17 ⟨v389, rfl, ho0, hb⟩; refine ⟨_, rfl, ?_⟩; have n0_ := Aside0.mk (Kd.R_lower ho0 (below_size (by repeat (first | (with_reducible first | exact HB.out | apply below_alloc | apply pw_below_drewN | apply below_drew1 | refine below_set ?_ GE380.out) | exact HB.out)))); have n1_ := Aside0.mk (blk_below (g := gb380) (o := .cells #[.int .i64 a0_0, .int .i64 a0_1, .int .i64 a0_2, .int .i64 a0_3, .int .i64 a0_4, .int .i64 a0_5] 27 (0, 0)) (by (with_reducible repeat (first | refine blk_drewN ?_ _ | refine blk_drew ?_ | refine blk_alloc ?_ _)); exact BK380.out) hb); have n2_ := Aside0.mk (below_step (by repeat (first | (with_reducible first | exact HB.out | apply below_alloc | apply pw_below_drewN | apply below_drew1 | refine below_set ?_ GE380.out) | exact HB.out)) hb); clear BK380; clear HB; have HO390 := n0_; have BK380 := n1_; have HB := n2_; clear n0_ n1_ n2_; (try clear hb); (try clear hb2); (try clear hk); (try clear hi); (try clear ho0); have hcz18_0 : w17.cell? ⟨gb380, 0, none⟩ = some (.int .i64 a0_0) := (blk_cell BK380.out 0).trans rfl; have hcz18_1 : w17.cell? ⟨gb380, 1, none⟩ = some (.int .i64 a0_1) := (blk_cell BK380.out 1).trans rfl; have hcz18_2 : w17.cell? ⟨gb380, 2, none⟩ = some (.int .i64 a0_2) := (blk_cell BK380.out 2).trans rfl; have hcz18_3 : w17.cell? ⟨gb380, 3, none⟩ = some (.int .i64 a0_3) := (blk_cell BK380.out 3).trans rfl; have hcz18_4 : w17.cell? ⟨gb380, 4, none⟩ = some (.int .i64 a0_4) := (blk_cell BK380.out 4).trans rfl; have hcz18_5 : w17.cell? ⟨gb380, 5, none⟩ = some (.int .i64 a0_5) := (blk_cell BK380.out 5).trans rfl; have hfz18_0 := blk_frozen BK380.out 0; have hfz18_1 := blk_frozen BK380.out 1; have hfz18_2 := blk_frozen BK380.out 2; have hfz18_3 := blk_frozen BK380.out 3; have hfz18_4 := blk_frozen BK380.out 4; have hfz18_5 := blk_frozen BK380.out 5) | ((with_reducible refine gate_callee (f := 32) rfl ?_); refine goesL_ (some 41) rfl rfl Try.func32 (by kernel_rfl) rfl #[.agg #[.int .i64 a0_0, .int .i64 a0_1, .int .i64 a0_2, .int .i64 a0_3, .int .i64 a0_4, .int .i64 a0_5], .slice A1 l1.length c1] rfl (by (try simp only [List.map_toArray, List.map_cons, List.map_nil]); first | done | rfl | (simp only [List.length_drop, List.length_take]; rfl)) ?_; (with_reducible refine (strongboxref4_Write.calls kj5 a0_0 a0_1 a0_2 a0_3 a0_4 a0_5 _ _ l1 t392 t395 _ ?side1 ?side2 A13.out).mono ?_); (case side1 => repeat (first | exact (Kd.C_below HR1.out HB.out) | (with_reducible refine Kd.C_alloc ?_ _) | (with_reducible refine Kd.C_drewN ?_ _) | (with_reducible refine Kd.C_drew ?_))); (case side2 => exact HC1.out); rintro e w19 ⟨v393, rfl, ho0, hb⟩; refine ⟨_, rfl, ?_⟩; have n0_ := Aside0.mk (Kd.R_elder' (by (with_reducible repeat (first | apply Kd.R_alloc | apply Kd.R_drewN | apply Kd.R_drew)); exact HO390.out) (Kd.R_base ho0) hb); have n1_ := Aside0.mk (Kd.R_lower (Kd.R_new' ho0 (Kd.R_lt (by (with_reducible repeat (first | apply Kd.R_alloc | apply Kd.R_drewN | apply Kd.R_drew)); exact HO390.out))) (below_size (by repeat (first | (with_reducible first | exact HB.out | apply below_alloc | apply pw_below_drewN | apply below_drew1 | refine below_set ?_ GE380.out) | exact HB.out)))); have n2_ := Aside0.mk (blk_below (g := gb380) (o := .cells #[.int .i64 a0_0, .int .i64 a0_1, .int .i64 a0_2, .int .i64 a0_3, .int .i64 a0_4, .int .i64 a0_5] 27 (0, 0)) (by (with_reducible repeat (first | refine blk_drewN ?_ _ | refine blk_drew ?_ | refine blk_alloc ?_ _)); exact BK380.out) hb); have n3_ := Aside0.mk (below_step (by repeat (first | (with_reducible first | exact HB.out | apply below_alloc | apply pw_below_drewN | apply below_drew1 | refine below_set ?_ GE380.out) | exact HB.out)) hb); clear HO390; clear BK380; clear HB; have HO390 := n0_; have HO394 := n1_; have BK380 := n2_; have HB := n3_; clear n0_ n1_ n2_ n3_; (try clear hb); (try clear hb2); (try clear hk); (try clear hi); (try clear ho0)))
     (try simp only [Act.put, List.setIfInBounds_toArray, List.set_cons_zero, List.set_cons_succ])
     go_cut [61] (fun v61 wc => ∃ (kq : Nat) (x61_13 : Bool), v61 = .bool x61_13 ∧ Aside0 (strongboxlaw5_ShardWrites.j1 kq l1 l2 t392 x61_13 a0_0 a0_1 a0_2 a0_3 a0_4 a0_5 = some r) ∧ Aside0 (kq ≤ kj5) ∧ Aside0 (Kd.R (Kd.int .u8) 5 wc w.heap.size (fun _ => True) v393 t392) ∧ Aside0 (wc.heap[gb380]? = some (.cells #[.int .i64 a0_0, .int .i64 a0_1, .int .i64 a0_2, .int .i64 a0_3, .int .i64 a0_4, .int .i64 a0_5] 27 (0, 0))) ∧ Aside0 (Below w.heap.size w wc))
     case first =>
      have H := HC14.out
      clear HC14
      by_cases c20 : (strOfNums t388).toList = (strOfNums t392).toList
      ·rw [if_pos c20] at H
       have c20b0 : ((strOfNums t388).toList == (strOfNums t392).toList) = true := beq_iff_eq.mpr c20
       have c20b1 : ((strOfNums t388).toList != (strOfNums t392).toList) = false := bne_eq_false_iff_eq.mpr c20
       clear c20
       (first | rw [c20b0] | (simp only [i64_w, i32_w]; rw [c20b0]) | skip)
       by_cases c21 : t391 = t395
       ·rw [if_pos c21] at H
        have c21b0 : (t391 == t395) = true := beq_iff_eq.mpr c21
        have c21b1 : (t391 != t395) = false := bne_eq_false_iff_eq.mpr c21
        clear c21
        replace H := Option.bind_eq_some_iff.mp H
        obtain ⟨⟨t396, t397, t398, t399, t400, t401⟩, A220, H⟩ := H
        replace H : ((shard_May.f kj5 t396 t397 t398 t399 t400 t401).bind fun t402 => ((strongboxref4_MayHead.f a0_0 a0_1 a0_2 a0_3 a0_4 a0_5).bind fun t403 => (strongboxlaw5_ShardWrites.j1 kj5 l1 l2 t392 (t402 != t403) a0_0 a0_1 a0_2 a0_3 a0_4 a0_5))) = some r := H
        have A22 := Aside0.mk A220
        clear A220
        replace H := Option.bind_eq_some_iff.mp H
        obtain ⟨t402, A230, H⟩ := H
        replace H : ((strongboxref4_MayHead.f a0_0 a0_1 a0_2 a0_3 a0_4 a0_5).bind fun t403 => (strongboxlaw5_ShardWrites.j1 kj5 l1 l2 t392 (t402 != t403) a0_0 a0_1 a0_2 a0_3 a0_4 a0_5)) = some r := H
        have A23 := Aside0.mk A230
        clear A230
        replace H := Option.bind_eq_some_iff.mp H
        obtain ⟨t403, A240, H⟩ := H
        replace H : (strongboxlaw5_ShardWrites.j1 kj5 l1 l2 t392 (t402 != t403) a0_0 a0_1 a0_2 a0_3 a0_4 a0_5) = some r := H
        have A24 := Aside0.mk A240
        clear A240
        have H' := Aside0.mk H
        clear H
        try go_wp2
        have n0_ := Aside0.mk (Kd.R_drew HO390.out)
        have n1_ := Aside0.mk (Kd.R_drew HO394.out)
        have n2_ := Aside0.mk (blk_drew BK380.out)
        have n3_ := Aside0.mk (below_drew1 HB.out)
        clear HO390
        clear HO394
        clear BK380
        clear HB
        have HO390 := n0_
        have HO394 := n1_
        have BK380 := n2_
        have HB := n3_
        clear n0_ n1_ n2_ n3_
        refine start_ (n := 18) (S := fun w' => w'.cell? ⟨gb380, 0, none⟩ = some (.int .i64 a0_0) ∧ w'.cell? ⟨gb380, 1, none⟩ = some (.int .i64 a0_1) ∧ w'.cell? ⟨gb380, 2, none⟩ = some (.int .i64 a0_2) ∧ w'.cell? ⟨gb380, 3, none⟩ = some (.int .i64 a0_3) ∧ w'.cell? ⟨gb380, 4, none⟩ = some (.int .i64 a0_4) ∧ w'.cell? ⟨gb380, 5, none⟩ = some (.int .i64 a0_5) ∧ (convert 22 9 v389).run Try.prog w' = .ok (.string (strOfNums t388)) w' ∧ (convert 22 9 v393).run Try.prog w' = .ok (.string (strOfNums t392)) w') (ds := []) #[false, false, false, false, false, false, false, false, false, false, false, false, false, false, false, false, false, false] (by kernel_rfl) rfl rfl ⟨(blk_cell BK380.out 0).trans rfl, (blk_cell BK380.out 1).trans rfl, (blk_cell BK380.out 2).trans rfl, (blk_cell BK380.out 3).trans rfl, (blk_cell BK380.out 4).trans rfl, (blk_cell BK380.out 5).trans rfl, (own_string (P := Try.prog) Try.underlying22 Try.underlying5 Try.underlying9 (Kd.own_of_R HO390.out)), (own_string (P := Try.prog) Try.underlying22 Try.underlying5 Try.underlying9 (Kd.own_of_R HO394.out))⟩ (fun hHeld => ?_); refine with_tabW strongboxlaw5_ShardWrites.tab7 strongboxlaw5_ShardWrites.bits7 (fun HT_ HW_ => ?_)
        generalize w19.drew = w25 at HO390 HO394 BK380 HB hHeld ⊢
        refine pure_ (i := 0) (N := some 44) (v := ?_) (a' := ?_) #[true, false, false, false, false, false, false, false, false, false, false, false, false, false, false, false, false, false] rfl rfl (any_of HT_.out (by kernel_rfl)) (fun _ _ _ h => h) (Or.inl ⟨by rfl, ?_⟩) ?_ ?_
        rotate_left
        ·intro w'
         go_simp
         with_reducible rfl
        rotate_left
        ·simp only [Act.put, List.setIfInBounds_toArray, List.set_cons_zero, List.set_cons_succ, i64_w, i32_w]
         rfl
        refine pure_ (i := 2) (N := some 46) (v := ?_) (a' := ?_) #[true, false, true, false, false, false, false, false, false, false, false, false, false, false, false, false, false, false] rfl rfl (any_of HT_.out (by kernel_rfl)) (fun _ _ _ h => h) (Or.inl ⟨by rfl, ?_⟩) ?_ ?_
        rotate_left
        ·intro w'
         go_simp
         with_reducible rfl
        rotate_left
        ·simp only [Act.put, List.setIfInBounds_toArray, List.set_cons_zero, List.set_cons_succ, i64_w, i32_w]
         rfl
        refine take_ (i := 1) (N := some 45) (v := ?_) (a' := ?_) #[true, true, true, false, false, false, false, false, false, false, false, false, false, false, false, false, false, false] rfl rfl (take_ofW HT_.out HW_.out (by kernel_rfl)) (fun _ _ _ h => h) (Or.inl ⟨by rfl, ?_⟩) hHeld ?_ ?_
        rotate_left
        ·rintro w' ⟨s0, s1, s2, s3, s4, s5, s6, s7⟩
         go_simp
         with_reducible rfl
        rotate_left
        ·simp only [Act.put, List.setIfInBounds_toArray, List.set_cons_zero, List.set_cons_succ, i64_w, i32_w]
         rfl
        refine take_ (i := 3) (N := some 47) (v := ?_) (a' := ?_) #[true, true, true, true, false, false, false, false, false, false, false, false, false, false, false, false, false, false] rfl rfl (take_ofW HT_.out HW_.out (by kernel_rfl)) (fun _ _ _ h => h) (Or.inl ⟨by rfl, ?_⟩) hHeld ?_ ?_
        rotate_left
        ·rintro w' ⟨s0, s1, s2, s3, s4, s5, s6, s7⟩
         go_simp
         with_reducible rfl
        rotate_left
        ·simp only [Act.put, List.setIfInBounds_toArray, List.set_cons_zero, List.set_cons_succ, i64_w, i32_w]
         rfl
        refine pure_ (i := 4) (N := some 48) (v := ?_) (a' := ?_) #[true, true, true, true, true, false, false, false, false, false, false, false, false, false, false, false, false, false] rfl rfl (any_of HT_.out (by kernel_rfl)) (fun _ _ _ h => h) (Or.inl ⟨by rfl, ?_⟩) ?_ ?_
        rotate_left
        ·intro w'
         go_simp
         with_reducible rfl
        rotate_left
        ·simp only [Act.put, List.setIfInBounds_toArray, List.set_cons_zero, List.set_cons_succ, i64_w, i32_w]
         rfl
        refine pure_ (i := 5) (N := some 49) (v := ?_) (a' := ?_) #[true, true, true, true, true, true, false, false, false, false, false, false, false, false, false, false, false, false] rfl rfl (any_of HT_.out (by kernel_rfl)) (fun _ _ _ h => h) (Or.inl ⟨by rfl, ?_⟩) ?_ ?_
        rotate_left
        ·intro w'
         go_simp
         with_reducible rfl
        rotate_left
        ·simp only [Act.put, List.setIfInBounds_toArray, List.set_cons_zero, List.set_cons_succ, i64_w, i32_w]
         rfl
        refine pure_ (i := 6) (N := some 50) (v := ?_) (a' := ?_) #[true, true, true, true, true, true, true, false, false, false, false, false, false, false, false, false, false, false] rfl rfl (any_of HT_.out (by kernel_rfl)) (fun _ _ _ h => h) (Or.inl ⟨by rfl, ?_⟩) ?_ ?_
        rotate_left
        ·intro w'
         go_simp
         with_reducible rfl
        rotate_left
        ·simp only [Act.put, List.setIfInBounds_toArray, List.set_cons_zero, List.set_cons_succ, i64_w, i32_w]
         rfl
        refine pure_ (i := 7) (N := some 51) (v := ?_) (a' := ?_) #[true, true, true, true, true, true, true, true, false, false, false, false, false, false, false, false, false, false] rfl rfl (any_of HT_.out (by kernel_rfl)) (fun _ _ _ h => h) (Or.inl ⟨by rfl, ?_⟩) ?_ ?_
        rotate_left
        ·intro w'
         go_simp
         with_reducible rfl
        rotate_left
        ·simp only [Act.put, List.setIfInBounds_toArray, List.set_cons_zero, List.set_cons_succ, i64_w, i32_w]
         rfl
        refine pure_ (i := 8) (N := some 52) (v := ?_) (a' := ?_) #[true, true, true, true, true, true, true, true, true, false, false, false, false, false, false, false, false, false] rfl rfl (any_of HT_.out (by kernel_rfl)) (fun _ _ _ h => h) (Or.inl ⟨by rfl, ?_⟩) ?_ ?_
        rotate_left
        ·intro w'
         go_simp
         with_reducible rfl
        rotate_left
        ·simp only [Act.put, List.setIfInBounds_toArray, List.set_cons_zero, List.set_cons_succ, i64_w, i32_w]
         rfl
        refine pure_ (i := 9) (N := some 53) (v := ?_) (a' := ?_) #[true, true, true, true, true, true, true, true, true, true, false, false, false, false, false, false, false, false] rfl rfl (any_of HT_.out (by kernel_rfl)) (fun _ _ _ h => h) (Or.inl ⟨by rfl, ?_⟩) ?_ ?_
        rotate_left
        ·intro w'
         go_simp
         with_reducible rfl
        rotate_left
        ·simp only [Act.put, List.setIfInBounds_toArray, List.set_cons_zero, List.set_cons_succ, i64_w, i32_w]
         rfl
        refine pure_ (i := 10) (N := some 54) (v := ?_) (a' := ?_) #[true, true, true, true, true, true, true, true, true, true, true, false, false, false, false, false, false, false] rfl rfl (any_of HT_.out (by kernel_rfl)) (fun _ _ _ h => h) (Or.inl ⟨by rfl, ?_⟩) ?_ ?_
        rotate_left
        ·intro w'
         go_simp
         with_reducible rfl
        rotate_left
        ·simp only [Act.put, List.setIfInBounds_toArray, List.set_cons_zero, List.set_cons_succ, i64_w, i32_w]
         rfl
        refine take_ (i := 11) (N := some 55) (v := ?_) (a' := ?_) #[true, true, true, true, true, true, true, true, true, true, true, true, false, false, false, false, false, false] rfl rfl (take_ofW HT_.out HW_.out (by kernel_rfl)) (fun _ _ _ h => h) (Or.inl ⟨by rfl, ?_⟩) hHeld ?_ ?_
        rotate_left
        ·rintro w' ⟨s0, s1, s2, s3, s4, s5, s6, s7⟩
         go_simp
         with_reducible rfl
        rotate_left
        ·simp only [Act.put, List.setIfInBounds_toArray, List.set_cons_zero, List.set_cons_succ, i64_w, i32_w]
         rfl
        refine take_ (i := 14) (N := some 58) (v := ?_) (a' := ?_) #[true, true, true, true, true, true, true, true, true, true, true, true, false, false, true, false, false, false] rfl rfl (take_ofW HT_.out HW_.out (by kernel_rfl)) (fun _ _ _ h => h) (Or.inl ⟨by rfl, ?_⟩) hHeld ?_ ?_
        rotate_left
        ·rintro w' ⟨s0, s1, s2, s3, s4, s5, s6, s7⟩
         go_simp
         with_reducible rfl
        rotate_left
        ·simp only [Act.put, List.setIfInBounds_toArray, List.set_cons_zero, List.set_cons_succ, i64_w, i32_w]
         rfl
        refine one_ (i := 12) (N := some 56) #[true, true, true, true, true, true, true, true, true, true, true, true, true, false, true, false, false, false] rfl rfl (one_of HT_.out (by kernel_rfl)) (by decide) (fun K hK => ?_)
        refine goes_ Try.func17 (by kernel_rfl) rfl #[.agg #[.int .i64 a0_0, .int .i64 a0_1, .int .i64 a0_2, .int .i64 a0_3, .int .i64 a0_4, .int .i64 a0_5]] (by rfl) rfl rfl (by (try simp only [List.map_toArray, List.map_cons, List.map_nil]); first | done | rfl | (simp only [List.length_drop, List.length_take]; rfl)) ?_
        with_reducible refine (strongboxlaw5_Head.calls a0_0 a0_1 a0_2 a0_3 a0_4 a0_5 t396 t397 t398 t399 t400 t401 _ A22.out).mono ?_
        rintro e w28 ⟨rfl, hb⟩
        refine ⟨_, rfl, ?_⟩
        have n0_ := Aside0.mk (Kd.R_below (by (with_reducible repeat (first | apply Kd.R_alloc | apply Kd.R_drewN | apply Kd.R_drew)); exact HO390.out) hb)
        have n1_ := Aside0.mk (Kd.R_below (by (with_reducible repeat (first | apply Kd.R_alloc | apply Kd.R_drewN | apply Kd.R_drew)); exact HO394.out) hb)
        have n2_ := Aside0.mk (blk_below (g := gb380) (o := .cells #[.int .i64 a0_0, .int .i64 a0_1, .int .i64 a0_2, .int .i64 a0_3, .int .i64 a0_4, .int .i64 a0_5] 27 (0, 0)) (by (with_reducible repeat (first | refine blk_drewN ?_ _ | refine blk_drew ?_ | refine blk_alloc ?_ _)); exact BK380.out) hb)
        have n3_ := Aside0.mk (below_step (by repeat (first | (with_reducible first | exact HB.out | apply below_alloc | apply pw_below_drewN | apply below_drew1 | refine below_set ?_ GE380.out) | exact HB.out)) hb)
        clear HO390
        clear HO394
        clear BK380
        clear HB
        have HO390 := n0_
        have HO394 := n1_
        have BK380 := n2_
        have HB := n3_
        clear n0_ n1_ n2_ n3_
        (try clear hb)
        (try clear hb2)
        (try clear hk)
        (try clear hi)
        refine hK.out _ _ ⟨(blk_cell BK380.out 0).trans rfl, (blk_cell BK380.out 1).trans rfl, (blk_cell BK380.out 2).trans rfl, (blk_cell BK380.out 3).trans rfl, (blk_cell BK380.out 4).trans rfl, (blk_cell BK380.out 5).trans rfl, (own_string (P := Try.prog) Try.underlying22 Try.underlying5 Try.underlying9 (Kd.own_of_R HO390.out)), (own_string (P := Try.prog) Try.underlying22 Try.underlying5 Try.underlying9 (Kd.own_of_R HO394.out))⟩ (fun hHeld => ?_)
        clear hK K
        refine norm_ (a' := ?_) ?_ ?_
        rotate_left
        ·show Act.put _ (some 56) _ = _
         simp only [Act.put, List.setIfInBounds_toArray, List.set_cons_zero, List.set_cons_succ, i64_w, i32_w]
         rfl
        refine one_ (i := 13) (N := some 57) #[true, true, true, true, true, true, true, true, true, true, true, true, true, true, true, false, false, false] rfl rfl (one_of HT_.out (by kernel_rfl)) (by decide) (fun K hK => ?_)
        refine goes_ Try.func33 (by kernel_rfl) rfl #[.agg #[.int .i64 t396, .int .i64 t397, .int .i64 t398, .int .i64 t399, .int .i64 t400, .int .i64 t401]] (by rfl) rfl rfl (by (try simp only [List.map_toArray, List.map_cons, List.map_nil]); first | done | rfl | (simp only [List.length_drop, List.length_take]; rfl)) ?_
        with_reducible refine (shard_May.calls kj5 t396 t397 t398 t399 t400 t401 t402 _ A23.out).mono ?_
        rintro e w29 ⟨rfl, hb⟩
        refine ⟨_, rfl, ?_⟩
        have n0_ := Aside0.mk (Kd.R_below (by (with_reducible repeat (first | apply Kd.R_alloc | apply Kd.R_drewN | apply Kd.R_drew)); exact HO390.out) hb)
        have n1_ := Aside0.mk (Kd.R_below (by (with_reducible repeat (first | apply Kd.R_alloc | apply Kd.R_drewN | apply Kd.R_drew)); exact HO394.out) hb)
        have n2_ := Aside0.mk (blk_below (g := gb380) (o := .cells #[.int .i64 a0_0, .int .i64 a0_1, .int .i64 a0_2, .int .i64 a0_3, .int .i64 a0_4, .int .i64 a0_5] 27 (0, 0)) (by (with_reducible repeat (first | refine blk_drewN ?_ _ | refine blk_drew ?_ | refine blk_alloc ?_ _)); exact BK380.out) hb)
        have n3_ := Aside0.mk (below_step (by repeat (first | (with_reducible first | exact HB.out | apply below_alloc | apply pw_below_drewN | apply below_drew1 | refine below_set ?_ GE380.out) | exact HB.out)) hb)
        clear HO390
        clear HO394
        clear BK380
        clear HB
        have HO390 := n0_
        have HO394 := n1_
        have BK380 := n2_
        have HB := n3_
        clear n0_ n1_ n2_ n3_
        (try clear hb)
        (try clear hb2)
        (try clear hk)
        (try clear hi)
        refine hK.out _ _ ⟨(blk_cell BK380.out 0).trans rfl, (blk_cell BK380.out 1).trans rfl, (blk_cell BK380.out 2).trans rfl, (blk_cell BK380.out 3).trans rfl, (blk_cell BK380.out 4).trans rfl, (blk_cell BK380.out 5).trans rfl, (own_string (P := Try.prog) Try.underlying22 Try.underlying5 Try.underlying9 (Kd.own_of_R HO390.out)), (own_string (P := Try.prog) Try.underlying22 Try.underlying5 Try.underlying9 (Kd.own_of_R HO394.out))⟩ (fun hHeld => ?_)
        clear hK K
        refine norm_ (a' := ?_) ?_ ?_
        rotate_left
        ·show Act.put _ (some 57) _ = _
         simp only [Act.put, List.setIfInBounds_toArray, List.set_cons_zero, List.set_cons_succ, i64_w, i32_w]
         rfl
        refine one_ (i := 15) (N := some 59) #[true, true, true, true, true, true, true, true, true, true, true, true, true, true, true, true, false, false] rfl rfl (one_of HT_.out (by kernel_rfl)) (by decide) (fun K hK => ?_)
        refine goes_ Try.func34 (by kernel_rfl) rfl #[.agg #[.int .i64 a0_0, .int .i64 a0_1, .int .i64 a0_2, .int .i64 a0_3, .int .i64 a0_4, .int .i64 a0_5]] (by rfl) rfl rfl (by (try simp only [List.map_toArray, List.map_cons, List.map_nil]); first | done | rfl | (simp only [List.length_drop, List.length_take]; rfl)) ?_
        with_reducible refine (strongboxref4_MayHead.calls a0_0 a0_1 a0_2 a0_3 a0_4 a0_5 t403 _ A24.out).mono ?_
        rintro e w30 ⟨rfl, hb⟩
        refine ⟨_, rfl, ?_⟩
        have n0_ := Aside0.mk (Kd.R_below (by (with_reducible repeat (first | apply Kd.R_alloc | apply Kd.R_drewN | apply Kd.R_drew)); exact HO390.out) hb)
        have n1_ := Aside0.mk (Kd.R_below (by (with_reducible repeat (first | apply Kd.R_alloc | apply Kd.R_drewN | apply Kd.R_drew)); exact HO394.out) hb)
        have n2_ := Aside0.mk (blk_below (g := gb380) (o := .cells #[.int .i64 a0_0, .int .i64 a0_1, .int .i64 a0_2, .int .i64 a0_3, .int .i64 a0_4, .int .i64 a0_5] 27 (0, 0)) (by (with_reducible repeat (first | refine blk_drewN ?_ _ | refine blk_drew ?_ | refine blk_alloc ?_ _)); exact BK380.out) hb)
        have n3_ := Aside0.mk (below_step (by repeat (first | (with_reducible first | exact HB.out | apply below_alloc | apply pw_below_drewN | apply below_drew1 | refine below_set ?_ GE380.out) | exact HB.out)) hb)
        clear HO390
        clear HO394
        clear BK380
        clear HB
        have HO390 := n0_
        have HO394 := n1_
        have BK380 := n2_
        have HB := n3_
        clear n0_ n1_ n2_ n3_
        (try clear hb)
        (try clear hb2)
        (try clear hk)
        (try clear hi)
        refine hK.out _ _ ⟨(blk_cell BK380.out 0).trans rfl, (blk_cell BK380.out 1).trans rfl, (blk_cell BK380.out 2).trans rfl, (blk_cell BK380.out 3).trans rfl, (blk_cell BK380.out 4).trans rfl, (blk_cell BK380.out 5).trans rfl, (own_string (P := Try.prog) Try.underlying22 Try.underlying5 Try.underlying9 (Kd.own_of_R HO390.out)), (own_string (P := Try.prog) Try.underlying22 Try.underlying5 Try.underlying9 (Kd.own_of_R HO394.out))⟩ (fun hHeld => ?_)
        clear hK K
        refine norm_ (a' := ?_) ?_ ?_
        rotate_left
        ·show Act.put _ (some 59) _ = _
         simp only [Act.put, List.setIfInBounds_toArray, List.set_cons_zero, List.set_cons_succ, i64_w, i32_w]
         rfl
        refine pure_ (i := 16) (N := some 60) (v := ?_) (a' := ?_) #[true, true, true, true, true, true, true, true, true, true, true, true, true, true, true, true, true, false] rfl rfl (any_of HT_.out (by kernel_rfl)) (fun _ _ _ h => h) (Or.inl ⟨by rfl, ?_⟩) ?_ ?_
        rotate_left
        ·intro w'
         go_simp
         with_reducible rfl
        rotate_left
        ·simp only [Act.put, List.setIfInBounds_toArray, List.set_cons_zero, List.set_cons_succ, i64_w, i32_w]
         rfl
        refine pure_ (i := 17) (N := some 61) (v := ?_) (a' := ?_) #[true, true, true, true, true, true, true, true, true, true, true, true, true, true, true, true, true, true] rfl rfl (any_of HT_.out (by kernel_rfl)) (fun _ _ _ h => h) (Or.inl ⟨by rfl, ?_⟩) ?_ ?_
        rotate_left
        ·intro w'
         go_simp
         with_reducible rfl
        rotate_left
        ·simp only [Act.put, List.setIfInBounds_toArray, List.set_cons_zero, List.set_cons_succ, i64_w, i32_w]
         rfl
        refine done_ (done_of HT_.out (by kernel_rfl)) ?_
        try go_wp2
        go_meet
        case rel => exact ⟨_, ((t402 != t403)), (by first | rfl | (simp; done) | (simp [*]; done)), H', ⟨by have := HJ5.out; first | omega | exact Nat.le_refl _⟩, ⟨by (with_reducible repeat (first | apply Kd.R_alloc | apply Kd.R_drewN | apply Kd.R_drew)); exact Kd.R_mono HO394.out (fun _ hk => trivial)⟩, ⟨by (with_reducible repeat (first | refine blk_drewN ?_ _ | refine blk_drew ?_ | refine blk_alloc ?_ _)); exact BK380.out⟩, ⟨by repeat (first | (with_reducible first | exact HB.out | apply below_alloc | apply pw_below_drewN | apply below_drew1 | refine below_set ?_ GE380.out) | exact HB.out)⟩⟩
       ·rw [if_neg c21] at H
        have c21b0 : (t391 == t395) = false := beq_eq_false_iff_ne.mpr c21
        have c21b1 : (t391 != t395) = true := bne_iff_ne.mpr c21
        have H' := Aside0.mk H
        clear H
        try go_wp2
        have n0_ := Aside0.mk (Kd.R_drew HO390.out)
        have n1_ := Aside0.mk (Kd.R_drew HO394.out)
        have n2_ := Aside0.mk (blk_drew BK380.out)
        have n3_ := Aside0.mk (below_drew1 HB.out)
        clear HO390
        clear HO394
        clear BK380
        clear HB
        have HO390 := n0_
        have HO394 := n1_
        have BK380 := n2_
        have HB := n3_
        clear n0_ n1_ n2_ n3_
        refine start_ (n := 18) (S := fun w' => (convert 22 9 v389).run Try.prog w' = .ok (.string (strOfNums t388)) w' ∧ (convert 22 9 v393).run Try.prog w' = .ok (.string (strOfNums t392)) w') (ds := []) #[false, false, false, false, false, false, false, false, false, false, false, false, false, false, false, false, false, false] (by kernel_rfl) rfl rfl ⟨(own_string (P := Try.prog) Try.underlying22 Try.underlying5 Try.underlying9 (Kd.own_of_R HO390.out)), (own_string (P := Try.prog) Try.underlying22 Try.underlying5 Try.underlying9 (Kd.own_of_R HO394.out))⟩ (fun hHeld => ?_); refine with_tabW strongboxlaw5_ShardWrites.tab7 strongboxlaw5_ShardWrites.bits7 (fun HT_ HW_ => ?_)
        generalize w19.drew = w31 at HO390 HO394 BK380 HB hHeld ⊢
        refine pure_ (i := 0) (N := some 44) (v := ?_) (a' := ?_) #[true, false, false, false, false, false, false, false, false, false, false, false, false, false, false, false, false, false] rfl rfl (any_of HT_.out (by kernel_rfl)) (fun _ _ _ h => h) (Or.inl ⟨by rfl, ?_⟩) ?_ ?_
        rotate_left
        ·intro w'
         go_simp
         with_reducible rfl
        rotate_left
        ·simp only [Act.put, List.setIfInBounds_toArray, List.set_cons_zero, List.set_cons_succ, i64_w, i32_w]
         rfl
        refine pure_ (i := 2) (N := some 46) (v := ?_) (a' := ?_) #[true, false, true, false, false, false, false, false, false, false, false, false, false, false, false, false, false, false] rfl rfl (any_of HT_.out (by kernel_rfl)) (fun _ _ _ h => h) (Or.inl ⟨by rfl, ?_⟩) ?_ ?_
        rotate_left
        ·intro w'
         go_simp
         with_reducible rfl
        rotate_left
        ·simp only [Act.put, List.setIfInBounds_toArray, List.set_cons_zero, List.set_cons_succ, i64_w, i32_w]
         rfl
        refine take_ (i := 1) (N := some 45) (v := ?_) (a' := ?_) #[true, true, true, false, false, false, false, false, false, false, false, false, false, false, false, false, false, false] rfl rfl (take_ofW HT_.out HW_.out (by kernel_rfl)) (fun _ _ _ h => h) (Or.inl ⟨by rfl, ?_⟩) hHeld ?_ ?_
        rotate_left
        ·rintro w' ⟨s0, s1⟩
         go_simp
         with_reducible rfl
        rotate_left
        ·simp only [Act.put, List.setIfInBounds_toArray, List.set_cons_zero, List.set_cons_succ, i64_w, i32_w]
         rfl
        refine take_ (i := 3) (N := some 47) (v := ?_) (a' := ?_) #[true, true, true, true, false, false, false, false, false, false, false, false, false, false, false, false, false, false] rfl rfl (take_ofW HT_.out HW_.out (by kernel_rfl)) (fun _ _ _ h => h) (Or.inl ⟨by rfl, ?_⟩) hHeld ?_ ?_
        rotate_left
        ·rintro w' ⟨s0, s1⟩
         go_simp
         with_reducible rfl
        rotate_left
        ·simp only [Act.put, List.setIfInBounds_toArray, List.set_cons_zero, List.set_cons_succ, i64_w, i32_w]
         rfl
        refine pure_ (i := 4) (N := some 48) (v := ?_) (a' := ?_) #[true, true, true, true, true, false, false, false, false, false, false, false, false, false, false, false, false, false] rfl rfl (any_of HT_.out (by kernel_rfl)) (fun _ _ _ h => h) (Or.inl ⟨by rfl, ?_⟩) ?_ ?_
        rotate_left
        ·intro w'
         go_simp
         with_reducible rfl
        rotate_left
        ·simp only [Act.put, List.setIfInBounds_toArray, List.set_cons_zero, List.set_cons_succ, i64_w, i32_w]
         rfl
        refine pure_ (i := 5) (N := some 49) (v := ?_) (a' := ?_) #[true, true, true, true, true, true, false, false, false, false, false, false, false, false, false, false, false, false] rfl rfl (any_of HT_.out (by kernel_rfl)) (fun _ _ _ h => h) (Or.inl ⟨by rfl, ?_⟩) ?_ ?_
        rotate_left
        ·intro w'
         go_simp
         with_reducible rfl
        rotate_left
        ·simp only [Act.put, List.setIfInBounds_toArray, List.set_cons_zero, List.set_cons_succ, i64_w, i32_w]
         rfl
        refine pure_ (i := 6) (N := some 50) (v := ?_) (a' := ?_) #[true, true, true, true, true, true, true, false, false, false, false, false, false, false, false, false, false, false] rfl rfl (any_of HT_.out (by kernel_rfl)) (fun _ _ _ h => h) (Or.inl ⟨by rfl, ?_⟩) ?_ ?_
        rotate_left
        ·intro w'
         go_simp
         with_reducible rfl
        rotate_left
        ·simp only [Act.put, List.setIfInBounds_toArray, List.set_cons_zero, List.set_cons_succ, i64_w, i32_w]
         rfl
        refine pure_ (i := 7) (N := some 51) (v := ?_) (a' := ?_) #[true, true, true, true, true, true, true, true, false, false, false, false, false, false, false, false, false, false] rfl rfl (any_of HT_.out (by kernel_rfl)) (fun _ _ _ h => h) (Or.inl ⟨by rfl, ?_⟩) ?_ ?_
        rotate_left
        ·intro w'
         go_simp
         with_reducible rfl
        rotate_left
        ·simp only [Act.put, List.setIfInBounds_toArray, List.set_cons_zero, List.set_cons_succ, i64_w, i32_w]
         rfl
        refine pure_ (i := 8) (N := some 52) (v := ?_) (a' := ?_) #[true, true, true, true, true, true, true, true, true, false, false, false, false, false, false, false, false, false] rfl rfl (any_of HT_.out (by kernel_rfl)) (fun _ _ _ h => h) (Or.inl ⟨by rfl, ?_⟩) ?_ ?_
        rotate_left
        ·intro w'
         go_simp
         with_reducible rfl
        rotate_left
        ·simp only [Act.put, List.setIfInBounds_toArray, List.set_cons_zero, List.set_cons_succ, i64_w, i32_w]
         rfl
        refine pure_ (i := 9) (N := some 53) (v := ?_) (a' := ?_) #[true, true, true, true, true, true, true, true, true, true, false, false, false, false, false, false, false, false] rfl rfl (any_of HT_.out (by kernel_rfl)) (fun _ _ _ h => h) (Or.inl ⟨by rfl, ?_⟩) ?_ ?_
        rotate_left
        ·intro w'
         go_simp
         with_reducible rfl
        rotate_left
        ·simp only [Act.put, List.setIfInBounds_toArray, List.set_cons_zero, List.set_cons_succ, i64_w, i32_w]
         rfl
        refine pure_ (i := 10) (N := some 54) (v := ?_) (a' := ?_) #[true, true, true, true, true, true, true, true, true, true, true, false, false, false, false, false, false, false] rfl rfl (any_of HT_.out (by kernel_rfl)) (fun _ _ _ h => h) (Or.inl ⟨by rfl, ?_⟩) ?_ ?_
        rotate_left
        ·intro w'
         go_simp
         with_reducible rfl
        rotate_left
        ·simp only [Act.put, List.setIfInBounds_toArray, List.set_cons_zero, List.set_cons_succ, i64_w, i32_w]
         rfl
        refine pure_ (i := 11) (N := some 55) (v := undef) (a' := ?_) #[true, true, true, true, true, true, true, true, true, true, true, true, false, false, false, false, false, false] rfl rfl (any_of HT_.out (by kernel_rfl)) (fun _ _ _ h => h) (Or.inr ⟨by rfl, rfl⟩) ?_ ?_
        rotate_left
        ·simp only [Act.put, List.setIfInBounds_toArray, List.set_cons_zero, List.set_cons_succ, i64_w, i32_w]
         rfl
        refine pure_ (i := 12) (N := some 56) (v := undef) (a' := ?_) #[true, true, true, true, true, true, true, true, true, true, true, true, true, false, false, false, false, false] rfl rfl (any_of HT_.out (by kernel_rfl)) (fun _ _ _ h => h) (Or.inr ⟨by rfl, rfl⟩) ?_ ?_
        rotate_left
        ·simp only [Act.put, List.setIfInBounds_toArray, List.set_cons_zero, List.set_cons_succ, i64_w, i32_w]
         rfl
        refine pure_ (i := 13) (N := some 57) (v := undef) (a' := ?_) #[true, true, true, true, true, true, true, true, true, true, true, true, true, true, false, false, false, false] rfl rfl (any_of HT_.out (by kernel_rfl)) (fun _ _ _ h => h) (Or.inr ⟨by rfl, rfl⟩) ?_ ?_
        rotate_left
        ·simp only [Act.put, List.setIfInBounds_toArray, List.set_cons_zero, List.set_cons_succ, i64_w, i32_w]
         rfl
        refine pure_ (i := 14) (N := some 58) (v := undef) (a' := ?_) #[true, true, true, true, true, true, true, true, true, true, true, true, true, true, true, false, false, false] rfl rfl (any_of HT_.out (by kernel_rfl)) (fun _ _ _ h => h) (Or.inr ⟨by rfl, rfl⟩) ?_ ?_
        rotate_left
        ·simp only [Act.put, List.setIfInBounds_toArray, List.set_cons_zero, List.set_cons_succ, i64_w, i32_w]
         rfl
        refine pure_ (i := 15) (N := some 59) (v := undef) (a' := ?_) #[true, true, true, true, true, true, true, true, true, true, true, true, true, true, true, true, false, false] rfl rfl (any_of HT_.out (by kernel_rfl)) (fun _ _ _ h => h) (Or.inr ⟨by rfl, rfl⟩) ?_ ?_
        rotate_left
        ·simp only [Act.put, List.setIfInBounds_toArray, List.set_cons_zero, List.set_cons_succ, i64_w, i32_w]
         rfl
        refine pure_ (i := 16) (N := some 60) (v := undef) (a' := ?_) #[true, true, true, true, true, true, true, true, true, true, true, true, true, true, true, true, true, false] rfl rfl (any_of HT_.out (by kernel_rfl)) (fun _ _ _ h => h) (Or.inr ⟨by rfl, rfl⟩) ?_ ?_
        rotate_left
        ·simp only [Act.put, List.setIfInBounds_toArray, List.set_cons_zero, List.set_cons_succ, i64_w, i32_w]
         rfl
        refine pure_ (i := 17) (N := some 61) (v := ?_) (a' := ?_) #[true, true, true, true, true, true, true, true, true, true, true, true, true, true, true, true, true, true] rfl rfl (any_of HT_.out (by kernel_rfl)) (fun _ _ _ h => h) (Or.inl ⟨by rfl, ?_⟩) ?_ ?_
        rotate_left
        ·intro w'
         go_simp
         with_reducible rfl
        rotate_left
        ·simp only [Act.put, List.setIfInBounds_toArray, List.set_cons_zero, List.set_cons_succ, i64_w, i32_w]
         rfl
        refine done_ (done_of HT_.out (by kernel_rfl)) ?_
        try go_wp2
        go_meet
        case rel => exact ⟨_, (true), (by first | rfl | (simp; done) | (simp [*]; done)), H', ⟨by have := HJ5.out; first | omega | exact Nat.le_refl _⟩, ⟨by (with_reducible repeat (first | apply Kd.R_alloc | apply Kd.R_drewN | apply Kd.R_drew)); exact Kd.R_mono HO394.out (fun _ hk => trivial)⟩, ⟨by (with_reducible repeat (first | refine blk_drewN ?_ _ | refine blk_drew ?_ | refine blk_alloc ?_ _)); exact BK380.out⟩, ⟨by repeat (first | (with_reducible first | exact HB.out | apply below_alloc | apply pw_below_drewN | apply below_drew1 | refine below_set ?_ GE380.out) | exact HB.out)⟩⟩
      ·rw [if_neg c20] at H
       have c20b0 : ((strOfNums t388).toList == (strOfNums t392).toList) = false := beq_eq_false_iff_ne.mpr c20
       have c20b1 : ((strOfNums t388).toList != (strOfNums t392).toList) = true := bne_iff_ne.mpr c20
       (first | rw [c20b0] | (simp only [i64_w, i32_w]; rw [c20b0]) | skip)
       have H' := Aside0.mk H
       clear H
       try go_wp2
       have n0_ := Aside0.mk (Kd.R_drew HO390.out)
       have n1_ := Aside0.mk (Kd.R_drew HO394.out)
       have n2_ := Aside0.mk (blk_drew BK380.out)
       have n3_ := Aside0.mk (below_drew1 HB.out)
       clear HO390
       clear HO394
       clear BK380
       clear HB
       have HO390 := n0_
       have HO394 := n1_
       have BK380 := n2_
       have HB := n3_
       clear n0_ n1_ n2_ n3_
       refine start_ (n := 18) (S := fun w' => (convert 22 9 v389).run Try.prog w' = .ok (.string (strOfNums t388)) w' ∧ (convert 22 9 v393).run Try.prog w' = .ok (.string (strOfNums t392)) w') (ds := []) #[false, false, false, false, false, false, false, false, false, false, false, false, false, false, false, false, false, false] (by kernel_rfl) rfl rfl ⟨(own_string (P := Try.prog) Try.underlying22 Try.underlying5 Try.underlying9 (Kd.own_of_R HO390.out)), (own_string (P := Try.prog) Try.underlying22 Try.underlying5 Try.underlying9 (Kd.own_of_R HO394.out))⟩ (fun hHeld => ?_); refine with_tabW strongboxlaw5_ShardWrites.tab7 strongboxlaw5_ShardWrites.bits7 (fun HT_ HW_ => ?_)
       generalize w19.drew = w34 at HO390 HO394 BK380 HB hHeld ⊢
       refine pure_ (i := 0) (N := some 44) (v := ?_) (a' := ?_) #[true, false, false, false, false, false, false, false, false, false, false, false, false, false, false, false, false, false] rfl rfl (any_of HT_.out (by kernel_rfl)) (fun _ _ _ h => h) (Or.inl ⟨by rfl, ?_⟩) ?_ ?_
       rotate_left
       ·intro w'
        go_simp
        with_reducible rfl
       rotate_left
       ·simp only [Act.put, List.setIfInBounds_toArray, List.set_cons_zero, List.set_cons_succ, i64_w, i32_w]
        rfl
       refine pure_ (i := 2) (N := some 46) (v := ?_) (a' := ?_) #[true, false, true, false, false, false, false, false, false, false, false, false, false, false, false, false, false, false] rfl rfl (any_of HT_.out (by kernel_rfl)) (fun _ _ _ h => h) (Or.inl ⟨by rfl, ?_⟩) ?_ ?_
       rotate_left
       ·intro w'
        go_simp
        with_reducible rfl
       rotate_left
       ·simp only [Act.put, List.setIfInBounds_toArray, List.set_cons_zero, List.set_cons_succ, i64_w, i32_w]
        rfl
       refine take_ (i := 1) (N := some 45) (v := ?_) (a' := ?_) #[true, true, true, false, false, false, false, false, false, false, false, false, false, false, false, false, false, false] rfl rfl (take_ofW HT_.out HW_.out (by kernel_rfl)) (fun _ _ _ h => h) (Or.inl ⟨by rfl, ?_⟩) hHeld ?_ ?_
       rotate_left
       ·rintro w' ⟨s0, s1⟩
        go_simp
        with_reducible rfl
       rotate_left
       ·simp only [Act.put, List.setIfInBounds_toArray, List.set_cons_zero, List.set_cons_succ, i64_w, i32_w]
        rfl
       refine take_ (i := 3) (N := some 47) (v := ?_) (a' := ?_) #[true, true, true, true, false, false, false, false, false, false, false, false, false, false, false, false, false, false] rfl rfl (take_ofW HT_.out HW_.out (by kernel_rfl)) (fun _ _ _ h => h) (Or.inl ⟨by rfl, ?_⟩) hHeld ?_ ?_
       rotate_left
       ·rintro w' ⟨s0, s1⟩
        go_simp
        with_reducible rfl
       rotate_left
       ·simp only [Act.put, List.setIfInBounds_toArray, List.set_cons_zero, List.set_cons_succ, i64_w, i32_w]
        rfl
       refine pure_ (i := 4) (N := some 48) (v := ?_) (a' := ?_) #[true, true, true, true, true, false, false, false, false, false, false, false, false, false, false, false, false, false] rfl rfl (any_of HT_.out (by kernel_rfl)) (fun _ _ _ h => h) (Or.inl ⟨by rfl, ?_⟩) ?_ ?_
       rotate_left
       ·intro w'
        go_simp
        with_reducible rfl
       rotate_left
       ·simp only [Act.put, List.setIfInBounds_toArray, List.set_cons_zero, List.set_cons_succ, i64_w, i32_w]
        rfl
       refine pure_ (i := 5) (N := some 49) (v := ?_) (a' := ?_) #[true, true, true, true, true, true, false, false, false, false, false, false, false, false, false, false, false, false] rfl rfl (any_of HT_.out (by kernel_rfl)) (fun _ _ _ h => h) (Or.inl ⟨by rfl, ?_⟩) ?_ ?_
       rotate_left
       ·intro w'
        go_simp
        with_reducible rfl
       rotate_left
       ·simp only [Act.put, List.setIfInBounds_toArray, List.set_cons_zero, List.set_cons_succ, i64_w, i32_w]
        rfl
       refine pure_ (i := 6) (N := some 50) (v := undef) (a' := ?_) #[true, true, true, true, true, true, true, false, false, false, false, false, false, false, false, false, false, false] rfl rfl (any_of HT_.out (by kernel_rfl)) (fun _ _ _ h => h) (Or.inr ⟨by rfl, rfl⟩) ?_ ?_
       rotate_left
       ·simp only [Act.put, List.setIfInBounds_toArray, List.set_cons_zero, List.set_cons_succ, i64_w, i32_w]
        rfl
       refine pure_ (i := 7) (N := some 51) (v := undef) (a' := ?_) #[true, true, true, true, true, true, true, true, false, false, false, false, false, false, false, false, false, false] rfl rfl (any_of HT_.out (by kernel_rfl)) (fun _ _ _ h => h) (Or.inr ⟨by rfl, rfl⟩) ?_ ?_
       rotate_left
       ·simp only [Act.put, List.setIfInBounds_toArray, List.set_cons_zero, List.set_cons_succ, i64_w, i32_w]
        rfl
       refine pure_ (i := 8) (N := some 52) (v := undef) (a' := ?_) #[true, true, true, true, true, true, true, true, true, false, false, false, false, false, false, false, false, false] rfl rfl (any_of HT_.out (by kernel_rfl)) (fun _ _ _ h => h) (Or.inr ⟨by rfl, rfl⟩) ?_ ?_
       rotate_left
       ·simp only [Act.put, List.setIfInBounds_toArray, List.set_cons_zero, List.set_cons_succ, i64_w, i32_w]
        rfl
       refine pure_ (i := 9) (N := some 53) (v := ?_) (a' := ?_) #[true, true, true, true, true, true, true, true, true, true, false, false, false, false, false, false, false, false] rfl rfl (any_of HT_.out (by kernel_rfl)) (fun _ _ _ h => h) (Or.inl ⟨by rfl, ?_⟩) ?_ ?_
       rotate_left
       ·intro w'
        go_simp
        with_reducible rfl
       rotate_left
       ·simp only [Act.put, List.setIfInBounds_toArray, List.set_cons_zero, List.set_cons_succ, i64_w, i32_w]
        rfl
       refine pure_ (i := 10) (N := some 54) (v := ?_) (a' := ?_) #[true, true, true, true, true, true, true, true, true, true, true, false, false, false, false, false, false, false] rfl rfl (any_of HT_.out (by kernel_rfl)) (fun _ _ _ h => h) (Or.inl ⟨by rfl, ?_⟩) ?_ ?_
       rotate_left
       ·intro w'
        go_simp
        with_reducible rfl
       rotate_left
       ·simp only [Act.put, List.setIfInBounds_toArray, List.set_cons_zero, List.set_cons_succ, i64_w, i32_w]
        rfl
       refine pure_ (i := 11) (N := some 55) (v := undef) (a' := ?_) #[true, true, true, true, true, true, true, true, true, true, true, true, false, false, false, false, false, false] rfl rfl (any_of HT_.out (by kernel_rfl)) (fun _ _ _ h => h) (Or.inr ⟨by rfl, rfl⟩) ?_ ?_
       rotate_left
       ·simp only [Act.put, List.setIfInBounds_toArray, List.set_cons_zero, List.set_cons_succ, i64_w, i32_w]
        rfl
       refine pure_ (i := 12) (N := some 56) (v := undef) (a' := ?_) #[true, true, true, true, true, true, true, true, true, true, true, true, true, false, false, false, false, false] rfl rfl (any_of HT_.out (by kernel_rfl)) (fun _ _ _ h => h) (Or.inr ⟨by rfl, rfl⟩) ?_ ?_
       rotate_left
       ·simp only [Act.put, List.setIfInBounds_toArray, List.set_cons_zero, List.set_cons_succ, i64_w, i32_w]
        rfl
       refine pure_ (i := 13) (N := some 57) (v := undef) (a' := ?_) #[true, true, true, true, true, true, true, true, true, true, true, true, true, true, false, false, false, false] rfl rfl (any_of HT_.out (by kernel_rfl)) (fun _ _ _ h => h) (Or.inr ⟨by rfl, rfl⟩) ?_ ?_
       rotate_left
       ·simp only [Act.put, List.setIfInBounds_toArray, List.set_cons_zero, List.set_cons_succ, i64_w, i32_w]
        rfl
       refine pure_ (i := 14) (N := some 58) (v := undef) (a' := ?_) #[true, true, true, true, true, true, true, true, true, true, true, true, true, true, true, false, false, false] rfl rfl (any_of HT_.out (by kernel_rfl)) (fun _ _ _ h => h) (Or.inr ⟨by rfl, rfl⟩) ?_ ?_
       rotate_left
       ·simp only [Act.put, List.setIfInBounds_toArray, List.set_cons_zero, List.set_cons_succ, i64_w, i32_w]
        rfl
       refine pure_ (i := 15) (N := some 59) (v := undef) (a' := ?_) #[true, true, true, true, true, true, true, true, true, true, true, true, true, true, true, true, false, false] rfl rfl (any_of HT_.out (by kernel_rfl)) (fun _ _ _ h => h) (Or.inr ⟨by rfl, rfl⟩) ?_ ?_
       rotate_left
       ·simp only [Act.put, List.setIfInBounds_toArray, List.set_cons_zero, List.set_cons_succ, i64_w, i32_w]
        rfl
       refine pure_ (i := 16) (N := some 60) (v := undef) (a' := ?_) #[true, true, true, true, true, true, true, true, true, true, true, true, true, true, true, true, true, false] rfl rfl (any_of HT_.out (by kernel_rfl)) (fun _ _ _ h => h) (Or.inr ⟨by rfl, rfl⟩) ?_ ?_
       rotate_left
       ·simp only [Act.put, List.setIfInBounds_toArray, List.set_cons_zero, List.set_cons_succ, i64_w, i32_w]
        rfl
       refine pure_ (i := 17) (N := some 61) (v := ?_) (a' := ?_) #[true, true, true, true, true, true, true, true, true, true, true, true, true, true, true, true, true, true] rfl rfl (any_of HT_.out (by kernel_rfl)) (fun _ _ _ h => h) (Or.inl ⟨by rfl, ?_⟩) ?_ ?_
       rotate_left
       ·intro w'
        go_simp
        with_reducible rfl
       rotate_left
       ·simp only [Act.put, List.setIfInBounds_toArray, List.set_cons_zero, List.set_cons_succ, i64_w, i32_w]
        rfl
       refine done_ (done_of HT_.out (by kernel_rfl)) ?_
       try go_wp2
       go_meet
       case rel => exact ⟨_, (true), (by first | rfl | (simp; done) | (simp [*]; done)), H', ⟨by have := HJ5.out; first | omega | exact Nat.le_refl _⟩, ⟨by (with_reducible repeat (first | apply Kd.R_alloc | apply Kd.R_drewN | apply Kd.R_drew)); exact Kd.R_mono HO394.out (fun _ hk => trivial)⟩, ⟨by (with_reducible repeat (first | refine blk_drewN ?_ _ | refine blk_drew ?_ | refine blk_alloc ?_ _)); exact BK380.out⟩, ⟨by repeat (first | (with_reducible first | exact HB.out | apply below_alloc | apply pw_below_drewN | apply below_drew1 | refine below_set ?_ GE380.out) | exact HB.out)⟩⟩
     case rest =>
      clear HC14
      try clear c1
      try clear c2
      try clear p2
      try clear c3
      try clear c5
      try clear c9
      try clear c9b0
      try clear c9b1
      try clear c10
      try clear c16
      try clear c17
      try clear c20
      try clear c20b0
      try clear c20b1
      try clear c21
      try clear c21b0
      try clear c21b1
      try clear c32
      try clear c33
      try clear c34
      try clear hcz15_0
      try clear hcz15_1
      try clear hcz15_2
      try clear hcz15_3
      try clear hcz15_4
      try clear hcz15_5
      try clear hcz18_0
      try clear hcz18_1
      try clear hcz18_2
      try clear hcz18_3
      try clear hcz18_4
      try clear hcz18_5
      try clear hfz15_0
      try clear hfz15_1
      try clear hfz15_2
      try clear hfz15_3
      try clear hfz15_4
      try clear hfz15_5
      try clear hfz18_0
      try clear hfz18_1
      try clear hfz18_2
      try clear hfz18_3
      try clear hfz18_4
      try clear hfz18_5
      try clear p2
      obtain ⟨kq, x61_13, rfl, HA, HJ13, HO_9, BK380, HB⟩ := hcut
      cases kq with
      | zero => exact absurd HA.out (by simp [strongboxlaw5_ShardWrites.j1])
      | succ kj13 =>
       have H := HA.out
       clear HA
       simp only [strongboxlaw5_ShardWrites.j1] at H
       by_cases c37 : x61_13 = true
       ·subst c37
        have H1 : (none) = some r := by rw [if_pos rfl] at H; exact H
        clear H
        have H := H1
        clear H1
        exact absurd H (by simp)
       ·replace c37 := Bool.eq_false_iff.mpr c37
        subst c37
        have H1 : ((strongboxlaw5_Head.f a0_0 a0_1 a0_2 a0_3 a0_4 a0_5).bind fun bt404 => ((shard_NewWriter.f kj13 bt404.1 bt404.2.1 bt404.2.2.1 bt404.2.2.2.1 bt404.2.2.2.2.1 bt404.2.2.2.2.2).bind fun bt410 => (strongboxlaw5_ShardWrites.l0 kj13 l1 l2 t392 0 0 a0_0 a0_1 a0_2 a0_3 a0_4 a0_5 bt410.1 bt410.2.1 bt410.2.2.1 bt410.2.2.2.1 bt410.2.2.2.2.1 bt410.2.2.2.2.2.1 bt410.2.2.2.2.2.2.1 bt410.2.2.2.2.2.2.2.1 bt410.2.2.2.2.2.2.2.2.1 bt410.2.2.2.2.2.2.2.2.2))) = some r := by rw [if_neg (show ¬ (false = true) by decide)] at H; exact H
        clear H
        have H := H1
        clear H1
        replace H := Option.bind_eq_some_iff.mp H
        obtain ⟨⟨t404, t405, t406, t407, t408, t409⟩, A380, H⟩ := H
        replace H : ((shard_NewWriter.f kj13 t404 t405 t406 t407 t408 t409).bind fun bt410 => (strongboxlaw5_ShardWrites.l0 kj13 l1 l2 t392 0 0 a0_0 a0_1 a0_2 a0_3 a0_4 a0_5 bt410.1 bt410.2.1 bt410.2.2.1 bt410.2.2.2.1 bt410.2.2.2.2.1 bt410.2.2.2.2.2.1 bt410.2.2.2.2.2.2.1 bt410.2.2.2.2.2.2.2.1 bt410.2.2.2.2.2.2.2.2.1 bt410.2.2.2.2.2.2.2.2.2)) = some r := H
        have A38 := Aside0.mk A380
        clear A380
        replace H := Option.bind_eq_some_iff.mp H
        obtain ⟨⟨t410, t411, t412, t413, t414, t415, t416, t419, t422, t423⟩, A390, H⟩ := H
        replace H : (strongboxlaw5_ShardWrites.l0 kj13 l1 l2 t392 0 0 a0_0 a0_1 a0_2 a0_3 a0_4 a0_5 t410 t411 t412 t413 t414 t415 t416 t419 t422 t423) = some r := H
        have A39 := Aside0.mk A390
        clear A390
        have H' := Aside0.mk H
        clear H
        have hcz40_0 : wc.cell? ⟨gb380, 0, none⟩ = some (.int .i64 a0_0) := (blk_cell BK380.out 0).trans rfl
        have hcz40_1 : wc.cell? ⟨gb380, 1, none⟩ = some (.int .i64 a0_1) := (blk_cell BK380.out 1).trans rfl
        have hcz40_2 : wc.cell? ⟨gb380, 2, none⟩ = some (.int .i64 a0_2) := (blk_cell BK380.out 2).trans rfl
        have hcz40_3 : wc.cell? ⟨gb380, 3, none⟩ = some (.int .i64 a0_3) := (blk_cell BK380.out 3).trans rfl
        have hcz40_4 : wc.cell? ⟨gb380, 4, none⟩ = some (.int .i64 a0_4) := (blk_cell BK380.out 4).trans rfl
        have hcz40_5 : wc.cell? ⟨gb380, 5, none⟩ = some (.int .i64 a0_5) := (blk_cell BK380.out 5).trans rfl
        have hfz40_0 := blk_frozen BK380.out 0
        have hfz40_1 := blk_frozen BK380.out 1
        have hfz40_2 := blk_frozen BK380.out 2
        have hfz40_3 := blk_frozen BK380.out 3
        have hfz40_4 := blk_frozen BK380.out 4
        have hfz40_5 := blk_frozen BK380.out 5
        go_wp2_with (first | ((with_reducible refine gate_callee (f := 17) rfl ?_); refine goesL_ (some 63) rfl rfl Try.func17 (by kernel_rfl) rfl #[.agg #[.int .i64 a0_0, .int .i64 a0_1, .int .i64 a0_2, .int .i64 a0_3, .int .i64 a0_4, .int .i64 a0_5]] rfl (by (try simp only [List.map_toArray, List.map_cons, List.map_nil]); first | done | rfl | (simp only [List.length_drop, List.length_take]; rfl)) ?_; (with_reducible refine (strongboxlaw5_Head.calls a0_0 a0_1 a0_2 a0_3 a0_4 a0_5 t404 t405 t406 t407 t408 t409 _ A38.out).mono ?_); rintro e w41 ⟨rfl, hb⟩; refine ⟨_, rfl, ?_⟩; have n0_ := Aside0.mk (Kd.R_below (by (with_reducible repeat (first | apply Kd.R_alloc | apply Kd.R_drewN | apply Kd.R_drew)); exact HO_9.out) hb); have n1_ := Aside0.mk (blk_below (g := gb380) (o := .cells #[.int .i64 a0_0, .int .i64 a0_1, .int .i64 a0_2, .int .i64 a0_3, .int .i64 a0_4, .int .i64 a0_5] 27 (0, 0)) (by (with_reducible repeat (first | refine blk_drewN ?_ _ | refine blk_drew ?_ | refine blk_alloc ?_ _)); exact BK380.out) hb); have n2_ := Aside0.mk (below_step (by repeat (first | (with_reducible first | exact HB.out | apply below_alloc | apply pw_below_drewN | apply below_drew1 | refine below_set ?_ GE380.out) | exact HB.out)) hb); clear HO_9; clear BK380; clear HB; have HO_9 := n0_; have BK380 := n1_; have HB := n2_; clear n0_ n1_ n2_; (try clear hb); (try clear hb2); (try clear hk); (try clear hi)) | ((with_reducible refine gate_callee (f := 35) rfl ?_); refine goesL_ (some 64) rfl rfl Try.func35 (by kernel_rfl) rfl #[.agg #[.int .i64 t404, .int .i64 t405, .int .i64 t406, .int .i64 t407, .int .i64 t408, .int .i64 t409]] rfl (by (try simp only [List.map_toArray, List.map_cons, List.map_nil]); first | done | rfl | (simp only [List.length_drop, List.length_take]; rfl)) ?_; (with_reducible refine (shard_NewWriter.calls kj13 t404 t405 t406 t407 t408 t409 t410 t411 t412 t413 t414 t415 t416 t419 t422 t423 _ A39.out).mono ?_); rintro e w42 ⟨gb424, v417, v420, rfl, hbk, hge, ho0, ho1, hb⟩; refine ⟨_, rfl, ?_⟩; have BK424 := Aside0.mk hbk; have GW424 := Aside0.mk (Nat.le_trans (below_size (by repeat (first | (with_reducible first | exact HB.out | apply below_alloc | apply pw_below_drewN | apply below_drew1 | refine below_set ?_ GE380.out) | exact HB.out))) hge : w.heap.size ≤ gb424); have GE424 := Aside0.mk GW424.out; have NB380_424 := Aside0.mk (Nat.ne_of_lt (Nat.lt_of_lt_of_le (blk_lt (g := gb380) (o := .cells #[.int .i64 a0_0, .int .i64 a0_1, .int .i64 a0_2, .int .i64 a0_3, .int .i64 a0_4, .int .i64 a0_5] 27 (0, 0)) (by (with_reducible repeat (first | refine blk_drewN ?_ _ | refine blk_drew ?_ | refine blk_alloc ?_ _)); exact BK380.out)) hge) : gb380 ≠ gb424); have NB424_380 := Aside0.mk NB380_424.out.symm; clear hbk hge; have n0_ := Aside0.mk (Kd.R_mono (Kd.R_told (Kd.R_told (Kd.R_old (by (with_reducible repeat (first | apply Kd.R_alloc | apply Kd.R_drewN | apply Kd.R_drew)); exact HO_9.out) hb) (Kd.R_base ho0)) (Kd.R_base ho1)) (fun _ h_ => h_.1)); have n1_ := Aside0.mk (Kd.R_lower (Kd.R_new' ho0 (Kd.R_lt (by (with_reducible repeat (first | apply Kd.R_alloc | apply Kd.R_drewN | apply Kd.R_drew)); exact HO_9.out))) (below_size (by repeat (first | (with_reducible first | exact HB.out | apply below_alloc | apply pw_below_drewN | apply below_drew1 | refine below_set ?_ GE380.out) | exact HB.out)))); have n2_ := Aside0.mk (Kd.R_lower (Kd.R_new' ho1 (Kd.R_lt (by (with_reducible repeat (first | apply Kd.R_alloc | apply Kd.R_drewN | apply Kd.R_drew)); exact HO_9.out))) (below_size (by repeat (first | (with_reducible first | exact HB.out | apply below_alloc | apply pw_below_drewN | apply below_drew1 | refine below_set ?_ GE380.out) | exact HB.out)))); have n3_ := Aside0.mk (blk_below (g := gb380) (o := .cells #[.int .i64 a0_0, .int .i64 a0_1, .int .i64 a0_2, .int .i64 a0_3, .int .i64 a0_4, .int .i64 a0_5] 27 (0, 0)) (by (with_reducible repeat (first | refine blk_drewN ?_ _ | refine blk_drew ?_ | refine blk_alloc ?_ _)); exact BK380.out) hb); have n4_ := Aside0.mk (below_step (by repeat (first | (with_reducible first | exact HB.out | apply below_alloc | apply pw_below_drewN | apply below_drew1 | refine below_set ?_ GE380.out) | exact HB.out)) hb); clear HO_9; clear BK380; clear HB; have HO_9 := n0_; have HO418 := n1_; have HO421 := n2_; have BK380 := n3_; have HB := n4_; clear n0_ n1_ n2_ n3_ n4_; (try clear hb); (try clear hb2); (try clear hk); (try clear hi); (try clear ho0); (try clear ho1); obtain ⟨Ao43, co43, eo43⟩ := Kd.R_slice HO418.out; subst eo43; obtain ⟨Ao44, co44, eo44⟩ := Kd.R_slice HO421.out; subst eo44))
        go_loopg [12, 13] kj13 (fun kq v12 v13 w' => ∃ (x12_3 : Int) (x13_3 : Int) (x425000_3 : Int) (x425001_3 : Int) (x425002_3 : Int) (x425003_3 : Int) (x425004_3 : Int) (x425005_3 : Int) (x425006_3 : List Int) (x425007_3 : List Int) (x425008_3 : Int) (x425009_3 : Bool) (u425006 : Value) (u425007 : Value), v12 = .int .i64 x12_3 ∧ v13 = .int .i64 x13_3 ∧ Aside0 (strongboxlaw5_ShardWrites.l0 kq l1 l2 t392 x12_3 x13_3 a0_0 a0_1 a0_2 a0_3 a0_4 a0_5 x425000_3 x425001_3 x425002_3 x425003_3 x425004_3 x425005_3 x425006_3 x425007_3 x425008_3 x425009_3 = some r) ∧ Aside0 (kq ≤ kj13) ∧ Aside0 (Kd.R (Kd.int .u8) 5 w' w.heap.size (fun k_ => some k_ ≠ (u425006 : Value).ownBlock ∧ some k_ ≠ (u425007 : Value).ownBlock) v393 t392) ∧ Aside0 (Kd.R (Kd.int .u8) 5 w' w.heap.size (fun k_ => some k_ ≠ (v393 : Value).ownBlock ∧ some k_ ≠ (u425007 : Value).ownBlock) u425006 x425006_3) ∧ Aside0 (Kd.R (Kd.int .u8) 5 w' w.heap.size (fun k_ => some k_ ≠ (v393 : Value).ownBlock ∧ some k_ ≠ (u425006 : Value).ownBlock) u425007 x425007_3) ∧ Aside0 (w'.heap[gb380]? = some (.cells #[.int .i64 a0_0, .int .i64 a0_1, .int .i64 a0_2, .int .i64 a0_3, .int .i64 a0_4, .int .i64 a0_5] 27 (0, 0))) ∧ Aside0 (w'.heap[gb424]? = some (.cells #[.int .i64 x425000_3, .int .i64 x425001_3, .int .i64 x425002_3, .int .i64 x425003_3, .int .i64 x425004_3, .int .i64 x425005_3, u425006, u425007, .int .i64 x425008_3, .bool x425009_3] 105 (0, 0))) ∧ Aside0 (Below w.heap.size w w'))
        case atStart => exact ⟨(0), (0), (t410), (t411), (t412), (t413), (t414), (t415), (t416), (t419), (t422), (t423), (.slice Ao43 t416.length co43), (.slice Ao44 t419.length co44), (by first | rfl | (simp; done) | (simp [*]; done)), (by first | rfl | (simp; done) | (simp [*]; done)), H', ⟨Nat.le_refl _⟩, ⟨by (with_reducible repeat (first | apply Kd.R_alloc | apply Kd.R_drewN | apply Kd.R_drew)); exact Kd.R_mono HO_9.out (fun _ hk => ⟨hk.1.2, hk.2⟩)⟩, ⟨by (with_reducible repeat (first | apply Kd.R_alloc | apply Kd.R_drewN | apply Kd.R_drew)); exact Kd.R_mono HO418.out (fun _ hk => ⟨hk.2, hk.1⟩)⟩, ⟨by (with_reducible repeat (first | apply Kd.R_alloc | apply Kd.R_drewN | apply Kd.R_drew)); exact Kd.R_mono HO421.out (fun _ hk => ⟨hk.2, hk.1⟩)⟩, ⟨by (with_reducible repeat (first | refine blk_drewN ?_ _ | refine blk_drew ?_ | refine blk_alloc ?_ _)); exact BK380.out⟩, ⟨by (with_reducible repeat (first | refine blk_drewN ?_ _ | refine blk_drew ?_ | refine blk_alloc ?_ _)); exact BK424.out⟩, ⟨by repeat (first | (with_reducible first | exact HB.out | apply below_alloc | apply pw_below_drewN | apply below_drew1 | refine below_set ?_ GE380.out | refine below_set ?_ GE424.out) | exact HB.out)⟩⟩
        case round =>
         clear H'
         try clear c1
         try clear c2
         try clear p2
         try clear c3
         try clear c5
         try clear c9
         try clear c9b0
         try clear c9b1
         try clear c10
         try clear c16
         try clear c17
         try clear c20
         try clear c20b0
         try clear c20b1
         try clear c21
         try clear c21b0
         try clear c21b1
         try clear c32
         try clear c33
         try clear c34
         try clear c35
         try clear c37
         try clear hcz15_0
         try clear hcz15_1
         try clear hcz15_2
         try clear hcz15_3
         try clear hcz15_4
         try clear hcz15_5
         try clear hcz18_0
         try clear hcz18_1
         try clear hcz18_2
         try clear hcz18_3
         try clear hcz18_4
         try clear hcz18_5
         try clear hcz40_0
         try clear hcz40_1
         try clear hcz40_2
         try clear hcz40_3
         try clear hcz40_4
         try clear hcz40_5
         try clear hfz15_0
         try clear hfz15_1
         try clear hfz15_2
         try clear hfz15_3
         try clear hfz15_4
         try clear hfz15_5
         try clear hfz18_0
         try clear hfz18_1
         try clear hfz18_2
         try clear hfz18_3
         try clear hfz18_4
         try clear hfz18_5
         try clear hfz40_0
         try clear hfz40_1
         try clear hfz40_2
         try clear hfz40_3
         try clear hfz40_4
         try clear hfz40_5
         try clear p2
         obtain ⟨x12_3, x13_3, x425000_3, x425001_3, x425002_3, x425003_3, x425004_3, x425005_3, x425006_3, x425007_3, x425008_3, x425009_3, u425006, u425007, rfl, rfl, HA, HK3, HO_9, HO_425006, HO_425007, BK380, BK424, HB⟩ := hrel
         cases gk with
         | zero => exact absurd HA.out (by simp [strongboxlaw5_ShardWrites.l0])
         | succ k3 =>
          have H := HA.out
          clear HA
          simp only [strongboxlaw5_ShardWrites.l0] at H
          by_cases c46 : x13_3 < (l2.length : Int)
          ·rw [if_pos c46] at H
           have c46b0 : decide (x13_3 < (l2.length : Int)) = true := decide_eq_true c46
           clear c46
           by_cases c47 : 0 ≤ x13_3
           ·rw [if_pos c47] at H
            have c47b0 : decide (0 ≤ x13_3) = true := decide_eq_true c47
            clear c47
            obtain ⟨ji48, hji48⟩ : ∃ j_ : Int, (mn (wrap64 (rd l2 x13_3)) (wrap64 ((l1.length : Int) - x12_3))) = j_ := ⟨_, rfl⟩
            replace H : (if 0 ≤ x12_3 then (if x12_3 ≤ (wrap64 (x12_3 + (ji48))) then (if (wrap64 (x12_3 + (ji48))) ≤ (l1.length : Int) then ((shard_Writer_Add.f k3 x425000_3 x425001_3 x425002_3 x425003_3 x425004_3 x425005_3 x425006_3 x425007_3 x425008_3 x425009_3 ((l1.take ((wrap64 (x12_3 + (ji48))) : Int).toNat).drop (x12_3 : Int).toNat)).bind fun bt430 => ((strongboxref4_MayHead.f a0_0 a0_1 a0_2 a0_3 a0_4 a0_5).bind fun t445 => (if t445 = true then (if (wrap64 (x12_3 + (ji48))) > a0_4 then (some (bt430.2.2.2.2.2.2.2.2.2.2 == 3)) else (if bt430.2.2.2.2.2.2.2.2.2.2 = 0 then (strongboxlaw5_ShardWrites.l0 k3 l1 l2 t392 (wrap64 (x12_3 + (ji48))) (wrap64 (x13_3 + 1)) a0_0 a0_1 a0_2 a0_3 a0_4 a0_5 bt430.1 bt430.2.1 bt430.2.2.1 bt430.2.2.2.1 bt430.2.2.2.2.1 bt430.2.2.2.2.2.1 bt430.2.2.2.2.2.2.1 bt430.2.2.2.2.2.2.2.1 bt430.2.2.2.2.2.2.2.2.1 bt430.2.2.2.2.2.2.2.2.2.1) else (none))) else (some (bt430.2.2.2.2.2.2.2.2.2.2 == 1))))) else (none)) else (none)) else (none)) = some r := by first | (rw [hji48] at H; exact H) | (simp only [hji48] at H ⊢; exact H)
            have hji48_ : (if (wrap64 ((l1.length : Int) - x12_3)) < (wrap64 (rd l2 x13_3)) then (wrap64 ((l1.length : Int) - x12_3)) else (wrap64 (rd l2 x13_3))) = ji48 := hji48
            by_cases c49 : 0 ≤ x12_3
            ·rw [if_pos c49] at H
             have c49b0 := eq_true c49
             have c49b1 : decide (0 ≤ x12_3) = true := decide_eq_true c49
             clear c49
             by_cases c50 : x12_3 ≤ (wrap64 (x12_3 + (ji48)))
             ·rw [if_pos c50] at H
              have c50b0 := eq_true c50
              have c50b1 : decide (x12_3 ≤ (wrap64 (x12_3 + (ji48)))) = true := decide_eq_true c50
              by_cases c51 : (wrap64 (x12_3 + (ji48))) ≤ (l1.length : Int)
              ·rw [if_pos c51] at H
               have c51b0 := eq_true c51
               have c51b1 : decide ((wrap64 (x12_3 + (ji48))) ≤ (l1.length : Int)) = true := decide_eq_true c51
               obtain ⟨y426, hy426⟩ : ∃ y_ : List Int, y_ = ((l1.take ((wrap64 (x12_3 + (ji48))) : Int).toNat).drop (x12_3 : Int).toNat) := ⟨_, rfl⟩
               replace H : ((shard_Writer_Add.f k3 x425000_3 x425001_3 x425002_3 x425003_3 x425004_3 x425005_3 x425006_3 x425007_3 x425008_3 x425009_3 y426).bind fun bt430 => ((strongboxref4_MayHead.f a0_0 a0_1 a0_2 a0_3 a0_4 a0_5).bind fun t445 => (if t445 = true then (if (wrap64 (x12_3 + (ji48))) > a0_4 then (some (bt430.2.2.2.2.2.2.2.2.2.2 == 3)) else (if bt430.2.2.2.2.2.2.2.2.2.2 = 0 then (strongboxlaw5_ShardWrites.l0 k3 l1 l2 t392 (wrap64 (x12_3 + (ji48))) (wrap64 (x13_3 + 1)) a0_0 a0_1 a0_2 a0_3 a0_4 a0_5 bt430.1 bt430.2.1 bt430.2.2.1 bt430.2.2.2.1 bt430.2.2.2.2.1 bt430.2.2.2.2.2.1 bt430.2.2.2.2.2.2.1 bt430.2.2.2.2.2.2.2.1 bt430.2.2.2.2.2.2.2.2.1 bt430.2.2.2.2.2.2.2.2.2.1) else (none))) else (some (bt430.2.2.2.2.2.2.2.2.2.2 == 1))))) = some r := by first | (rw [hy426]; with_reducible exact H) | (have H2_ := (Option.bind_some _ _).symm.trans H; rw [hy426]; with_reducible exact H2_) | (have H2_ := (Option.bind_some _ _).symm.trans H; with_reducible exact H2_) | with_reducible exact H | (rw [hy426]; exact H) | exact H
               have Ny426 := Aside0.mk hy426
               clear hy426
               replace H := Option.bind_eq_some_iff.mp H
               obtain ⟨⟨t430, t431, t432, t433, t434, t435, t436, t439, t442, t443, t444⟩, A520, H⟩ := H
               replace H : ((strongboxref4_MayHead.f a0_0 a0_1 a0_2 a0_3 a0_4 a0_5).bind fun t445 => (if t445 = true then (if (wrap64 (x12_3 + (ji48))) > a0_4 then (some (t444 == 3)) else (if t444 = 0 then (strongboxlaw5_ShardWrites.l0 k3 l1 l2 t392 (wrap64 (x12_3 + (ji48))) (wrap64 (x13_3 + 1)) a0_0 a0_1 a0_2 a0_3 a0_4 a0_5 t430 t431 t432 t433 t434 t435 t436 t439 t442 t443) else (none))) else (some (t444 == 1)))) = some r := H
               have A52 := Aside0.mk A520
               clear A520
               replace H := Option.bind_eq_some_iff.mp H
               obtain ⟨t445, A530, H⟩ := H
               replace H : (if t445 = true then (if (wrap64 (x12_3 + (ji48))) > a0_4 then (some (t444 == 3)) else (if t444 = 0 then (strongboxlaw5_ShardWrites.l0 k3 l1 l2 t392 (wrap64 (x12_3 + (ji48))) (wrap64 (x13_3 + 1)) a0_0 a0_1 a0_2 a0_3 a0_4 a0_5 t430 t431 t432 t433 t434 t435 t436 t439 t442 t443) else (none))) else (some (t444 == 1))) = some r := H
               have A53 := Aside0.mk A530
               clear A530
               by_cases c54 : t445 = true
               ·subst c54
                have H1 : (if (wrap64 (x12_3 + (ji48))) > a0_4 then (some (t444 == 3)) else (if t444 = 0 then (strongboxlaw5_ShardWrites.l0 k3 l1 l2 t392 (wrap64 (x12_3 + (ji48))) (wrap64 (x13_3 + 1)) a0_0 a0_1 a0_2 a0_3 a0_4 a0_5 t430 t431 t432 t433 t434 t435 t436 t439 t442 t443) else (none))) = some r := by rw [if_pos rfl] at H; exact H
                clear H
                have H := H1
                clear H1
                by_cases c55 : (wrap64 (x12_3 + (ji48))) > a0_4
                ·rw [if_pos c55] at H
                 have c55b0 : decide (a0_4 < (wrap64 (x12_3 + (ji48)))) = true := decide_eq_true c55
                 clear c55
                 obtain rfl := Option.some.inj H
                 have p425 : 0 ≤ (x13_3 : Int) := of_decide_eq_true (by first | (with_reducible assumption) | assumption)
                 have q425 : x13_3 < (l2.length : Int) := of_decide_eq_true (by first | (with_reducible assumption) | assumption)
                 obtain ⟨ad425, e425, hx425_0⟩ := Kd.at_int HR2.out x13_3 p425 q425
                 cases e425
                 replace hx425_0 := (HB.out.cell (World.block_lt_of_cell? w _ hx425_0)).trans hx425_0
                 replace p425 := eq_true p425
                 replace q425 := eq_true q425
                 have hnb56 := NB424_380.out
                 have hnc56 := NB380_424.out
                 have q58 : ((wrap64 (x12_3 + (ji48))) : Int) ≤ ((l1.length : Int) : Int) := of_decide_eq_true (by first | (with_reducible assumption) | assumption)
                 obtain ⟨i058, hi058, _, hsz58, _⟩ := info_parts info5
                 have hroom58 : l1.length ≤ c1 := HC1.out
                 have hC58 : Kd.C (Kd.int .u8) _ A1 l1.length l1 := HR1.out
                 have ql58 : (x12_3 : Int) ≤ ((wrap64 (x12_3 + (ji48))) : Int) := of_decide_eq_true (by first | (with_reducible assumption) | assumption)
                 have q058 : (0 : Int) ≤ (x12_3 : Int) := of_decide_eq_true (by first | (with_reducible assumption) | assumption)
                 have hcut58 := cut_mid (P := Try.prog) 22 5 .i64 .i64 Try.underlying22 hi058 1 hsz58 A1 l1.length c1 x12_3 (wrap64 (x12_3 + (ji48))) q058 ql58 q58 hroom58
                 have hr58 := Kd.C_mid (lo := (x12_3 : Int).toNat) (hi := ((wrap64 (x12_3 + (ji48))) : Int).toNat) (c := c1) hC58 (by omega) (by omega) hroom58
                 obtain ⟨A58, hA58⟩ : ∃ A1_, A1_ = (if c1 = (x12_3 : Int).toNat then A1 else (A1 : Option Addr).map (·.add ((x12_3 : Int).toNat * 1))) := ⟨_, rfl⟩
                 obtain ⟨c58, hc58⟩ : ∃ c1_, c1_ = c1 - (x12_3 : Int).toNat := ⟨_, rfl⟩
                 have hy58 : y426.length = ((wrap64 (x12_3 + (ji48))) : Int).toNat - (x12_3 : Int).toNat := (by rw [Ny426.out, List.length_drop, List.length_take] <;> omega)
                 rw [show ((l1).take ((wrap64 (x12_3 + (ji48))) : Int).toNat).drop (x12_3 : Int).toNat = y426 from Ny426.out.symm] at hr58
                 replace hr58 : Kd.C (Kd.int .u8) _ A58 y426.length y426 := (by rw [hA58]; exact hr58)
                 rw [← hy58, ← hA58, ← hc58] at hcut58
                 have HR429 := Aside0.mk hr58
                 have HC429 := Aside0.mk (show y426.length ≤ c58 from by rw [hy58, hc58]; exact Nat.sub_le_sub_right (Nat.le_trans (by omega) hroom58) _)
                 clear hr58 hC58 hroom58 hi058 hsz58 hc58
                 have KY58 := Aside0.mk hy58
                 have KA58 := Aside0.mk hA58
                 clear hy58 hA58
                 replace q58 := eq_true q58
                 obtain ⟨Ao59, co59, eo59⟩ := Kd.R_slice HO_425006.out
                 subst eo59
                 obtain ⟨Ao60, co60, eo60⟩ := Kd.R_slice HO_425007.out
                 subst eo60
                 go_wp2_with (first | ((with_reducible refine gate_callee (f := 36) rfl ?_); refine goesL_ (some 88) rfl rfl Try.func36 (by kernel_rfl) rfl #[.pointer (some ⟨gb424, 0, none⟩), .slice A58 y426.length c58] rfl (by (try simp only [List.map_toArray, List.map_cons, List.map_nil]); first | done | rfl | (simp only [List.length_drop, List.length_take]; rfl)) ?_; (with_reducible refine (shard_Writer_Add.calls k3 x425000_3 x425001_3 x425002_3 x425003_3 x425004_3 x425005_3 (fun k_ => some k_ = (.slice Ao59 x425006_3.length co59 : Value).ownBlock) (.slice Ao59 x425006_3.length co59) x425006_3 (fun k_ => some k_ = (.slice Ao60 x425007_3.length co60 : Value).ownBlock ∨ k_ = gb424) (.slice Ao60 x425007_3.length co60) x425007_3 x425008_3 x425009_3 (fun k_ => k_ < w.heap.size) _ _ y426 t430 t431 t432 t433 t434 t435 t436 t439 t442 t443 t444 w _ ?side1 ?side2 ?side3 ?side4 ?side5 ?side6 gb424 (by (with_reducible repeat (first | refine blk_drewN ?_ _ | refine blk_drew ?_ | refine blk_alloc ?_ _)); exact BK424.out) ?sideg (Or.inr rfl) ?siden A52.out).mono ?_); (case side1 => repeat (first | (with_reducible first | exact HB.out | apply below_alloc | apply pw_below_drewN | apply below_drew1 | refine below_set ?_ GE380.out | refine below_set ?_ GE424.out) | exact HB.out)); (case side2 => exact Kd.R_tight rfl HO_425006.out); (case side3 => exact fun k_ e_ h_ => Or.elim h_ ((HO_425006.out.1 k_ e_.symm).2) (fun g_ => (fun (g_ : k_ = gb424) e2_ => Kd.R_ne HO_425006.out BK424.out (by decide) ((congrArg some g_).symm.trans e2_)) g_ e_)); (case side4 => exact Kd.R_mono (Kd.R_tight rfl HO_425007.out) (fun _ h_ => .inl h_)); (case side5 => exact fun k_ h_ => Or.elim h_ (fun e_ => (HO_425007.out.1 k_ e_.symm).2) (fun g_ => (fun (g_ : k_ = gb424) e2_ => Kd.R_ne HO_425006.out BK424.out (by decide) ((congrArg some g_).symm.trans e2_)) g_)); (case side6 => exact Kd.V_mono (Kd.V_mk HC429.out (Kd.F_below (Kd.C_F (Kd.heap_int .u8) HR429.out) (by repeat (first | (with_reducible first | exact HB.out | apply below_alloc | apply pw_below_drewN | apply below_drew1 | refine below_set ?_ GE380.out | refine below_set ?_ GE424.out) | exact HB.out)))) (fun k_ hk_ => ⟨hk_, fun e_ => Nat.not_le.2 hk_ (Kd.R_base HO_425006.out k_ e_.symm), fun e_ => Nat.not_le.2 hk_ (Kd.R_base HO_425007.out k_ e_.symm)⟩)); (case sideg => exact GE424.out); (case siden => exact fun k_ hk_ e_ => Nat.not_le.2 hk_ (e_ ▸ GE424.out)); rintro e w61 ⟨v437, v440, rfl, hbk, ho0, ho1, hb, hkp⟩; refine ⟨_, rfl, ?_⟩; have n0_ := Aside0.mk (Kd.R_mono (ok' := fun k_ => some k_ ≠ (v437 : Value).ownBlock ∧ some k_ ≠ (v440 : Value).ownBlock) (Kd.R_keptB (Kd.R_types HO_9.out BK424.out (by decide)) hkp (fun k_ hk_ hs_ => Or.elim hs_ (fun e_ => (hk_.1.1) e_) (fun h_ => Or.elim h_ (fun e_ => (hk_.1.2) e_) (fun g_ => hk_.2 g_)))) (fun k_ hk_ => ⟨fun e_ => Or.elim (ho0.1 k_ e_.symm).1 (fun hs_ => hk_.2.1 hs_) (fun hn_ => Nat.not_le.2 hk_.2.2 hn_), fun e_ => Or.elim (ho1.1 k_ e_.symm).1 (fun hs_ => hk_.2.1 hs_) (fun hn_ => Nat.not_le.2 hk_.2.2 hn_)⟩)); have n1_ := Aside0.mk (blk_kept (by (with_reducible repeat (first | refine blk_drewN ?_ _ | refine blk_drew ?_ | refine blk_alloc ?_ _)); exact BK380.out) hkp (fun hs_ => Or.elim hs_ (fun e_ => (fun e_ => (Kd.R_ne HO_425006.out BK380.out (by decide)) e_) e_) (fun h_ => Or.elim h_ (fun e_ => (Kd.R_ne HO_425007.out BK380.out (by decide)) e_) (fun g_ => NB380_424.out g_)))); have n2_ := Aside0.mk hbk; have n3_ := Aside0.mk (Kd.R_mono (ok' := fun k_ => some k_ ≠ (v440 : Value).ownBlock ∧ some k_ ≠ (v393 : Value).ownBlock) ho0 (fun k_ hk_ => ⟨hk_.2, Or.elim hk_.1 (fun hs_ => Or.elim hs_ (fun hs_ => fun e_ => (((HO_9.out).1 k_ e_.symm).1) hs_) (fun h_ => Or.elim h_ (fun hs_ => fun e_ => (((HO_9.out).1 k_ e_.symm).2) hs_) (fun g_ => fun e_ => Kd.R_ne HO_9.out BK424.out (by decide) ((congrArg some g_).symm.trans e_)))) (fun hn_ => (Kd.fresh' (Kd.R_lt (by (with_reducible repeat (first | apply Kd.R_alloc | apply Kd.R_drewN | apply Kd.R_drew)); exact HO_9.out)) k_ hn_))⟩)); have n4_ := Aside0.mk (Kd.R_mono (ok' := fun k_ => some k_ ≠ (v437 : Value).ownBlock ∧ some k_ ≠ (v393 : Value).ownBlock) ho1 (fun k_ hk_ => ⟨hk_.2, Or.elim hk_.1 (fun hs_ => Or.elim hs_ (fun hs_ => fun e_ => (((HO_9.out).1 k_ e_.symm).1) hs_) (fun h_ => Or.elim h_ (fun hs_ => fun e_ => (((HO_9.out).1 k_ e_.symm).2) hs_) (fun g_ => fun e_ => Kd.R_ne HO_9.out BK424.out (by decide) ((congrArg some g_).symm.trans e_)))) (fun hn_ => (Kd.fresh' (Kd.R_lt (by (with_reducible repeat (first | apply Kd.R_alloc | apply Kd.R_drewN | apply Kd.R_drew)); exact HO_9.out)) k_ hn_))⟩)); have n5_ := Aside0.mk (hb); clear HO_9; clear BK380; clear BK424; clear HB; clear HO_425006; clear HO_425007; have HO_9 := n0_; have BK380 := n1_; have BK424 := n2_; have HO438 := n3_; have HO441 := n4_; have HB := n5_; clear n0_ n1_ n2_ n3_ n4_ n5_; (try clear hb); (try clear hkp); (try clear hbk); (try clear ho0); (try clear ho1); obtain ⟨Ao63, co63, eo63⟩ := Kd.R_slice HO438.out; subst eo63; obtain ⟨Ao64, co64, eo64⟩ := Kd.R_slice HO441.out; subst eo64; have hcz65_0 : w61.cell? ⟨gb380, 0, none⟩ = some (.int .i64 a0_0) := (blk_cell BK380.out 0).trans rfl; have hcz65_1 : w61.cell? ⟨gb380, 1, none⟩ = some (.int .i64 a0_1) := (blk_cell BK380.out 1).trans rfl; have hcz65_2 : w61.cell? ⟨gb380, 2, none⟩ = some (.int .i64 a0_2) := (blk_cell BK380.out 2).trans rfl; have hcz65_3 : w61.cell? ⟨gb380, 3, none⟩ = some (.int .i64 a0_3) := (blk_cell BK380.out 3).trans rfl; have hcz65_4 : w61.cell? ⟨gb380, 4, none⟩ = some (.int .i64 a0_4) := (blk_cell BK380.out 4).trans rfl; have hcz65_5 : w61.cell? ⟨gb380, 5, none⟩ = some (.int .i64 a0_5) := (blk_cell BK380.out 5).trans rfl; have hfz65_0 := blk_frozen BK380.out 0; have hfz65_1 := blk_frozen BK380.out 1; have hfz65_2 := blk_frozen BK380.out 2; have hfz65_3 := blk_frozen BK380.out 3; have hfz65_4 := blk_frozen BK380.out 4; have hfz65_5 := blk_frozen BK380.out 5) | ((with_reducible refine gate_callee (f := 34) rfl ?_); refine goesL_ (some 90) rfl rfl Try.func34 (by kernel_rfl) rfl #[.agg #[.int .i64 a0_0, .int .i64 a0_1, .int .i64 a0_2, .int .i64 a0_3, .int .i64 a0_4, .int .i64 a0_5]] rfl (by (try simp only [List.map_toArray, List.map_cons, List.map_nil]); first | done | rfl | (simp only [List.length_drop, List.length_take]; rfl)) ?_; (with_reducible refine (strongboxref4_MayHead.calls a0_0 a0_1 a0_2 a0_3 a0_4 a0_5 true _ A53.out).mono ?_); rintro e w66 ⟨rfl, hb⟩; refine ⟨_, rfl, ?_⟩; have n0_ := Aside0.mk (Kd.R_below (by (with_reducible repeat (first | apply Kd.R_alloc | apply Kd.R_drewN | apply Kd.R_drew)); exact (Kd.R_mono (Kd.R_types HO_9.out BK424.out (by decide)) (fun _ h_ => h_.1))) hb); have n1_ := Aside0.mk (Kd.R_below (by (with_reducible repeat (first | apply Kd.R_alloc | apply Kd.R_drewN | apply Kd.R_drew)); exact (Kd.R_mono (Kd.R_types HO438.out BK424.out (by decide)) (fun _ h_ => h_.1))) hb); have n2_ := Aside0.mk (Kd.R_below (by (with_reducible repeat (first | apply Kd.R_alloc | apply Kd.R_drewN | apply Kd.R_drew)); exact (Kd.R_mono (Kd.R_types HO441.out BK424.out (by decide)) (fun _ h_ => h_.1))) hb); have n3_ := Aside0.mk (blk_below (g := gb380) (o := .cells #[.int .i64 a0_0, .int .i64 a0_1, .int .i64 a0_2, .int .i64 a0_3, .int .i64 a0_4, .int .i64 a0_5] 27 (0, 0)) (by (with_reducible repeat (first | refine blk_drewN ?_ _ | refine blk_drew ?_ | refine blk_alloc ?_ _)); exact BK380.out) hb); have n4_ := Aside0.mk (blk_below (g := gb424) (o := .cells #[.int .i64 t430, .int .i64 t431, .int .i64 t432, .int .i64 t433, .int .i64 t434, .int .i64 t435, .slice Ao63 t436.length co63, .slice Ao64 t439.length co64, .int .i64 t442, .bool t443] 105 (0, 0)) (by (with_reducible repeat (first | refine blk_drewN ?_ _ | refine blk_drew ?_ | refine blk_alloc ?_ _)); exact BK424.out) hb); have n5_ := Aside0.mk (below_step (by repeat (first | (with_reducible first | exact HB.out | apply below_alloc | apply pw_below_drewN | apply below_drew1 | refine below_set ?_ GE380.out | refine below_set ?_ GE424.out) | exact HB.out)) hb); clear HO_9; clear HO438; clear HO441; clear BK380; clear BK424; clear HB; have HO_9 := n0_; have HO438 := n1_; have HO441 := n2_; have BK380 := n3_; have BK424 := n4_; have HB := n5_; clear n0_ n1_ n2_ n3_ n4_ n5_; (try clear hb); (try clear hb2); (try clear hk); (try clear hi); have hcz67_0 : w66.cell? ⟨gb380, 0, none⟩ = some (.int .i64 a0_0) := (blk_cell BK380.out 0).trans rfl; have hcz67_1 : w66.cell? ⟨gb380, 1, none⟩ = some (.int .i64 a0_1) := (blk_cell BK380.out 1).trans rfl; have hcz67_2 : w66.cell? ⟨gb380, 2, none⟩ = some (.int .i64 a0_2) := (blk_cell BK380.out 2).trans rfl; have hcz67_3 : w66.cell? ⟨gb380, 3, none⟩ = some (.int .i64 a0_3) := (blk_cell BK380.out 3).trans rfl; have hcz67_4 : w66.cell? ⟨gb380, 4, none⟩ = some (.int .i64 a0_4) := (blk_cell BK380.out 4).trans rfl; have hcz67_5 : w66.cell? ⟨gb380, 5, none⟩ = some (.int .i64 a0_5) := (blk_cell BK380.out 5).trans rfl; have hfz67_0 := blk_frozen BK380.out 0; have hfz67_1 := blk_frozen BK380.out 1; have hfz67_2 := blk_frozen BK380.out 2; have hfz67_3 := blk_frozen BK380.out 3; have hfz67_4 := blk_frozen BK380.out 4; have hfz67_5 := blk_frozen BK380.out 5))
                 go_ret
                 exact ⟨by first | rfl | (simp [errW_none, errW_some] <;> rfl) | (simp only [← hji48]; first | rfl | (simp [errW_none, errW_some] <;> rfl)) | (simp [*, errW_none, errW_some] <;> rfl), by repeat (first | (with_reducible first | exact HB.out | apply below_alloc | apply pw_below_drewN | apply below_drew1 | refine below_set ?_ GE380.out | refine below_set ?_ GE424.out) | exact HB.out)⟩
                ·rw [if_neg c55] at H
                 have c55b0 : decide (a0_4 < (wrap64 (x12_3 + (ji48)))) = false := decide_eq_false c55
                 clear c55
                 by_cases c68 : t444 = 0
                 ·rw [if_pos c68] at H
                  have c68b0 : (t444 == 0) = true := beq_iff_eq.mpr c68
                  have c68b1 : (t444 != 0) = false := bne_eq_false_iff_eq.mpr c68
                  clear c68
                  have H' := Aside0.mk H
                  clear H
                  have p425 : 0 ≤ (x13_3 : Int) := of_decide_eq_true (by first | (with_reducible assumption) | assumption)
                  have q425 : x13_3 < (l2.length : Int) := of_decide_eq_true (by first | (with_reducible assumption) | assumption)
                  obtain ⟨ad425, e425, hx425_0⟩ := Kd.at_int HR2.out x13_3 p425 q425
                  cases e425
                  replace hx425_0 := (HB.out.cell (World.block_lt_of_cell? w _ hx425_0)).trans hx425_0
                  replace p425 := eq_true p425
                  replace q425 := eq_true q425
                  have hnb69 := NB424_380.out
                  have hnc69 := NB380_424.out
                  have q71 : ((wrap64 (x12_3 + (ji48))) : Int) ≤ ((l1.length : Int) : Int) := of_decide_eq_true (by first | (with_reducible assumption) | assumption)
                  obtain ⟨i071, hi071, _, hsz71, _⟩ := info_parts info5
                  have hroom71 : l1.length ≤ c1 := HC1.out
                  have hC71 : Kd.C (Kd.int .u8) _ A1 l1.length l1 := HR1.out
                  have ql71 : (x12_3 : Int) ≤ ((wrap64 (x12_3 + (ji48))) : Int) := of_decide_eq_true (by first | (with_reducible assumption) | assumption)
                  have q071 : (0 : Int) ≤ (x12_3 : Int) := of_decide_eq_true (by first | (with_reducible assumption) | assumption)
                  have hcut71 := cut_mid (P := Try.prog) 22 5 .i64 .i64 Try.underlying22 hi071 1 hsz71 A1 l1.length c1 x12_3 (wrap64 (x12_3 + (ji48))) q071 ql71 q71 hroom71
                  have hr71 := Kd.C_mid (lo := (x12_3 : Int).toNat) (hi := ((wrap64 (x12_3 + (ji48))) : Int).toNat) (c := c1) hC71 (by omega) (by omega) hroom71
                  obtain ⟨A71, hA71⟩ : ∃ A1_, A1_ = (if c1 = (x12_3 : Int).toNat then A1 else (A1 : Option Addr).map (·.add ((x12_3 : Int).toNat * 1))) := ⟨_, rfl⟩
                  obtain ⟨c71, hc71⟩ : ∃ c1_, c1_ = c1 - (x12_3 : Int).toNat := ⟨_, rfl⟩
                  have hy71 : y426.length = ((wrap64 (x12_3 + (ji48))) : Int).toNat - (x12_3 : Int).toNat := (by rw [Ny426.out, List.length_drop, List.length_take] <;> omega)
                  rw [show ((l1).take ((wrap64 (x12_3 + (ji48))) : Int).toNat).drop (x12_3 : Int).toNat = y426 from Ny426.out.symm] at hr71
                  replace hr71 : Kd.C (Kd.int .u8) _ A71 y426.length y426 := (by rw [hA71]; exact hr71)
                  rw [← hy71, ← hA71, ← hc71] at hcut71
                  have HR429 := Aside0.mk hr71
                  have HC429 := Aside0.mk (show y426.length ≤ c71 from by rw [hy71, hc71]; exact Nat.sub_le_sub_right (Nat.le_trans (by omega) hroom71) _)
                  clear hr71 hC71 hroom71 hi071 hsz71 hc71
                  have KY71 := Aside0.mk hy71
                  have KA71 := Aside0.mk hA71
                  clear hy71 hA71
                  replace q71 := eq_true q71
                  obtain ⟨Ao72, co72, eo72⟩ := Kd.R_slice HO_425006.out
                  subst eo72
                  obtain ⟨Ao73, co73, eo73⟩ := Kd.R_slice HO_425007.out
                  subst eo73
                  go_wp2_with (first | ((with_reducible refine gate_callee (f := 36) rfl ?_); refine goesL_ (some 88) rfl rfl Try.func36 (by kernel_rfl) rfl #[.pointer (some ⟨gb424, 0, none⟩), .slice A71 y426.length c71] rfl (by (try simp only [List.map_toArray, List.map_cons, List.map_nil]); first | done | rfl | (simp only [List.length_drop, List.length_take]; rfl)) ?_; (with_reducible refine (shard_Writer_Add.calls k3 x425000_3 x425001_3 x425002_3 x425003_3 x425004_3 x425005_3 (fun k_ => some k_ = (.slice Ao72 x425006_3.length co72 : Value).ownBlock) (.slice Ao72 x425006_3.length co72) x425006_3 (fun k_ => some k_ = (.slice Ao73 x425007_3.length co73 : Value).ownBlock ∨ k_ = gb424) (.slice Ao73 x425007_3.length co73) x425007_3 x425008_3 x425009_3 (fun k_ => k_ < w.heap.size) _ _ y426 t430 t431 t432 t433 t434 t435 t436 t439 t442 t443 t444 w _ ?side1 ?side2 ?side3 ?side4 ?side5 ?side6 gb424 (by (with_reducible repeat (first | refine blk_drewN ?_ _ | refine blk_drew ?_ | refine blk_alloc ?_ _)); exact BK424.out) ?sideg (Or.inr rfl) ?siden A52.out).mono ?_); (case side1 => repeat (first | (with_reducible first | exact HB.out | apply below_alloc | apply pw_below_drewN | apply below_drew1 | refine below_set ?_ GE380.out | refine below_set ?_ GE424.out) | exact HB.out)); (case side2 => exact Kd.R_tight rfl HO_425006.out); (case side3 => exact fun k_ e_ h_ => Or.elim h_ ((HO_425006.out.1 k_ e_.symm).2) (fun g_ => (fun (g_ : k_ = gb424) e2_ => Kd.R_ne HO_425006.out BK424.out (by decide) ((congrArg some g_).symm.trans e2_)) g_ e_)); (case side4 => exact Kd.R_mono (Kd.R_tight rfl HO_425007.out) (fun _ h_ => .inl h_)); (case side5 => exact fun k_ h_ => Or.elim h_ (fun e_ => (HO_425007.out.1 k_ e_.symm).2) (fun g_ => (fun (g_ : k_ = gb424) e2_ => Kd.R_ne HO_425006.out BK424.out (by decide) ((congrArg some g_).symm.trans e2_)) g_)); (case side6 => exact Kd.V_mono (Kd.V_mk HC429.out (Kd.F_below (Kd.C_F (Kd.heap_int .u8) HR429.out) (by repeat (first | (with_reducible first | exact HB.out | apply below_alloc | apply pw_below_drewN | apply below_drew1 | refine below_set ?_ GE380.out | refine below_set ?_ GE424.out) | exact HB.out)))) (fun k_ hk_ => ⟨hk_, fun e_ => Nat.not_le.2 hk_ (Kd.R_base HO_425006.out k_ e_.symm), fun e_ => Nat.not_le.2 hk_ (Kd.R_base HO_425007.out k_ e_.symm)⟩)); (case sideg => exact GE424.out); (case siden => exact fun k_ hk_ e_ => Nat.not_le.2 hk_ (e_ ▸ GE424.out)); rintro e w74 ⟨v437, v440, rfl, hbk, ho0, ho1, hb, hkp⟩; refine ⟨_, rfl, ?_⟩; have n0_ := Aside0.mk (Kd.R_mono (ok' := fun k_ => some k_ ≠ (v437 : Value).ownBlock ∧ some k_ ≠ (v440 : Value).ownBlock) (Kd.R_keptB (Kd.R_types HO_9.out BK424.out (by decide)) hkp (fun k_ hk_ hs_ => Or.elim hs_ (fun e_ => (hk_.1.1) e_) (fun h_ => Or.elim h_ (fun e_ => (hk_.1.2) e_) (fun g_ => hk_.2 g_)))) (fun k_ hk_ => ⟨fun e_ => Or.elim (ho0.1 k_ e_.symm).1 (fun hs_ => hk_.2.1 hs_) (fun hn_ => Nat.not_le.2 hk_.2.2 hn_), fun e_ => Or.elim (ho1.1 k_ e_.symm).1 (fun hs_ => hk_.2.1 hs_) (fun hn_ => Nat.not_le.2 hk_.2.2 hn_)⟩)); have n1_ := Aside0.mk (blk_kept (by (with_reducible repeat (first | refine blk_drewN ?_ _ | refine blk_drew ?_ | refine blk_alloc ?_ _)); exact BK380.out) hkp (fun hs_ => Or.elim hs_ (fun e_ => (fun e_ => (Kd.R_ne HO_425006.out BK380.out (by decide)) e_) e_) (fun h_ => Or.elim h_ (fun e_ => (Kd.R_ne HO_425007.out BK380.out (by decide)) e_) (fun g_ => NB380_424.out g_)))); have n2_ := Aside0.mk hbk; have n3_ := Aside0.mk (Kd.R_mono (ok' := fun k_ => some k_ ≠ (v440 : Value).ownBlock ∧ some k_ ≠ (v393 : Value).ownBlock) ho0 (fun k_ hk_ => ⟨hk_.2, Or.elim hk_.1 (fun hs_ => Or.elim hs_ (fun hs_ => fun e_ => (((HO_9.out).1 k_ e_.symm).1) hs_) (fun h_ => Or.elim h_ (fun hs_ => fun e_ => (((HO_9.out).1 k_ e_.symm).2) hs_) (fun g_ => fun e_ => Kd.R_ne HO_9.out BK424.out (by decide) ((congrArg some g_).symm.trans e_)))) (fun hn_ => (Kd.fresh' (Kd.R_lt (by (with_reducible repeat (first | apply Kd.R_alloc | apply Kd.R_drewN | apply Kd.R_drew)); exact HO_9.out)) k_ hn_))⟩)); have n4_ := Aside0.mk (Kd.R_mono (ok' := fun k_ => some k_ ≠ (v437 : Value).ownBlock ∧ some k_ ≠ (v393 : Value).ownBlock) ho1 (fun k_ hk_ => ⟨hk_.2, Or.elim hk_.1 (fun hs_ => Or.elim hs_ (fun hs_ => fun e_ => (((HO_9.out).1 k_ e_.symm).1) hs_) (fun h_ => Or.elim h_ (fun hs_ => fun e_ => (((HO_9.out).1 k_ e_.symm).2) hs_) (fun g_ => fun e_ => Kd.R_ne HO_9.out BK424.out (by decide) ((congrArg some g_).symm.trans e_)))) (fun hn_ => (Kd.fresh' (Kd.R_lt (by (with_reducible repeat (first | apply Kd.R_alloc | apply Kd.R_drewN | apply Kd.R_drew)); exact HO_9.out)) k_ hn_))⟩)); have n5_ := Aside0.mk (hb); clear HO_9; clear BK380; clear BK424; clear HB; clear HO_425006; clear HO_425007; have HO_9 := n0_; have BK380 := n1_; have BK424 := n2_; have HO438 := n3_; have HO441 := n4_; have HB := n5_; clear n0_ n1_ n2_ n3_ n4_ n5_; (try clear hb); (try clear hkp); (try clear hbk); (try clear ho0); (try clear ho1); obtain ⟨Ao76, co76, eo76⟩ := Kd.R_slice HO438.out; subst eo76; obtain ⟨Ao77, co77, eo77⟩ := Kd.R_slice HO441.out; subst eo77; have hcz78_0 : w74.cell? ⟨gb380, 0, none⟩ = some (.int .i64 a0_0) := (blk_cell BK380.out 0).trans rfl; have hcz78_1 : w74.cell? ⟨gb380, 1, none⟩ = some (.int .i64 a0_1) := (blk_cell BK380.out 1).trans rfl; have hcz78_2 : w74.cell? ⟨gb380, 2, none⟩ = some (.int .i64 a0_2) := (blk_cell BK380.out 2).trans rfl; have hcz78_3 : w74.cell? ⟨gb380, 3, none⟩ = some (.int .i64 a0_3) := (blk_cell BK380.out 3).trans rfl; have hcz78_4 : w74.cell? ⟨gb380, 4, none⟩ = some (.int .i64 a0_4) := (blk_cell BK380.out 4).trans rfl; have hcz78_5 : w74.cell? ⟨gb380, 5, none⟩ = some (.int .i64 a0_5) := (blk_cell BK380.out 5).trans rfl; have hfz78_0 := blk_frozen BK380.out 0; have hfz78_1 := blk_frozen BK380.out 1; have hfz78_2 := blk_frozen BK380.out 2; have hfz78_3 := blk_frozen BK380.out 3; have hfz78_4 := blk_frozen BK380.out 4; have hfz78_5 := blk_frozen BK380.out 5) | ((with_reducible refine gate_callee (f := 34) rfl ?_); refine goesL_ (some 90) rfl rfl Try.func34 (by kernel_rfl) rfl #[.agg #[.int .i64 a0_0, .int .i64 a0_1, .int .i64 a0_2, .int .i64 a0_3, .int .i64 a0_4, .int .i64 a0_5]] rfl (by (try simp only [List.map_toArray, List.map_cons, List.map_nil]); first | done | rfl | (simp only [List.length_drop, List.length_take]; rfl)) ?_; (with_reducible refine (strongboxref4_MayHead.calls a0_0 a0_1 a0_2 a0_3 a0_4 a0_5 true _ A53.out).mono ?_); rintro e w79 ⟨rfl, hb⟩; refine ⟨_, rfl, ?_⟩; have n0_ := Aside0.mk (Kd.R_below (by (with_reducible repeat (first | apply Kd.R_alloc | apply Kd.R_drewN | apply Kd.R_drew)); exact (Kd.R_mono (Kd.R_types HO_9.out BK424.out (by decide)) (fun _ h_ => h_.1))) hb); have n1_ := Aside0.mk (Kd.R_below (by (with_reducible repeat (first | apply Kd.R_alloc | apply Kd.R_drewN | apply Kd.R_drew)); exact (Kd.R_mono (Kd.R_types HO438.out BK424.out (by decide)) (fun _ h_ => h_.1))) hb); have n2_ := Aside0.mk (Kd.R_below (by (with_reducible repeat (first | apply Kd.R_alloc | apply Kd.R_drewN | apply Kd.R_drew)); exact (Kd.R_mono (Kd.R_types HO441.out BK424.out (by decide)) (fun _ h_ => h_.1))) hb); have n3_ := Aside0.mk (blk_below (g := gb380) (o := .cells #[.int .i64 a0_0, .int .i64 a0_1, .int .i64 a0_2, .int .i64 a0_3, .int .i64 a0_4, .int .i64 a0_5] 27 (0, 0)) (by (with_reducible repeat (first | refine blk_drewN ?_ _ | refine blk_drew ?_ | refine blk_alloc ?_ _)); exact BK380.out) hb); have n4_ := Aside0.mk (blk_below (g := gb424) (o := .cells #[.int .i64 t430, .int .i64 t431, .int .i64 t432, .int .i64 t433, .int .i64 t434, .int .i64 t435, .slice Ao76 t436.length co76, .slice Ao77 t439.length co77, .int .i64 t442, .bool t443] 105 (0, 0)) (by (with_reducible repeat (first | refine blk_drewN ?_ _ | refine blk_drew ?_ | refine blk_alloc ?_ _)); exact BK424.out) hb); have n5_ := Aside0.mk (below_step (by repeat (first | (with_reducible first | exact HB.out | apply below_alloc | apply pw_below_drewN | apply below_drew1 | refine below_set ?_ GE380.out | refine below_set ?_ GE424.out) | exact HB.out)) hb); clear HO_9; clear HO438; clear HO441; clear BK380; clear BK424; clear HB; have HO_9 := n0_; have HO438 := n1_; have HO441 := n2_; have BK380 := n3_; have BK424 := n4_; have HB := n5_; clear n0_ n1_ n2_ n3_ n4_ n5_; (try clear hb); (try clear hb2); (try clear hk); (try clear hi); have hcz80_0 : w79.cell? ⟨gb380, 0, none⟩ = some (.int .i64 a0_0) := (blk_cell BK380.out 0).trans rfl; have hcz80_1 : w79.cell? ⟨gb380, 1, none⟩ = some (.int .i64 a0_1) := (blk_cell BK380.out 1).trans rfl; have hcz80_2 : w79.cell? ⟨gb380, 2, none⟩ = some (.int .i64 a0_2) := (blk_cell BK380.out 2).trans rfl; have hcz80_3 : w79.cell? ⟨gb380, 3, none⟩ = some (.int .i64 a0_3) := (blk_cell BK380.out 3).trans rfl; have hcz80_4 : w79.cell? ⟨gb380, 4, none⟩ = some (.int .i64 a0_4) := (blk_cell BK380.out 4).trans rfl; have hcz80_5 : w79.cell? ⟨gb380, 5, none⟩ = some (.int .i64 a0_5) := (blk_cell BK380.out 5).trans rfl; have hfz80_0 := blk_frozen BK380.out 0; have hfz80_1 := blk_frozen BK380.out 1; have hfz80_2 := blk_frozen BK380.out 2; have hfz80_3 := blk_frozen BK380.out 3; have hfz80_4 := blk_frozen BK380.out 4; have hfz80_5 := blk_frozen BK380.out 5))
                  go_roundg k3
                  case measure => have := HJ5.out; have := HJ13.out; have := HK3.out; omega
                  case rel => exact ⟨(wrap64 (x12_3 + (ji48))), (wrap64 (x13_3 + 1)), (t430), (t431), (t432), (t433), (t434), (t435), (t436), (t439), (t442), (t443), (.slice Ao76 t436.length co76), (.slice Ao77 t439.length co77), (by first | rfl | (simp; done) | (simp only [← hji48] <;> (first | rfl | simp)) | (simp [*]; done)), (by first | rfl | (simp; done) | (simp [*]; done)), H', ⟨by have := HJ5.out; have := HJ13.out; have := HK3.out; omega⟩, ⟨by (with_reducible repeat (first | apply Kd.R_alloc | apply Kd.R_drewN | apply Kd.R_drew)); exact HO_9.out⟩, ⟨by (with_reducible repeat (first | apply Kd.R_alloc | apply Kd.R_drewN | apply Kd.R_drew)); exact Kd.R_mono HO438.out (fun _ hk => ⟨hk.2, hk.1⟩)⟩, ⟨by (with_reducible repeat (first | apply Kd.R_alloc | apply Kd.R_drewN | apply Kd.R_drew)); exact Kd.R_mono HO441.out (fun _ hk => ⟨hk.2, hk.1⟩)⟩, ⟨by (with_reducible repeat (first | refine blk_drewN ?_ _ | refine blk_drew ?_ | refine blk_alloc ?_ _)); exact BK380.out⟩, ⟨by (with_reducible repeat (first | refine blk_drewN ?_ _ | refine blk_drew ?_ | refine blk_alloc ?_ _)); exact BK424.out⟩, ⟨by repeat (first | (with_reducible first | exact HB.out | apply below_alloc | apply pw_below_drewN | apply below_drew1 | refine below_set ?_ GE380.out | refine below_set ?_ GE424.out) | exact HB.out)⟩⟩
                 ·rw [if_neg c68] at H
                  exact absurd H (by simp)
               ·replace c54 := Bool.eq_false_iff.mpr c54
                subst c54
                have H1 : (some (t444 == 1)) = some r := by rw [if_neg (show ¬ (false = true) by decide)] at H; exact H
                clear H
                have H := H1
                clear H1
                obtain rfl := Option.some.inj H
                have p425 : 0 ≤ (x13_3 : Int) := of_decide_eq_true (by first | (with_reducible assumption) | assumption)
                have q425 : x13_3 < (l2.length : Int) := of_decide_eq_true (by first | (with_reducible assumption) | assumption)
                obtain ⟨ad425, e425, hx425_0⟩ := Kd.at_int HR2.out x13_3 p425 q425
                cases e425
                replace hx425_0 := (HB.out.cell (World.block_lt_of_cell? w _ hx425_0)).trans hx425_0
                replace p425 := eq_true p425
                replace q425 := eq_true q425
                have hnb93 := NB424_380.out
                have hnc93 := NB380_424.out
                have q95 : ((wrap64 (x12_3 + (ji48))) : Int) ≤ ((l1.length : Int) : Int) := of_decide_eq_true (by first | (with_reducible assumption) | assumption)
                obtain ⟨i095, hi095, _, hsz95, _⟩ := info_parts info5
                have hroom95 : l1.length ≤ c1 := HC1.out
                have hC95 : Kd.C (Kd.int .u8) _ A1 l1.length l1 := HR1.out
                have ql95 : (x12_3 : Int) ≤ ((wrap64 (x12_3 + (ji48))) : Int) := of_decide_eq_true (by first | (with_reducible assumption) | assumption)
                have q095 : (0 : Int) ≤ (x12_3 : Int) := of_decide_eq_true (by first | (with_reducible assumption) | assumption)
                have hcut95 := cut_mid (P := Try.prog) 22 5 .i64 .i64 Try.underlying22 hi095 1 hsz95 A1 l1.length c1 x12_3 (wrap64 (x12_3 + (ji48))) q095 ql95 q95 hroom95
                have hr95 := Kd.C_mid (lo := (x12_3 : Int).toNat) (hi := ((wrap64 (x12_3 + (ji48))) : Int).toNat) (c := c1) hC95 (by omega) (by omega) hroom95
                obtain ⟨A95, hA95⟩ : ∃ A1_, A1_ = (if c1 = (x12_3 : Int).toNat then A1 else (A1 : Option Addr).map (·.add ((x12_3 : Int).toNat * 1))) := ⟨_, rfl⟩
                obtain ⟨c95, hc95⟩ : ∃ c1_, c1_ = c1 - (x12_3 : Int).toNat := ⟨_, rfl⟩
                have hy95 : y426.length = ((wrap64 (x12_3 + (ji48))) : Int).toNat - (x12_3 : Int).toNat := (by rw [Ny426.out, List.length_drop, List.length_take] <;> omega)
                rw [show ((l1).take ((wrap64 (x12_3 + (ji48))) : Int).toNat).drop (x12_3 : Int).toNat = y426 from Ny426.out.symm] at hr95
                replace hr95 : Kd.C (Kd.int .u8) _ A95 y426.length y426 := (by rw [hA95]; exact hr95)
                rw [← hy95, ← hA95, ← hc95] at hcut95
                have HR429 := Aside0.mk hr95
                have HC429 := Aside0.mk (show y426.length ≤ c95 from by rw [hy95, hc95]; exact Nat.sub_le_sub_right (Nat.le_trans (by omega) hroom95) _)
                clear hr95 hC95 hroom95 hi095 hsz95 hc95
                have KY95 := Aside0.mk hy95
                have KA95 := Aside0.mk hA95
                clear hy95 hA95
                replace q95 := eq_true q95
                obtain ⟨Ao96, co96, eo96⟩ := Kd.R_slice HO_425006.out
                subst eo96
                obtain ⟨Ao97, co97, eo97⟩ := Kd.R_slice HO_425007.out
                subst eo97
                go_wp2_with (first | ((with_reducible refine gate_callee (f := 36) rfl ?_); refine goesL_ (some 88) rfl rfl Try.func36 (by kernel_rfl) rfl #[.pointer (some ⟨gb424, 0, none⟩), .slice A95 y426.length c95] rfl (by (try simp only [List.map_toArray, List.map_cons, List.map_nil]); first | done | rfl | (simp only [List.length_drop, List.length_take]; rfl)) ?_; (with_reducible refine (shard_Writer_Add.calls k3 x425000_3 x425001_3 x425002_3 x425003_3 x425004_3 x425005_3 (fun k_ => some k_ = (.slice Ao96 x425006_3.length co96 : Value).ownBlock) (.slice Ao96 x425006_3.length co96) x425006_3 (fun k_ => some k_ = (.slice Ao97 x425007_3.length co97 : Value).ownBlock ∨ k_ = gb424) (.slice Ao97 x425007_3.length co97) x425007_3 x425008_3 x425009_3 (fun k_ => k_ < w.heap.size) _ _ y426 t430 t431 t432 t433 t434 t435 t436 t439 t442 t443 t444 w _ ?side1 ?side2 ?side3 ?side4 ?side5 ?side6 gb424 (by (with_reducible repeat (first | refine blk_drewN ?_ _ | refine blk_drew ?_ | refine blk_alloc ?_ _)); exact BK424.out) ?sideg (Or.inr rfl) ?siden A52.out).mono ?_); (case side1 => repeat (first | (with_reducible first | exact HB.out | apply below_alloc | apply pw_below_drewN | apply below_drew1 | refine below_set ?_ GE380.out | refine below_set ?_ GE424.out) | exact HB.out)); (case side2 => exact Kd.R_tight rfl HO_425006.out); (case side3 => exact fun k_ e_ h_ => Or.elim h_ ((HO_425006.out.1 k_ e_.symm).2) (fun g_ => (fun (g_ : k_ = gb424) e2_ => Kd.R_ne HO_425006.out BK424.out (by decide) ((congrArg some g_).symm.trans e2_)) g_ e_)); (case side4 => exact Kd.R_mono (Kd.R_tight rfl HO_425007.out) (fun _ h_ => .inl h_)); (case side5 => exact fun k_ h_ => Or.elim h_ (fun e_ => (HO_425007.out.1 k_ e_.symm).2) (fun g_ => (fun (g_ : k_ = gb424) e2_ => Kd.R_ne HO_425006.out BK424.out (by decide) ((congrArg some g_).symm.trans e2_)) g_)); (case side6 => exact Kd.V_mono (Kd.V_mk HC429.out (Kd.F_below (Kd.C_F (Kd.heap_int .u8) HR429.out) (by repeat (first | (with_reducible first | exact HB.out | apply below_alloc | apply pw_below_drewN | apply below_drew1 | refine below_set ?_ GE380.out | refine below_set ?_ GE424.out) | exact HB.out)))) (fun k_ hk_ => ⟨hk_, fun e_ => Nat.not_le.2 hk_ (Kd.R_base HO_425006.out k_ e_.symm), fun e_ => Nat.not_le.2 hk_ (Kd.R_base HO_425007.out k_ e_.symm)⟩)); (case sideg => exact GE424.out); (case siden => exact fun k_ hk_ e_ => Nat.not_le.2 hk_ (e_ ▸ GE424.out)); rintro e w98 ⟨v437, v440, rfl, hbk, ho0, ho1, hb, hkp⟩; refine ⟨_, rfl, ?_⟩; have n0_ := Aside0.mk (Kd.R_mono (ok' := fun k_ => some k_ ≠ (v437 : Value).ownBlock ∧ some k_ ≠ (v440 : Value).ownBlock) (Kd.R_keptB (Kd.R_types HO_9.out BK424.out (by decide)) hkp (fun k_ hk_ hs_ => Or.elim hs_ (fun e_ => (hk_.1.1) e_) (fun h_ => Or.elim h_ (fun e_ => (hk_.1.2) e_) (fun g_ => hk_.2 g_)))) (fun k_ hk_ => ⟨fun e_ => Or.elim (ho0.1 k_ e_.symm).1 (fun hs_ => hk_.2.1 hs_) (fun hn_ => Nat.not_le.2 hk_.2.2 hn_), fun e_ => Or.elim (ho1.1 k_ e_.symm).1 (fun hs_ => hk_.2.1 hs_) (fun hn_ => Nat.not_le.2 hk_.2.2 hn_)⟩)); have n1_ := Aside0.mk (blk_kept (by (with_reducible repeat (first | refine blk_drewN ?_ _ | refine blk_drew ?_ | refine blk_alloc ?_ _)); exact BK380.out) hkp (fun hs_ => Or.elim hs_ (fun e_ => (fun e_ => (Kd.R_ne HO_425006.out BK380.out (by decide)) e_) e_) (fun h_ => Or.elim h_ (fun e_ => (Kd.R_ne HO_425007.out BK380.out (by decide)) e_) (fun g_ => NB380_424.out g_)))); have n2_ := Aside0.mk hbk; have n3_ := Aside0.mk (Kd.R_mono (ok' := fun k_ => some k_ ≠ (v440 : Value).ownBlock ∧ some k_ ≠ (v393 : Value).ownBlock) ho0 (fun k_ hk_ => ⟨hk_.2, Or.elim hk_.1 (fun hs_ => Or.elim hs_ (fun hs_ => fun e_ => (((HO_9.out).1 k_ e_.symm).1) hs_) (fun h_ => Or.elim h_ (fun hs_ => fun e_ => (((HO_9.out).1 k_ e_.symm).2) hs_) (fun g_ => fun e_ => Kd.R_ne HO_9.out BK424.out (by decide) ((congrArg some g_).symm.trans e_)))) (fun hn_ => (Kd.fresh' (Kd.R_lt (by (with_reducible repeat (first | apply Kd.R_alloc | apply Kd.R_drewN | apply Kd.R_drew)); exact HO_9.out)) k_ hn_))⟩)); have n4_ := Aside0.mk (Kd.R_mono (ok' := fun k_ => some k_ ≠ (v437 : Value).ownBlock ∧ some k_ ≠ (v393 : Value).ownBlock) ho1 (fun k_ hk_ => ⟨hk_.2, Or.elim hk_.1 (fun hs_ => Or.elim hs_ (fun hs_ => fun e_ => (((HO_9.out).1 k_ e_.symm).1) hs_) (fun h_ => Or.elim h_ (fun hs_ => fun e_ => (((HO_9.out).1 k_ e_.symm).2) hs_) (fun g_ => fun e_ => Kd.R_ne HO_9.out BK424.out (by decide) ((congrArg some g_).symm.trans e_)))) (fun hn_ => (Kd.fresh' (Kd.R_lt (by (with_reducible repeat (first | apply Kd.R_alloc | apply Kd.R_drewN | apply Kd.R_drew)); exact HO_9.out)) k_ hn_))⟩)); have n5_ := Aside0.mk (hb); clear HO_9; clear BK380; clear BK424; clear HB; clear HO_425006; clear HO_425007; have HO_9 := n0_; have BK380 := n1_; have BK424 := n2_; have HO438 := n3_; have HO441 := n4_; have HB := n5_; clear n0_ n1_ n2_ n3_ n4_ n5_; (try clear hb); (try clear hkp); (try clear hbk); (try clear ho0); (try clear ho1); obtain ⟨Ao100, co100, eo100⟩ := Kd.R_slice HO438.out; subst eo100; obtain ⟨Ao101, co101, eo101⟩ := Kd.R_slice HO441.out; subst eo101; have hcz102_0 : w98.cell? ⟨gb380, 0, none⟩ = some (.int .i64 a0_0) := (blk_cell BK380.out 0).trans rfl; have hcz102_1 : w98.cell? ⟨gb380, 1, none⟩ = some (.int .i64 a0_1) := (blk_cell BK380.out 1).trans rfl; have hcz102_2 : w98.cell? ⟨gb380, 2, none⟩ = some (.int .i64 a0_2) := (blk_cell BK380.out 2).trans rfl; have hcz102_3 : w98.cell? ⟨gb380, 3, none⟩ = some (.int .i64 a0_3) := (blk_cell BK380.out 3).trans rfl; have hcz102_4 : w98.cell? ⟨gb380, 4, none⟩ = some (.int .i64 a0_4) := (blk_cell BK380.out 4).trans rfl; have hcz102_5 : w98.cell? ⟨gb380, 5, none⟩ = some (.int .i64 a0_5) := (blk_cell BK380.out 5).trans rfl; have hfz102_0 := blk_frozen BK380.out 0; have hfz102_1 := blk_frozen BK380.out 1; have hfz102_2 := blk_frozen BK380.out 2; have hfz102_3 := blk_frozen BK380.out 3; have hfz102_4 := blk_frozen BK380.out 4; have hfz102_5 := blk_frozen BK380.out 5) | ((with_reducible refine gate_callee (f := 34) rfl ?_); refine goesL_ (some 90) rfl rfl Try.func34 (by kernel_rfl) rfl #[.agg #[.int .i64 a0_0, .int .i64 a0_1, .int .i64 a0_2, .int .i64 a0_3, .int .i64 a0_4, .int .i64 a0_5]] rfl (by (try simp only [List.map_toArray, List.map_cons, List.map_nil]); first | done | rfl | (simp only [List.length_drop, List.length_take]; rfl)) ?_; (with_reducible refine (strongboxref4_MayHead.calls a0_0 a0_1 a0_2 a0_3 a0_4 a0_5 false _ A53.out).mono ?_); rintro e w103 ⟨rfl, hb⟩; refine ⟨_, rfl, ?_⟩; have n0_ := Aside0.mk (Kd.R_below (by (with_reducible repeat (first | apply Kd.R_alloc | apply Kd.R_drewN | apply Kd.R_drew)); exact (Kd.R_mono (Kd.R_types HO_9.out BK424.out (by decide)) (fun _ h_ => h_.1))) hb); have n1_ := Aside0.mk (Kd.R_below (by (with_reducible repeat (first | apply Kd.R_alloc | apply Kd.R_drewN | apply Kd.R_drew)); exact (Kd.R_mono (Kd.R_types HO438.out BK424.out (by decide)) (fun _ h_ => h_.1))) hb); have n2_ := Aside0.mk (Kd.R_below (by (with_reducible repeat (first | apply Kd.R_alloc | apply Kd.R_drewN | apply Kd.R_drew)); exact (Kd.R_mono (Kd.R_types HO441.out BK424.out (by decide)) (fun _ h_ => h_.1))) hb); have n3_ := Aside0.mk (blk_below (g := gb380) (o := .cells #[.int .i64 a0_0, .int .i64 a0_1, .int .i64 a0_2, .int .i64 a0_3, .int .i64 a0_4, .int .i64 a0_5] 27 (0, 0)) (by (with_reducible repeat (first | refine blk_drewN ?_ _ | refine blk_drew ?_ | refine blk_alloc ?_ _)); exact BK380.out) hb); have n4_ := Aside0.mk (blk_below (g := gb424) (o := .cells #[.int .i64 t430, .int .i64 t431, .int .i64 t432, .int .i64 t433, .int .i64 t434, .int .i64 t435, .slice Ao100 t436.length co100, .slice Ao101 t439.length co101, .int .i64 t442, .bool t443] 105 (0, 0)) (by (with_reducible repeat (first | refine blk_drewN ?_ _ | refine blk_drew ?_ | refine blk_alloc ?_ _)); exact BK424.out) hb); have n5_ := Aside0.mk (below_step (by repeat (first | (with_reducible first | exact HB.out | apply below_alloc | apply pw_below_drewN | apply below_drew1 | refine below_set ?_ GE380.out | refine below_set ?_ GE424.out) | exact HB.out)) hb); clear HO_9; clear HO438; clear HO441; clear BK380; clear BK424; clear HB; have HO_9 := n0_; have HO438 := n1_; have HO441 := n2_; have BK380 := n3_; have BK424 := n4_; have HB := n5_; clear n0_ n1_ n2_ n3_ n4_ n5_; (try clear hb); (try clear hb2); (try clear hk); (try clear hi)))
                go_ret
                exact ⟨by first | rfl | (simp [errW_none, errW_some] <;> rfl) | (simp only [← hji48]; first | rfl | (simp [errW_none, errW_some] <;> rfl)) | (simp [*, errW_none, errW_some] <;> rfl), by repeat (first | (with_reducible first | exact HB.out | apply below_alloc | apply pw_below_drewN | apply below_drew1 | refine below_set ?_ GE380.out | refine below_set ?_ GE424.out) | exact HB.out)⟩
              ·rw [if_neg c51] at H
               exact absurd H (by simp)
             ·rw [if_neg c50] at H
              exact absurd H (by simp)
            ·rw [if_neg c49] at H
             exact absurd H (by simp)
           ·rw [if_neg c47] at H
            exact absurd H (by simp)
          ·rw [if_neg c46] at H
           have c46b0 : decide (x13_3 < (l2.length : Int)) = false := decide_eq_false c46
           clear c46
           by_cases c104 : 0 ≤ x12_3
           ·rw [if_pos c104] at H
            have c104b0 := eq_true c104
            have c104b1 : decide (0 ≤ x12_3) = true := decide_eq_true c104
            clear c104
            by_cases c105 : x12_3 ≤ (l1.length : Int)
            ·rw [if_pos c105] at H
             have c105b0 := eq_true c105
             have c105b1 : decide (x12_3 ≤ (l1.length : Int)) = true := decide_eq_true c105
             clear c105
             obtain ⟨y446, hy446⟩ : ∃ y_ : List Int, y_ = (l1.drop (x12_3 : Int).toNat) := ⟨_, rfl⟩
             replace H : ((shard_Writer_Add.f k3 x425000_3 x425001_3 x425002_3 x425003_3 x425004_3 x425005_3 x425006_3 x425007_3 x425008_3 x425009_3 y446).bind fun bt450 => ((shard_Writer_End.f k3 bt450.1 bt450.2.1 bt450.2.2.1 bt450.2.2.2.1 bt450.2.2.2.2.1 bt450.2.2.2.2.2.1 bt450.2.2.2.2.2.2.1 bt450.2.2.2.2.2.2.2.1 bt450.2.2.2.2.2.2.2.2.1 bt450.2.2.2.2.2.2.2.2.2.1).bind fun bt465 => ((strongboxref4_MayHead.f a0_0 a0_1 a0_2 a0_3 a0_4 a0_5).bind fun t483 => (if t483 = true then (if (l1.length : Int) > a0_4 then (some (bt450.2.2.2.2.2.2.2.2.2.2 == 3)) else (if (l1.length : Int) < a0_4 then (if bt450.2.2.2.2.2.2.2.2.2.2 = 0 then (some (bt465.2.2.2.2.2.2.2.2.2.2.2 == 2)) else (none)) else (if bt450.2.2.2.2.2.2.2.2.2.2 = 0 then (if bt465.2.2.2.2.2.2.2.2.2.2.2 = 0 then (if (strOfNums bt465.2.2.2.2.2.2.2.2.2.2.1).toList = (strOfNums t392).toList then (some (1 == 1)) else (none)) else (none)) else (none)))) else (if bt450.2.2.2.2.2.2.2.2.2.2 = 1 then (some (bt465.2.2.2.2.2.2.2.2.2.2.2 == 1)) else (none)))))) = some r := by first | (rw [hy446]; with_reducible exact H) | (have H2_ := (Option.bind_some _ _).symm.trans H; rw [hy446]; with_reducible exact H2_) | (have H2_ := (Option.bind_some _ _).symm.trans H; with_reducible exact H2_) | with_reducible exact H | (rw [hy446]; exact H) | exact H
             have Ny446 := Aside0.mk hy446
             clear hy446
             replace H := Option.bind_eq_some_iff.mp H
             obtain ⟨⟨t450, t451, t452, t453, t454, t455, t456, t459, t462, t463, t464⟩, A1060, H⟩ := H
             replace H : ((shard_Writer_End.f k3 t450 t451 t452 t453 t454 t455 t456 t459 t462 t463).bind fun bt465 => ((strongboxref4_MayHead.f a0_0 a0_1 a0_2 a0_3 a0_4 a0_5).bind fun t483 => (if t483 = true then (if (l1.length : Int) > a0_4 then (some (t464 == 3)) else (if (l1.length : Int) < a0_4 then (if t464 = 0 then (some (bt465.2.2.2.2.2.2.2.2.2.2.2 == 2)) else (none)) else (if t464 = 0 then (if bt465.2.2.2.2.2.2.2.2.2.2.2 = 0 then (if (strOfNums bt465.2.2.2.2.2.2.2.2.2.2.1).toList = (strOfNums t392).toList then (some (1 == 1)) else (none)) else (none)) else (none)))) else (if t464 = 1 then (some (bt465.2.2.2.2.2.2.2.2.2.2.2 == 1)) else (none))))) = some r := H
             have A106 := Aside0.mk A1060
             clear A1060
             replace H := Option.bind_eq_some_iff.mp H
             obtain ⟨⟨t465, t466, t467, t468, t469, t470, t471, t474, t477, t478, t479, t482⟩, A1070, H⟩ := H
             replace H : ((strongboxref4_MayHead.f a0_0 a0_1 a0_2 a0_3 a0_4 a0_5).bind fun t483 => (if t483 = true then (if (l1.length : Int) > a0_4 then (some (t464 == 3)) else (if (l1.length : Int) < a0_4 then (if t464 = 0 then (some (t482 == 2)) else (none)) else (if t464 = 0 then (if t482 = 0 then (if (strOfNums t479).toList = (strOfNums t392).toList then (some (1 == 1)) else (none)) else (none)) else (none)))) else (if t464 = 1 then (some (t482 == 1)) else (none)))) = some r := H
             have A107 := Aside0.mk A1070
             clear A1070
             replace H := Option.bind_eq_some_iff.mp H
             obtain ⟨t483, A1080, H⟩ := H
             replace H : (if t483 = true then (if (l1.length : Int) > a0_4 then (some (t464 == 3)) else (if (l1.length : Int) < a0_4 then (if t464 = 0 then (some (t482 == 2)) else (none)) else (if t464 = 0 then (if t482 = 0 then (if (strOfNums t479).toList = (strOfNums t392).toList then (some (1 == 1)) else (none)) else (none)) else (none)))) else (if t464 = 1 then (some (t482 == 1)) else (none))) = some r := H
             have A108 := Aside0.mk A1080
             clear A1080
             by_cases c109 : t483 = true
             ·subst c109
              have H1 : (if (l1.length : Int) > a0_4 then (some (t464 == 3)) else (if (l1.length : Int) < a0_4 then (if t464 = 0 then (some (t482 == 2)) else (none)) else (if t464 = 0 then (if t482 = 0 then (if (strOfNums t479).toList = (strOfNums t392).toList then (some (1 == 1)) else (none)) else (none)) else (none)))) = some r := by rw [if_pos rfl] at H; exact H
              clear H
              have H := H1
              clear H1
              by_cases c110 : (l1.length : Int) > a0_4
              ·rw [if_pos c110] at H
               have c110b0 : decide (a0_4 < (l1.length : Int)) = true := decide_eq_true c110
               clear c110
               obtain rfl := Option.some.inj H
               have hnb111 := NB424_380.out
               have hnc111 := NB380_424.out
               have q113 : (x12_3 : Int) ≤ ((l1.length : Int) : Int) := of_decide_eq_true (by first | (with_reducible assumption) | assumption)
               obtain ⟨i0113, hi0113, _, hsz113, _⟩ := info_parts info5
               have hroom113 : l1.length ≤ c1 := HC1.out
               have hC113 : Kd.C (Kd.int .u8) _ A1 l1.length l1 := HR1.out
               have q0113 : (0 : Int) ≤ (x12_3 : Int) := of_decide_eq_true (by first | (with_reducible assumption) | assumption)
               have hcut113 := cut_from (P := Try.prog) 22 5 .i64 Try.underlying22 hi0113 1 hsz113 A1 l1.length c1 x12_3 q0113 q113
               have hr113 := Kd.C_drop (m := (x12_3 : Int).toNat) (c := c1) hC113 (by omega) hroom113
               obtain ⟨A113, hA113⟩ : ∃ A1_, A1_ = (if c1 = (x12_3 : Int).toNat then A1 else (A1 : Option Addr).map (·.add ((x12_3 : Int).toNat * 1))) := ⟨_, rfl⟩
               obtain ⟨c113, hc113⟩ : ∃ c1_, c1_ = c1 - (x12_3 : Int).toNat := ⟨_, rfl⟩
               have hy113 : y446.length = l1.length - (x12_3 : Int).toNat := (by rw [Ny446.out, List.length_drop] <;> omega)
               rw [show (l1).drop (x12_3 : Int).toNat = y446 from Ny446.out.symm] at hr113
               replace hr113 : Kd.C (Kd.int .u8) _ A113 y446.length y446 := (by rw [hA113]; exact hr113)
               rw [← hy113, ← hA113, ← hc113] at hcut113
               have HR449 := Aside0.mk hr113
               have HC449 := Aside0.mk (show y446.length ≤ c113 from by rw [hy113, hc113]; exact Nat.sub_le_sub_right hroom113 _)
               clear hr113 hC113 hroom113 hi0113 hsz113 hc113
               have KY113 := Aside0.mk hy113
               have KA113 := Aside0.mk hA113
               clear hy113 hA113
               replace q113 := eq_true q113
               obtain ⟨Ao114, co114, eo114⟩ := Kd.R_slice HO_425006.out
               subst eo114
               obtain ⟨Ao115, co115, eo115⟩ := Kd.R_slice HO_425007.out
               subst eo115
               go_wp2_with (first | ((with_reducible refine gate_callee (f := 36) rfl ?_); refine goesL_ (some 111) rfl rfl Try.func36 (by kernel_rfl) rfl #[.pointer (some ⟨gb424, 0, none⟩), .slice A113 y446.length c113] rfl (by (try simp only [List.map_toArray, List.map_cons, List.map_nil]); first | done | rfl | (simp only [List.length_drop, List.length_take]; rfl)) ?_; (with_reducible refine (shard_Writer_Add.calls k3 x425000_3 x425001_3 x425002_3 x425003_3 x425004_3 x425005_3 (fun k_ => some k_ = (.slice Ao114 x425006_3.length co114 : Value).ownBlock) (.slice Ao114 x425006_3.length co114) x425006_3 (fun k_ => some k_ = (.slice Ao115 x425007_3.length co115 : Value).ownBlock ∨ k_ = gb424) (.slice Ao115 x425007_3.length co115) x425007_3 x425008_3 x425009_3 (fun k_ => k_ < w.heap.size) _ _ y446 t450 t451 t452 t453 t454 t455 t456 t459 t462 t463 t464 w _ ?side1 ?side2 ?side3 ?side4 ?side5 ?side6 gb424 (by (with_reducible repeat (first | refine blk_drewN ?_ _ | refine blk_drew ?_ | refine blk_alloc ?_ _)); exact BK424.out) ?sideg (Or.inr rfl) ?siden A106.out).mono ?_); (case side1 => repeat (first | (with_reducible first | exact HB.out | apply below_alloc | apply pw_below_drewN | apply below_drew1 | refine below_set ?_ GE380.out | refine below_set ?_ GE424.out) | exact HB.out)); (case side2 => exact Kd.R_tight rfl HO_425006.out); (case side3 => exact fun k_ e_ h_ => Or.elim h_ ((HO_425006.out.1 k_ e_.symm).2) (fun g_ => (fun (g_ : k_ = gb424) e2_ => Kd.R_ne HO_425006.out BK424.out (by decide) ((congrArg some g_).symm.trans e2_)) g_ e_)); (case side4 => exact Kd.R_mono (Kd.R_tight rfl HO_425007.out) (fun _ h_ => .inl h_)); (case side5 => exact fun k_ h_ => Or.elim h_ (fun e_ => (HO_425007.out.1 k_ e_.symm).2) (fun g_ => (fun (g_ : k_ = gb424) e2_ => Kd.R_ne HO_425006.out BK424.out (by decide) ((congrArg some g_).symm.trans e2_)) g_)); (case side6 => exact Kd.V_mono (Kd.V_mk HC449.out (Kd.F_below (Kd.C_F (Kd.heap_int .u8) HR449.out) (by repeat (first | (with_reducible first | exact HB.out | apply below_alloc | apply pw_below_drewN | apply below_drew1 | refine below_set ?_ GE380.out | refine below_set ?_ GE424.out) | exact HB.out)))) (fun k_ hk_ => ⟨hk_, fun e_ => Nat.not_le.2 hk_ (Kd.R_base HO_425006.out k_ e_.symm), fun e_ => Nat.not_le.2 hk_ (Kd.R_base HO_425007.out k_ e_.symm)⟩)); (case sideg => exact GE424.out); (case siden => exact fun k_ hk_ e_ => Nat.not_le.2 hk_ (e_ ▸ GE424.out)); rintro e w116 ⟨v457, v460, rfl, hbk, ho0, ho1, hb, hkp⟩; refine ⟨_, rfl, ?_⟩; have n0_ := Aside0.mk (Kd.R_mono (ok' := fun k_ => some k_ ≠ (v457 : Value).ownBlock ∧ some k_ ≠ (v460 : Value).ownBlock) (Kd.R_keptB (Kd.R_types HO_9.out BK424.out (by decide)) hkp (fun k_ hk_ hs_ => Or.elim hs_ (fun e_ => (hk_.1.1) e_) (fun h_ => Or.elim h_ (fun e_ => (hk_.1.2) e_) (fun g_ => hk_.2 g_)))) (fun k_ hk_ => ⟨fun e_ => Or.elim (ho0.1 k_ e_.symm).1 (fun hs_ => hk_.2.1 hs_) (fun hn_ => Nat.not_le.2 hk_.2.2 hn_), fun e_ => Or.elim (ho1.1 k_ e_.symm).1 (fun hs_ => hk_.2.1 hs_) (fun hn_ => Nat.not_le.2 hk_.2.2 hn_)⟩)); have n1_ := Aside0.mk (blk_kept (by (with_reducible repeat (first | refine blk_drewN ?_ _ | refine blk_drew ?_ | refine blk_alloc ?_ _)); exact BK380.out) hkp (fun hs_ => Or.elim hs_ (fun e_ => (fun e_ => (Kd.R_ne HO_425006.out BK380.out (by decide)) e_) e_) (fun h_ => Or.elim h_ (fun e_ => (Kd.R_ne HO_425007.out BK380.out (by decide)) e_) (fun g_ => NB380_424.out g_)))); have n2_ := Aside0.mk hbk; have n3_ := Aside0.mk (Kd.R_mono (ok' := fun k_ => some k_ ≠ (v460 : Value).ownBlock ∧ some k_ ≠ (v393 : Value).ownBlock) ho0 (fun k_ hk_ => ⟨hk_.2, Or.elim hk_.1 (fun hs_ => Or.elim hs_ (fun hs_ => fun e_ => (((HO_9.out).1 k_ e_.symm).1) hs_) (fun h_ => Or.elim h_ (fun hs_ => fun e_ => (((HO_9.out).1 k_ e_.symm).2) hs_) (fun g_ => fun e_ => Kd.R_ne HO_9.out BK424.out (by decide) ((congrArg some g_).symm.trans e_)))) (fun hn_ => (Kd.fresh' (Kd.R_lt (by (with_reducible repeat (first | apply Kd.R_alloc | apply Kd.R_drewN | apply Kd.R_drew)); exact HO_9.out)) k_ hn_))⟩)); have n4_ := Aside0.mk (Kd.R_mono (ok' := fun k_ => some k_ ≠ (v457 : Value).ownBlock ∧ some k_ ≠ (v393 : Value).ownBlock) ho1 (fun k_ hk_ => ⟨hk_.2, Or.elim hk_.1 (fun hs_ => Or.elim hs_ (fun hs_ => fun e_ => (((HO_9.out).1 k_ e_.symm).1) hs_) (fun h_ => Or.elim h_ (fun hs_ => fun e_ => (((HO_9.out).1 k_ e_.symm).2) hs_) (fun g_ => fun e_ => Kd.R_ne HO_9.out BK424.out (by decide) ((congrArg some g_).symm.trans e_)))) (fun hn_ => (Kd.fresh' (Kd.R_lt (by (with_reducible repeat (first | apply Kd.R_alloc | apply Kd.R_drewN | apply Kd.R_drew)); exact HO_9.out)) k_ hn_))⟩)); have n5_ := Aside0.mk (hb); clear HO_9; clear BK380; clear BK424; clear HB; clear HO_425006; clear HO_425007; have HO_9 := n0_; have BK380 := n1_; have BK424 := n2_; have HO458 := n3_; have HO461 := n4_; have HB := n5_; clear n0_ n1_ n2_ n3_ n4_ n5_; (try clear hb); (try clear hkp); (try clear hbk); (try clear ho0); (try clear ho1); obtain ⟨Ao118, co118, eo118⟩ := Kd.R_slice HO458.out; subst eo118; obtain ⟨Ao119, co119, eo119⟩ := Kd.R_slice HO461.out; subst eo119; have n0_ : Aside0 (Kd.R (Kd.int .u8) 5 w116 w.heap.size (fun k_ => some k_ ≠ (.slice Ao118 t456.length co118 : Value).ownBlock ∧ some k_ ≠ (.slice Ao119 t459.length co119 : Value).ownBlock) v393 t392) := ⟨Kd.R_mono HO_9.out (fun _ hk => ⟨hk.1, hk.2⟩)⟩; have n1_ : Aside0 (Kd.R (Kd.int .u8) 5 w116 w.heap.size (fun k_ => some k_ ≠ (v393 : Value).ownBlock ∧ some k_ ≠ (.slice Ao119 t459.length co119 : Value).ownBlock) (.slice Ao118 t456.length co118) t456) := ⟨Kd.R_mono HO458.out (fun _ hk => ⟨hk.2, hk.1⟩)⟩; have n2_ : Aside0 (Kd.R (Kd.int .u8) 5 w116 w.heap.size (fun k_ => some k_ ≠ (v393 : Value).ownBlock ∧ some k_ ≠ (.slice Ao118 t456.length co118 : Value).ownBlock) (.slice Ao119 t459.length co119) t459) := ⟨Kd.R_mono HO461.out (fun _ hk => ⟨hk.2, hk.1⟩)⟩; have n3_ : Aside0 (w116.heap[gb380]? = some (.cells #[.int .i64 a0_0, .int .i64 a0_1, .int .i64 a0_2, .int .i64 a0_3, .int .i64 a0_4, .int .i64 a0_5] 27 (0, 0))) := ⟨BK380.out⟩; have n4_ : Aside0 (w116.heap[gb424]? = some (.cells #[.int .i64 t450, .int .i64 t451, .int .i64 t452, .int .i64 t453, .int .i64 t454, .int .i64 t455, .slice Ao118 t456.length co118, .slice Ao119 t459.length co119, .int .i64 t462, .bool t463] 105 (0, 0))) := ⟨BK424.out⟩; have n5_ : Aside0 (Below w.heap.size w w116) := ⟨HB.out⟩; clear HO_9; clear HO458; clear HO461; clear BK380; clear BK424; clear HB; have HO_9 := n0_; have HO458 := n1_; have HO461 := n2_; have BK380 := n3_; have BK424 := n4_; have HB := n5_; clear n0_ n1_ n2_ n3_ n4_ n5_) | ((with_reducible refine gate_callee (f := 37) rfl ?_); refine goesL_ (some 114) rfl rfl Try.func37 (by kernel_rfl) rfl #[.pointer (some ⟨gb424, 0, none⟩)] rfl (by (try simp only [List.map_toArray, List.map_cons, List.map_nil]); first | done | rfl | (simp only [List.length_drop, List.length_take]; rfl)) ?_; (with_reducible refine (shard_Writer_End.calls k3 t450 t451 t452 t453 t454 t455 (fun k_ => some k_ = (.slice Ao118 t456.length co118 : Value).ownBlock) (.slice Ao118 t456.length co118) t456 (fun k_ => some k_ = (.slice Ao119 t459.length co119 : Value).ownBlock ∨ k_ = gb424) (.slice Ao119 t459.length co119) t459 t462 t463 t465 t466 t467 t468 t469 t470 t471 t474 t477 t478 t479 t482 w _ ?side1 ?side2 ?side3 ?side4 ?side5 gb424 (by (with_reducible repeat (first | refine blk_drewN ?_ _ | refine blk_drew ?_ | refine blk_alloc ?_ _)); exact BK424.out) ?sideg (Or.inr rfl) A107.out).mono ?_); (case side1 => repeat (first | (with_reducible first | exact HB.out | apply below_alloc | apply pw_below_drewN | apply below_drew1 | refine below_set ?_ GE380.out | refine below_set ?_ GE424.out) | exact HB.out)); (case side2 => exact Kd.R_tight rfl HO458.out); (case side3 => exact fun k_ e_ h_ => Or.elim h_ ((HO458.out.1 k_ e_.symm).2) (fun g_ => (fun (g_ : k_ = gb424) e2_ => Kd.R_ne HO458.out BK424.out (by decide) ((congrArg some g_).symm.trans e2_)) g_ e_)); (case side4 => exact Kd.R_mono (Kd.R_tight rfl HO461.out) (fun _ h_ => .inl h_)); (case side5 => exact fun k_ h_ => Or.elim h_ (fun e_ => (HO461.out.1 k_ e_.symm).2) (fun g_ => (fun (g_ : k_ = gb424) e2_ => Kd.R_ne HO458.out BK424.out (by decide) ((congrArg some g_).symm.trans e2_)) g_)); (case sideg => exact GE424.out); rintro e w122 ⟨v472, v475, v480, rfl, hbk, ho0, ho1, ho2, hb, hkp⟩; refine ⟨_, rfl, ?_⟩; have n0_ := Aside0.mk (Kd.R_mono (ok' := fun k_ => some k_ ≠ (v475 : Value).ownBlock) (Kd.R_keptB (Kd.R_types HO_9.out BK424.out (by decide)) hkp (fun k_ hk_ hs_ => Or.elim hs_ (fun e_ => (hk_.1.1) e_) (fun h_ => Or.elim h_ (fun e_ => (hk_.1.2) e_) (fun g_ => hk_.2 g_)))) (fun k_ hk_ => fun e_ => Or.elim (ho1.1 k_ e_.symm) (fun hs_ => hk_.2.1 hs_) (fun hn_ => Nat.not_le.2 hk_.2.2 hn_))); have n1_ := Aside0.mk (blk_kept (by (with_reducible repeat (first | refine blk_drewN ?_ _ | refine blk_drew ?_ | refine blk_alloc ?_ _)); exact BK380.out) hkp (fun hs_ => Or.elim hs_ (fun e_ => (fun e_ => (Kd.R_ne HO458.out BK380.out (by decide)) e_) e_) (fun h_ => Or.elim h_ (fun e_ => (Kd.R_ne HO461.out BK380.out (by decide)) e_) (fun g_ => NB380_424.out g_)))); have n2_ := Aside0.mk hbk; have n3_ := Aside0.mk (Kd.V_mono (ok' := fun k_ => some k_ ≠ (v475 : Value).ownBlock ∧ some k_ ≠ (v393 : Value).ownBlock) ho0 (fun k_ hk_ => ⟨hk_.2, Or.elim hk_.1 (fun hs_ => Or.elim hs_ (fun hs_ => fun e_ => (((HO_9.out).1 k_ e_.symm).1) hs_) (fun h_ => Or.elim h_ (fun hs_ => fun e_ => (((HO_9.out).1 k_ e_.symm).2) hs_) (fun g_ => fun e_ => Kd.R_ne HO_9.out BK424.out (by decide) ((congrArg some g_).symm.trans e_)))) (fun hn_ => (Kd.fresh' (Kd.R_lt (by (with_reducible repeat (first | apply Kd.R_alloc | apply Kd.R_drewN | apply Kd.R_drew)); exact HO_9.out)) k_ hn_))⟩)); have n4_ := Aside0.mk (Kd.R_mono (ok' := fun k_ => some k_ ≠ (v393 : Value).ownBlock) ho1 (fun k_ hk_ => Or.elim hk_ (fun hs_ => Or.elim hs_ (fun hs_ => fun e_ => (((HO_9.out).1 k_ e_.symm).1) hs_) (fun h_ => Or.elim h_ (fun hs_ => fun e_ => (((HO_9.out).1 k_ e_.symm).2) hs_) (fun g_ => fun e_ => Kd.R_ne HO_9.out BK424.out (by decide) ((congrArg some g_).symm.trans e_)))) (fun hn_ => (Kd.fresh' (Kd.R_lt (by (with_reducible repeat (first | apply Kd.R_alloc | apply Kd.R_drewN | apply Kd.R_drew)); exact HO_9.out)) k_ hn_)))); have n5_ := Aside0.mk (Kd.V_mono (ok' := fun k_ => some k_ ≠ (v475 : Value).ownBlock ∧ some k_ ≠ (v393 : Value).ownBlock) ho2 (fun k_ hk_ => ⟨hk_.2, Or.elim hk_.1 (fun hs_ => Or.elim hs_ (fun hs_ => fun e_ => (((HO_9.out).1 k_ e_.symm).1) hs_) (fun h_ => Or.elim h_ (fun hs_ => fun e_ => (((HO_9.out).1 k_ e_.symm).2) hs_) (fun g_ => fun e_ => Kd.R_ne HO_9.out BK424.out (by decide) ((congrArg some g_).symm.trans e_)))) (fun hn_ => (Kd.fresh' (Kd.R_lt (by (with_reducible repeat (first | apply Kd.R_alloc | apply Kd.R_drewN | apply Kd.R_drew)); exact HO_9.out)) k_ hn_))⟩)); have n6_ := Aside0.mk (hb); clear HO_9; clear BK380; clear BK424; clear HB; clear HO458; clear HO461; have HO_9 := n0_; have BK380 := n1_; have BK424 := n2_; have HO473 := n3_; have HO476 := n4_; have HO481 := n5_; have HB := n6_; clear n0_ n1_ n2_ n3_ n4_ n5_ n6_; (try clear hb); (try clear hkp); (try clear hbk); (try clear ho0); (try clear ho1); (try clear ho2); have hcz123_0 : w122.cell? ⟨gb380, 0, none⟩ = some (.int .i64 a0_0) := (blk_cell BK380.out 0).trans rfl; have hcz123_1 : w122.cell? ⟨gb380, 1, none⟩ = some (.int .i64 a0_1) := (blk_cell BK380.out 1).trans rfl; have hcz123_2 : w122.cell? ⟨gb380, 2, none⟩ = some (.int .i64 a0_2) := (blk_cell BK380.out 2).trans rfl; have hcz123_3 : w122.cell? ⟨gb380, 3, none⟩ = some (.int .i64 a0_3) := (blk_cell BK380.out 3).trans rfl; have hcz123_4 : w122.cell? ⟨gb380, 4, none⟩ = some (.int .i64 a0_4) := (blk_cell BK380.out 4).trans rfl; have hcz123_5 : w122.cell? ⟨gb380, 5, none⟩ = some (.int .i64 a0_5) := (blk_cell BK380.out 5).trans rfl; have hfz123_0 := blk_frozen BK380.out 0; have hfz123_1 := blk_frozen BK380.out 1; have hfz123_2 := blk_frozen BK380.out 2; have hfz123_3 := blk_frozen BK380.out 3; have hfz123_4 := blk_frozen BK380.out 4; have hfz123_5 := blk_frozen BK380.out 5) | ((with_reducible refine gate_callee (f := 37) rfl ?_); refine goesL_ (some 119) rfl rfl Try.func37 (by kernel_rfl) rfl #[.pointer (some ⟨gb424, 0, none⟩)] rfl (by (try simp only [List.map_toArray, List.map_cons, List.map_nil]); first | done | rfl) ?_; obtain ⟨m_, hm_, hq_, h0_⟩ := End_left A107.out; (refine (shard_Writer_End.quiet k3 gb424 t465 t466 t467 t468 t469 t470 v472 v475 t471 t474 t477 t478 _ _ (by (with_reducible repeat (first | refine blk_drewN ?_ _ | refine blk_drew ?_ | refine blk_alloc ?_ _)); exact BK424.out) hm_ hq_).mono ?_); rintro e w9900 ⟨rfl, hb⟩; refine ⟨_, rfl, ?_⟩; generalize (if m_ = true then (2 : Int) else 1) = z_; have n0_ := Aside0.mk (Kd.R_below (by (with_reducible repeat (first | apply Kd.R_alloc | apply Kd.R_drewN | apply Kd.R_drew)); exact HO_9.out) hb); have n1_ := Aside0.mk (Kd.V_below (by (with_reducible repeat (first | apply Kd.V_alloc | apply Kd.V_drewN | apply Kd.V_drew)); exact HO473.out) hb); have n2_ := Aside0.mk (Kd.R_below (by (with_reducible repeat (first | apply Kd.R_alloc | apply Kd.R_drewN | apply Kd.R_drew)); exact HO476.out) hb); have n3_ := Aside0.mk (Kd.V_below (by (with_reducible repeat (first | apply Kd.V_alloc | apply Kd.V_drewN | apply Kd.V_drew)); exact HO481.out) hb); have n4_ := Aside0.mk (blk_below (g := gb380) (o := .cells #[.int .i64 a0_0, .int .i64 a0_1, .int .i64 a0_2, .int .i64 a0_3, .int .i64 a0_4, .int .i64 a0_5] 27 (0, 0)) (by (with_reducible repeat (first | refine blk_drewN ?_ _ | refine blk_drew ?_ | refine blk_alloc ?_ _)); exact BK380.out) hb); have n5_ := Aside0.mk (blk_below (g := gb424) (o := .cells #[.int .i64 t465, .int .i64 t466, .int .i64 t467, .int .i64 t468, .int .i64 t469, .int .i64 t470, v472, v475, .int .i64 t477, .bool t478] 105 (0, 0)) (by (with_reducible repeat (first | refine blk_drewN ?_ _ | refine blk_drew ?_ | refine blk_alloc ?_ _)); exact BK424.out) hb); have n6_ := Aside0.mk (below_step (by repeat (first | (with_reducible first | exact HB.out | apply below_alloc | apply pw_below_drewN | apply below_drew1 | refine below_set ?_ GE380.out | refine below_set ?_ GE424.out) | exact HB.out)) hb); clear HO_9; clear HO473; clear HO476; clear HO481; clear BK380; clear BK424; clear HB; have HO_9 := n0_; have HO473 := n1_; have HO476 := n2_; have HO481 := n3_; have BK380 := n4_; have BK424 := n5_; have HB := n6_; clear n0_ n1_ n2_ n3_ n4_ n5_ n6_; (try clear hb); (try clear hb2); (try clear hk); (try clear hi); have hcy123_0 : w9900.cell? ⟨gb380, 0, none⟩ = some (.int .i64 a0_0) := (blk_cell BK380.out 0).trans rfl; have hcy123_1 : w9900.cell? ⟨gb380, 1, none⟩ = some (.int .i64 a0_1) := (blk_cell BK380.out 1).trans rfl; have hcy123_2 : w9900.cell? ⟨gb380, 2, none⟩ = some (.int .i64 a0_2) := (blk_cell BK380.out 2).trans rfl; have hcy123_3 : w9900.cell? ⟨gb380, 3, none⟩ = some (.int .i64 a0_3) := (blk_cell BK380.out 3).trans rfl; have hcy123_4 : w9900.cell? ⟨gb380, 4, none⟩ = some (.int .i64 a0_4) := (blk_cell BK380.out 4).trans rfl; have hcy123_5 : w9900.cell? ⟨gb380, 5, none⟩ = some (.int .i64 a0_5) := (blk_cell BK380.out 5).trans rfl; (try clear hm_ hq_ h0_)) | ((with_reducible refine gate_callee (f := 34) rfl ?_); refine goesL_ (some 124) rfl rfl Try.func34 (by kernel_rfl) rfl #[.agg #[.int .i64 a0_0, .int .i64 a0_1, .int .i64 a0_2, .int .i64 a0_3, .int .i64 a0_4, .int .i64 a0_5]] rfl (by (try simp only [List.map_toArray, List.map_cons, List.map_nil]); first | done | rfl | (simp only [List.length_drop, List.length_take]; rfl)) ?_; (with_reducible refine (strongboxref4_MayHead.calls a0_0 a0_1 a0_2 a0_3 a0_4 a0_5 true _ A108.out).mono ?_); rintro e w124 ⟨rfl, hb⟩; refine ⟨_, rfl, ?_⟩; have n0_ := Aside0.mk (Kd.R_below (by (with_reducible repeat (first | apply Kd.R_alloc | apply Kd.R_drewN | apply Kd.R_drew)); exact HO_9.out) hb); have n1_ := Aside0.mk (Kd.V_below (by (with_reducible repeat (first | apply Kd.V_alloc | apply Kd.V_drewN | apply Kd.V_drew)); exact HO473.out) hb); have n2_ := Aside0.mk (Kd.R_below (by (with_reducible repeat (first | apply Kd.R_alloc | apply Kd.R_drewN | apply Kd.R_drew)); exact HO476.out) hb); have n3_ := Aside0.mk (Kd.V_below (by (with_reducible repeat (first | apply Kd.V_alloc | apply Kd.V_drewN | apply Kd.V_drew)); exact HO481.out) hb); have n4_ := Aside0.mk (blk_below (g := gb380) (o := .cells #[.int .i64 a0_0, .int .i64 a0_1, .int .i64 a0_2, .int .i64 a0_3, .int .i64 a0_4, .int .i64 a0_5] 27 (0, 0)) (by (with_reducible repeat (first | refine blk_drewN ?_ _ | refine blk_drew ?_ | refine blk_alloc ?_ _)); exact BK380.out) hb); have n5_ := Aside0.mk (blk_below (g := gb424) (o := .cells #[.int .i64 t465, .int .i64 t466, .int .i64 t467, .int .i64 t468, .int .i64 t469, .int .i64 t470, v472, v475, .int .i64 t477, .bool t478] 105 (0, 0)) (by (with_reducible repeat (first | refine blk_drewN ?_ _ | refine blk_drew ?_ | refine blk_alloc ?_ _)); exact BK424.out) hb); have n6_ := Aside0.mk (below_step (by repeat (first | (with_reducible first | exact HB.out | apply below_alloc | apply pw_below_drewN | apply below_drew1 | refine below_set ?_ GE380.out | refine below_set ?_ GE424.out) | exact HB.out)) hb); clear HO_9; clear HO473; clear HO476; clear HO481; clear BK380; clear BK424; clear HB; have HO_9 := n0_; have HO473 := n1_; have HO476 := n2_; have HO481 := n3_; have BK380 := n4_; have BK424 := n5_; have HB := n6_; clear n0_ n1_ n2_ n3_ n4_ n5_ n6_; (try clear hb); (try clear hb2); (try clear hk); (try clear hi); have hcz125_0 : w124.cell? ⟨gb380, 0, none⟩ = some (.int .i64 a0_0) := (blk_cell BK380.out 0).trans rfl; have hcz125_1 : w124.cell? ⟨gb380, 1, none⟩ = some (.int .i64 a0_1) := (blk_cell BK380.out 1).trans rfl; have hcz125_2 : w124.cell? ⟨gb380, 2, none⟩ = some (.int .i64 a0_2) := (blk_cell BK380.out 2).trans rfl; have hcz125_3 : w124.cell? ⟨gb380, 3, none⟩ = some (.int .i64 a0_3) := (blk_cell BK380.out 3).trans rfl; have hcz125_4 : w124.cell? ⟨gb380, 4, none⟩ = some (.int .i64 a0_4) := (blk_cell BK380.out 4).trans rfl; have hcz125_5 : w124.cell? ⟨gb380, 5, none⟩ = some (.int .i64 a0_5) := (blk_cell BK380.out 5).trans rfl; have hfz125_0 := blk_frozen BK380.out 0; have hfz125_1 := blk_frozen BK380.out 1; have hfz125_2 := blk_frozen BK380.out 2; have hfz125_3 := blk_frozen BK380.out 3; have hfz125_4 := blk_frozen BK380.out 4; have hfz125_5 := blk_frozen BK380.out 5))
               go_ret
               exact ⟨by first | rfl | (simp [errW_none, errW_some] <;> rfl) | (simp [*, errW_none, errW_some] <;> rfl), by repeat (first | (with_reducible first | exact HB.out | apply below_alloc | apply pw_below_drewN | apply below_drew1 | refine below_set ?_ GE380.out | refine below_set ?_ GE424.out) | exact HB.out)⟩
              ·rw [if_neg c110] at H
               have c110b0 : decide (a0_4 < (l1.length : Int)) = false := decide_eq_false c110
               clear c110
               by_cases c126 : (l1.length : Int) < a0_4
               ·rw [if_pos c126] at H
                have c126b0 : decide ((l1.length : Int) < a0_4) = true := decide_eq_true c126
                clear c126
                by_cases c127 : t464 = 0
                ·rw [if_pos c127] at H
                 have c127b0 : (t464 == 0) = true := beq_iff_eq.mpr c127
                 have c127b1 : (t464 != 0) = false := bne_eq_false_iff_eq.mpr c127
                 clear c127
                 obtain rfl := Option.some.inj H
                 have hnb128 := NB424_380.out
                 have hnc128 := NB380_424.out
                 have q130 : (x12_3 : Int) ≤ ((l1.length : Int) : Int) := of_decide_eq_true (by first | (with_reducible assumption) | assumption)
                 obtain ⟨i0130, hi0130, _, hsz130, _⟩ := info_parts info5
                 have hroom130 : l1.length ≤ c1 := HC1.out
                 have hC130 : Kd.C (Kd.int .u8) _ A1 l1.length l1 := HR1.out
                 have q0130 : (0 : Int) ≤ (x12_3 : Int) := of_decide_eq_true (by first | (with_reducible assumption) | assumption)
                 have hcut130 := cut_from (P := Try.prog) 22 5 .i64 Try.underlying22 hi0130 1 hsz130 A1 l1.length c1 x12_3 q0130 q130
                 have hr130 := Kd.C_drop (m := (x12_3 : Int).toNat) (c := c1) hC130 (by omega) hroom130
                 obtain ⟨A130, hA130⟩ : ∃ A1_, A1_ = (if c1 = (x12_3 : Int).toNat then A1 else (A1 : Option Addr).map (·.add ((x12_3 : Int).toNat * 1))) := ⟨_, rfl⟩
                 obtain ⟨c130, hc130⟩ : ∃ c1_, c1_ = c1 - (x12_3 : Int).toNat := ⟨_, rfl⟩
                 have hy130 : y446.length = l1.length - (x12_3 : Int).toNat := (by rw [Ny446.out, List.length_drop] <;> omega)
                 rw [show (l1).drop (x12_3 : Int).toNat = y446 from Ny446.out.symm] at hr130
                 replace hr130 : Kd.C (Kd.int .u8) _ A130 y446.length y446 := (by rw [hA130]; exact hr130)
                 rw [← hy130, ← hA130, ← hc130] at hcut130
                 have HR449 := Aside0.mk hr130
                 have HC449 := Aside0.mk (show y446.length ≤ c130 from by rw [hy130, hc130]; exact Nat.sub_le_sub_right hroom130 _)
                 clear hr130 hC130 hroom130 hi0130 hsz130 hc130
                 have KY130 := Aside0.mk hy130
                 have KA130 := Aside0.mk hA130
                 clear hy130 hA130
                 replace q130 := eq_true q130
                 obtain ⟨Ao131, co131, eo131⟩ := Kd.R_slice HO_425006.out
                 subst eo131
                 obtain ⟨Ao132, co132, eo132⟩ := Kd.R_slice HO_425007.out
                 subst eo132
                 go_wp2_with (first | ((with_reducible refine gate_callee (f := 36) rfl ?_); refine goesL_ (some 111) rfl rfl Try.func36 (by kernel_rfl) rfl #[.pointer (some ⟨gb424, 0, none⟩), .slice A130 y446.length c130] rfl (by (try simp only [List.map_toArray, List.map_cons, List.map_nil]); first | done | rfl | (simp only [List.length_drop, List.length_take]; rfl)) ?_; (with_reducible refine (shard_Writer_Add.calls k3 x425000_3 x425001_3 x425002_3 x425003_3 x425004_3 x425005_3 (fun k_ => some k_ = (.slice Ao131 x425006_3.length co131 : Value).ownBlock) (.slice Ao131 x425006_3.length co131) x425006_3 (fun k_ => some k_ = (.slice Ao132 x425007_3.length co132 : Value).ownBlock ∨ k_ = gb424) (.slice Ao132 x425007_3.length co132) x425007_3 x425008_3 x425009_3 (fun k_ => k_ < w.heap.size) _ _ y446 t450 t451 t452 t453 t454 t455 t456 t459 t462 t463 t464 w _ ?side1 ?side2 ?side3 ?side4 ?side5 ?side6 gb424 (by (with_reducible repeat (first | refine blk_drewN ?_ _ | refine blk_drew ?_ | refine blk_alloc ?_ _)); exact BK424.out) ?sideg (Or.inr rfl) ?siden A106.out).mono ?_); (case side1 => repeat (first | (with_reducible first | exact HB.out | apply below_alloc | apply pw_below_drewN | apply below_drew1 | refine below_set ?_ GE380.out | refine below_set ?_ GE424.out) | exact HB.out)); (case side2 => exact Kd.R_tight rfl HO_425006.out); (case side3 => exact fun k_ e_ h_ => Or.elim h_ ((HO_425006.out.1 k_ e_.symm).2) (fun g_ => (fun (g_ : k_ = gb424) e2_ => Kd.R_ne HO_425006.out BK424.out (by decide) ((congrArg some g_).symm.trans e2_)) g_ e_)); (case side4 => exact Kd.R_mono (Kd.R_tight rfl HO_425007.out) (fun _ h_ => .inl h_)); (case side5 => exact fun k_ h_ => Or.elim h_ (fun e_ => (HO_425007.out.1 k_ e_.symm).2) (fun g_ => (fun (g_ : k_ = gb424) e2_ => Kd.R_ne HO_425006.out BK424.out (by decide) ((congrArg some g_).symm.trans e2_)) g_)); (case side6 => exact Kd.V_mono (Kd.V_mk HC449.out (Kd.F_below (Kd.C_F (Kd.heap_int .u8) HR449.out) (by repeat (first | (with_reducible first | exact HB.out | apply below_alloc | apply pw_below_drewN | apply below_drew1 | refine below_set ?_ GE380.out | refine below_set ?_ GE424.out) | exact HB.out)))) (fun k_ hk_ => ⟨hk_, fun e_ => Nat.not_le.2 hk_ (Kd.R_base HO_425006.out k_ e_.symm), fun e_ => Nat.not_le.2 hk_ (Kd.R_base HO_425007.out k_ e_.symm)⟩)); (case sideg => exact GE424.out); (case siden => exact fun k_ hk_ e_ => Nat.not_le.2 hk_ (e_ ▸ GE424.out)); rintro e w133 ⟨v457, v460, rfl, hbk, ho0, ho1, hb, hkp⟩; refine ⟨_, rfl, ?_⟩; have n0_ := Aside0.mk (Kd.R_mono (ok' := fun k_ => some k_ ≠ (v457 : Value).ownBlock ∧ some k_ ≠ (v460 : Value).ownBlock) (Kd.R_keptB (Kd.R_types HO_9.out BK424.out (by decide)) hkp (fun k_ hk_ hs_ => Or.elim hs_ (fun e_ => (hk_.1.1) e_) (fun h_ => Or.elim h_ (fun e_ => (hk_.1.2) e_) (fun g_ => hk_.2 g_)))) (fun k_ hk_ => ⟨fun e_ => Or.elim (ho0.1 k_ e_.symm).1 (fun hs_ => hk_.2.1 hs_) (fun hn_ => Nat.not_le.2 hk_.2.2 hn_), fun e_ => Or.elim (ho1.1 k_ e_.symm).1 (fun hs_ => hk_.2.1 hs_) (fun hn_ => Nat.not_le.2 hk_.2.2 hn_)⟩)); have n1_ := Aside0.mk (blk_kept (by (with_reducible repeat (first | refine blk_drewN ?_ _ | refine blk_drew ?_ | refine blk_alloc ?_ _)); exact BK380.out) hkp (fun hs_ => Or.elim hs_ (fun e_ => (fun e_ => (Kd.R_ne HO_425006.out BK380.out (by decide)) e_) e_) (fun h_ => Or.elim h_ (fun e_ => (Kd.R_ne HO_425007.out BK380.out (by decide)) e_) (fun g_ => NB380_424.out g_)))); have n2_ := Aside0.mk hbk; have n3_ := Aside0.mk (Kd.R_mono (ok' := fun k_ => some k_ ≠ (v460 : Value).ownBlock ∧ some k_ ≠ (v393 : Value).ownBlock) ho0 (fun k_ hk_ => ⟨hk_.2, Or.elim hk_.1 (fun hs_ => Or.elim hs_ (fun hs_ => fun e_ => (((HO_9.out).1 k_ e_.symm).1) hs_) (fun h_ => Or.elim h_ (fun hs_ => fun e_ => (((HO_9.out).1 k_ e_.symm).2) hs_) (fun g_ => fun e_ => Kd.R_ne HO_9.out BK424.out (by decide) ((congrArg some g_).symm.trans e_)))) (fun hn_ => (Kd.fresh' (Kd.R_lt (by (with_reducible repeat (first | apply Kd.R_alloc | apply Kd.R_drewN | apply Kd.R_drew)); exact HO_9.out)) k_ hn_))⟩)); have n4_ := Aside0.mk (Kd.R_mono (ok' := fun k_ => some k_ ≠ (v457 : Value).ownBlock ∧ some k_ ≠ (v393 : Value).ownBlock) ho1 (fun k_ hk_ => ⟨hk_.2, Or.elim hk_.1 (fun hs_ => Or.elim hs_ (fun hs_ => fun e_ => (((HO_9.out).1 k_ e_.symm).1) hs_) (fun h_ => Or.elim h_ (fun hs_ => fun e_ => (((HO_9.out).1 k_ e_.symm).2) hs_) (fun g_ => fun e_ => Kd.R_ne HO_9.out BK424.out (by decide) ((congrArg some g_).symm.trans e_)))) (fun hn_ => (Kd.fresh' (Kd.R_lt (by (with_reducible repeat (first | apply Kd.R_alloc | apply Kd.R_drewN | apply Kd.R_drew)); exact HO_9.out)) k_ hn_))⟩)); have n5_ := Aside0.mk (hb); clear HO_9; clear BK380; clear BK424; clear HB; clear HO_425006; clear HO_425007; have HO_9 := n0_; have BK380 := n1_; have BK424 := n2_; have HO458 := n3_; have HO461 := n4_; have HB := n5_; clear n0_ n1_ n2_ n3_ n4_ n5_; (try clear hb); (try clear hkp); (try clear hbk); (try clear ho0); (try clear ho1); obtain ⟨Ao135, co135, eo135⟩ := Kd.R_slice HO458.out; subst eo135; obtain ⟨Ao136, co136, eo136⟩ := Kd.R_slice HO461.out; subst eo136; have n0_ : Aside0 (Kd.R (Kd.int .u8) 5 w133 w.heap.size (fun k_ => some k_ ≠ (.slice Ao135 t456.length co135 : Value).ownBlock ∧ some k_ ≠ (.slice Ao136 t459.length co136 : Value).ownBlock) v393 t392) := ⟨Kd.R_mono HO_9.out (fun _ hk => ⟨hk.1, hk.2⟩)⟩; have n1_ : Aside0 (Kd.R (Kd.int .u8) 5 w133 w.heap.size (fun k_ => some k_ ≠ (v393 : Value).ownBlock ∧ some k_ ≠ (.slice Ao136 t459.length co136 : Value).ownBlock) (.slice Ao135 t456.length co135) t456) := ⟨Kd.R_mono HO458.out (fun _ hk => ⟨hk.2, hk.1⟩)⟩; have n2_ : Aside0 (Kd.R (Kd.int .u8) 5 w133 w.heap.size (fun k_ => some k_ ≠ (v393 : Value).ownBlock ∧ some k_ ≠ (.slice Ao135 t456.length co135 : Value).ownBlock) (.slice Ao136 t459.length co136) t459) := ⟨Kd.R_mono HO461.out (fun _ hk => ⟨hk.2, hk.1⟩)⟩; have n3_ : Aside0 (w133.heap[gb380]? = some (.cells #[.int .i64 a0_0, .int .i64 a0_1, .int .i64 a0_2, .int .i64 a0_3, .int .i64 a0_4, .int .i64 a0_5] 27 (0, 0))) := ⟨BK380.out⟩; have n4_ : Aside0 (w133.heap[gb424]? = some (.cells #[.int .i64 t450, .int .i64 t451, .int .i64 t452, .int .i64 t453, .int .i64 t454, .int .i64 t455, .slice Ao135 t456.length co135, .slice Ao136 t459.length co136, .int .i64 t462, .bool t463] 105 (0, 0))) := ⟨BK424.out⟩; have n5_ : Aside0 (Below w.heap.size w w133) := ⟨HB.out⟩; clear HO_9; clear HO458; clear HO461; clear BK380; clear BK424; clear HB; have HO_9 := n0_; have HO458 := n1_; have HO461 := n2_; have BK380 := n3_; have BK424 := n4_; have HB := n5_; clear n0_ n1_ n2_ n3_ n4_ n5_) | ((with_reducible refine gate_callee (f := 37) rfl ?_); refine goesL_ (some 114) rfl rfl Try.func37 (by kernel_rfl) rfl #[.pointer (some ⟨gb424, 0, none⟩)] rfl (by (try simp only [List.map_toArray, List.map_cons, List.map_nil]); first | done | rfl | (simp only [List.length_drop, List.length_take]; rfl)) ?_; (with_reducible refine (shard_Writer_End.calls k3 t450 t451 t452 t453 t454 t455 (fun k_ => some k_ = (.slice Ao135 t456.length co135 : Value).ownBlock) (.slice Ao135 t456.length co135) t456 (fun k_ => some k_ = (.slice Ao136 t459.length co136 : Value).ownBlock ∨ k_ = gb424) (.slice Ao136 t459.length co136) t459 t462 t463 t465 t466 t467 t468 t469 t470 t471 t474 t477 t478 t479 t482 w _ ?side1 ?side2 ?side3 ?side4 ?side5 gb424 (by (with_reducible repeat (first | refine blk_drewN ?_ _ | refine blk_drew ?_ | refine blk_alloc ?_ _)); exact BK424.out) ?sideg (Or.inr rfl) A107.out).mono ?_); (case side1 => repeat (first | (with_reducible first | exact HB.out | apply below_alloc | apply pw_below_drewN | apply below_drew1 | refine below_set ?_ GE380.out | refine below_set ?_ GE424.out) | exact HB.out)); (case side2 => exact Kd.R_tight rfl HO458.out); (case side3 => exact fun k_ e_ h_ => Or.elim h_ ((HO458.out.1 k_ e_.symm).2) (fun g_ => (fun (g_ : k_ = gb424) e2_ => Kd.R_ne HO458.out BK424.out (by decide) ((congrArg some g_).symm.trans e2_)) g_ e_)); (case side4 => exact Kd.R_mono (Kd.R_tight rfl HO461.out) (fun _ h_ => .inl h_)); (case side5 => exact fun k_ h_ => Or.elim h_ (fun e_ => (HO461.out.1 k_ e_.symm).2) (fun g_ => (fun (g_ : k_ = gb424) e2_ => Kd.R_ne HO458.out BK424.out (by decide) ((congrArg some g_).symm.trans e2_)) g_)); (case sideg => exact GE424.out); rintro e w139 ⟨v472, v475, v480, rfl, hbk, ho0, ho1, ho2, hb, hkp⟩; refine ⟨_, rfl, ?_⟩; have n0_ := Aside0.mk (Kd.R_mono (ok' := fun k_ => some k_ ≠ (v475 : Value).ownBlock) (Kd.R_keptB (Kd.R_types HO_9.out BK424.out (by decide)) hkp (fun k_ hk_ hs_ => Or.elim hs_ (fun e_ => (hk_.1.1) e_) (fun h_ => Or.elim h_ (fun e_ => (hk_.1.2) e_) (fun g_ => hk_.2 g_)))) (fun k_ hk_ => fun e_ => Or.elim (ho1.1 k_ e_.symm) (fun hs_ => hk_.2.1 hs_) (fun hn_ => Nat.not_le.2 hk_.2.2 hn_))); have n1_ := Aside0.mk (blk_kept (by (with_reducible repeat (first | refine blk_drewN ?_ _ | refine blk_drew ?_ | refine blk_alloc ?_ _)); exact BK380.out) hkp (fun hs_ => Or.elim hs_ (fun e_ => (fun e_ => (Kd.R_ne HO458.out BK380.out (by decide)) e_) e_) (fun h_ => Or.elim h_ (fun e_ => (Kd.R_ne HO461.out BK380.out (by decide)) e_) (fun g_ => NB380_424.out g_)))); have n2_ := Aside0.mk hbk; have n3_ := Aside0.mk (Kd.V_mono (ok' := fun k_ => some k_ ≠ (v475 : Value).ownBlock ∧ some k_ ≠ (v393 : Value).ownBlock) ho0 (fun k_ hk_ => ⟨hk_.2, Or.elim hk_.1 (fun hs_ => Or.elim hs_ (fun hs_ => fun e_ => (((HO_9.out).1 k_ e_.symm).1) hs_) (fun h_ => Or.elim h_ (fun hs_ => fun e_ => (((HO_9.out).1 k_ e_.symm).2) hs_) (fun g_ => fun e_ => Kd.R_ne HO_9.out BK424.out (by decide) ((congrArg some g_).symm.trans e_)))) (fun hn_ => (Kd.fresh' (Kd.R_lt (by (with_reducible repeat (first | apply Kd.R_alloc | apply Kd.R_drewN | apply Kd.R_drew)); exact HO_9.out)) k_ hn_))⟩)); have n4_ := Aside0.mk (Kd.R_mono (ok' := fun k_ => some k_ ≠ (v393 : Value).ownBlock) ho1 (fun k_ hk_ => Or.elim hk_ (fun hs_ => Or.elim hs_ (fun hs_ => fun e_ => (((HO_9.out).1 k_ e_.symm).1) hs_) (fun h_ => Or.elim h_ (fun hs_ => fun e_ => (((HO_9.out).1 k_ e_.symm).2) hs_) (fun g_ => fun e_ => Kd.R_ne HO_9.out BK424.out (by decide) ((congrArg some g_).symm.trans e_)))) (fun hn_ => (Kd.fresh' (Kd.R_lt (by (with_reducible repeat (first | apply Kd.R_alloc | apply Kd.R_drewN | apply Kd.R_drew)); exact HO_9.out)) k_ hn_)))); have n5_ := Aside0.mk (Kd.V_mono (ok' := fun k_ => some k_ ≠ (v475 : Value).ownBlock ∧ some k_ ≠ (v393 : Value).ownBlock) ho2 (fun k_ hk_ => ⟨hk_.2, Or.elim hk_.1 (fun hs_ => Or.elim hs_ (fun hs_ => fun e_ => (((HO_9.out).1 k_ e_.symm).1) hs_) (fun h_ => Or.elim h_ (fun hs_ => fun e_ => (((HO_9.out).1 k_ e_.symm).2) hs_) (fun g_ => fun e_ => Kd.R_ne HO_9.out BK424.out (by decide) ((congrArg some g_).symm.trans e_)))) (fun hn_ => (Kd.fresh' (Kd.R_lt (by (with_reducible repeat (first | apply Kd.R_alloc | apply Kd.R_drewN | apply Kd.R_drew)); exact HO_9.out)) k_ hn_))⟩)); have n6_ := Aside0.mk (hb); clear HO_9; clear BK380; clear BK424; clear HB; clear HO458; clear HO461; have HO_9 := n0_; have BK380 := n1_; have BK424 := n2_; have HO473 := n3_; have HO476 := n4_; have HO481 := n5_; have HB := n6_; clear n0_ n1_ n2_ n3_ n4_ n5_ n6_; (try clear hb); (try clear hkp); (try clear hbk); (try clear ho0); (try clear ho1); (try clear ho2); have hcz140_0 : w139.cell? ⟨gb380, 0, none⟩ = some (.int .i64 a0_0) := (blk_cell BK380.out 0).trans rfl; have hcz140_1 : w139.cell? ⟨gb380, 1, none⟩ = some (.int .i64 a0_1) := (blk_cell BK380.out 1).trans rfl; have hcz140_2 : w139.cell? ⟨gb380, 2, none⟩ = some (.int .i64 a0_2) := (blk_cell BK380.out 2).trans rfl; have hcz140_3 : w139.cell? ⟨gb380, 3, none⟩ = some (.int .i64 a0_3) := (blk_cell BK380.out 3).trans rfl; have hcz140_4 : w139.cell? ⟨gb380, 4, none⟩ = some (.int .i64 a0_4) := (blk_cell BK380.out 4).trans rfl; have hcz140_5 : w139.cell? ⟨gb380, 5, none⟩ = some (.int .i64 a0_5) := (blk_cell BK380.out 5).trans rfl; have hfz140_0 := blk_frozen BK380.out 0; have hfz140_1 := blk_frozen BK380.out 1; have hfz140_2 := blk_frozen BK380.out 2; have hfz140_3 := blk_frozen BK380.out 3; have hfz140_4 := blk_frozen BK380.out 4; have hfz140_5 := blk_frozen BK380.out 5) | ((with_reducible refine gate_callee (f := 37) rfl ?_); refine goesL_ (some 119) rfl rfl Try.func37 (by kernel_rfl) rfl #[.pointer (some ⟨gb424, 0, none⟩)] rfl (by (try simp only [List.map_toArray, List.map_cons, List.map_nil]); first | done | rfl) ?_; obtain ⟨m_, hm_, hq_, h0_⟩ := End_left A107.out; (refine (shard_Writer_End.quiet k3 gb424 t465 t466 t467 t468 t469 t470 v472 v475 t471 t474 t477 t478 _ _ (by (with_reducible repeat (first | refine blk_drewN ?_ _ | refine blk_drew ?_ | refine blk_alloc ?_ _)); exact BK424.out) hm_ hq_).mono ?_); rintro e w9900 ⟨rfl, hb⟩; refine ⟨_, rfl, ?_⟩; generalize (if m_ = true then (2 : Int) else 1) = z_; have n0_ := Aside0.mk (Kd.R_below (by (with_reducible repeat (first | apply Kd.R_alloc | apply Kd.R_drewN | apply Kd.R_drew)); exact HO_9.out) hb); have n1_ := Aside0.mk (Kd.V_below (by (with_reducible repeat (first | apply Kd.V_alloc | apply Kd.V_drewN | apply Kd.V_drew)); exact HO473.out) hb); have n2_ := Aside0.mk (Kd.R_below (by (with_reducible repeat (first | apply Kd.R_alloc | apply Kd.R_drewN | apply Kd.R_drew)); exact HO476.out) hb); have n3_ := Aside0.mk (Kd.V_below (by (with_reducible repeat (first | apply Kd.V_alloc | apply Kd.V_drewN | apply Kd.V_drew)); exact HO481.out) hb); have n4_ := Aside0.mk (blk_below (g := gb380) (o := .cells #[.int .i64 a0_0, .int .i64 a0_1, .int .i64 a0_2, .int .i64 a0_3, .int .i64 a0_4, .int .i64 a0_5] 27 (0, 0)) (by (with_reducible repeat (first | refine blk_drewN ?_ _ | refine blk_drew ?_ | refine blk_alloc ?_ _)); exact BK380.out) hb); have n5_ := Aside0.mk (blk_below (g := gb424) (o := .cells #[.int .i64 t465, .int .i64 t466, .int .i64 t467, .int .i64 t468, .int .i64 t469, .int .i64 t470, v472, v475, .int .i64 t477, .bool t478] 105 (0, 0)) (by (with_reducible repeat (first | refine blk_drewN ?_ _ | refine blk_drew ?_ | refine blk_alloc ?_ _)); exact BK424.out) hb); have n6_ := Aside0.mk (below_step (by repeat (first | (with_reducible first | exact HB.out | apply below_alloc | apply pw_below_drewN | apply below_drew1 | refine below_set ?_ GE380.out | refine below_set ?_ GE424.out) | exact HB.out)) hb); clear HO_9; clear HO473; clear HO476; clear HO481; clear BK380; clear BK424; clear HB; have HO_9 := n0_; have HO473 := n1_; have HO476 := n2_; have HO481 := n3_; have BK380 := n4_; have BK424 := n5_; have HB := n6_; clear n0_ n1_ n2_ n3_ n4_ n5_ n6_; (try clear hb); (try clear hb2); (try clear hk); (try clear hi); have hcy140_0 : w9900.cell? ⟨gb380, 0, none⟩ = some (.int .i64 a0_0) := (blk_cell BK380.out 0).trans rfl; have hcy140_1 : w9900.cell? ⟨gb380, 1, none⟩ = some (.int .i64 a0_1) := (blk_cell BK380.out 1).trans rfl; have hcy140_2 : w9900.cell? ⟨gb380, 2, none⟩ = some (.int .i64 a0_2) := (blk_cell BK380.out 2).trans rfl; have hcy140_3 : w9900.cell? ⟨gb380, 3, none⟩ = some (.int .i64 a0_3) := (blk_cell BK380.out 3).trans rfl; have hcy140_4 : w9900.cell? ⟨gb380, 4, none⟩ = some (.int .i64 a0_4) := (blk_cell BK380.out 4).trans rfl; have hcy140_5 : w9900.cell? ⟨gb380, 5, none⟩ = some (.int .i64 a0_5) := (blk_cell BK380.out 5).trans rfl; (try clear hm_ hq_ h0_)) | ((with_reducible refine gate_callee (f := 34) rfl ?_); refine goesL_ (some 124) rfl rfl Try.func34 (by kernel_rfl) rfl #[.agg #[.int .i64 a0_0, .int .i64 a0_1, .int .i64 a0_2, .int .i64 a0_3, .int .i64 a0_4, .int .i64 a0_5]] rfl (by (try simp only [List.map_toArray, List.map_cons, List.map_nil]); first | done | rfl | (simp only [List.length_drop, List.length_take]; rfl)) ?_; (with_reducible refine (strongboxref4_MayHead.calls a0_0 a0_1 a0_2 a0_3 a0_4 a0_5 true _ A108.out).mono ?_); rintro e w141 ⟨rfl, hb⟩; refine ⟨_, rfl, ?_⟩; have n0_ := Aside0.mk (Kd.R_below (by (with_reducible repeat (first | apply Kd.R_alloc | apply Kd.R_drewN | apply Kd.R_drew)); exact HO_9.out) hb); have n1_ := Aside0.mk (Kd.V_below (by (with_reducible repeat (first | apply Kd.V_alloc | apply Kd.V_drewN | apply Kd.V_drew)); exact HO473.out) hb); have n2_ := Aside0.mk (Kd.R_below (by (with_reducible repeat (first | apply Kd.R_alloc | apply Kd.R_drewN | apply Kd.R_drew)); exact HO476.out) hb); have n3_ := Aside0.mk (Kd.V_below (by (with_reducible repeat (first | apply Kd.V_alloc | apply Kd.V_drewN | apply Kd.V_drew)); exact HO481.out) hb); have n4_ := Aside0.mk (blk_below (g := gb380) (o := .cells #[.int .i64 a0_0, .int .i64 a0_1, .int .i64 a0_2, .int .i64 a0_3, .int .i64 a0_4, .int .i64 a0_5] 27 (0, 0)) (by (with_reducible repeat (first | refine blk_drewN ?_ _ | refine blk_drew ?_ | refine blk_alloc ?_ _)); exact BK380.out) hb); have n5_ := Aside0.mk (blk_below (g := gb424) (o := .cells #[.int .i64 t465, .int .i64 t466, .int .i64 t467, .int .i64 t468, .int .i64 t469, .int .i64 t470, v472, v475, .int .i64 t477, .bool t478] 105 (0, 0)) (by (with_reducible repeat (first | refine blk_drewN ?_ _ | refine blk_drew ?_ | refine blk_alloc ?_ _)); exact BK424.out) hb); have n6_ := Aside0.mk (below_step (by repeat (first | (with_reducible first | exact HB.out | apply below_alloc | apply pw_below_drewN | apply below_drew1 | refine below_set ?_ GE380.out | refine below_set ?_ GE424.out) | exact HB.out)) hb); clear HO_9; clear HO473; clear HO476; clear HO481; clear BK380; clear BK424; clear HB; have HO_9 := n0_; have HO473 := n1_; have HO476 := n2_; have HO481 := n3_; have BK380 := n4_; have BK424 := n5_; have HB := n6_; clear n0_ n1_ n2_ n3_ n4_ n5_ n6_; (try clear hb); (try clear hb2); (try clear hk); (try clear hi); have hcz142_0 : w141.cell? ⟨gb380, 0, none⟩ = some (.int .i64 a0_0) := (blk_cell BK380.out 0).trans rfl; have hcz142_1 : w141.cell? ⟨gb380, 1, none⟩ = some (.int .i64 a0_1) := (blk_cell BK380.out 1).trans rfl; have hcz142_2 : w141.cell? ⟨gb380, 2, none⟩ = some (.int .i64 a0_2) := (blk_cell BK380.out 2).trans rfl; have hcz142_3 : w141.cell? ⟨gb380, 3, none⟩ = some (.int .i64 a0_3) := (blk_cell BK380.out 3).trans rfl; have hcz142_4 : w141.cell? ⟨gb380, 4, none⟩ = some (.int .i64 a0_4) := (blk_cell BK380.out 4).trans rfl; have hcz142_5 : w141.cell? ⟨gb380, 5, none⟩ = some (.int .i64 a0_5) := (blk_cell BK380.out 5).trans rfl; have hfz142_0 := blk_frozen BK380.out 0; have hfz142_1 := blk_frozen BK380.out 1; have hfz142_2 := blk_frozen BK380.out 2; have hfz142_3 := blk_frozen BK380.out 3; have hfz142_4 := blk_frozen BK380.out 4; have hfz142_5 := blk_frozen BK380.out 5))
                 go_ret
                 exact ⟨by first | rfl | (simp [errW_none, errW_some] <;> rfl) | (simp [*, errW_none, errW_some] <;> rfl), by repeat (first | (with_reducible first | exact HB.out | apply below_alloc | apply pw_below_drewN | apply below_drew1 | refine below_set ?_ GE380.out | refine below_set ?_ GE424.out) | exact HB.out)⟩
                ·rw [if_neg c127] at H
                 exact absurd H (by simp)
               ·rw [if_neg c126] at H
                have c126b0 : decide ((l1.length : Int) < a0_4) = false := decide_eq_false c126
                clear c126
                by_cases c158 : t464 = 0
                ·rw [if_pos c158] at H
                 have c158b0 : (t464 == 0) = true := beq_iff_eq.mpr c158
                 have c158b1 : (t464 != 0) = false := bne_eq_false_iff_eq.mpr c158
                 clear c158
                 by_cases c159 : t482 = 0
                 ·rw [if_pos c159] at H
                  have c159b0 : (t482 == 0) = true := beq_iff_eq.mpr c159
                  have c159b1 : (t482 != 0) = false := bne_eq_false_iff_eq.mpr c159
                  clear c159
                  by_cases c160 : (strOfNums t479).toList = (strOfNums t392).toList
                  ·rw [if_pos c160] at H
                   have c160b0 : ((strOfNums t479).toList == (strOfNums t392).toList) = true := beq_iff_eq.mpr c160
                   have c160b1 : ((strOfNums t479).toList != (strOfNums t392).toList) = false := bne_eq_false_iff_eq.mpr c160
                   clear c160
                   obtain rfl := Option.some.inj H
                   have hnb161 := NB424_380.out
                   have hnc161 := NB380_424.out
                   have q163 : (x12_3 : Int) ≤ ((l1.length : Int) : Int) := of_decide_eq_true (by first | (with_reducible assumption) | assumption)
                   obtain ⟨i0163, hi0163, _, hsz163, _⟩ := info_parts info5
                   have hroom163 : l1.length ≤ c1 := HC1.out
                   have hC163 : Kd.C (Kd.int .u8) _ A1 l1.length l1 := HR1.out
                   have q0163 : (0 : Int) ≤ (x12_3 : Int) := of_decide_eq_true (by first | (with_reducible assumption) | assumption)
                   have hcut163 := cut_from (P := Try.prog) 22 5 .i64 Try.underlying22 hi0163 1 hsz163 A1 l1.length c1 x12_3 q0163 q163
                   have hr163 := Kd.C_drop (m := (x12_3 : Int).toNat) (c := c1) hC163 (by omega) hroom163
                   obtain ⟨A163, hA163⟩ : ∃ A1_, A1_ = (if c1 = (x12_3 : Int).toNat then A1 else (A1 : Option Addr).map (·.add ((x12_3 : Int).toNat * 1))) := ⟨_, rfl⟩
                   obtain ⟨c163, hc163⟩ : ∃ c1_, c1_ = c1 - (x12_3 : Int).toNat := ⟨_, rfl⟩
                   have hy163 : y446.length = l1.length - (x12_3 : Int).toNat := (by rw [Ny446.out, List.length_drop] <;> omega)
                   rw [show (l1).drop (x12_3 : Int).toNat = y446 from Ny446.out.symm] at hr163
                   replace hr163 : Kd.C (Kd.int .u8) _ A163 y446.length y446 := (by rw [hA163]; exact hr163)
                   rw [← hy163, ← hA163, ← hc163] at hcut163
                   have HR449 := Aside0.mk hr163
                   have HC449 := Aside0.mk (show y446.length ≤ c163 from by rw [hy163, hc163]; exact Nat.sub_le_sub_right hroom163 _)
                   clear hr163 hC163 hroom163 hi0163 hsz163 hc163
                   have KY163 := Aside0.mk hy163
                   have KA163 := Aside0.mk hA163
                   clear hy163 hA163
                   replace q163 := eq_true q163
                   obtain ⟨Ao164, co164, eo164⟩ := Kd.R_slice HO_425006.out
                   subst eo164
                   obtain ⟨Ao165, co165, eo165⟩ := Kd.R_slice HO_425007.out
                   subst eo165
                   go_wp2_with (first | ((with_reducible refine gate_callee (f := 36) rfl ?_); refine goesL_ (some 111) rfl rfl Try.func36 (by kernel_rfl) rfl #[.pointer (some ⟨gb424, 0, none⟩), .slice A163 y446.length c163] rfl (by (try simp only [List.map_toArray, List.map_cons, List.map_nil]); first | done | rfl | (simp only [List.length_drop, List.length_take]; rfl)) ?_; (with_reducible refine (shard_Writer_Add.calls k3 x425000_3 x425001_3 x425002_3 x425003_3 x425004_3 x425005_3 (fun k_ => some k_ = (.slice Ao164 x425006_3.length co164 : Value).ownBlock) (.slice Ao164 x425006_3.length co164) x425006_3 (fun k_ => some k_ = (.slice Ao165 x425007_3.length co165 : Value).ownBlock ∨ k_ = gb424) (.slice Ao165 x425007_3.length co165) x425007_3 x425008_3 x425009_3 (fun k_ => k_ < w.heap.size) _ _ y446 t450 t451 t452 t453 t454 t455 t456 t459 t462 t463 t464 w _ ?side1 ?side2 ?side3 ?side4 ?side5 ?side6 gb424 (by (with_reducible repeat (first | refine blk_drewN ?_ _ | refine blk_drew ?_ | refine blk_alloc ?_ _)); exact BK424.out) ?sideg (Or.inr rfl) ?siden A106.out).mono ?_); (case side1 => repeat (first | (with_reducible first | exact HB.out | apply below_alloc | apply pw_below_drewN | apply below_drew1 | refine below_set ?_ GE380.out | refine below_set ?_ GE424.out) | exact HB.out)); (case side2 => exact Kd.R_tight rfl HO_425006.out); (case side3 => exact fun k_ e_ h_ => Or.elim h_ ((HO_425006.out.1 k_ e_.symm).2) (fun g_ => (fun (g_ : k_ = gb424) e2_ => Kd.R_ne HO_425006.out BK424.out (by decide) ((congrArg some g_).symm.trans e2_)) g_ e_)); (case side4 => exact Kd.R_mono (Kd.R_tight rfl HO_425007.out) (fun _ h_ => .inl h_)); (case side5 => exact fun k_ h_ => Or.elim h_ (fun e_ => (HO_425007.out.1 k_ e_.symm).2) (fun g_ => (fun (g_ : k_ = gb424) e2_ => Kd.R_ne HO_425006.out BK424.out (by decide) ((congrArg some g_).symm.trans e2_)) g_)); (case side6 => exact Kd.V_mono (Kd.V_mk HC449.out (Kd.F_below (Kd.C_F (Kd.heap_int .u8) HR449.out) (by repeat (first | (with_reducible first | exact HB.out | apply below_alloc | apply pw_below_drewN | apply below_drew1 | refine below_set ?_ GE380.out | refine below_set ?_ GE424.out) | exact HB.out)))) (fun k_ hk_ => ⟨hk_, fun e_ => Nat.not_le.2 hk_ (Kd.R_base HO_425006.out k_ e_.symm), fun e_ => Nat.not_le.2 hk_ (Kd.R_base HO_425007.out k_ e_.symm)⟩)); (case sideg => exact GE424.out); (case siden => exact fun k_ hk_ e_ => Nat.not_le.2 hk_ (e_ ▸ GE424.out)); rintro e w166 ⟨v457, v460, rfl, hbk, ho0, ho1, hb, hkp⟩; refine ⟨_, rfl, ?_⟩; have n0_ := Aside0.mk (Kd.R_mono (ok' := fun k_ => some k_ ≠ (v457 : Value).ownBlock ∧ some k_ ≠ (v460 : Value).ownBlock) (Kd.R_keptB (Kd.R_types HO_9.out BK424.out (by decide)) hkp (fun k_ hk_ hs_ => Or.elim hs_ (fun e_ => (hk_.1.1) e_) (fun h_ => Or.elim h_ (fun e_ => (hk_.1.2) e_) (fun g_ => hk_.2 g_)))) (fun k_ hk_ => ⟨fun e_ => Or.elim (ho0.1 k_ e_.symm).1 (fun hs_ => hk_.2.1 hs_) (fun hn_ => Nat.not_le.2 hk_.2.2 hn_), fun e_ => Or.elim (ho1.1 k_ e_.symm).1 (fun hs_ => hk_.2.1 hs_) (fun hn_ => Nat.not_le.2 hk_.2.2 hn_)⟩)); have n1_ := Aside0.mk (blk_kept (by (with_reducible repeat (first | refine blk_drewN ?_ _ | refine blk_drew ?_ | refine blk_alloc ?_ _)); exact BK380.out) hkp (fun hs_ => Or.elim hs_ (fun e_ => (fun e_ => (Kd.R_ne HO_425006.out BK380.out (by decide)) e_) e_) (fun h_ => Or.elim h_ (fun e_ => (Kd.R_ne HO_425007.out BK380.out (by decide)) e_) (fun g_ => NB380_424.out g_)))); have n2_ := Aside0.mk hbk; have n3_ := Aside0.mk (Kd.R_mono (ok' := fun k_ => some k_ ≠ (v460 : Value).ownBlock ∧ some k_ ≠ (v393 : Value).ownBlock) ho0 (fun k_ hk_ => ⟨hk_.2, Or.elim hk_.1 (fun hs_ => Or.elim hs_ (fun hs_ => fun e_ => (((HO_9.out).1 k_ e_.symm).1) hs_) (fun h_ => Or.elim h_ (fun hs_ => fun e_ => (((HO_9.out).1 k_ e_.symm).2) hs_) (fun g_ => fun e_ => Kd.R_ne HO_9.out BK424.out (by decide) ((congrArg some g_).symm.trans e_)))) (fun hn_ => (Kd.fresh' (Kd.R_lt (by (with_reducible repeat (first | apply Kd.R_alloc | apply Kd.R_drewN | apply Kd.R_drew)); exact HO_9.out)) k_ hn_))⟩)); have n4_ := Aside0.mk (Kd.R_mono (ok' := fun k_ => some k_ ≠ (v457 : Value).ownBlock ∧ some k_ ≠ (v393 : Value).ownBlock) ho1 (fun k_ hk_ => ⟨hk_.2, Or.elim hk_.1 (fun hs_ => Or.elim hs_ (fun hs_ => fun e_ => (((HO_9.out).1 k_ e_.symm).1) hs_) (fun h_ => Or.elim h_ (fun hs_ => fun e_ => (((HO_9.out).1 k_ e_.symm).2) hs_) (fun g_ => fun e_ => Kd.R_ne HO_9.out BK424.out (by decide) ((congrArg some g_).symm.trans e_)))) (fun hn_ => (Kd.fresh' (Kd.R_lt (by (with_reducible repeat (first | apply Kd.R_alloc | apply Kd.R_drewN | apply Kd.R_drew)); exact HO_9.out)) k_ hn_))⟩)); have n5_ := Aside0.mk (hb); clear HO_9; clear BK380; clear BK424; clear HB; clear HO_425006; clear HO_425007; have HO_9 := n0_; have BK380 := n1_; have BK424 := n2_; have HO458 := n3_; have HO461 := n4_; have HB := n5_; clear n0_ n1_ n2_ n3_ n4_ n5_; (try clear hb); (try clear hkp); (try clear hbk); (try clear ho0); (try clear ho1); obtain ⟨Ao168, co168, eo168⟩ := Kd.R_slice HO458.out; subst eo168; obtain ⟨Ao169, co169, eo169⟩ := Kd.R_slice HO461.out; subst eo169; have n0_ : Aside0 (Kd.R (Kd.int .u8) 5 w166 w.heap.size (fun k_ => some k_ ≠ (.slice Ao168 t456.length co168 : Value).ownBlock ∧ some k_ ≠ (.slice Ao169 t459.length co169 : Value).ownBlock) v393 t392) := ⟨Kd.R_mono HO_9.out (fun _ hk => ⟨hk.1, hk.2⟩)⟩; have n1_ : Aside0 (Kd.R (Kd.int .u8) 5 w166 w.heap.size (fun k_ => some k_ ≠ (v393 : Value).ownBlock ∧ some k_ ≠ (.slice Ao169 t459.length co169 : Value).ownBlock) (.slice Ao168 t456.length co168) t456) := ⟨Kd.R_mono HO458.out (fun _ hk => ⟨hk.2, hk.1⟩)⟩; have n2_ : Aside0 (Kd.R (Kd.int .u8) 5 w166 w.heap.size (fun k_ => some k_ ≠ (v393 : Value).ownBlock ∧ some k_ ≠ (.slice Ao168 t456.length co168 : Value).ownBlock) (.slice Ao169 t459.length co169) t459) := ⟨Kd.R_mono HO461.out (fun _ hk => ⟨hk.2, hk.1⟩)⟩; have n3_ : Aside0 (w166.heap[gb380]? = some (.cells #[.int .i64 a0_0, .int .i64 a0_1, .int .i64 a0_2, .int .i64 a0_3, .int .i64 a0_4, .int .i64 a0_5] 27 (0, 0))) := ⟨BK380.out⟩; have n4_ : Aside0 (w166.heap[gb424]? = some (.cells #[.int .i64 t450, .int .i64 t451, .int .i64 t452, .int .i64 t453, .int .i64 t454, .int .i64 t455, .slice Ao168 t456.length co168, .slice Ao169 t459.length co169, .int .i64 t462, .bool t463] 105 (0, 0))) := ⟨BK424.out⟩; have n5_ : Aside0 (Below w.heap.size w w166) := ⟨HB.out⟩; clear HO_9; clear HO458; clear HO461; clear BK380; clear BK424; clear HB; have HO_9 := n0_; have HO458 := n1_; have HO461 := n2_; have BK380 := n3_; have BK424 := n4_; have HB := n5_; clear n0_ n1_ n2_ n3_ n4_ n5_) | ((with_reducible refine gate_callee (f := 37) rfl ?_); refine goesL_ (some 114) rfl rfl Try.func37 (by kernel_rfl) rfl #[.pointer (some ⟨gb424, 0, none⟩)] rfl (by (try simp only [List.map_toArray, List.map_cons, List.map_nil]); first | done | rfl | (simp only [List.length_drop, List.length_take]; rfl)) ?_; (with_reducible refine (shard_Writer_End.calls k3 t450 t451 t452 t453 t454 t455 (fun k_ => some k_ = (.slice Ao168 t456.length co168 : Value).ownBlock) (.slice Ao168 t456.length co168) t456 (fun k_ => some k_ = (.slice Ao169 t459.length co169 : Value).ownBlock ∨ k_ = gb424) (.slice Ao169 t459.length co169) t459 t462 t463 t465 t466 t467 t468 t469 t470 t471 t474 t477 t478 t479 t482 w _ ?side1 ?side2 ?side3 ?side4 ?side5 gb424 (by (with_reducible repeat (first | refine blk_drewN ?_ _ | refine blk_drew ?_ | refine blk_alloc ?_ _)); exact BK424.out) ?sideg (Or.inr rfl) A107.out).mono ?_); (case side1 => repeat (first | (with_reducible first | exact HB.out | apply below_alloc | apply pw_below_drewN | apply below_drew1 | refine below_set ?_ GE380.out | refine below_set ?_ GE424.out) | exact HB.out)); (case side2 => exact Kd.R_tight rfl HO458.out); (case side3 => exact fun k_ e_ h_ => Or.elim h_ ((HO458.out.1 k_ e_.symm).2) (fun g_ => (fun (g_ : k_ = gb424) e2_ => Kd.R_ne HO458.out BK424.out (by decide) ((congrArg some g_).symm.trans e2_)) g_ e_)); (case side4 => exact Kd.R_mono (Kd.R_tight rfl HO461.out) (fun _ h_ => .inl h_)); (case side5 => exact fun k_ h_ => Or.elim h_ (fun e_ => (HO461.out.1 k_ e_.symm).2) (fun g_ => (fun (g_ : k_ = gb424) e2_ => Kd.R_ne HO458.out BK424.out (by decide) ((congrArg some g_).symm.trans e2_)) g_)); (case sideg => exact GE424.out); rintro e w172 ⟨v472, v475, v480, rfl, hbk, ho0, ho1, ho2, hb, hkp⟩; refine ⟨_, rfl, ?_⟩; have n0_ := Aside0.mk (Kd.R_mono (ok' := fun k_ => some k_ ≠ (v475 : Value).ownBlock) (Kd.R_keptB (Kd.R_types HO_9.out BK424.out (by decide)) hkp (fun k_ hk_ hs_ => Or.elim hs_ (fun e_ => (hk_.1.1) e_) (fun h_ => Or.elim h_ (fun e_ => (hk_.1.2) e_) (fun g_ => hk_.2 g_)))) (fun k_ hk_ => fun e_ => Or.elim (ho1.1 k_ e_.symm) (fun hs_ => hk_.2.1 hs_) (fun hn_ => Nat.not_le.2 hk_.2.2 hn_))); have n1_ := Aside0.mk (blk_kept (by (with_reducible repeat (first | refine blk_drewN ?_ _ | refine blk_drew ?_ | refine blk_alloc ?_ _)); exact BK380.out) hkp (fun hs_ => Or.elim hs_ (fun e_ => (fun e_ => (Kd.R_ne HO458.out BK380.out (by decide)) e_) e_) (fun h_ => Or.elim h_ (fun e_ => (Kd.R_ne HO461.out BK380.out (by decide)) e_) (fun g_ => NB380_424.out g_)))); have n2_ := Aside0.mk hbk; have n3_ := Aside0.mk (Kd.V_mono (ok' := fun k_ => some k_ ≠ (v475 : Value).ownBlock ∧ some k_ ≠ (v393 : Value).ownBlock) ho0 (fun k_ hk_ => ⟨hk_.2, Or.elim hk_.1 (fun hs_ => Or.elim hs_ (fun hs_ => fun e_ => (((HO_9.out).1 k_ e_.symm).1) hs_) (fun h_ => Or.elim h_ (fun hs_ => fun e_ => (((HO_9.out).1 k_ e_.symm).2) hs_) (fun g_ => fun e_ => Kd.R_ne HO_9.out BK424.out (by decide) ((congrArg some g_).symm.trans e_)))) (fun hn_ => (Kd.fresh' (Kd.R_lt (by (with_reducible repeat (first | apply Kd.R_alloc | apply Kd.R_drewN | apply Kd.R_drew)); exact HO_9.out)) k_ hn_))⟩)); have n4_ := Aside0.mk (Kd.R_mono (ok' := fun k_ => some k_ ≠ (v393 : Value).ownBlock) ho1 (fun k_ hk_ => Or.elim hk_ (fun hs_ => Or.elim hs_ (fun hs_ => fun e_ => (((HO_9.out).1 k_ e_.symm).1) hs_) (fun h_ => Or.elim h_ (fun hs_ => fun e_ => (((HO_9.out).1 k_ e_.symm).2) hs_) (fun g_ => fun e_ => Kd.R_ne HO_9.out BK424.out (by decide) ((congrArg some g_).symm.trans e_)))) (fun hn_ => (Kd.fresh' (Kd.R_lt (by (with_reducible repeat (first | apply Kd.R_alloc | apply Kd.R_drewN | apply Kd.R_drew)); exact HO_9.out)) k_ hn_)))); have n5_ := Aside0.mk (Kd.V_mono (ok' := fun k_ => some k_ ≠ (v475 : Value).ownBlock ∧ some k_ ≠ (v393 : Value).ownBlock) ho2 (fun k_ hk_ => ⟨hk_.2, Or.elim hk_.1 (fun hs_ => Or.elim hs_ (fun hs_ => fun e_ => (((HO_9.out).1 k_ e_.symm).1) hs_) (fun h_ => Or.elim h_ (fun hs_ => fun e_ => (((HO_9.out).1 k_ e_.symm).2) hs_) (fun g_ => fun e_ => Kd.R_ne HO_9.out BK424.out (by decide) ((congrArg some g_).symm.trans e_)))) (fun hn_ => (Kd.fresh' (Kd.R_lt (by (with_reducible repeat (first | apply Kd.R_alloc | apply Kd.R_drewN | apply Kd.R_drew)); exact HO_9.out)) k_ hn_))⟩)); have n6_ := Aside0.mk (hb); clear HO_9; clear BK380; clear BK424; clear HB; clear HO458; clear HO461; have HO_9 := n0_; have BK380 := n1_; have BK424 := n2_; have HO473 := n3_; have HO476 := n4_; have HO481 := n5_; have HB := n6_; clear n0_ n1_ n2_ n3_ n4_ n5_ n6_; (try clear hb); (try clear hkp); (try clear hbk); (try clear ho0); (try clear ho1); (try clear ho2); have hcz173_0 : w172.cell? ⟨gb380, 0, none⟩ = some (.int .i64 a0_0) := (blk_cell BK380.out 0).trans rfl; have hcz173_1 : w172.cell? ⟨gb380, 1, none⟩ = some (.int .i64 a0_1) := (blk_cell BK380.out 1).trans rfl; have hcz173_2 : w172.cell? ⟨gb380, 2, none⟩ = some (.int .i64 a0_2) := (blk_cell BK380.out 2).trans rfl; have hcz173_3 : w172.cell? ⟨gb380, 3, none⟩ = some (.int .i64 a0_3) := (blk_cell BK380.out 3).trans rfl; have hcz173_4 : w172.cell? ⟨gb380, 4, none⟩ = some (.int .i64 a0_4) := (blk_cell BK380.out 4).trans rfl; have hcz173_5 : w172.cell? ⟨gb380, 5, none⟩ = some (.int .i64 a0_5) := (blk_cell BK380.out 5).trans rfl; have hfz173_0 := blk_frozen BK380.out 0; have hfz173_1 := blk_frozen BK380.out 1; have hfz173_2 := blk_frozen BK380.out 2; have hfz173_3 := blk_frozen BK380.out 3; have hfz173_4 := blk_frozen BK380.out 4; have hfz173_5 := blk_frozen BK380.out 5) | ((with_reducible refine gate_callee (f := 37) rfl ?_); refine goesL_ (some 119) rfl rfl Try.func37 (by kernel_rfl) rfl #[.pointer (some ⟨gb424, 0, none⟩)] rfl (by (try simp only [List.map_toArray, List.map_cons, List.map_nil]); first | done | rfl) ?_; obtain ⟨m_, hm_, hq_, h0_⟩ := End_left A107.out; have hm0_ := h0_ (beq_iff_eq.mp c159b0); subst hm0_; (refine (shard_Writer_End.quiet k3 gb424 t465 t466 t467 t468 t469 t470 v472 v475 t471 t474 t477 t478 _ _ (by (with_reducible repeat (first | refine blk_drewN ?_ _ | refine blk_drew ?_ | refine blk_alloc ?_ _)); exact BK424.out) hm_ hq_).mono ?_); rintro e w9900 ⟨rfl, hb⟩; refine ⟨_, rfl, ?_⟩; have n0_ := Aside0.mk (Kd.R_below (by (with_reducible repeat (first | apply Kd.R_alloc | apply Kd.R_drewN | apply Kd.R_drew)); exact HO_9.out) hb); have n1_ := Aside0.mk (Kd.V_below (by (with_reducible repeat (first | apply Kd.V_alloc | apply Kd.V_drewN | apply Kd.V_drew)); exact HO473.out) hb); have n2_ := Aside0.mk (Kd.R_below (by (with_reducible repeat (first | apply Kd.R_alloc | apply Kd.R_drewN | apply Kd.R_drew)); exact HO476.out) hb); have n3_ := Aside0.mk (Kd.V_below (by (with_reducible repeat (first | apply Kd.V_alloc | apply Kd.V_drewN | apply Kd.V_drew)); exact HO481.out) hb); have n4_ := Aside0.mk (blk_below (g := gb380) (o := .cells #[.int .i64 a0_0, .int .i64 a0_1, .int .i64 a0_2, .int .i64 a0_3, .int .i64 a0_4, .int .i64 a0_5] 27 (0, 0)) (by (with_reducible repeat (first | refine blk_drewN ?_ _ | refine blk_drew ?_ | refine blk_alloc ?_ _)); exact BK380.out) hb); have n5_ := Aside0.mk (blk_below (g := gb424) (o := .cells #[.int .i64 t465, .int .i64 t466, .int .i64 t467, .int .i64 t468, .int .i64 t469, .int .i64 t470, v472, v475, .int .i64 t477, .bool t478] 105 (0, 0)) (by (with_reducible repeat (first | refine blk_drewN ?_ _ | refine blk_drew ?_ | refine blk_alloc ?_ _)); exact BK424.out) hb); have n6_ := Aside0.mk (below_step (by repeat (first | (with_reducible first | exact HB.out | apply below_alloc | apply pw_below_drewN | apply below_drew1 | refine below_set ?_ GE380.out | refine below_set ?_ GE424.out) | exact HB.out)) hb); clear HO_9; clear HO473; clear HO476; clear HO481; clear BK380; clear BK424; clear HB; have HO_9 := n0_; have HO473 := n1_; have HO476 := n2_; have HO481 := n3_; have BK380 := n4_; have BK424 := n5_; have HB := n6_; clear n0_ n1_ n2_ n3_ n4_ n5_ n6_; (try clear hb); (try clear hb2); (try clear hk); (try clear hi); have hcy173_0 : w9900.cell? ⟨gb380, 0, none⟩ = some (.int .i64 a0_0) := (blk_cell BK380.out 0).trans rfl; have hcy173_1 : w9900.cell? ⟨gb380, 1, none⟩ = some (.int .i64 a0_1) := (blk_cell BK380.out 1).trans rfl; have hcy173_2 : w9900.cell? ⟨gb380, 2, none⟩ = some (.int .i64 a0_2) := (blk_cell BK380.out 2).trans rfl; have hcy173_3 : w9900.cell? ⟨gb380, 3, none⟩ = some (.int .i64 a0_3) := (blk_cell BK380.out 3).trans rfl; have hcy173_4 : w9900.cell? ⟨gb380, 4, none⟩ = some (.int .i64 a0_4) := (blk_cell BK380.out 4).trans rfl; have hcy173_5 : w9900.cell? ⟨gb380, 5, none⟩ = some (.int .i64 a0_5) := (blk_cell BK380.out 5).trans rfl; (try clear hm_ hq_ h0_)) | ((with_reducible refine gate_callee (f := 34) rfl ?_); refine goesL_ (some 124) rfl rfl Try.func34 (by kernel_rfl) rfl #[.agg #[.int .i64 a0_0, .int .i64 a0_1, .int .i64 a0_2, .int .i64 a0_3, .int .i64 a0_4, .int .i64 a0_5]] rfl (by (try simp only [List.map_toArray, List.map_cons, List.map_nil]); first | done | rfl | (simp only [List.length_drop, List.length_take]; rfl)) ?_; (with_reducible refine (strongboxref4_MayHead.calls a0_0 a0_1 a0_2 a0_3 a0_4 a0_5 true _ A108.out).mono ?_); rintro e w174 ⟨rfl, hb⟩; refine ⟨_, rfl, ?_⟩; have n0_ := Aside0.mk (Kd.R_below (by (with_reducible repeat (first | apply Kd.R_alloc | apply Kd.R_drewN | apply Kd.R_drew)); exact HO_9.out) hb); have n1_ := Aside0.mk (Kd.V_below (by (with_reducible repeat (first | apply Kd.V_alloc | apply Kd.V_drewN | apply Kd.V_drew)); exact HO473.out) hb); have n2_ := Aside0.mk (Kd.R_below (by (with_reducible repeat (first | apply Kd.R_alloc | apply Kd.R_drewN | apply Kd.R_drew)); exact HO476.out) hb); have n3_ := Aside0.mk (Kd.V_below (by (with_reducible repeat (first | apply Kd.V_alloc | apply Kd.V_drewN | apply Kd.V_drew)); exact HO481.out) hb); have n4_ := Aside0.mk (blk_below (g := gb380) (o := .cells #[.int .i64 a0_0, .int .i64 a0_1, .int .i64 a0_2, .int .i64 a0_3, .int .i64 a0_4, .int .i64 a0_5] 27 (0, 0)) (by (with_reducible repeat (first | refine blk_drewN ?_ _ | refine blk_drew ?_ | refine blk_alloc ?_ _)); exact BK380.out) hb); have n5_ := Aside0.mk (blk_below (g := gb424) (o := .cells #[.int .i64 t465, .int .i64 t466, .int .i64 t467, .int .i64 t468, .int .i64 t469, .int .i64 t470, v472, v475, .int .i64 t477, .bool t478] 105 (0, 0)) (by (with_reducible repeat (first | refine blk_drewN ?_ _ | refine blk_drew ?_ | refine blk_alloc ?_ _)); exact BK424.out) hb); have n6_ := Aside0.mk (below_step (by repeat (first | (with_reducible first | exact HB.out | apply below_alloc | apply pw_below_drewN | apply below_drew1 | refine below_set ?_ GE380.out | refine below_set ?_ GE424.out) | exact HB.out)) hb); clear HO_9; clear HO473; clear HO476; clear HO481; clear BK380; clear BK424; clear HB; have HO_9 := n0_; have HO473 := n1_; have HO476 := n2_; have HO481 := n3_; have BK380 := n4_; have BK424 := n5_; have HB := n6_; clear n0_ n1_ n2_ n3_ n4_ n5_ n6_; (try clear hb); (try clear hb2); (try clear hk); (try clear hi); have hcz175_0 : w174.cell? ⟨gb380, 0, none⟩ = some (.int .i64 a0_0) := (blk_cell BK380.out 0).trans rfl; have hcz175_1 : w174.cell? ⟨gb380, 1, none⟩ = some (.int .i64 a0_1) := (blk_cell BK380.out 1).trans rfl; have hcz175_2 : w174.cell? ⟨gb380, 2, none⟩ = some (.int .i64 a0_2) := (blk_cell BK380.out 2).trans rfl; have hcz175_3 : w174.cell? ⟨gb380, 3, none⟩ = some (.int .i64 a0_3) := (blk_cell BK380.out 3).trans rfl; have hcz175_4 : w174.cell? ⟨gb380, 4, none⟩ = some (.int .i64 a0_4) := (blk_cell BK380.out 4).trans rfl; have hcz175_5 : w174.cell? ⟨gb380, 5, none⟩ = some (.int .i64 a0_5) := (blk_cell BK380.out 5).trans rfl; have hfz175_0 := blk_frozen BK380.out 0; have hfz175_1 := blk_frozen BK380.out 1; have hfz175_2 := blk_frozen BK380.out 2; have hfz175_3 := blk_frozen BK380.out 3; have hfz175_4 := blk_frozen BK380.out 4; have hfz175_5 := blk_frozen BK380.out 5; obtain ⟨Ao176, co176, eo176⟩ := Kd.V_slice HO481.out; subst eo176; have hcv177 := Kd.C_string (P := Try.prog) (A := Ao176) (c := co176) Try.underlying22 Try.underlying5 Try.underlying9 (Kd.V_reads' HO481.out).2.2; have hcv178 := own_string (P := Try.prog) Try.underlying22 Try.underlying5 Try.underlying9 (Kd.own_of_R HO_9.out)))
                   go_ret
                   exact ⟨by first | rfl | (simp [errW_none, errW_some] <;> rfl) | (simp [*, errW_none, errW_some] <;> rfl), by repeat (first | (with_reducible first | exact HB.out | apply below_alloc | apply pw_below_drewN | apply below_drew1 | refine below_set ?_ GE380.out | refine below_set ?_ GE424.out) | exact HB.out)⟩
                  ·rw [if_neg c160] at H
                   exact absurd H (by simp)
                 ·rw [if_neg c159] at H
                  exact absurd H (by simp)
                ·rw [if_neg c158] at H
                 exact absurd H (by simp)
             ·replace c109 := Bool.eq_false_iff.mpr c109
              subst c109
              have H1 : (if t464 = 1 then (some (t482 == 1)) else (none)) = some r := by rw [if_neg (show ¬ (false = true) by decide)] at H; exact H
              clear H
              have H := H1
              clear H1
              by_cases c227 : t464 = 1
              ·rw [if_pos c227] at H
               have c227b0 : (t464 == 1) = true := beq_iff_eq.mpr c227
               have c227b1 : (t464 != 1) = false := bne_eq_false_iff_eq.mpr c227
               clear c227
               obtain rfl := Option.some.inj H
               have hnb228 := NB424_380.out
               have hnc228 := NB380_424.out
               have q230 : (x12_3 : Int) ≤ ((l1.length : Int) : Int) := of_decide_eq_true (by first | (with_reducible assumption) | assumption)
               obtain ⟨i0230, hi0230, _, hsz230, _⟩ := info_parts info5
               have hroom230 : l1.length ≤ c1 := HC1.out
               have hC230 : Kd.C (Kd.int .u8) _ A1 l1.length l1 := HR1.out
               have q0230 : (0 : Int) ≤ (x12_3 : Int) := of_decide_eq_true (by first | (with_reducible assumption) | assumption)
               have hcut230 := cut_from (P := Try.prog) 22 5 .i64 Try.underlying22 hi0230 1 hsz230 A1 l1.length c1 x12_3 q0230 q230
               have hr230 := Kd.C_drop (m := (x12_3 : Int).toNat) (c := c1) hC230 (by omega) hroom230
               obtain ⟨A230, hA230⟩ : ∃ A1_, A1_ = (if c1 = (x12_3 : Int).toNat then A1 else (A1 : Option Addr).map (·.add ((x12_3 : Int).toNat * 1))) := ⟨_, rfl⟩
               obtain ⟨c230, hc230⟩ : ∃ c1_, c1_ = c1 - (x12_3 : Int).toNat := ⟨_, rfl⟩
               have hy230 : y446.length = l1.length - (x12_3 : Int).toNat := (by rw [Ny446.out, List.length_drop] <;> omega)
               rw [show (l1).drop (x12_3 : Int).toNat = y446 from Ny446.out.symm] at hr230
               replace hr230 : Kd.C (Kd.int .u8) _ A230 y446.length y446 := (by rw [hA230]; exact hr230)
               rw [← hy230, ← hA230, ← hc230] at hcut230
               have HR449 := Aside0.mk hr230
               have HC449 := Aside0.mk (show y446.length ≤ c230 from by rw [hy230, hc230]; exact Nat.sub_le_sub_right hroom230 _)
               clear hr230 hC230 hroom230 hi0230 hsz230 hc230
               have KY230 := Aside0.mk hy230
               have KA230 := Aside0.mk hA230
               clear hy230 hA230
               replace q230 := eq_true q230
               obtain ⟨Ao231, co231, eo231⟩ := Kd.R_slice HO_425006.out
               subst eo231
               obtain ⟨Ao232, co232, eo232⟩ := Kd.R_slice HO_425007.out
               subst eo232
               go_wp2_with (first | ((with_reducible refine gate_callee (f := 36) rfl ?_); refine goesL_ (some 111) rfl rfl Try.func36 (by kernel_rfl) rfl #[.pointer (some ⟨gb424, 0, none⟩), .slice A230 y446.length c230] rfl (by (try simp only [List.map_toArray, List.map_cons, List.map_nil]); first | done | rfl | (simp only [List.length_drop, List.length_take]; rfl)) ?_; (with_reducible refine (shard_Writer_Add.calls k3 x425000_3 x425001_3 x425002_3 x425003_3 x425004_3 x425005_3 (fun k_ => some k_ = (.slice Ao231 x425006_3.length co231 : Value).ownBlock) (.slice Ao231 x425006_3.length co231) x425006_3 (fun k_ => some k_ = (.slice Ao232 x425007_3.length co232 : Value).ownBlock ∨ k_ = gb424) (.slice Ao232 x425007_3.length co232) x425007_3 x425008_3 x425009_3 (fun k_ => k_ < w.heap.size) _ _ y446 t450 t451 t452 t453 t454 t455 t456 t459 t462 t463 t464 w _ ?side1 ?side2 ?side3 ?side4 ?side5 ?side6 gb424 (by (with_reducible repeat (first | refine blk_drewN ?_ _ | refine blk_drew ?_ | refine blk_alloc ?_ _)); exact BK424.out) ?sideg (Or.inr rfl) ?siden A106.out).mono ?_); (case side1 => repeat (first | (with_reducible first | exact HB.out | apply below_alloc | apply pw_below_drewN | apply below_drew1 | refine below_set ?_ GE380.out | refine below_set ?_ GE424.out) | exact HB.out)); (case side2 => exact Kd.R_tight rfl HO_425006.out); (case side3 => exact fun k_ e_ h_ => Or.elim h_ ((HO_425006.out.1 k_ e_.symm).2) (fun g_ => (fun (g_ : k_ = gb424) e2_ => Kd.R_ne HO_425006.out BK424.out (by decide) ((congrArg some g_).symm.trans e2_)) g_ e_)); (case side4 => exact Kd.R_mono (Kd.R_tight rfl HO_425007.out) (fun _ h_ => .inl h_)); (case side5 => exact fun k_ h_ => Or.elim h_ (fun e_ => (HO_425007.out.1 k_ e_.symm).2) (fun g_ => (fun (g_ : k_ = gb424) e2_ => Kd.R_ne HO_425006.out BK424.out (by decide) ((congrArg some g_).symm.trans e2_)) g_)); (case side6 => exact Kd.V_mono (Kd.V_mk HC449.out (Kd.F_below (Kd.C_F (Kd.heap_int .u8) HR449.out) (by repeat (first | (with_reducible first | exact HB.out | apply below_alloc | apply pw_below_drewN | apply below_drew1 | refine below_set ?_ GE380.out | refine below_set ?_ GE424.out) | exact HB.out)))) (fun k_ hk_ => ⟨hk_, fun e_ => Nat.not_le.2 hk_ (Kd.R_base HO_425006.out k_ e_.symm), fun e_ => Nat.not_le.2 hk_ (Kd.R_base HO_425007.out k_ e_.symm)⟩)); (case sideg => exact GE424.out); (case siden => exact fun k_ hk_ e_ => Nat.not_le.2 hk_ (e_ ▸ GE424.out)); rintro e w233 ⟨v457, v460, rfl, hbk, ho0, ho1, hb, hkp⟩; refine ⟨_, rfl, ?_⟩; have n0_ := Aside0.mk (Kd.R_mono (ok' := fun k_ => some k_ ≠ (v457 : Value).ownBlock ∧ some k_ ≠ (v460 : Value).ownBlock) (Kd.R_keptB (Kd.R_types HO_9.out BK424.out (by decide)) hkp (fun k_ hk_ hs_ => Or.elim hs_ (fun e_ => (hk_.1.1) e_) (fun h_ => Or.elim h_ (fun e_ => (hk_.1.2) e_) (fun g_ => hk_.2 g_)))) (fun k_ hk_ => ⟨fun e_ => Or.elim (ho0.1 k_ e_.symm).1 (fun hs_ => hk_.2.1 hs_) (fun hn_ => Nat.not_le.2 hk_.2.2 hn_), fun e_ => Or.elim (ho1.1 k_ e_.symm).1 (fun hs_ => hk_.2.1 hs_) (fun hn_ => Nat.not_le.2 hk_.2.2 hn_)⟩)); have n1_ := Aside0.mk (blk_kept (by (with_reducible repeat (first | refine blk_drewN ?_ _ | refine blk_drew ?_ | refine blk_alloc ?_ _)); exact BK380.out) hkp (fun hs_ => Or.elim hs_ (fun e_ => (fun e_ => (Kd.R_ne HO_425006.out BK380.out (by decide)) e_) e_) (fun h_ => Or.elim h_ (fun e_ => (Kd.R_ne HO_425007.out BK380.out (by decide)) e_) (fun g_ => NB380_424.out g_)))); have n2_ := Aside0.mk hbk; have n3_ := Aside0.mk (Kd.R_mono (ok' := fun k_ => some k_ ≠ (v460 : Value).ownBlock ∧ some k_ ≠ (v393 : Value).ownBlock) ho0 (fun k_ hk_ => ⟨hk_.2, Or.elim hk_.1 (fun hs_ => Or.elim hs_ (fun hs_ => fun e_ => (((HO_9.out).1 k_ e_.symm).1) hs_) (fun h_ => Or.elim h_ (fun hs_ => fun e_ => (((HO_9.out).1 k_ e_.symm).2) hs_) (fun g_ => fun e_ => Kd.R_ne HO_9.out BK424.out (by decide) ((congrArg some g_).symm.trans e_)))) (fun hn_ => (Kd.fresh' (Kd.R_lt (by (with_reducible repeat (first | apply Kd.R_alloc | apply Kd.R_drewN | apply Kd.R_drew)); exact HO_9.out)) k_ hn_))⟩)); have n4_ := Aside0.mk (Kd.R_mono (ok' := fun k_ => some k_ ≠ (v457 : Value).ownBlock ∧ some k_ ≠ (v393 : Value).ownBlock) ho1 (fun k_ hk_ => ⟨hk_.2, Or.elim hk_.1 (fun hs_ => Or.elim hs_ (fun hs_ => fun e_ => (((HO_9.out).1 k_ e_.symm).1) hs_) (fun h_ => Or.elim h_ (fun hs_ => fun e_ => (((HO_9.out).1 k_ e_.symm).2) hs_) (fun g_ => fun e_ => Kd.R_ne HO_9.out BK424.out (by decide) ((congrArg some g_).symm.trans e_)))) (fun hn_ => (Kd.fresh' (Kd.R_lt (by (with_reducible repeat (first | apply Kd.R_alloc | apply Kd.R_drewN | apply Kd.R_drew)); exact HO_9.out)) k_ hn_))⟩)); have n5_ := Aside0.mk (hb); clear HO_9; clear BK380; clear BK424; clear HB; clear HO_425006; clear HO_425007; have HO_9 := n0_; have BK380 := n1_; have BK424 := n2_; have HO458 := n3_; have HO461 := n4_; have HB := n5_; clear n0_ n1_ n2_ n3_ n4_ n5_; (try clear hb); (try clear hkp); (try clear hbk); (try clear ho0); (try clear ho1); obtain ⟨Ao235, co235, eo235⟩ := Kd.R_slice HO458.out; subst eo235; obtain ⟨Ao236, co236, eo236⟩ := Kd.R_slice HO461.out; subst eo236; have n0_ : Aside0 (Kd.R (Kd.int .u8) 5 w233 w.heap.size (fun k_ => some k_ ≠ (.slice Ao235 t456.length co235 : Value).ownBlock ∧ some k_ ≠ (.slice Ao236 t459.length co236 : Value).ownBlock) v393 t392) := ⟨Kd.R_mono HO_9.out (fun _ hk => ⟨hk.1, hk.2⟩)⟩; have n1_ : Aside0 (Kd.R (Kd.int .u8) 5 w233 w.heap.size (fun k_ => some k_ ≠ (v393 : Value).ownBlock ∧ some k_ ≠ (.slice Ao236 t459.length co236 : Value).ownBlock) (.slice Ao235 t456.length co235) t456) := ⟨Kd.R_mono HO458.out (fun _ hk => ⟨hk.2, hk.1⟩)⟩; have n2_ : Aside0 (Kd.R (Kd.int .u8) 5 w233 w.heap.size (fun k_ => some k_ ≠ (v393 : Value).ownBlock ∧ some k_ ≠ (.slice Ao235 t456.length co235 : Value).ownBlock) (.slice Ao236 t459.length co236) t459) := ⟨Kd.R_mono HO461.out (fun _ hk => ⟨hk.2, hk.1⟩)⟩; have n3_ : Aside0 (w233.heap[gb380]? = some (.cells #[.int .i64 a0_0, .int .i64 a0_1, .int .i64 a0_2, .int .i64 a0_3, .int .i64 a0_4, .int .i64 a0_5] 27 (0, 0))) := ⟨BK380.out⟩; have n4_ : Aside0 (w233.heap[gb424]? = some (.cells #[.int .i64 t450, .int .i64 t451, .int .i64 t452, .int .i64 t453, .int .i64 t454, .int .i64 t455, .slice Ao235 t456.length co235, .slice Ao236 t459.length co236, .int .i64 t462, .bool t463] 105 (0, 0))) := ⟨BK424.out⟩; have n5_ : Aside0 (Below w.heap.size w w233) := ⟨HB.out⟩; clear HO_9; clear HO458; clear HO461; clear BK380; clear BK424; clear HB; have HO_9 := n0_; have HO458 := n1_; have HO461 := n2_; have BK380 := n3_; have BK424 := n4_; have HB := n5_; clear n0_ n1_ n2_ n3_ n4_ n5_) | ((with_reducible refine gate_callee (f := 37) rfl ?_); refine goesL_ (some 114) rfl rfl Try.func37 (by kernel_rfl) rfl #[.pointer (some ⟨gb424, 0, none⟩)] rfl (by (try simp only [List.map_toArray, List.map_cons, List.map_nil]); first | done | rfl | (simp only [List.length_drop, List.length_take]; rfl)) ?_; (with_reducible refine (shard_Writer_End.calls k3 t450 t451 t452 t453 t454 t455 (fun k_ => some k_ = (.slice Ao235 t456.length co235 : Value).ownBlock) (.slice Ao235 t456.length co235) t456 (fun k_ => some k_ = (.slice Ao236 t459.length co236 : Value).ownBlock ∨ k_ = gb424) (.slice Ao236 t459.length co236) t459 t462 t463 t465 t466 t467 t468 t469 t470 t471 t474 t477 t478 t479 t482 w _ ?side1 ?side2 ?side3 ?side4 ?side5 gb424 (by (with_reducible repeat (first | refine blk_drewN ?_ _ | refine blk_drew ?_ | refine blk_alloc ?_ _)); exact BK424.out) ?sideg (Or.inr rfl) A107.out).mono ?_); (case side1 => repeat (first | (with_reducible first | exact HB.out | apply below_alloc | apply pw_below_drewN | apply below_drew1 | refine below_set ?_ GE380.out | refine below_set ?_ GE424.out) | exact HB.out)); (case side2 => exact Kd.R_tight rfl HO458.out); (case side3 => exact fun k_ e_ h_ => Or.elim h_ ((HO458.out.1 k_ e_.symm).2) (fun g_ => (fun (g_ : k_ = gb424) e2_ => Kd.R_ne HO458.out BK424.out (by decide) ((congrArg some g_).symm.trans e2_)) g_ e_)); (case side4 => exact Kd.R_mono (Kd.R_tight rfl HO461.out) (fun _ h_ => .inl h_)); (case side5 => exact fun k_ h_ => Or.elim h_ (fun e_ => (HO461.out.1 k_ e_.symm).2) (fun g_ => (fun (g_ : k_ = gb424) e2_ => Kd.R_ne HO458.out BK424.out (by decide) ((congrArg some g_).symm.trans e2_)) g_)); (case sideg => exact GE424.out); rintro e w239 ⟨v472, v475, v480, rfl, hbk, ho0, ho1, ho2, hb, hkp⟩; refine ⟨_, rfl, ?_⟩; have n0_ := Aside0.mk (Kd.R_mono (ok' := fun k_ => some k_ ≠ (v475 : Value).ownBlock) (Kd.R_keptB (Kd.R_types HO_9.out BK424.out (by decide)) hkp (fun k_ hk_ hs_ => Or.elim hs_ (fun e_ => (hk_.1.1) e_) (fun h_ => Or.elim h_ (fun e_ => (hk_.1.2) e_) (fun g_ => hk_.2 g_)))) (fun k_ hk_ => fun e_ => Or.elim (ho1.1 k_ e_.symm) (fun hs_ => hk_.2.1 hs_) (fun hn_ => Nat.not_le.2 hk_.2.2 hn_))); have n1_ := Aside0.mk (blk_kept (by (with_reducible repeat (first | refine blk_drewN ?_ _ | refine blk_drew ?_ | refine blk_alloc ?_ _)); exact BK380.out) hkp (fun hs_ => Or.elim hs_ (fun e_ => (fun e_ => (Kd.R_ne HO458.out BK380.out (by decide)) e_) e_) (fun h_ => Or.elim h_ (fun e_ => (Kd.R_ne HO461.out BK380.out (by decide)) e_) (fun g_ => NB380_424.out g_)))); have n2_ := Aside0.mk hbk; have n3_ := Aside0.mk (Kd.V_mono (ok' := fun k_ => some k_ ≠ (v475 : Value).ownBlock ∧ some k_ ≠ (v393 : Value).ownBlock) ho0 (fun k_ hk_ => ⟨hk_.2, Or.elim hk_.1 (fun hs_ => Or.elim hs_ (fun hs_ => fun e_ => (((HO_9.out).1 k_ e_.symm).1) hs_) (fun h_ => Or.elim h_ (fun hs_ => fun e_ => (((HO_9.out).1 k_ e_.symm).2) hs_) (fun g_ => fun e_ => Kd.R_ne HO_9.out BK424.out (by decide) ((congrArg some g_).symm.trans e_)))) (fun hn_ => (Kd.fresh' (Kd.R_lt (by (with_reducible repeat (first | apply Kd.R_alloc | apply Kd.R_drewN | apply Kd.R_drew)); exact HO_9.out)) k_ hn_))⟩)); have n4_ := Aside0.mk (Kd.R_mono (ok' := fun k_ => some k_ ≠ (v393 : Value).ownBlock) ho1 (fun k_ hk_ => Or.elim hk_ (fun hs_ => Or.elim hs_ (fun hs_ => fun e_ => (((HO_9.out).1 k_ e_.symm).1) hs_) (fun h_ => Or.elim h_ (fun hs_ => fun e_ => (((HO_9.out).1 k_ e_.symm).2) hs_) (fun g_ => fun e_ => Kd.R_ne HO_9.out BK424.out (by decide) ((congrArg some g_).symm.trans e_)))) (fun hn_ => (Kd.fresh' (Kd.R_lt (by (with_reducible repeat (first | apply Kd.R_alloc | apply Kd.R_drewN | apply Kd.R_drew)); exact HO_9.out)) k_ hn_)))); have n5_ := Aside0.mk (Kd.V_mono (ok' := fun k_ => some k_ ≠ (v475 : Value).ownBlock ∧ some k_ ≠ (v393 : Value).ownBlock) ho2 (fun k_ hk_ => ⟨hk_.2, Or.elim hk_.1 (fun hs_ => Or.elim hs_ (fun hs_ => fun e_ => (((HO_9.out).1 k_ e_.symm).1) hs_) (fun h_ => Or.elim h_ (fun hs_ => fun e_ => (((HO_9.out).1 k_ e_.symm).2) hs_) (fun g_ => fun e_ => Kd.R_ne HO_9.out BK424.out (by decide) ((congrArg some g_).symm.trans e_)))) (fun hn_ => (Kd.fresh' (Kd.R_lt (by (with_reducible repeat (first | apply Kd.R_alloc | apply Kd.R_drewN | apply Kd.R_drew)); exact HO_9.out)) k_ hn_))⟩)); have n6_ := Aside0.mk (hb); clear HO_9; clear BK380; clear BK424; clear HB; clear HO458; clear HO461; have HO_9 := n0_; have BK380 := n1_; have BK424 := n2_; have HO473 := n3_; have HO476 := n4_; have HO481 := n5_; have HB := n6_; clear n0_ n1_ n2_ n3_ n4_ n5_ n6_; (try clear hb); (try clear hkp); (try clear hbk); (try clear ho0); (try clear ho1); (try clear ho2); have hcz240_0 : w239.cell? ⟨gb380, 0, none⟩ = some (.int .i64 a0_0) := (blk_cell BK380.out 0).trans rfl; have hcz240_1 : w239.cell? ⟨gb380, 1, none⟩ = some (.int .i64 a0_1) := (blk_cell BK380.out 1).trans rfl; have hcz240_2 : w239.cell? ⟨gb380, 2, none⟩ = some (.int .i64 a0_2) := (blk_cell BK380.out 2).trans rfl; have hcz240_3 : w239.cell? ⟨gb380, 3, none⟩ = some (.int .i64 a0_3) := (blk_cell BK380.out 3).trans rfl; have hcz240_4 : w239.cell? ⟨gb380, 4, none⟩ = some (.int .i64 a0_4) := (blk_cell BK380.out 4).trans rfl; have hcz240_5 : w239.cell? ⟨gb380, 5, none⟩ = some (.int .i64 a0_5) := (blk_cell BK380.out 5).trans rfl; have hfz240_0 := blk_frozen BK380.out 0; have hfz240_1 := blk_frozen BK380.out 1; have hfz240_2 := blk_frozen BK380.out 2; have hfz240_3 := blk_frozen BK380.out 3; have hfz240_4 := blk_frozen BK380.out 4; have hfz240_5 := blk_frozen BK380.out 5) | ((with_reducible refine gate_callee (f := 37) rfl ?_); refine goesL_ (some 119) rfl rfl Try.func37 (by kernel_rfl) rfl #[.pointer (some ⟨gb424, 0, none⟩)] rfl (by (try simp only [List.map_toArray, List.map_cons, List.map_nil]); first | done | rfl) ?_; obtain ⟨m_, hm_, hq_, h0_⟩ := End_left A107.out; (refine (shard_Writer_End.quiet k3 gb424 t465 t466 t467 t468 t469 t470 v472 v475 t471 t474 t477 t478 _ _ (by (with_reducible repeat (first | refine blk_drewN ?_ _ | refine blk_drew ?_ | refine blk_alloc ?_ _)); exact BK424.out) hm_ hq_).mono ?_); rintro e w9900 ⟨rfl, hb⟩; refine ⟨_, rfl, ?_⟩; generalize (if m_ = true then (2 : Int) else 1) = z_; have n0_ := Aside0.mk (Kd.R_below (by (with_reducible repeat (first | apply Kd.R_alloc | apply Kd.R_drewN | apply Kd.R_drew)); exact HO_9.out) hb); have n1_ := Aside0.mk (Kd.V_below (by (with_reducible repeat (first | apply Kd.V_alloc | apply Kd.V_drewN | apply Kd.V_drew)); exact HO473.out) hb); have n2_ := Aside0.mk (Kd.R_below (by (with_reducible repeat (first | apply Kd.R_alloc | apply Kd.R_drewN | apply Kd.R_drew)); exact HO476.out) hb); have n3_ := Aside0.mk (Kd.V_below (by (with_reducible repeat (first | apply Kd.V_alloc | apply Kd.V_drewN | apply Kd.V_drew)); exact HO481.out) hb); have n4_ := Aside0.mk (blk_below (g := gb380) (o := .cells #[.int .i64 a0_0, .int .i64 a0_1, .int .i64 a0_2, .int .i64 a0_3, .int .i64 a0_4, .int .i64 a0_5] 27 (0, 0)) (by (with_reducible repeat (first | refine blk_drewN ?_ _ | refine blk_drew ?_ | refine blk_alloc ?_ _)); exact BK380.out) hb); have n5_ := Aside0.mk (blk_below (g := gb424) (o := .cells #[.int .i64 t465, .int .i64 t466, .int .i64 t467, .int .i64 t468, .int .i64 t469, .int .i64 t470, v472, v475, .int .i64 t477, .bool t478] 105 (0, 0)) (by (with_reducible repeat (first | refine blk_drewN ?_ _ | refine blk_drew ?_ | refine blk_alloc ?_ _)); exact BK424.out) hb); have n6_ := Aside0.mk (below_step (by repeat (first | (with_reducible first | exact HB.out | apply below_alloc | apply pw_below_drewN | apply below_drew1 | refine below_set ?_ GE380.out | refine below_set ?_ GE424.out) | exact HB.out)) hb); clear HO_9; clear HO473; clear HO476; clear HO481; clear BK380; clear BK424; clear HB; have HO_9 := n0_; have HO473 := n1_; have HO476 := n2_; have HO481 := n3_; have BK380 := n4_; have BK424 := n5_; have HB := n6_; clear n0_ n1_ n2_ n3_ n4_ n5_ n6_; (try clear hb); (try clear hb2); (try clear hk); (try clear hi); have hcy240_0 : w9900.cell? ⟨gb380, 0, none⟩ = some (.int .i64 a0_0) := (blk_cell BK380.out 0).trans rfl; have hcy240_1 : w9900.cell? ⟨gb380, 1, none⟩ = some (.int .i64 a0_1) := (blk_cell BK380.out 1).trans rfl; have hcy240_2 : w9900.cell? ⟨gb380, 2, none⟩ = some (.int .i64 a0_2) := (blk_cell BK380.out 2).trans rfl; have hcy240_3 : w9900.cell? ⟨gb380, 3, none⟩ = some (.int .i64 a0_3) := (blk_cell BK380.out 3).trans rfl; have hcy240_4 : w9900.cell? ⟨gb380, 4, none⟩ = some (.int .i64 a0_4) := (blk_cell BK380.out 4).trans rfl; have hcy240_5 : w9900.cell? ⟨gb380, 5, none⟩ = some (.int .i64 a0_5) := (blk_cell BK380.out 5).trans rfl; (try clear hm_ hq_ h0_)) | ((with_reducible refine gate_callee (f := 34) rfl ?_); refine goesL_ (some 124) rfl rfl Try.func34 (by kernel_rfl) rfl #[.agg #[.int .i64 a0_0, .int .i64 a0_1, .int .i64 a0_2, .int .i64 a0_3, .int .i64 a0_4, .int .i64 a0_5]] rfl (by (try simp only [List.map_toArray, List.map_cons, List.map_nil]); first | done | rfl | (simp only [List.length_drop, List.length_take]; rfl)) ?_; (with_reducible refine (strongboxref4_MayHead.calls a0_0 a0_1 a0_2 a0_3 a0_4 a0_5 false _ A108.out).mono ?_); rintro e w241 ⟨rfl, hb⟩; refine ⟨_, rfl, ?_⟩; have n0_ := Aside0.mk (Kd.R_below (by (with_reducible repeat (first | apply Kd.R_alloc | apply Kd.R_drewN | apply Kd.R_drew)); exact HO_9.out) hb); have n1_ := Aside0.mk (Kd.V_below (by (with_reducible repeat (first | apply Kd.V_alloc | apply Kd.V_drewN | apply Kd.V_drew)); exact HO473.out) hb); have n2_ := Aside0.mk (Kd.R_below (by (with_reducible repeat (first | apply Kd.R_alloc | apply Kd.R_drewN | apply Kd.R_drew)); exact HO476.out) hb); have n3_ := Aside0.mk (Kd.V_below (by (with_reducible repeat (first | apply Kd.V_alloc | apply Kd.V_drewN | apply Kd.V_drew)); exact HO481.out) hb); have n4_ := Aside0.mk (blk_below (g := gb380) (o := .cells #[.int .i64 a0_0, .int .i64 a0_1, .int .i64 a0_2, .int .i64 a0_3, .int .i64 a0_4, .int .i64 a0_5] 27 (0, 0)) (by (with_reducible repeat (first | refine blk_drewN ?_ _ | refine blk_drew ?_ | refine blk_alloc ?_ _)); exact BK380.out) hb); have n5_ := Aside0.mk (blk_below (g := gb424) (o := .cells #[.int .i64 t465, .int .i64 t466, .int .i64 t467, .int .i64 t468, .int .i64 t469, .int .i64 t470, v472, v475, .int .i64 t477, .bool t478] 105 (0, 0)) (by (with_reducible repeat (first | refine blk_drewN ?_ _ | refine blk_drew ?_ | refine blk_alloc ?_ _)); exact BK424.out) hb); have n6_ := Aside0.mk (below_step (by repeat (first | (with_reducible first | exact HB.out | apply below_alloc | apply pw_below_drewN | apply below_drew1 | refine below_set ?_ GE380.out | refine below_set ?_ GE424.out) | exact HB.out)) hb); clear HO_9; clear HO473; clear HO476; clear HO481; clear BK380; clear BK424; clear HB; have HO_9 := n0_; have HO473 := n1_; have HO476 := n2_; have HO481 := n3_; have BK380 := n4_; have BK424 := n5_; have HB := n6_; clear n0_ n1_ n2_ n3_ n4_ n5_ n6_; (try clear hb); (try clear hb2); (try clear hk); (try clear hi)))
               go_ret
               exact ⟨by first | rfl | (simp [errW_none, errW_some] <;> rfl) | (simp [*, errW_none, errW_some] <;> rfl), by repeat (first | (with_reducible first | exact HB.out | apply below_alloc | apply pw_below_drewN | apply below_drew1 | refine below_set ?_ GE380.out | refine below_set ?_ GE424.out) | exact HB.out)⟩
              ·rw [if_neg c227] at H
               exact absurd H (by simp)
            ·rw [if_neg c105] at H
             exact absurd H (by simp)
           ·rw [if_neg c104] at H
            exact absurd H (by simp)
 ·replace c5 := Bool.eq_false_iff.mpr c5
  subst c5
  have H1 : (none) = some r := by rw [if_neg (show ¬ (false = true) by decide)] at H; exact H
  clear H
  have H := H1
  clear H1
  exact absurd H (by simp)

end Go.Proofs.Ytnlpipjdpmaggaa.PShardWrites
