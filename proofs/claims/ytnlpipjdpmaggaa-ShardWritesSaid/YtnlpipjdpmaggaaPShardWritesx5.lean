/- WRITTEN FOR THIS CLAIM by a program of the prover's own (the kit's printing program, with constructs added): for each Go function that the statement reaches a Lean function with the same answers, and the proof of that. Not trusted: Lean checks it. -/
import Derived.Test.YtnlpipjdpmaggaaMore
import Derived.Test.YtnlpipjdpmaggaaPShardWritesx0
import Derived.Test.YtnlpipjdpmaggaaPShardWritesx2
import Derived.Test.YtnlpipjdpmaggaaPShardWritesx4
namespace Go.Proofs.Ytnlpipjdpmaggaa.PShardWrites
open Go.RowKit Go.Proofs.YtnlpipjdpmaggaaW.PrintWords Go.Proofs.YtnlpipjdpmaggaaW.PrintLast Go.Proofs.YtnlpipjdpmaggaaW.PrintMore
attribute [local go_sem] max2_int min2_int max_two min_two max_three min_three max_four min_four   -- for this text's walks alone
set_option linter.unusedVariables false
set_option linter.unusedSimpArgs false

/-! ### shard_opened: function 71 -/
def shard_opened.f (k : Nat) (l0 : List Int) : Option (Int × Int × Int × Int × Int × Int × List Int × Int × Int) := if (l0.length : Int) > 131072 then (some (0, 0, 0, 0, 0, 0, ([] : List Int), 0, 3)) else (if (l0.length : Int) < 24 then (some (0, 0, 0, 0, 0, 0, ([] : List Int), 0, 2)) else (if 4 ≤ (l0.length : Int) then (if (strOfNums (l0.take 4)).toList = ([83, 66, 88, 49] : List UInt8) then (if 20 ≤ 24 then (if 24 ≤ (l0.length : Int) then ((crc_Read.f k ((l0.take 24).drop 20)).bind fun bt145 => (if 20 ≤ (l0.length : Int) then ((crc_Sum.f k (l0.take 20)).bind fun t152 => (if bt145.1 = t152 then (if 4 < (l0.length : Int) then (if 5 < (l0.length : Int) then (if 6 < (l0.length : Int) then ((shard_get.f l0 8).bind fun t156 => ((shard_get.f l0 12).bind fun t157 => ((shard_get.f l0 16).bind fun t158 => ((shard_May.f k (wrap64 (rd l0 4)) (wrap64 (rd l0 5)) (wrap64 (rd l0 6)) t156 t157 t158).bind fun t160 => (if t160 = true then (if 7 < (l0.length : Int) then (if (rd l0 7) = 0 then (some (wrap64 (rd l0 4), wrap64 (rd l0 5), wrap64 (rd l0 6), t156, t157, t158, (l0.drop 24), 0, 0)) else (some (0, 0, 0, 0, 0, 0, ([] : List Int), 0, 4))) else (none)) else (some (0, 0, 0, 0, 0, 0, ([] : List Int), 0, 4))))))) else (none)) else (none)) else (none)) else (some (0, 0, 0, 0, 0, 0, ([] : List Int), (-1), 5)))) else (none))) else (none)) else (none)) else (some (0, 0, 0, 0, 0, 0, ([] : List Int), 0, 4))) else (none)))
theorem shard_opened.mono : ∀ a0 k, LeO (shard_opened.f k a0) (shard_opened.f (k + 1) a0) := by
 intro a0 k
 unfold shard_opened.f
 repeat' first
   | (with_reducible exact crc_Read.mono _ _)
   | (with_reducible exact crc_Sum.mono _ _)
   | (with_reducible exact shard_May.mono _ _ _ _ _ _ _)
   | (with_reducible exact LeO.refl _)
   | (with_reducible exact LeO.none _)
   | (with_reducible refine LeO.ite ?_ ?_)
   | (with_reducible refine LeO.bind ?_ (fun _ => ?_))
   | exact crc_Read.mono _ _
   | exact crc_Sum.mono _ _
   | exact shard_May.mono _ _ _ _ _ _ _
   | exact LeO.none _
   | refine LeO.ite ?_ ?_
   | refine LeO.bind ?_ (fun _ => ?_)
def shard_opened.T10 : Bool × List (List Nat × List Nat) := (true, [([], []), ([0], [0]), ([1], [1]), ([2], [2]), ([], []), ([4], [4]), ([5], [5]), ([6], [6]), ([], []), ([8], [8]), ([9], [9]), ([10], [10]), ([], []), ([12], [12]), ([], []), ([14, 13], [14]), ([], []), ([16, 15], [16]), ([3, 7, 11, 13, 15, 17], [3, 7, 11, 13, 15, 17]), ([], []), ([19, 18, 17, 0, 1, 2, 3, 4, 5, 6, 7, 8, 9, 10, 11, 12, 13, 14, 15, 16, 17, 18, 19], [18, 19])])
def shard_opened.B10 : List Nat := [0, 1, 3, 7, 0, 16, 48, 112, 0, 256, 768, 1792, 0, 4096, 0, 28672, 0, 126976, 262143, 0, 1048575]
theorem shard_opened.tab10 : rtab .any (opsOf Try.f71 10) = shard_opened.T10 := by kernel_rfl
theorem shard_opened.bits10 : waitsOk shard_opened.T10.2 shard_opened.B10 = true := by kernel_rfl
set_option maxHeartbeats 8000000 in
set_option maxRecDepth 100000 in
theorem shard_opened.calls (k : Nat) (P0_ : Nat → Prop) (A0 : Option Addr) (c0 : Nat) (l0 : List Int) (r1 : Int) (r2 : Int) (r3 : Int) (r4 : Int) (r5 : Int) (r6 : Int) (r7 : List Int) (r8 : Int) (r9 : Int) (w : World) (hs0 : Kd.V (Kd.int .u8) 5 w w.heap.size (fun k_ => P0_ k_) (.slice A0 l0.length c0) l0) (h : shard_opened.f k l0 = some (r1, r2, r3, r4, r5, r6, r7, r8, r9)) :
  Calls Try.prog 71 #[.slice A0 l0.length c0] w fun e w' => ∃ v6_ : Value, e = .returned (.tuple #[.agg #[.int .i64 r1, .int .i64 r2, .int .i64 r3, .int .i64 r4, .int .i64 r5, .int .i64 r6], v6_, .int .i64 r8, .int .i64 r9]) ∧ Kd.V (Kd.int .u8) 5 w' w.heap.size (fun k_ => (P0_ k_ ∨ w.heap.size ≤ k_)) v6_ r7 ∧ Below w.heap.size w w' := by
 have hu32 := Try.underlying32
 have HO0 := Aside0.mk (show Kd.V (Kd.int .u8) 5 w w.heap.size (fun k_ => (P0_ k_ ∨ w.heap.size ≤ k_)) (.slice A0 l0.length c0) l0 from Kd.V_mono hs0 (fun k_ hk => .inl hk))
 have HB := Aside0.mk (Below.refl w.heap.size w)
 have H : (if (l0.length : Int) > 131072 then (some (0, 0, 0, 0, 0, 0, ([] : List Int), 0, 3)) else (if (l0.length : Int) < 24 then (some (0, 0, 0, 0, 0, 0, ([] : List Int), 0, 2)) else (if 4 ≤ (l0.length : Int) then (if (strOfNums (l0.take 4)).toList = ([83, 66, 88, 49] : List UInt8) then (if 20 ≤ 24 then (if 24 ≤ (l0.length : Int) then ((crc_Read.f k ((l0.take 24).drop 20)).bind fun bt145 => (if 20 ≤ (l0.length : Int) then ((crc_Sum.f k (l0.take 20)).bind fun t152 => (if bt145.1 = t152 then (if 4 < (l0.length : Int) then (if 5 < (l0.length : Int) then (if 6 < (l0.length : Int) then ((shard_get.f l0 8).bind fun t156 => ((shard_get.f l0 12).bind fun t157 => ((shard_get.f l0 16).bind fun t158 => ((shard_May.f k (wrap64 (rd l0 4)) (wrap64 (rd l0 5)) (wrap64 (rd l0 6)) t156 t157 t158).bind fun t160 => (if t160 = true then (if 7 < (l0.length : Int) then (if (rd l0 7) = 0 then (some (wrap64 (rd l0 4), wrap64 (rd l0 5), wrap64 (rd l0 6), t156, t157, t158, (l0.drop 24), 0, 0)) else (some (0, 0, 0, 0, 0, 0, ([] : List Int), 0, 4))) else (none)) else (some (0, 0, 0, 0, 0, 0, ([] : List Int), 0, 4))))))) else (none)) else (none)) else (none)) else (some (0, 0, 0, 0, 0, 0, ([] : List Int), (-1), 5)))) else (none))) else (none)) else (none)) else (some (0, 0, 0, 0, 0, 0, ([] : List Int), 0, 4))) else (none)))) = some (r1, r2, r3, r4, r5, r6, r7, r8, r9) := h
 clear h
 by_cases c2 : (l0.length : Int) > 131072
 ·rw [if_pos c2] at H
  have c2b0 : decide (131072 < (l0.length : Int)) = true := decide_eq_true c2
  have c2b1 : decide (131072 < l0.length) = true := decide_eq_true (by omega)
  clear c2
  simp only [Option.some.injEq, Prod.mk.injEq] at H
  obtain ⟨rfl, rfl, rfl, rfl, rfl, rfl, rfl, rfl, rfl⟩ := H
  go_enter Try.func71, Try.ntmps71
  go_wp2_with (first | ((with_reducible refine gate_dst (N := 2) rfl ?_); refine box_event ?hg (N := 2) ?hd (cs := #[.int .i64 0, .int .i64 0, .int .i64 0, .int .i64 0, .int .i64 0, .int .i64 0]) (t := 32) ?hr ?_; (case hd => rfl); (case hg => rfl); (case hr => first | (go_simp; done) | (go_simp; rfl)); intro gb134 hg w3 hbox hb; have n0_ := Aside0.mk (Kd.V_below (Kd.V_elderB (by (with_reducible repeat (first | apply Kd.V_alloc | apply Kd.V_drewN | apply Kd.V_drew)); exact HO0.out) gb134 (Nat.le_of_eq hg.symm)) hb); have n1_ := Aside0.mk (below_step (by repeat (first | (with_reducible first | exact HB.out | apply below_alloc | apply pw_below_drewN | apply below_drew1) | exact HB.out)) hb); have n2_ := Aside0.mk (hbox); have n3_ := Aside0.mk ((by rw [hg]; exact (below_size (by repeat (first | (with_reducible first | exact HB.out | apply below_alloc | apply pw_below_drewN | apply below_drew1) | exact HB.out))) : w.heap.size ≤ gb134)); have n4_ := Aside0.mk ((by rw [hg]; exact (below_size (by repeat (first | (with_reducible first | exact HB.out | apply below_alloc | apply pw_below_drewN | apply below_drew1) | exact HB.out))) : w.heap.size ≤ gb134)); clear HO0; clear HB; have HO0 := n0_; have HB := n1_; have BK134 := n2_; have GW134 := n3_; have GE134 := n4_; clear n0_ n1_ n2_ n3_ n4_; clear hb hbox hg; have hcz4_0 : w3.cell? ⟨gb134, 0, none⟩ = some (.int .i64 0) := (blk_cell BK134.out 0).trans rfl; have hcz4_1 : w3.cell? ⟨gb134, 1, none⟩ = some (.int .i64 0) := (blk_cell BK134.out 1).trans rfl; have hcz4_2 : w3.cell? ⟨gb134, 2, none⟩ = some (.int .i64 0) := (blk_cell BK134.out 2).trans rfl; have hcz4_3 : w3.cell? ⟨gb134, 3, none⟩ = some (.int .i64 0) := (blk_cell BK134.out 3).trans rfl; have hcz4_4 : w3.cell? ⟨gb134, 4, none⟩ = some (.int .i64 0) := (blk_cell BK134.out 4).trans rfl; have hcz4_5 : w3.cell? ⟨gb134, 5, none⟩ = some (.int .i64 0) := (blk_cell BK134.out 5).trans rfl; have hfz4_0 := blk_frozen BK134.out 0; have hfz4_1 := blk_frozen BK134.out 1; have hfz4_2 := blk_frozen BK134.out 2; have hfz4_3 := blk_frozen BK134.out 3; have hfz4_4 := blk_frozen BK134.out 4; have hfz4_5 := blk_frozen BK134.out 5))
  refine bodyPost_ret (results_list (rs := [.cell 2 32, .tmp 3, .tmp 4, .tmp 5]) rfl (by simp) (.cell gb134 32 #[.int .i64 0, .int .i64 0, .int .i64 0, .int .i64 0, .int .i64 0, .int .i64 0] (0, 0) _ rfl (by (with_reducible repeat (first | refine blk_drewN ?_ _ | refine blk_drew ?_ | refine blk_alloc ?_ _)); refine blk_put (cs := #[.int .i64 0, .int .i64 0, .int .i64 0, .int .i64 0, .int .i64 0, .int .i64 0]) ?_ 5 _ rfl; (with_reducible repeat (first | refine blk_drewN ?_ _ | refine blk_drew ?_ | refine blk_alloc ?_ _)); refine blk_put (cs := #[.int .i64 0, .int .i64 0, .int .i64 0, .int .i64 0, .int .i64 0, .int .i64 0]) ?_ 4 _ rfl; (with_reducible repeat (first | refine blk_drewN ?_ _ | refine blk_drew ?_ | refine blk_alloc ?_ _)); refine blk_put (cs := #[.int .i64 0, .int .i64 0, .int .i64 0, .int .i64 0, .int .i64 0, .int .i64 0]) ?_ 3 _ rfl; (with_reducible repeat (first | refine blk_drewN ?_ _ | refine blk_drew ?_ | refine blk_alloc ?_ _)); refine blk_put (cs := #[.int .i64 0, .int .i64 0, .int .i64 0, .int .i64 0, .int .i64 0, .int .i64 0]) ?_ 2 _ rfl; (with_reducible repeat (first | refine blk_drewN ?_ _ | refine blk_drew ?_ | refine blk_alloc ?_ _)); refine blk_put (cs := #[.int .i64 0, .int .i64 0, .int .i64 0, .int .i64 0, .int .i64 0, .int .i64 0]) ?_ 1 _ rfl; (with_reducible repeat (first | refine blk_drewN ?_ _ | refine blk_drew ?_ | refine blk_alloc ?_ _)); refine blk_put (cs := #[.int .i64 0, .int .i64 0, .int .i64 0, .int .i64 0, .int .i64 0, .int .i64 0]) ?_ 0 _ rfl; (with_reducible repeat (first | refine blk_drewN ?_ _ | refine blk_drew ?_ | refine blk_alloc ?_ _)); exact BK134.out) Try.underlying32 rfl (by kernel_rfl) (.tmp (.tmp (.tmp .nil))))) rfl ?_
  exact ⟨_, by first | rfl | (simp [errW_none, errW_some] <;> rfl) | (simp [*, errW_none, errW_some] <;> rfl), (by exact Kd.V_nil _ _ _ _ _), by repeat (first | (with_reducible first | exact HB.out | apply below_alloc | apply pw_below_drewN | apply below_drew1 | refine below_set ?_ GE134.out) | exact HB.out)⟩
 ·rw [if_neg c2] at H
  have c2b0 : decide (131072 < (l0.length : Int)) = false := decide_eq_false c2
  have c2b1 : decide (131072 < l0.length) = false := decide_eq_false (by omega)
  clear c2
  by_cases c5 : (l0.length : Int) < 24
  ·rw [if_pos c5] at H
   have c5b0 : decide ((l0.length : Int) < 24) = true := decide_eq_true c5
   have c5b1 : decide (l0.length < 24) = true := decide_eq_true (by omega)
   clear c5
   simp only [Option.some.injEq, Prod.mk.injEq] at H
   obtain ⟨rfl, rfl, rfl, rfl, rfl, rfl, rfl, rfl, rfl⟩ := H
   go_enter Try.func71, Try.ntmps71
   go_wp2_with (first | ((with_reducible refine gate_dst (N := 2) rfl ?_); refine box_event ?hg (N := 2) ?hd (cs := #[.int .i64 0, .int .i64 0, .int .i64 0, .int .i64 0, .int .i64 0, .int .i64 0]) (t := 32) ?hr ?_; (case hd => rfl); (case hg => rfl); (case hr => first | (go_simp; done) | (go_simp; rfl)); intro gb134 hg w6 hbox hb; have n0_ := Aside0.mk (Kd.V_below (Kd.V_elderB (by (with_reducible repeat (first | apply Kd.V_alloc | apply Kd.V_drewN | apply Kd.V_drew)); exact HO0.out) gb134 (Nat.le_of_eq hg.symm)) hb); have n1_ := Aside0.mk (below_step (by repeat (first | (with_reducible first | exact HB.out | apply below_alloc | apply pw_below_drewN | apply below_drew1) | exact HB.out)) hb); have n2_ := Aside0.mk (hbox); have n3_ := Aside0.mk ((by rw [hg]; exact (below_size (by repeat (first | (with_reducible first | exact HB.out | apply below_alloc | apply pw_below_drewN | apply below_drew1) | exact HB.out))) : w.heap.size ≤ gb134)); have n4_ := Aside0.mk ((by rw [hg]; exact (below_size (by repeat (first | (with_reducible first | exact HB.out | apply below_alloc | apply pw_below_drewN | apply below_drew1) | exact HB.out))) : w.heap.size ≤ gb134)); clear HO0; clear HB; have HO0 := n0_; have HB := n1_; have BK134 := n2_; have GW134 := n3_; have GE134 := n4_; clear n0_ n1_ n2_ n3_ n4_; clear hb hbox hg; have hcz7_0 : w6.cell? ⟨gb134, 0, none⟩ = some (.int .i64 0) := (blk_cell BK134.out 0).trans rfl; have hcz7_1 : w6.cell? ⟨gb134, 1, none⟩ = some (.int .i64 0) := (blk_cell BK134.out 1).trans rfl; have hcz7_2 : w6.cell? ⟨gb134, 2, none⟩ = some (.int .i64 0) := (blk_cell BK134.out 2).trans rfl; have hcz7_3 : w6.cell? ⟨gb134, 3, none⟩ = some (.int .i64 0) := (blk_cell BK134.out 3).trans rfl; have hcz7_4 : w6.cell? ⟨gb134, 4, none⟩ = some (.int .i64 0) := (blk_cell BK134.out 4).trans rfl; have hcz7_5 : w6.cell? ⟨gb134, 5, none⟩ = some (.int .i64 0) := (blk_cell BK134.out 5).trans rfl; have hfz7_0 := blk_frozen BK134.out 0; have hfz7_1 := blk_frozen BK134.out 1; have hfz7_2 := blk_frozen BK134.out 2; have hfz7_3 := blk_frozen BK134.out 3; have hfz7_4 := blk_frozen BK134.out 4; have hfz7_5 := blk_frozen BK134.out 5))
   refine bodyPost_ret (results_list (rs := [.cell 2 32, .tmp 3, .tmp 4, .tmp 5]) rfl (by simp) (.cell gb134 32 #[.int .i64 0, .int .i64 0, .int .i64 0, .int .i64 0, .int .i64 0, .int .i64 0] (0, 0) _ rfl (by (with_reducible repeat (first | refine blk_drewN ?_ _ | refine blk_drew ?_ | refine blk_alloc ?_ _)); refine blk_put (cs := #[.int .i64 0, .int .i64 0, .int .i64 0, .int .i64 0, .int .i64 0, .int .i64 0]) ?_ 5 _ rfl; (with_reducible repeat (first | refine blk_drewN ?_ _ | refine blk_drew ?_ | refine blk_alloc ?_ _)); refine blk_put (cs := #[.int .i64 0, .int .i64 0, .int .i64 0, .int .i64 0, .int .i64 0, .int .i64 0]) ?_ 4 _ rfl; (with_reducible repeat (first | refine blk_drewN ?_ _ | refine blk_drew ?_ | refine blk_alloc ?_ _)); refine blk_put (cs := #[.int .i64 0, .int .i64 0, .int .i64 0, .int .i64 0, .int .i64 0, .int .i64 0]) ?_ 3 _ rfl; (with_reducible repeat (first | refine blk_drewN ?_ _ | refine blk_drew ?_ | refine blk_alloc ?_ _)); refine blk_put (cs := #[.int .i64 0, .int .i64 0, .int .i64 0, .int .i64 0, .int .i64 0, .int .i64 0]) ?_ 2 _ rfl; (with_reducible repeat (first | refine blk_drewN ?_ _ | refine blk_drew ?_ | refine blk_alloc ?_ _)); refine blk_put (cs := #[.int .i64 0, .int .i64 0, .int .i64 0, .int .i64 0, .int .i64 0, .int .i64 0]) ?_ 1 _ rfl; (with_reducible repeat (first | refine blk_drewN ?_ _ | refine blk_drew ?_ | refine blk_alloc ?_ _)); refine blk_put (cs := #[.int .i64 0, .int .i64 0, .int .i64 0, .int .i64 0, .int .i64 0, .int .i64 0]) ?_ 0 _ rfl; (with_reducible repeat (first | refine blk_drewN ?_ _ | refine blk_drew ?_ | refine blk_alloc ?_ _)); exact BK134.out) Try.underlying32 rfl (by kernel_rfl) (.tmp (.tmp (.tmp .nil))))) rfl ?_
   exact ⟨_, by first | rfl | (simp [errW_none, errW_some] <;> rfl) | (simp [*, errW_none, errW_some] <;> rfl), (by exact Kd.V_nil _ _ _ _ _), by repeat (first | (with_reducible first | exact HB.out | apply below_alloc | apply pw_below_drewN | apply below_drew1 | refine below_set ?_ GE134.out) | exact HB.out)⟩
  ·rw [if_neg c5] at H
   have c5b0 : decide ((l0.length : Int) < 24) = false := decide_eq_false c5
   have c5b1 : decide (l0.length < 24) = false := decide_eq_false (by omega)
   clear c5
   by_cases c8 : 4 ≤ (l0.length : Int)
   ·rw [if_pos c8] at H
    have c8b0 := eq_true c8
    have c8b1 : decide (4 ≤ (l0.length : Int)) = true := decide_eq_true c8
    clear c8
    obtain ⟨y135, hy135⟩ : ∃ y_ : List Int, y_ = (l0.take 4) := ⟨_, rfl⟩
    replace H : (if (strOfNums y135).toList = ([83, 66, 88, 49] : List UInt8) then (if 20 ≤ 24 then (if 24 ≤ (l0.length : Int) then ((crc_Read.f k ((l0.take 24).drop 20)).bind fun bt145 => (if 20 ≤ (l0.length : Int) then ((crc_Sum.f k (l0.take 20)).bind fun t152 => (if bt145.1 = t152 then (if 4 < (l0.length : Int) then (if 5 < (l0.length : Int) then (if 6 < (l0.length : Int) then ((shard_get.f l0 8).bind fun t156 => ((shard_get.f l0 12).bind fun t157 => ((shard_get.f l0 16).bind fun t158 => ((shard_May.f k (wrap64 (rd l0 4)) (wrap64 (rd l0 5)) (wrap64 (rd l0 6)) t156 t157 t158).bind fun t160 => (if t160 = true then (if 7 < (l0.length : Int) then (if (rd l0 7) = 0 then (some (wrap64 (rd l0 4), wrap64 (rd l0 5), wrap64 (rd l0 6), t156, t157, t158, (l0.drop 24), 0, 0)) else (some (0, 0, 0, 0, 0, 0, ([] : List Int), 0, 4))) else (none)) else (some (0, 0, 0, 0, 0, 0, ([] : List Int), 0, 4))))))) else (none)) else (none)) else (none)) else (some (0, 0, 0, 0, 0, 0, ([] : List Int), (-1), 5)))) else (none))) else (none)) else (none)) else (some (0, 0, 0, 0, 0, 0, ([] : List Int), 0, 4))) = some (r1, r2, r3, r4, r5, r6, r7, r8, r9) := by first | (rw [hy135]; with_reducible exact H) | (have H2_ := (Option.bind_some _ _).symm.trans H; rw [hy135]; with_reducible exact H2_) | (have H2_ := (Option.bind_some _ _).symm.trans H; with_reducible exact H2_) | with_reducible exact H | (rw [hy135]; exact H) | exact H
    have Ny135 := Aside0.mk hy135
    clear hy135
    by_cases c9 : (strOfNums y135).toList = ([83, 66, 88, 49] : List UInt8)
    ·rw [if_pos c9] at H
     have c9b0 : ((strOfNums y135).toList == ([83, 66, 88, 49] : List UInt8)) = true := beq_iff_eq.mpr c9
     have c9b1 : ((strOfNums y135).toList != ([83, 66, 88, 49] : List UInt8)) = false := bne_eq_false_iff_eq.mpr c9
     clear c9
     by_cases c10 : 20 ≤ 24
     ·rw [if_pos c10] at H
      have c10b0 := eq_true c10
      have c10b1 : decide (20 ≤ 24) = true := decide_eq_true c10
      clear c10
      by_cases c11 : 24 ≤ (l0.length : Int)
      ·rw [if_pos c11] at H
       have c11b0 := eq_true c11
       have c11b1 : decide (24 ≤ (l0.length : Int)) = true := decide_eq_true c11
       clear c11
       obtain ⟨y140, hy140⟩ : ∃ y_ : List Int, y_ = ((l0.take 24).drop 20) := ⟨_, rfl⟩
       replace H : ((crc_Read.f k y140).bind fun bt145 => (if 20 ≤ (l0.length : Int) then ((crc_Sum.f k (l0.take 20)).bind fun t152 => (if bt145.1 = t152 then (if 4 < (l0.length : Int) then (if 5 < (l0.length : Int) then (if 6 < (l0.length : Int) then ((shard_get.f l0 8).bind fun t156 => ((shard_get.f l0 12).bind fun t157 => ((shard_get.f l0 16).bind fun t158 => ((shard_May.f k (wrap64 (rd l0 4)) (wrap64 (rd l0 5)) (wrap64 (rd l0 6)) t156 t157 t158).bind fun t160 => (if t160 = true then (if 7 < (l0.length : Int) then (if (rd l0 7) = 0 then (some (wrap64 (rd l0 4), wrap64 (rd l0 5), wrap64 (rd l0 6), t156, t157, t158, (l0.drop 24), 0, 0)) else (some (0, 0, 0, 0, 0, 0, ([] : List Int), 0, 4))) else (none)) else (some (0, 0, 0, 0, 0, 0, ([] : List Int), 0, 4))))))) else (none)) else (none)) else (none)) else (some (0, 0, 0, 0, 0, 0, ([] : List Int), (-1), 5)))) else (none))) = some (r1, r2, r3, r4, r5, r6, r7, r8, r9) := by first | (rw [hy140]; with_reducible exact H) | (have H2_ := (Option.bind_some _ _).symm.trans H; rw [hy140]; with_reducible exact H2_) | (have H2_ := (Option.bind_some _ _).symm.trans H; with_reducible exact H2_) | with_reducible exact H | (rw [hy140]; exact H) | exact H
       have Ny140 := Aside0.mk hy140
       clear hy140
       replace H := Option.bind_eq_some_iff.mp H
       obtain ⟨⟨t145, t146⟩, A120, H⟩ := H
       replace H : (if 20 ≤ (l0.length : Int) then ((crc_Sum.f k (l0.take 20)).bind fun t152 => (if t145 = t152 then (if 4 < (l0.length : Int) then (if 5 < (l0.length : Int) then (if 6 < (l0.length : Int) then ((shard_get.f l0 8).bind fun t156 => ((shard_get.f l0 12).bind fun t157 => ((shard_get.f l0 16).bind fun t158 => ((shard_May.f k (wrap64 (rd l0 4)) (wrap64 (rd l0 5)) (wrap64 (rd l0 6)) t156 t157 t158).bind fun t160 => (if t160 = true then (if 7 < (l0.length : Int) then (if (rd l0 7) = 0 then (some (wrap64 (rd l0 4), wrap64 (rd l0 5), wrap64 (rd l0 6), t156, t157, t158, (l0.drop 24), 0, 0)) else (some (0, 0, 0, 0, 0, 0, ([] : List Int), 0, 4))) else (none)) else (some (0, 0, 0, 0, 0, 0, ([] : List Int), 0, 4))))))) else (none)) else (none)) else (none)) else (some (0, 0, 0, 0, 0, 0, ([] : List Int), (-1), 5)))) else (none)) = some (r1, r2, r3, r4, r5, r6, r7, r8, r9) := H
       have A12 := Aside0.mk A120
       clear A120
       by_cases c13 : 20 ≤ (l0.length : Int)
       ·rw [if_pos c13] at H
        have c13b0 := eq_true c13
        have c13b1 : decide (20 ≤ (l0.length : Int)) = true := decide_eq_true c13
        clear c13
        obtain ⟨y147, hy147⟩ : ∃ y_ : List Int, y_ = (l0.take 20) := ⟨_, rfl⟩
        replace H : ((crc_Sum.f k y147).bind fun t152 => (if t145 = t152 then (if 4 < (l0.length : Int) then (if 5 < (l0.length : Int) then (if 6 < (l0.length : Int) then ((shard_get.f l0 8).bind fun t156 => ((shard_get.f l0 12).bind fun t157 => ((shard_get.f l0 16).bind fun t158 => ((shard_May.f k (wrap64 (rd l0 4)) (wrap64 (rd l0 5)) (wrap64 (rd l0 6)) t156 t157 t158).bind fun t160 => (if t160 = true then (if 7 < (l0.length : Int) then (if (rd l0 7) = 0 then (some (wrap64 (rd l0 4), wrap64 (rd l0 5), wrap64 (rd l0 6), t156, t157, t158, (l0.drop 24), 0, 0)) else (some (0, 0, 0, 0, 0, 0, ([] : List Int), 0, 4))) else (none)) else (some (0, 0, 0, 0, 0, 0, ([] : List Int), 0, 4))))))) else (none)) else (none)) else (none)) else (some (0, 0, 0, 0, 0, 0, ([] : List Int), (-1), 5)))) = some (r1, r2, r3, r4, r5, r6, r7, r8, r9) := by first | (rw [hy147]; with_reducible exact H) | (have H2_ := (Option.bind_some _ _).symm.trans H; rw [hy147]; with_reducible exact H2_) | (have H2_ := (Option.bind_some _ _).symm.trans H; with_reducible exact H2_) | with_reducible exact H | (rw [hy147]; exact H) | exact H
        have Ny147 := Aside0.mk hy147
        clear hy147
        replace H := Option.bind_eq_some_iff.mp H
        obtain ⟨t152, A140, H⟩ := H
        replace H : (if t145 = t152 then (if 4 < (l0.length : Int) then (if 5 < (l0.length : Int) then (if 6 < (l0.length : Int) then ((shard_get.f l0 8).bind fun t156 => ((shard_get.f l0 12).bind fun t157 => ((shard_get.f l0 16).bind fun t158 => ((shard_May.f k (wrap64 (rd l0 4)) (wrap64 (rd l0 5)) (wrap64 (rd l0 6)) t156 t157 t158).bind fun t160 => (if t160 = true then (if 7 < (l0.length : Int) then (if (rd l0 7) = 0 then (some (wrap64 (rd l0 4), wrap64 (rd l0 5), wrap64 (rd l0 6), t156, t157, t158, (l0.drop 24), 0, 0)) else (some (0, 0, 0, 0, 0, 0, ([] : List Int), 0, 4))) else (none)) else (some (0, 0, 0, 0, 0, 0, ([] : List Int), 0, 4))))))) else (none)) else (none)) else (none)) else (some (0, 0, 0, 0, 0, 0, ([] : List Int), (-1), 5))) = some (r1, r2, r3, r4, r5, r6, r7, r8, r9) := H
        have A14 := Aside0.mk A140
        clear A140
        by_cases c15 : t145 = t152
        ·rw [if_pos c15] at H
         have c15b0 : (t145 == t152) = true := beq_iff_eq.mpr c15
         have c15b1 : (t145 != t152) = false := bne_eq_false_iff_eq.mpr c15
         clear c15
         by_cases c16 : 4 < (l0.length : Int)
         ·rw [if_pos c16] at H
          have c16b0 : decide (4 < (l0.length : Int)) = true := decide_eq_true c16
          have c16b1 : decide (4 < l0.length) = true := decide_eq_true (by omega)
          clear c16
          by_cases c17 : 5 < (l0.length : Int)
          ·rw [if_pos c17] at H
           have c17b0 : decide (5 < (l0.length : Int)) = true := decide_eq_true c17
           have c17b1 : decide (5 < l0.length) = true := decide_eq_true (by omega)
           clear c17
           by_cases c18 : 6 < (l0.length : Int)
           ·rw [if_pos c18] at H
            have c18b0 : decide (6 < (l0.length : Int)) = true := decide_eq_true c18
            have c18b1 : decide (6 < l0.length) = true := decide_eq_true (by omega)
            clear c18
            replace H := Option.bind_eq_some_iff.mp H
            obtain ⟨t156, A190, H⟩ := H
            replace H : ((shard_get.f l0 12).bind fun t157 => ((shard_get.f l0 16).bind fun t158 => ((shard_May.f k (wrap64 (rd l0 4)) (wrap64 (rd l0 5)) (wrap64 (rd l0 6)) t156 t157 t158).bind fun t160 => (if t160 = true then (if 7 < (l0.length : Int) then (if (rd l0 7) = 0 then (some (wrap64 (rd l0 4), wrap64 (rd l0 5), wrap64 (rd l0 6), t156, t157, t158, (l0.drop 24), 0, 0)) else (some (0, 0, 0, 0, 0, 0, ([] : List Int), 0, 4))) else (none)) else (some (0, 0, 0, 0, 0, 0, ([] : List Int), 0, 4)))))) = some (r1, r2, r3, r4, r5, r6, r7, r8, r9) := H
            have A19 := Aside0.mk A190
            clear A190
            replace H := Option.bind_eq_some_iff.mp H
            obtain ⟨t157, A200, H⟩ := H
            replace H : ((shard_get.f l0 16).bind fun t158 => ((shard_May.f k (wrap64 (rd l0 4)) (wrap64 (rd l0 5)) (wrap64 (rd l0 6)) t156 t157 t158).bind fun t160 => (if t160 = true then (if 7 < (l0.length : Int) then (if (rd l0 7) = 0 then (some (wrap64 (rd l0 4), wrap64 (rd l0 5), wrap64 (rd l0 6), t156, t157, t158, (l0.drop 24), 0, 0)) else (some (0, 0, 0, 0, 0, 0, ([] : List Int), 0, 4))) else (none)) else (some (0, 0, 0, 0, 0, 0, ([] : List Int), 0, 4))))) = some (r1, r2, r3, r4, r5, r6, r7, r8, r9) := H
            have A20 := Aside0.mk A200
            clear A200
            replace H := Option.bind_eq_some_iff.mp H
            obtain ⟨t158, A210, H⟩ := H
            replace H : ((shard_May.f k (wrap64 (rd l0 4)) (wrap64 (rd l0 5)) (wrap64 (rd l0 6)) t156 t157 t158).bind fun t160 => (if t160 = true then (if 7 < (l0.length : Int) then (if (rd l0 7) = 0 then (some (wrap64 (rd l0 4), wrap64 (rd l0 5), wrap64 (rd l0 6), t156, t157, t158, (l0.drop 24), 0, 0)) else (some (0, 0, 0, 0, 0, 0, ([] : List Int), 0, 4))) else (none)) else (some (0, 0, 0, 0, 0, 0, ([] : List Int), 0, 4)))) = some (r1, r2, r3, r4, r5, r6, r7, r8, r9) := H
            have A21 := Aside0.mk A210
            clear A210
            replace H := Option.bind_eq_some_iff.mp H
            obtain ⟨t160, A220, H⟩ := H
            replace H : (if t160 = true then (if 7 < (l0.length : Int) then (if (rd l0 7) = 0 then (some (wrap64 (rd l0 4), wrap64 (rd l0 5), wrap64 (rd l0 6), t156, t157, t158, (l0.drop 24), 0, 0)) else (some (0, 0, 0, 0, 0, 0, ([] : List Int), 0, 4))) else (none)) else (some (0, 0, 0, 0, 0, 0, ([] : List Int), 0, 4))) = some (r1, r2, r3, r4, r5, r6, r7, r8, r9) := H
            have A22 := Aside0.mk A220
            clear A220
            go_enter Try.func71, Try.ntmps71
            try go_wp2_with (first | ((with_reducible refine gate_dst (N := 2) rfl ?_); refine box_event ?hg (N := 2) ?hd (cs := #[.int .i64 0, .int .i64 0, .int .i64 0, .int .i64 0, .int .i64 0, .int .i64 0]) (t := 32) ?hr ?_; (case hd => rfl); (case hg => rfl); (case hr => first | (go_simp; done) | (go_simp; rfl)); intro gb134 hg w27 hbox hb; have n0_ := Aside0.mk (Kd.V_below (Kd.V_elderB (by (with_reducible repeat (first | apply Kd.V_alloc | apply Kd.V_drewN | apply Kd.V_drew)); exact HO0.out) gb134 (Nat.le_of_eq hg.symm)) hb); have n1_ := Aside0.mk (below_step (by repeat (first | (with_reducible first | exact HB.out | apply below_alloc | apply pw_below_drewN | apply below_drew1) | exact HB.out)) hb); have n2_ := Aside0.mk (hbox); have n3_ := Aside0.mk ((by rw [hg]; exact (below_size (by repeat (first | (with_reducible first | exact HB.out | apply below_alloc | apply pw_below_drewN | apply below_drew1) | exact HB.out))) : w.heap.size ≤ gb134)); have n4_ := Aside0.mk ((by rw [hg]; exact (below_size (by repeat (first | (with_reducible first | exact HB.out | apply below_alloc | apply pw_below_drewN | apply below_drew1) | exact HB.out))) : w.heap.size ≤ gb134)); clear HO0; clear HB; have HO0 := n0_; have HB := n1_; have BK134 := n2_; have GW134 := n3_; have GE134 := n4_; clear n0_ n1_ n2_ n3_ n4_; clear hb hbox hg; have q28 : (4 : Int) ≤ ((l0.length : Int) : Int) := of_decide_eq_true (by first | (with_reducible assumption) | assumption); obtain ⟨i028, hi028, _, hsz28, _⟩ := info_parts info5; have hroom28 : l0.length ≤ c0 := (Kd.V_reads' HO0.out).2.1; have hC28 : Kd.F (Kd.int .u8) _ _ A0 l0.length l0 := (Kd.V_at (base := w.heap.size) HO0.out).2.2; have hcut28 := cut_to (P := Try.prog) 22 5 .i64 Try.underlying22 hi028 A0 l0.length c0 4 (by omega) q28 hroom28; have hr28 := Kd.F_take (m := 4) hC28 (by omega); have hy28 : y135.length = (4 : Int).toNat := (by rw [Ny135.out, List.length_take]; omega); rw [← Ny135.out] at hr28; rw [← hy28] at hcut28; have HO139 := Aside0.mk (show Kd.V (Kd.int .u8) 5 _ w.heap.size _ (.slice A0 y135.length c0) y135 from Kd.V_mk (by omega) hr28); have HC139 := Aside0.mk (show y135.length ≤ c0 from by omega); clear hr28 hC28 hroom28 hi028 hsz28; have KY28 := Aside0.mk hy28; clear hy28; replace q28 := eq_true q28; have hcv29 := Kd.C_string (P := Try.prog) (A := A0) (c := c0) Try.underlying22 Try.underlying5 Try.underlying9 (Kd.V_reads' HO139.out).2.2; have q30 : (24 : Int) ≤ ((l0.length : Int) : Int) := of_decide_eq_true (by first | (with_reducible assumption) | assumption); obtain ⟨i030, hi030, _, hsz30, _⟩ := info_parts info5; have hroom30 : l0.length ≤ c0 := (Kd.V_reads' HO0.out).2.1; have hC30 : Kd.F (Kd.int .u8) _ _ A0 l0.length l0 := (Kd.V_at (base := w.heap.size) HO0.out).2.2; have ql30 : (20 : Int) ≤ (24 : Int) := (by omega); have hcut30 := cut_mid (P := Try.prog) 22 5 .i64 .i64 Try.underlying22 hi030 1 hsz30 A0 l0.length c0 20 24 (by omega) ql30 q30 hroom30; have hr30 := Kd.F_mid (lo := (20 : Int).toNat) (hi := (24 : Int).toNat) (c := c0) hC30 (by omega) (by omega) hroom30; obtain ⟨A30, hA30⟩ : ∃ A1, A1 = (if c0 = (20 : Int).toNat then A0 else (A0 : Option Addr).map (·.add ((20 : Int).toNat * 1))) := ⟨_, rfl⟩; obtain ⟨c30, hc30⟩ : ∃ c1, c1 = c0 - (20 : Int).toNat := ⟨_, rfl⟩; have hy30 : y140.length = (24 : Int).toNat - (20 : Int).toNat := (by rw [Ny140.out, List.length_drop, List.length_take] <;> omega); rw [show ((l0).take (24 : Int).toNat).drop (20 : Int).toNat = y140 from Ny140.out.symm] at hr30; replace hr30 : Kd.F (Kd.int .u8) _ _ A30 y140.length y140 := (by rw [hA30]; exact hr30); rw [← hy30, ← hA30, ← hc30] at hcut30; have HO144 := Aside0.mk (show Kd.V (Kd.int .u8) 5 _ w.heap.size _ (.slice A30 y140.length c30) y140 from Kd.V_mk (by rw [hy30, hc30]; exact Nat.sub_le_sub_right (Nat.le_trans (by omega) hroom30) _) hr30); have HC144 := Aside0.mk (show y140.length ≤ c30 from by rw [hy30, hc30]; exact Nat.sub_le_sub_right (Nat.le_trans (by omega) hroom30) _); clear hr30 hC30 hroom30 hi030 hsz30 hc30; have KY30 := Aside0.mk hy30; have KA30 := Aside0.mk hA30; clear hy30 hA30; replace q30 := eq_true q30) | ((with_reducible refine gate_callee (f := 58) rfl ?_); refine goesL_ (some 28) rfl rfl Try.func58 (by kernel_rfl) rfl #[.slice A30 y140.length c30] rfl (by (try simp only [List.map_toArray, List.map_cons, List.map_nil]); first | done | rfl | (simp only [List.length_drop, List.length_take]; rfl)) ?_; (with_reducible refine (crc_Read.calls k _ _ y140 t145 t146 _ ?side1 ?side2 A12.out).mono ?_); (case side1 => repeat (first | exact (Kd.V_reads' HO144.out).2.2 | (with_reducible refine Kd.C_alloc ?_ _) | (with_reducible refine Kd.C_drewN ?_ _) | (with_reducible refine Kd.C_drew ?_))); (case side2 => exact (Kd.V_reads' HO144.out).2.1); rintro e w' ⟨rfl, ⟨nd, rfl⟩⟩; refine ⟨_, rfl, ?_⟩; (try (rw [drewN_self w27]; generalize hq_ : World.drewN w27 _ = w27; have n0_ : Aside0 (Kd.V (Kd.int .u8) 5 w27 w.heap.size (fun k_ => (P0_ k_ ∨ w.heap.size ≤ k_) ∧ k_ ≠ gb134) (.slice A0 l0.length c0) l0) := ⟨by rw [← hq_]; exact (by (with_reducible repeat (first | apply Kd.V_alloc | apply Kd.V_drewN | apply Kd.V_drew)); exact HO0.out)⟩; have n1_ : Aside0 (Kd.V (Kd.int .u8) 5 w27 w.heap.size (fun k_ => (P0_ k_ ∨ w.heap.size ≤ k_) ∧ k_ ≠ gb134) (.slice A0 y135.length c0) y135) := ⟨by rw [← hq_]; exact (by (with_reducible repeat (first | apply Kd.V_alloc | apply Kd.V_drewN | apply Kd.V_drew)); exact HO139.out)⟩; have n2_ : Aside0 (Kd.V (Kd.int .u8) 5 w27 w.heap.size (fun k_ => (P0_ k_ ∨ w.heap.size ≤ k_) ∧ k_ ≠ gb134) (.slice A30 y140.length c30) y140) := ⟨by rw [← hq_]; exact (by (with_reducible repeat (first | apply Kd.V_alloc | apply Kd.V_drewN | apply Kd.V_drew)); exact HO144.out)⟩; have n3_ : Aside0 (w27.heap[gb134]? = some (.cells #[.int .i64 0, .int .i64 0, .int .i64 0, .int .i64 0, .int .i64 0, .int .i64 0] 32 (0, 0))) := ⟨by rw [← hq_]; exact (by (with_reducible repeat (first | refine blk_drewN ?_ _ | refine blk_drew ?_ | refine blk_alloc ?_ _)); exact BK134.out)⟩; have n4_ : Aside0 (Below w.heap.size w w27) := ⟨by rw [← hq_]; exact (by repeat (first | (with_reducible first | exact HB.out | apply below_alloc | apply pw_below_drewN | apply below_drew1 | refine below_set ?_ GE134.out) | exact HB.out))⟩; clear HO0 HO139 HO144 BK134 HB hq_; have HO0 := n0_; have HO139 := n1_; have HO144 := n2_; have BK134 := n3_; have HB := n4_; clear n0_ n1_ n2_ n3_ n4_)); have q31 : (20 : Int) ≤ ((l0.length : Int) : Int) := of_decide_eq_true (by first | (with_reducible assumption) | assumption); obtain ⟨i031, hi031, _, hsz31, _⟩ := info_parts info5; have hroom31 : l0.length ≤ c0 := (Kd.V_reads' HO0.out).2.1; have hC31 : Kd.F (Kd.int .u8) _ _ A0 l0.length l0 := (Kd.V_at (base := w.heap.size) HO0.out).2.2; have hcut31 := cut_to (P := Try.prog) 22 5 .i64 Try.underlying22 hi031 A0 l0.length c0 20 (by omega) q31 hroom31; have hr31 := Kd.F_take (m := 20) hC31 (by omega); have hy31 : y147.length = (20 : Int).toNat := (by rw [Ny147.out, List.length_take]; omega); rw [← Ny147.out] at hr31; rw [← hy31] at hcut31; have HO151 := Aside0.mk (show Kd.V (Kd.int .u8) 5 _ w.heap.size _ (.slice A0 y147.length c0) y147 from Kd.V_mk (by omega) hr31); have HC151 := Aside0.mk (show y147.length ≤ c0 from by omega); clear hr31 hC31 hroom31 hi031 hsz31; have KY31 := Aside0.mk hy31; clear hy31; replace q31 := eq_true q31) | ((with_reducible refine gate_callee (f := 55) rfl ?_); refine goesL_ (some 34) rfl rfl Try.func55 (by kernel_rfl) rfl #[.slice A0 y147.length c0] rfl (by (try simp only [List.map_toArray, List.map_cons, List.map_nil]); first | done | rfl | (simp only [List.length_drop, List.length_take]; rfl)) ?_; (with_reducible refine (crc_Sum.calls k _ _ y147 t152 _ ?side1 ?side2 A14.out).mono ?_); (case side1 => repeat (first | exact (Kd.V_reads' HO151.out).2.2 | (with_reducible refine Kd.C_alloc ?_ _) | (with_reducible refine Kd.C_drewN ?_ _) | (with_reducible refine Kd.C_drew ?_))); (case side2 => exact (Kd.V_reads' HO151.out).2.1); rintro e w' ⟨rfl, ⟨nd, rfl⟩⟩; refine ⟨_, rfl, ?_⟩; (try (rw [drewN_self w27]; generalize hq_ : World.drewN w27 _ = w27; have n0_ : Aside0 (Kd.V (Kd.int .u8) 5 w27 w.heap.size (fun k_ => (P0_ k_ ∨ w.heap.size ≤ k_) ∧ k_ ≠ gb134) (.slice A0 l0.length c0) l0) := ⟨by rw [← hq_]; exact (by (with_reducible repeat (first | apply Kd.V_alloc | apply Kd.V_drewN | apply Kd.V_drew)); exact HO0.out)⟩; have n1_ : Aside0 (Kd.V (Kd.int .u8) 5 w27 w.heap.size (fun k_ => (P0_ k_ ∨ w.heap.size ≤ k_) ∧ k_ ≠ gb134) (.slice A0 y135.length c0) y135) := ⟨by rw [← hq_]; exact (by (with_reducible repeat (first | apply Kd.V_alloc | apply Kd.V_drewN | apply Kd.V_drew)); exact HO139.out)⟩; have n2_ : Aside0 (Kd.V (Kd.int .u8) 5 w27 w.heap.size (fun k_ => (P0_ k_ ∨ w.heap.size ≤ k_) ∧ k_ ≠ gb134) (.slice A30 y140.length c30) y140) := ⟨by rw [← hq_]; exact (by (with_reducible repeat (first | apply Kd.V_alloc | apply Kd.V_drewN | apply Kd.V_drew)); exact HO144.out)⟩; have n3_ : Aside0 (Kd.V (Kd.int .u8) 5 w27 w.heap.size (fun k_ => (P0_ k_ ∨ w.heap.size ≤ k_) ∧ k_ ≠ gb134) (.slice A0 y147.length c0) y147) := ⟨by rw [← hq_]; exact (by (with_reducible repeat (first | apply Kd.V_alloc | apply Kd.V_drewN | apply Kd.V_drew)); exact HO151.out)⟩; have n4_ : Aside0 (w27.heap[gb134]? = some (.cells #[.int .i64 0, .int .i64 0, .int .i64 0, .int .i64 0, .int .i64 0, .int .i64 0] 32 (0, 0))) := ⟨by rw [← hq_]; exact (by (with_reducible repeat (first | refine blk_drewN ?_ _ | refine blk_drew ?_ | refine blk_alloc ?_ _)); exact BK134.out)⟩; have n5_ : Aside0 (Below w.heap.size w w27) := ⟨by rw [← hq_]; exact (by repeat (first | (with_reducible first | exact HB.out | apply below_alloc | apply pw_below_drewN | apply below_drew1 | refine below_set ?_ GE134.out) | exact HB.out))⟩; clear HO0 HO139 HO144 HO151 BK134 HB hq_; have HO0 := n0_; have HO139 := n1_; have HO144 := n2_; have HO151 := n3_; have BK134 := n4_; have HB := n5_; clear n0_ n1_ n2_ n3_ n4_ n5_))))
            have n0_ := Aside0.mk (Kd.V_drew HO0.out)
            have n1_ := Aside0.mk (Kd.V_drew HO139.out)
            have n2_ := Aside0.mk (Kd.V_drew HO144.out)
            have n3_ := Aside0.mk (Kd.V_drew HO151.out)
            have n4_ := Aside0.mk (blk_drew BK134.out)
            have n5_ := Aside0.mk (below_drew1 HB.out)
            clear HO0
            clear HO139
            clear HO144
            clear HO151
            clear BK134
            clear HB
            have HO0 := n0_
            have HO139 := n1_
            have HO144 := n2_
            have HO151 := n3_
            have BK134 := n4_
            have HB := n5_
            clear n0_ n1_ n2_ n3_ n4_ n5_
            have p153 : 0 ≤ (4 : Int) := (by omega)
            have q153 : 4 < (l0.length : Int) := of_decide_eq_true (by first | (with_reducible assumption) | assumption)
            obtain ⟨ad153, e153, hx153_0⟩ := Kd.at_int (Kd.V_reads' HO0.out).2.2 4 p153 q153
            cases e153
            (try simp only [show (4 : Int).toNat = 4 from rfl, Nat.reduceMul, Nat.reduceEqDiff, Go.Addr.add, ↓reduceIte] at hx153_0)
            have qi153 : (4 < l0.length) = True := eq_true (by omega)
            (try rw [show ((4 : Int)).toNat = 4 from rfl] at hx153_0)
            replace p153 := eq_true p153
            replace q153 := eq_true q153
            have p154 : 0 ≤ (5 : Int) := (by omega)
            have q154 : 5 < (l0.length : Int) := of_decide_eq_true (by first | (with_reducible assumption) | assumption)
            obtain ⟨ad154, e154, hx154_0⟩ := Kd.at_int (Kd.V_reads' HO0.out).2.2 5 p154 q154
            obtain rfl : ad153 = ad154 := (by injection e154)
            (try simp only [show (5 : Int).toNat = 5 from rfl, Nat.reduceMul, Nat.reduceEqDiff, Go.Addr.add, ↓reduceIte] at hx154_0)
            have qi154 : (5 < l0.length) = True := eq_true (by omega)
            (try rw [show ((5 : Int)).toNat = 5 from rfl] at hx154_0)
            replace p154 := eq_true p154
            replace q154 := eq_true q154
            have p155 : 0 ≤ (6 : Int) := (by omega)
            have q155 : 6 < (l0.length : Int) := of_decide_eq_true (by first | (with_reducible assumption) | assumption)
            obtain ⟨ad155, e155, hx155_0⟩ := Kd.at_int (Kd.V_reads' HO0.out).2.2 6 p155 q155
            obtain rfl : ad153 = ad155 := (by injection e155)
            (try simp only [show (6 : Int).toNat = 6 from rfl, Nat.reduceMul, Nat.reduceEqDiff, Go.Addr.add, ↓reduceIte] at hx155_0)
            have qi155 : (6 < l0.length) = True := eq_true (by omega)
            (try rw [show ((6 : Int)).toNat = 6 from rfl] at hx155_0)
            replace p155 := eq_true p155
            replace q155 := eq_true q155
            refine start_ (n := 21) (S := fun w' => w'.cell? ⟨ad153.block, ad153.off + 4, none⟩ = some (.int .u8 (rd l0 4)) ∧ w'.cell? ⟨ad153.block, ad153.off + 5, none⟩ = some (.int .u8 (rd l0 5)) ∧ w'.cell? ⟨ad153.block, ad153.off + 6, none⟩ = some (.int .u8 (rd l0 6))) (ds := []) #[false, false, false, false, false, false, false, false, false, false, false, false, false, false, false, false, false, false, false, false, false] (by kernel_rfl) rfl rfl ⟨hx153_0, hx154_0, hx155_0⟩ (fun hHeld => ?_); refine with_tabW shard_opened.tab10 shard_opened.bits10 (fun HT_ HW_ => ?_)
            generalize w27.drew = w32 at HO0 HO139 HO144 HO151 BK134 HB hx153_0 hx154_0 hx155_0 hHeld ⊢
            refine pure_ (i := 0) (N := some 37) (v := ?_) (a' := ?_) #[true, false, false, false, false, false, false, false, false, false, false, false, false, false, false, false, false, false, false, false, false] rfl rfl (any_of HT_.out (by kernel_rfl)) (fun _ _ _ h => h) (Or.inl ⟨by rfl, ?_⟩) ?_ ?_
            rotate_left
            ·intro w'
             go_simp
             with_reducible rfl
            rotate_left
            ·simp only [Act.put, List.setIfInBounds_toArray, List.set_cons_zero, List.set_cons_succ, i64_w, i32_w]
             rfl
            refine pure_ (i := 1) (N := some 38) (v := ?_) (a' := ?_) #[true, true, false, false, false, false, false, false, false, false, false, false, false, false, false, false, false, false, false, false, false] rfl rfl (any_of HT_.out (by kernel_rfl)) (fun _ _ _ h => h) (Or.inl ⟨by rfl, ?_⟩) ?_ ?_
            rotate_left
            ·intro w'
             go_simp
             with_reducible rfl
            rotate_left
            ·simp only [Act.put, List.setIfInBounds_toArray, List.set_cons_zero, List.set_cons_succ, i64_w, i32_w]
             rfl
            refine pure_ (i := 4) (N := some 41) (v := ?_) (a' := ?_) #[true, true, false, false, true, false, false, false, false, false, false, false, false, false, false, false, false, false, false, false, false] rfl rfl (any_of HT_.out (by kernel_rfl)) (fun _ _ _ h => h) (Or.inl ⟨by rfl, ?_⟩) ?_ ?_
            rotate_left
            ·intro w'
             go_simp
             with_reducible rfl
            rotate_left
            ·simp only [Act.put, List.setIfInBounds_toArray, List.set_cons_zero, List.set_cons_succ, i64_w, i32_w]
             rfl
            refine pure_ (i := 5) (N := some 42) (v := ?_) (a' := ?_) #[true, true, false, false, true, true, false, false, false, false, false, false, false, false, false, false, false, false, false, false, false] rfl rfl (any_of HT_.out (by kernel_rfl)) (fun _ _ _ h => h) (Or.inl ⟨by rfl, ?_⟩) ?_ ?_
            rotate_left
            ·intro w'
             go_simp
             with_reducible rfl
            rotate_left
            ·simp only [Act.put, List.setIfInBounds_toArray, List.set_cons_zero, List.set_cons_succ, i64_w, i32_w]
             rfl
            refine pure_ (i := 8) (N := some 45) (v := ?_) (a' := ?_) #[true, true, false, false, true, true, false, false, true, false, false, false, false, false, false, false, false, false, false, false, false] rfl rfl (any_of HT_.out (by kernel_rfl)) (fun _ _ _ h => h) (Or.inl ⟨by rfl, ?_⟩) ?_ ?_
            rotate_left
            ·intro w'
             go_simp
             with_reducible rfl
            rotate_left
            ·simp only [Act.put, List.setIfInBounds_toArray, List.set_cons_zero, List.set_cons_succ, i64_w, i32_w]
             rfl
            refine pure_ (i := 9) (N := some 46) (v := ?_) (a' := ?_) #[true, true, false, false, true, true, false, false, true, true, false, false, false, false, false, false, false, false, false, false, false] rfl rfl (any_of HT_.out (by kernel_rfl)) (fun _ _ _ h => h) (Or.inl ⟨by rfl, ?_⟩) ?_ ?_
            rotate_left
            ·intro w'
             go_simp
             with_reducible rfl
            rotate_left
            ·simp only [Act.put, List.setIfInBounds_toArray, List.set_cons_zero, List.set_cons_succ, i64_w, i32_w]
             rfl
            refine pure_ (i := 12) (N := some 49) (v := ?_) (a' := ?_) #[true, true, false, false, true, true, false, false, true, true, false, false, true, false, false, false, false, false, false, false, false] rfl rfl (any_of HT_.out (by kernel_rfl)) (fun _ _ _ h => h) (Or.inl ⟨by rfl, ?_⟩) ?_ ?_
            rotate_left
            ·intro w'
             go_simp
             with_reducible rfl
            rotate_left
            ·simp only [Act.put, List.setIfInBounds_toArray, List.set_cons_zero, List.set_cons_succ, i64_w, i32_w]
             rfl
            refine pure_ (i := 14) (N := some 51) (v := ?_) (a' := ?_) #[true, true, false, false, true, true, false, false, true, true, false, false, true, false, true, false, false, false, false, false, false] rfl rfl (any_of HT_.out (by kernel_rfl)) (fun _ _ _ h => h) (Or.inl ⟨by rfl, ?_⟩) ?_ ?_
            rotate_left
            ·intro w'
             go_simp
             with_reducible rfl
            rotate_left
            ·simp only [Act.put, List.setIfInBounds_toArray, List.set_cons_zero, List.set_cons_succ, i64_w, i32_w]
             rfl
            refine pure_ (i := 16) (N := some 53) (v := ?_) (a' := ?_) #[true, true, false, false, true, true, false, false, true, true, false, false, true, false, true, false, true, false, false, false, false] rfl rfl (any_of HT_.out (by kernel_rfl)) (fun _ _ _ h => h) (Or.inl ⟨by rfl, ?_⟩) ?_ ?_
            rotate_left
            ·intro w'
             go_simp
             with_reducible rfl
            rotate_left
            ·simp only [Act.put, List.setIfInBounds_toArray, List.set_cons_zero, List.set_cons_succ, i64_w, i32_w]
             rfl
            refine take_ (i := 2) (N := some 39) (v := ?_) (a' := ?_) #[true, true, true, false, true, true, false, false, true, true, false, false, true, false, true, false, true, false, false, false, false] rfl rfl (take_ofW HT_.out HW_.out (by kernel_rfl)) (fun _ _ _ h => h) (Or.inl ⟨by rfl, ?_⟩) hHeld ?_ ?_
            rotate_left
            ·rintro w' ⟨s0, s1, s2⟩
             go_simp
             with_reducible rfl
            rotate_left
            ·simp only [Act.put, List.setIfInBounds_toArray, List.set_cons_zero, List.set_cons_succ, i64_w, i32_w]
             rfl
            refine pure_ (i := 3) (N := some 40) (v := ?_) (a' := ?_) #[true, true, true, true, true, true, false, false, true, true, false, false, true, false, true, false, true, false, false, false, false] rfl rfl (any_of HT_.out (by kernel_rfl)) (fun _ _ _ h => h) (Or.inl ⟨by rfl, ?_⟩) ?_ ?_
            rotate_left
            ·intro w'
             go_simp
             with_reducible rfl
            rotate_left
            ·simp only [Act.put, List.setIfInBounds_toArray, List.set_cons_zero, List.set_cons_succ, i64_w, i32_w]
             rfl
            refine take_ (i := 6) (N := some 43) (v := ?_) (a' := ?_) #[true, true, true, true, true, true, true, false, true, true, false, false, true, false, true, false, true, false, false, false, false] rfl rfl (take_ofW HT_.out HW_.out (by kernel_rfl)) (fun _ _ _ h => h) (Or.inl ⟨by rfl, ?_⟩) hHeld ?_ ?_
            rotate_left
            ·rintro w' ⟨s0, s1, s2⟩
             go_simp
             with_reducible rfl
            rotate_left
            ·simp only [Act.put, List.setIfInBounds_toArray, List.set_cons_zero, List.set_cons_succ, i64_w, i32_w]
             rfl
            refine pure_ (i := 7) (N := some 44) (v := ?_) (a' := ?_) #[true, true, true, true, true, true, true, true, true, true, false, false, true, false, true, false, true, false, false, false, false] rfl rfl (any_of HT_.out (by kernel_rfl)) (fun _ _ _ h => h) (Or.inl ⟨by rfl, ?_⟩) ?_ ?_
            rotate_left
            ·intro w'
             go_simp
             with_reducible rfl
            rotate_left
            ·simp only [Act.put, List.setIfInBounds_toArray, List.set_cons_zero, List.set_cons_succ, i64_w, i32_w]
             rfl
            refine take_ (i := 10) (N := some 47) (v := ?_) (a' := ?_) #[true, true, true, true, true, true, true, true, true, true, true, false, true, false, true, false, true, false, false, false, false] rfl rfl (take_ofW HT_.out HW_.out (by kernel_rfl)) (fun _ _ _ h => h) (Or.inl ⟨by rfl, ?_⟩) hHeld ?_ ?_
            rotate_left
            ·rintro w' ⟨s0, s1, s2⟩
             go_simp
             with_reducible rfl
            rotate_left
            ·simp only [Act.put, List.setIfInBounds_toArray, List.set_cons_zero, List.set_cons_succ, i64_w, i32_w]
             rfl
            refine pure_ (i := 11) (N := some 48) (v := ?_) (a' := ?_) #[true, true, true, true, true, true, true, true, true, true, true, true, true, false, true, false, true, false, false, false, false] rfl rfl (any_of HT_.out (by kernel_rfl)) (fun _ _ _ h => h) (Or.inl ⟨by rfl, ?_⟩) ?_ ?_
            rotate_left
            ·intro w'
             go_simp
             with_reducible rfl
            rotate_left
            ·simp only [Act.put, List.setIfInBounds_toArray, List.set_cons_zero, List.set_cons_succ, i64_w, i32_w]
             rfl
            refine join_ (σ := Nat) 1 #[true, true, true, true, true, true, true, true, true, true, true, true, true, true, true, true, true, true, true, true, false] (fun s_ => [(50, .int .i64 t156), (52, .int .i64 t157), (54, .int .i64 t158), (8, .pointer (some ⟨s_, 0, none⟩)), (55, .agg #[.int .i64 (wrap64 (rd l0 4)), .int .i64 (wrap64 (rd l0 5)), .int .i64 (wrap64 (rd l0 6)), .int .i64 t156, .int .i64 t157, .int .i64 t158])]) (fun s_ w' => (w'.cell? ⟨ad153.block, ad153.off + 4, none⟩ = some (.int .u8 (rd l0 4)) ∧ w'.cell? ⟨ad153.block, ad153.off + 5, none⟩ = some (.int .u8 (rd l0 5)) ∧ w'.cell? ⟨ad153.block, ad153.off + 6, none⟩ = some (.int .u8 (rd l0 6))) ∧ (Kd.V (Kd.int .u8) 5 w' w.heap.size (fun k_ => (P0_ k_ ∨ w.heap.size ≤ k_) ∧ k_ ≠ gb134 ∧ k_ ≠ s_) (.slice (some ad153) l0.length c0) l0) ∧ (Kd.V (Kd.int .u8) 5 w' w.heap.size (fun k_ => (P0_ k_ ∨ w.heap.size ≤ k_) ∧ k_ ≠ gb134 ∧ k_ ≠ s_) (.slice (some ad153) y135.length c0) y135) ∧ (Kd.V (Kd.int .u8) 5 w' w.heap.size (fun k_ => (P0_ k_ ∨ w.heap.size ≤ k_) ∧ k_ ≠ gb134 ∧ k_ ≠ s_) (.slice A30 y140.length c30) y140) ∧ (Kd.V (Kd.int .u8) 5 w' w.heap.size (fun k_ => (P0_ k_ ∨ w.heap.size ≤ k_) ∧ k_ ≠ gb134 ∧ k_ ≠ s_) (.slice (some ad153) y147.length c0) y147) ∧ (w'.heap[gb134]? = some (.cells #[.int .i64 0, .int .i64 0, .int .i64 0, .int .i64 0, .int .i64 0, .int .i64 0] 32 (0, 0))) ∧ (w'.heap[s_]? = some (.cells #[.int .i64 0, .int .i64 0, .int .i64 0, .int .i64 0, .int .i64 0, .int .i64 0] 32 (0, 0))) ∧ (w.heap.size ≤ s_) ∧ (w.heap.size ≤ s_) ∧ (gb134 ≠ s_) ∧ (s_ ≠ gb134) ∧ (Below w.heap.size w w')) ?_ ?_
            rotate_left
            ·intro hCont
             refine two_ (i := 13) (j := 19) (Ni := some 50) (Nj := some 8) #[true, true, true, true, true, true, true, true, true, true, true, true, true, true, true, false, true, false, false, false, false] #[true, true, true, true, true, true, true, true, true, true, true, true, true, false, true, false, true, false, false, true, false] rfl rfl rfl rfl (two_of HT_.out (by kernel_rfl)) (by decide) (by decide) (fun K hK => ?_) (fun K hK => ?_)
             ·skip
              refine goes_ Try.func75 (by kernel_rfl) rfl #[.slice (some ad153) l0.length c0, .int .i64 8] (by rfl) rfl rfl (by (try simp only [List.map_toArray, List.map_cons, List.map_nil]); first | done | rfl | (simp only [List.length_drop, List.length_take]; rfl)) ?_
              with_reducible refine (shard_get.calls _ _ l0 8 t156 _ ?side1 ?side2 A19.out).mono ?_
              (case side1 => repeat (first | exact (Kd.V_reads' HO0.out).2.2 | (with_reducible refine Kd.C_alloc ?_ _) | (with_reducible refine Kd.C_drewN ?_ _) | (with_reducible refine Kd.C_drew ?_)))
              (case side2 => exact (Kd.V_reads' HO0.out).2.1)
              rintro e w' ⟨rfl, ⟨nd, rfl⟩⟩
              refine ⟨_, rfl, ?_⟩
              refine hK.out _ _ ⟨hHeld.1, hHeld.2.1, hHeld.2.2⟩ (fun hHeld => ?_)
              clear hK K
              refine norm_ (a' := ?_) ?_ ?_
              rotate_left
              ·show Act.put _ (some 50) _ = _
               simp only [Act.put, List.setIfInBounds_toArray, List.set_cons_zero, List.set_cons_succ, i64_w, i32_w]
               rfl
              refine two_ (i := 15) (j := 19) (Ni := some 52) (Nj := some 8) #[true, true, true, true, true, true, true, true, true, true, true, true, true, true, true, true, true, false, false, false, false] #[true, true, true, true, true, true, true, true, true, true, true, true, true, true, true, false, true, false, false, true, false] rfl rfl rfl rfl (two_of HT_.out (by kernel_rfl)) (by decide) (by decide) (fun K hK => ?_) (fun K hK => ?_)
              ·skip
               refine goes_ Try.func75 (by kernel_rfl) rfl #[.slice (some ad153) l0.length c0, .int .i64 12] (by rfl) rfl rfl (by (try simp only [List.map_toArray, List.map_cons, List.map_nil]); first | done | rfl | (simp only [List.length_drop, List.length_take]; rfl)) ?_
               with_reducible refine (shard_get.calls _ _ l0 12 t157 _ ?side1 ?side2 A20.out).mono ?_
               (case side1 => repeat (first | exact (Kd.V_reads' HO0.out).2.2 | (with_reducible refine Kd.C_alloc ?_ _) | (with_reducible refine Kd.C_drewN ?_ _) | (with_reducible refine Kd.C_drew ?_)))
               (case side2 => exact (Kd.V_reads' HO0.out).2.1)
               rintro e w' ⟨rfl, ⟨nd, rfl⟩⟩
               refine ⟨_, rfl, ?_⟩
               refine hK.out _ _ ⟨hHeld.1, hHeld.2.1, hHeld.2.2⟩ (fun hHeld => ?_)
               clear hK K
               refine norm_ (a' := ?_) ?_ ?_
               rotate_left
               ·show Act.put _ (some 52) _ = _
                simp only [Act.put, List.setIfInBounds_toArray, List.set_cons_zero, List.set_cons_succ, i64_w, i32_w]
                rfl
               refine two_ (i := 17) (j := 19) (Ni := some 54) (Nj := some 8) #[true, true, true, true, true, true, true, true, true, true, true, true, true, true, true, true, true, true, false, false, false] #[true, true, true, true, true, true, true, true, true, true, true, true, true, true, true, true, true, false, false, true, false] rfl rfl rfl rfl (two_of HT_.out (by kernel_rfl)) (by decide) (by decide) (fun K hK => ?_) (fun K hK => ?_)
               ·skip
                refine goes_ Try.func75 (by kernel_rfl) rfl #[.slice (some ad153) l0.length c0, .int .i64 16] (by rfl) rfl rfl (by (try simp only [List.map_toArray, List.map_cons, List.map_nil]); first | done | rfl | (simp only [List.length_drop, List.length_take]; rfl)) ?_
                with_reducible refine (shard_get.calls _ _ l0 16 t158 _ ?side1 ?side2 A21.out).mono ?_
                (case side1 => repeat (first | exact (Kd.V_reads' HO0.out).2.2 | (with_reducible refine Kd.C_alloc ?_ _) | (with_reducible refine Kd.C_drewN ?_ _) | (with_reducible refine Kd.C_drew ?_)))
                (case side2 => exact (Kd.V_reads' HO0.out).2.1)
                rintro e w' ⟨rfl, ⟨nd, rfl⟩⟩
                refine ⟨_, rfl, ?_⟩
                refine hK.out _ _ ⟨hHeld.1, hHeld.2.1, hHeld.2.2⟩ (fun hHeld => ?_)
                clear hK K
                refine norm_ (a' := ?_) ?_ ?_
                rotate_left
                ·show Act.put _ (some 54) _ = _
                 simp only [Act.put, List.setIfInBounds_toArray, List.set_cons_zero, List.set_cons_succ, i64_w, i32_w]
                 rfl
                refine pure_ (i := 18) (N := some 55) (v := ?_) (a' := ?_) #[true, true, true, true, true, true, true, true, true, true, true, true, true, true, true, true, true, true, true, false, false] rfl rfl (any_of HT_.out (by kernel_rfl)) (fun _ _ _ h => h) (Or.inl ⟨by rfl, ?_⟩) ?_ ?_
                rotate_left
                ·intro w'
                 go_simp
                 with_reducible rfl
                rotate_left
                ·simp only [Act.put, List.setIfInBounds_toArray, List.set_cons_zero, List.set_cons_succ, i64_w, i32_w]
                 rfl
                refine one_ (i := 19) (N := some 8) #[true, true, true, true, true, true, true, true, true, true, true, true, true, true, true, true, true, true, true, true, false] rfl rfl (one_of HT_.out (by kernel_rfl)) (by decide) (fun K hK => ?_)
                refine box_step ?hg (N := 8) ?hd (cs := #[.int .i64 0, .int .i64 0, .int .i64 0, .int .i64 0, .int .i64 0, .int .i64 0]) (t := 32) ?hr ?_; (case hd => rfl); (case hg => rfl); (case hr => first | (go_simp; done) | (go_simp; rfl))
                intro gb159 hg w33 hbox hb
                have HS0_ := (hb.cell (World.block_lt_of_cell? _ _ (hHeld.1))).trans (hHeld.1)
                have HS1_ := (hb.cell (World.block_lt_of_cell? _ _ (hHeld.2.1))).trans (hHeld.2.1)
                have HS2_ := (hb.cell (World.block_lt_of_cell? _ _ (hHeld.2.2))).trans (hHeld.2.2)
                have n0_ := Aside0.mk (Kd.V_below (Kd.V_elderB (by (with_reducible repeat (first | apply Kd.V_alloc | apply Kd.V_drewN | apply Kd.V_drew)); exact HO0.out) gb159 (Nat.le_of_eq hg.symm)) hb)
                have n1_ := Aside0.mk (Kd.V_below (Kd.V_elderB (by (with_reducible repeat (first | apply Kd.V_alloc | apply Kd.V_drewN | apply Kd.V_drew)); exact HO139.out) gb159 (Nat.le_of_eq hg.symm)) hb)
                have n2_ := Aside0.mk (Kd.V_below (Kd.V_elderB (by (with_reducible repeat (first | apply Kd.V_alloc | apply Kd.V_drewN | apply Kd.V_drew)); exact HO144.out) gb159 (Nat.le_of_eq hg.symm)) hb)
                have n3_ := Aside0.mk (Kd.V_below (Kd.V_elderB (by (with_reducible repeat (first | apply Kd.V_alloc | apply Kd.V_drewN | apply Kd.V_drew)); exact HO151.out) gb159 (Nat.le_of_eq hg.symm)) hb)
                have n4_ := Aside0.mk (blk_below (g := gb134) (o := .cells #[.int .i64 0, .int .i64 0, .int .i64 0, .int .i64 0, .int .i64 0, .int .i64 0] 32 (0, 0)) (by (with_reducible repeat (first | refine blk_drewN ?_ _ | refine blk_drew ?_ | refine blk_alloc ?_ _)); exact BK134.out) hb)
                have n5_ := Aside0.mk (below_step (by repeat (first | (with_reducible first | exact HB.out | apply below_alloc | apply pw_below_drewN | apply below_drew1 | refine below_set ?_ GE134.out) | exact HB.out)) hb)
                have n6_ := Aside0.mk (hbox)
                have n7_ := Aside0.mk ((by rw [hg]; exact (below_size (by repeat (first | (with_reducible first | exact HB.out | apply below_alloc | apply pw_below_drewN | apply below_drew1 | refine below_set ?_ GE134.out) | exact HB.out))) : w.heap.size ≤ gb159))
                have n8_ := Aside0.mk ((by rw [hg]; exact (below_size (by repeat (first | (with_reducible first | exact HB.out | apply below_alloc | apply pw_below_drewN | apply below_drew1 | refine below_set ?_ GE134.out) | exact HB.out))) : w.heap.size ≤ gb159))
                have n9_ := Aside0.mk ((by rw [hg]; exact Nat.ne_of_lt (blk_lt (g := gb134) (o := .cells #[.int .i64 0, .int .i64 0, .int .i64 0, .int .i64 0, .int .i64 0, .int .i64 0] 32 (0, 0)) (by (with_reducible repeat (first | refine blk_drewN ?_ _ | refine blk_drew ?_ | refine blk_alloc ?_ _)); exact BK134.out)) : gb134 ≠ gb159))
                have n10_ := Aside0.mk ((by rw [hg]; exact Nat.ne_of_gt (blk_lt (g := gb134) (o := .cells #[.int .i64 0, .int .i64 0, .int .i64 0, .int .i64 0, .int .i64 0, .int .i64 0] 32 (0, 0)) (by (with_reducible repeat (first | refine blk_drewN ?_ _ | refine blk_drew ?_ | refine blk_alloc ?_ _)); exact BK134.out)) : gb159 ≠ gb134))
                clear HO0
                clear HO139
                clear HO144
                clear HO151
                clear BK134
                clear HB
                have HO0 := n0_
                have HO139 := n1_
                have HO144 := n2_
                have HO151 := n3_
                have BK134 := n4_
                have HB := n5_
                have BK159 := n6_
                have GW159 := n7_
                have GE159 := n8_
                have NB134_159 := n9_
                have NB159_134 := n10_
                clear n0_ n1_ n2_ n3_ n4_ n5_ n6_ n7_ n8_ n9_ n10_
                clear hb hbox hg
                refine hK.out _ _ ⟨HS0_, HS1_, HS2_⟩ (fun hHeld => ?_)
                clear hK K
                refine norm_ (a' := ?_) ?_ ?_
                rotate_left
                ·show Act.put _ (some 8) _ = _
                 simp only [Act.put, List.setIfInBounds_toArray, List.set_cons_zero, List.set_cons_succ, i64_w, i32_w]
                 rfl
                exact norm_ (by simp only [putAll, Act.put, List.setIfInBounds_toArray, List.set_cons_zero, List.set_cons_succ]) (hCont (gb159) _ ⟨hHeld, (by (with_reducible repeat (first | apply Kd.V_alloc | apply Kd.V_drewN | apply Kd.V_drew)); exact Kd.V_mono HO0.out (fun _ hk => ⟨hk.1.1, ⟨hk.1.2, hk.2⟩⟩)), (by (with_reducible repeat (first | apply Kd.V_alloc | apply Kd.V_drewN | apply Kd.V_drew)); exact Kd.V_mono HO139.out (fun _ hk => ⟨hk.1.1, ⟨hk.1.2, hk.2⟩⟩)), (by (with_reducible repeat (first | apply Kd.V_alloc | apply Kd.V_drewN | apply Kd.V_drew)); exact Kd.V_mono HO144.out (fun _ hk => ⟨hk.1.1, ⟨hk.1.2, hk.2⟩⟩)), (by (with_reducible repeat (first | apply Kd.V_alloc | apply Kd.V_drewN | apply Kd.V_drew)); exact Kd.V_mono HO151.out (fun _ hk => ⟨hk.1.1, ⟨hk.1.2, hk.2⟩⟩)), (by (with_reducible repeat (first | refine blk_drewN ?_ _ | refine blk_drew ?_ | refine blk_alloc ?_ _)); exact BK134.out), (by (with_reducible repeat (first | refine blk_drewN ?_ _ | refine blk_drew ?_ | refine blk_alloc ?_ _)); exact BK159.out), GW159.out, GE159.out, NB134_159.out, NB159_134.out, (by repeat (first | (with_reducible first | exact HB.out | apply below_alloc | apply pw_below_drewN | apply below_drew1 | refine below_set ?_ GE134.out | refine below_set ?_ GE159.out) | exact HB.out))⟩)
               ·skip
                refine box_step ?hg (N := 8) ?hd (cs := #[.int .i64 0, .int .i64 0, .int .i64 0, .int .i64 0, .int .i64 0, .int .i64 0]) (t := 32) ?hr ?_; (case hd => rfl); (case hg => rfl); (case hr => first | (go_simp; done) | (go_simp; rfl))
                intro gb159 hg w33 hbox hb
                have HS0_ := (hb.cell (World.block_lt_of_cell? _ _ (hHeld.1))).trans (hHeld.1)
                have HS1_ := (hb.cell (World.block_lt_of_cell? _ _ (hHeld.2.1))).trans (hHeld.2.1)
                have HS2_ := (hb.cell (World.block_lt_of_cell? _ _ (hHeld.2.2))).trans (hHeld.2.2)
                have n0_ := Aside0.mk (Kd.V_below (Kd.V_elderB (by (with_reducible repeat (first | apply Kd.V_alloc | apply Kd.V_drewN | apply Kd.V_drew)); exact HO0.out) gb159 (Nat.le_of_eq hg.symm)) hb)
                have n1_ := Aside0.mk (Kd.V_below (Kd.V_elderB (by (with_reducible repeat (first | apply Kd.V_alloc | apply Kd.V_drewN | apply Kd.V_drew)); exact HO139.out) gb159 (Nat.le_of_eq hg.symm)) hb)
                have n2_ := Aside0.mk (Kd.V_below (Kd.V_elderB (by (with_reducible repeat (first | apply Kd.V_alloc | apply Kd.V_drewN | apply Kd.V_drew)); exact HO144.out) gb159 (Nat.le_of_eq hg.symm)) hb)
                have n3_ := Aside0.mk (Kd.V_below (Kd.V_elderB (by (with_reducible repeat (first | apply Kd.V_alloc | apply Kd.V_drewN | apply Kd.V_drew)); exact HO151.out) gb159 (Nat.le_of_eq hg.symm)) hb)
                have n4_ := Aside0.mk (blk_below (g := gb134) (o := .cells #[.int .i64 0, .int .i64 0, .int .i64 0, .int .i64 0, .int .i64 0, .int .i64 0] 32 (0, 0)) (by (with_reducible repeat (first | refine blk_drewN ?_ _ | refine blk_drew ?_ | refine blk_alloc ?_ _)); exact BK134.out) hb)
                have n5_ := Aside0.mk (below_step (by repeat (first | (with_reducible first | exact HB.out | apply below_alloc | apply pw_below_drewN | apply below_drew1 | refine below_set ?_ GE134.out) | exact HB.out)) hb)
                have n6_ := Aside0.mk (hbox)
                have n7_ := Aside0.mk ((by rw [hg]; exact (below_size (by repeat (first | (with_reducible first | exact HB.out | apply below_alloc | apply pw_below_drewN | apply below_drew1 | refine below_set ?_ GE134.out) | exact HB.out))) : w.heap.size ≤ gb159))
                have n8_ := Aside0.mk ((by rw [hg]; exact (below_size (by repeat (first | (with_reducible first | exact HB.out | apply below_alloc | apply pw_below_drewN | apply below_drew1 | refine below_set ?_ GE134.out) | exact HB.out))) : w.heap.size ≤ gb159))
                have n9_ := Aside0.mk ((by rw [hg]; exact Nat.ne_of_lt (blk_lt (g := gb134) (o := .cells #[.int .i64 0, .int .i64 0, .int .i64 0, .int .i64 0, .int .i64 0, .int .i64 0] 32 (0, 0)) (by (with_reducible repeat (first | refine blk_drewN ?_ _ | refine blk_drew ?_ | refine blk_alloc ?_ _)); exact BK134.out)) : gb134 ≠ gb159))
                have n10_ := Aside0.mk ((by rw [hg]; exact Nat.ne_of_gt (blk_lt (g := gb134) (o := .cells #[.int .i64 0, .int .i64 0, .int .i64 0, .int .i64 0, .int .i64 0, .int .i64 0] 32 (0, 0)) (by (with_reducible repeat (first | refine blk_drewN ?_ _ | refine blk_drew ?_ | refine blk_alloc ?_ _)); exact BK134.out)) : gb159 ≠ gb134))
                clear HO0
                clear HO139
                clear HO144
                clear HO151
                clear BK134
                clear HB
                have HO0 := n0_
                have HO139 := n1_
                have HO144 := n2_
                have HO151 := n3_
                have BK134 := n4_
                have HB := n5_
                have BK159 := n6_
                have GW159 := n7_
                have GE159 := n8_
                have NB134_159 := n9_
                have NB159_134 := n10_
                clear n0_ n1_ n2_ n3_ n4_ n5_ n6_ n7_ n8_ n9_ n10_
                clear hb hbox hg
                refine hK.out _ _ ⟨HS0_, HS1_, HS2_⟩ (fun hHeld => ?_)
                clear hK K
                refine norm_ (a' := ?_) ?_ ?_
                rotate_left
                ·show Act.put _ (some 8) _ = _
                 simp only [Act.put, List.setIfInBounds_toArray, List.set_cons_zero, List.set_cons_succ, i64_w, i32_w]
                 rfl
                refine one_ (i := 17) (N := some 54) #[true, true, true, true, true, true, true, true, true, true, true, true, true, true, true, true, true, true, false, true, false] rfl rfl (one_of HT_.out (by kernel_rfl)) (by decide) (fun K hK => ?_)
                refine goes_ Try.func75 (by kernel_rfl) rfl #[.slice (some ad153) l0.length c0, .int .i64 16] (by rfl) rfl rfl (by (try simp only [List.map_toArray, List.map_cons, List.map_nil]); first | done | rfl | (simp only [List.length_drop, List.length_take]; rfl)) ?_
                with_reducible refine (shard_get.calls _ _ l0 16 t158 _ ?side1 ?side2 A21.out).mono ?_
                (case side1 => repeat (first | exact (Kd.V_reads' HO0.out).2.2 | (with_reducible refine Kd.C_alloc ?_ _) | (with_reducible refine Kd.C_drewN ?_ _) | (with_reducible refine Kd.C_drew ?_)))
                (case side2 => exact (Kd.V_reads' HO0.out).2.1)
                rintro e w' ⟨rfl, ⟨nd, rfl⟩⟩
                refine ⟨_, rfl, ?_⟩
                refine hK.out _ _ ⟨hHeld.1, hHeld.2.1, hHeld.2.2⟩ (fun hHeld => ?_)
                clear hK K
                refine norm_ (a' := ?_) ?_ ?_
                rotate_left
                ·show Act.put _ (some 54) _ = _
                 simp only [Act.put, List.setIfInBounds_toArray, List.set_cons_zero, List.set_cons_succ, i64_w, i32_w]
                 rfl
                refine pure_ (i := 18) (N := some 55) (v := ?_) (a' := ?_) #[true, true, true, true, true, true, true, true, true, true, true, true, true, true, true, true, true, true, true, true, false] rfl rfl (any_of HT_.out (by kernel_rfl)) (fun _ _ _ h => h) (Or.inl ⟨by rfl, ?_⟩) ?_ ?_
                rotate_left
                ·intro w'
                 go_simp
                 with_reducible rfl
                rotate_left
                ·simp only [Act.put, List.setIfInBounds_toArray, List.set_cons_zero, List.set_cons_succ, i64_w, i32_w]
                 rfl
                exact norm_ (by simp only [putAll, Act.put, List.setIfInBounds_toArray, List.set_cons_zero, List.set_cons_succ]) (hCont (gb159) _ ⟨hHeld, (by (with_reducible repeat (first | apply Kd.V_alloc | apply Kd.V_drewN | apply Kd.V_drew)); exact Kd.V_mono HO0.out (fun _ hk => ⟨hk.1.1, ⟨hk.1.2, hk.2⟩⟩)), (by (with_reducible repeat (first | apply Kd.V_alloc | apply Kd.V_drewN | apply Kd.V_drew)); exact Kd.V_mono HO139.out (fun _ hk => ⟨hk.1.1, ⟨hk.1.2, hk.2⟩⟩)), (by (with_reducible repeat (first | apply Kd.V_alloc | apply Kd.V_drewN | apply Kd.V_drew)); exact Kd.V_mono HO144.out (fun _ hk => ⟨hk.1.1, ⟨hk.1.2, hk.2⟩⟩)), (by (with_reducible repeat (first | apply Kd.V_alloc | apply Kd.V_drewN | apply Kd.V_drew)); exact Kd.V_mono HO151.out (fun _ hk => ⟨hk.1.1, ⟨hk.1.2, hk.2⟩⟩)), (by (with_reducible repeat (first | refine blk_drewN ?_ _ | refine blk_drew ?_ | refine blk_alloc ?_ _)); exact BK134.out), (by (with_reducible repeat (first | refine blk_drewN ?_ _ | refine blk_drew ?_ | refine blk_alloc ?_ _)); exact BK159.out), GW159.out, GE159.out, NB134_159.out, NB159_134.out, (by repeat (first | (with_reducible first | exact HB.out | apply below_alloc | apply pw_below_drewN | apply below_drew1 | refine below_set ?_ GE134.out | refine below_set ?_ GE159.out) | exact HB.out))⟩)
              ·skip
               refine box_step ?hg (N := 8) ?hd (cs := #[.int .i64 0, .int .i64 0, .int .i64 0, .int .i64 0, .int .i64 0, .int .i64 0]) (t := 32) ?hr ?_; (case hd => rfl); (case hg => rfl); (case hr => first | (go_simp; done) | (go_simp; rfl))
               intro gb159 hg w33 hbox hb
               have HS0_ := (hb.cell (World.block_lt_of_cell? _ _ (hHeld.1))).trans (hHeld.1)
               have HS1_ := (hb.cell (World.block_lt_of_cell? _ _ (hHeld.2.1))).trans (hHeld.2.1)
               have HS2_ := (hb.cell (World.block_lt_of_cell? _ _ (hHeld.2.2))).trans (hHeld.2.2)
               have n0_ := Aside0.mk (Kd.V_below (Kd.V_elderB (by (with_reducible repeat (first | apply Kd.V_alloc | apply Kd.V_drewN | apply Kd.V_drew)); exact HO0.out) gb159 (Nat.le_of_eq hg.symm)) hb)
               have n1_ := Aside0.mk (Kd.V_below (Kd.V_elderB (by (with_reducible repeat (first | apply Kd.V_alloc | apply Kd.V_drewN | apply Kd.V_drew)); exact HO139.out) gb159 (Nat.le_of_eq hg.symm)) hb)
               have n2_ := Aside0.mk (Kd.V_below (Kd.V_elderB (by (with_reducible repeat (first | apply Kd.V_alloc | apply Kd.V_drewN | apply Kd.V_drew)); exact HO144.out) gb159 (Nat.le_of_eq hg.symm)) hb)
               have n3_ := Aside0.mk (Kd.V_below (Kd.V_elderB (by (with_reducible repeat (first | apply Kd.V_alloc | apply Kd.V_drewN | apply Kd.V_drew)); exact HO151.out) gb159 (Nat.le_of_eq hg.symm)) hb)
               have n4_ := Aside0.mk (blk_below (g := gb134) (o := .cells #[.int .i64 0, .int .i64 0, .int .i64 0, .int .i64 0, .int .i64 0, .int .i64 0] 32 (0, 0)) (by (with_reducible repeat (first | refine blk_drewN ?_ _ | refine blk_drew ?_ | refine blk_alloc ?_ _)); exact BK134.out) hb)
               have n5_ := Aside0.mk (below_step (by repeat (first | (with_reducible first | exact HB.out | apply below_alloc | apply pw_below_drewN | apply below_drew1 | refine below_set ?_ GE134.out) | exact HB.out)) hb)
               have n6_ := Aside0.mk (hbox)
               have n7_ := Aside0.mk ((by rw [hg]; exact (below_size (by repeat (first | (with_reducible first | exact HB.out | apply below_alloc | apply pw_below_drewN | apply below_drew1 | refine below_set ?_ GE134.out) | exact HB.out))) : w.heap.size ≤ gb159))
               have n8_ := Aside0.mk ((by rw [hg]; exact (below_size (by repeat (first | (with_reducible first | exact HB.out | apply below_alloc | apply pw_below_drewN | apply below_drew1 | refine below_set ?_ GE134.out) | exact HB.out))) : w.heap.size ≤ gb159))
               have n9_ := Aside0.mk ((by rw [hg]; exact Nat.ne_of_lt (blk_lt (g := gb134) (o := .cells #[.int .i64 0, .int .i64 0, .int .i64 0, .int .i64 0, .int .i64 0, .int .i64 0] 32 (0, 0)) (by (with_reducible repeat (first | refine blk_drewN ?_ _ | refine blk_drew ?_ | refine blk_alloc ?_ _)); exact BK134.out)) : gb134 ≠ gb159))
               have n10_ := Aside0.mk ((by rw [hg]; exact Nat.ne_of_gt (blk_lt (g := gb134) (o := .cells #[.int .i64 0, .int .i64 0, .int .i64 0, .int .i64 0, .int .i64 0, .int .i64 0] 32 (0, 0)) (by (with_reducible repeat (first | refine blk_drewN ?_ _ | refine blk_drew ?_ | refine blk_alloc ?_ _)); exact BK134.out)) : gb159 ≠ gb134))
               clear HO0
               clear HO139
               clear HO144
               clear HO151
               clear BK134
               clear HB
               have HO0 := n0_
               have HO139 := n1_
               have HO144 := n2_
               have HO151 := n3_
               have BK134 := n4_
               have HB := n5_
               have BK159 := n6_
               have GW159 := n7_
               have GE159 := n8_
               have NB134_159 := n9_
               have NB159_134 := n10_
               clear n0_ n1_ n2_ n3_ n4_ n5_ n6_ n7_ n8_ n9_ n10_
               clear hb hbox hg
               refine hK.out _ _ ⟨HS0_, HS1_, HS2_⟩ (fun hHeld => ?_)
               clear hK K
               refine norm_ (a' := ?_) ?_ ?_
               rotate_left
               ·show Act.put _ (some 8) _ = _
                simp only [Act.put, List.setIfInBounds_toArray, List.set_cons_zero, List.set_cons_succ, i64_w, i32_w]
                rfl
               refine one_ (i := 15) (N := some 52) #[true, true, true, true, true, true, true, true, true, true, true, true, true, true, true, true, true, false, false, true, false] rfl rfl (one_of HT_.out (by kernel_rfl)) (by decide) (fun K hK => ?_)
               refine goes_ Try.func75 (by kernel_rfl) rfl #[.slice (some ad153) l0.length c0, .int .i64 12] (by rfl) rfl rfl (by (try simp only [List.map_toArray, List.map_cons, List.map_nil]); first | done | rfl | (simp only [List.length_drop, List.length_take]; rfl)) ?_
               with_reducible refine (shard_get.calls _ _ l0 12 t157 _ ?side1 ?side2 A20.out).mono ?_
               (case side1 => repeat (first | exact (Kd.V_reads' HO0.out).2.2 | (with_reducible refine Kd.C_alloc ?_ _) | (with_reducible refine Kd.C_drewN ?_ _) | (with_reducible refine Kd.C_drew ?_)))
               (case side2 => exact (Kd.V_reads' HO0.out).2.1)
               rintro e w' ⟨rfl, ⟨nd, rfl⟩⟩
               refine ⟨_, rfl, ?_⟩
               refine hK.out _ _ ⟨hHeld.1, hHeld.2.1, hHeld.2.2⟩ (fun hHeld => ?_)
               clear hK K
               refine norm_ (a' := ?_) ?_ ?_
               rotate_left
               ·show Act.put _ (some 52) _ = _
                simp only [Act.put, List.setIfInBounds_toArray, List.set_cons_zero, List.set_cons_succ, i64_w, i32_w]
                rfl
               refine one_ (i := 17) (N := some 54) #[true, true, true, true, true, true, true, true, true, true, true, true, true, true, true, true, true, true, false, true, false] rfl rfl (one_of HT_.out (by kernel_rfl)) (by decide) (fun K hK => ?_)
               refine goes_ Try.func75 (by kernel_rfl) rfl #[.slice (some ad153) l0.length c0, .int .i64 16] (by rfl) rfl rfl (by (try simp only [List.map_toArray, List.map_cons, List.map_nil]); first | done | rfl | (simp only [List.length_drop, List.length_take]; rfl)) ?_
               with_reducible refine (shard_get.calls _ _ l0 16 t158 _ ?side1 ?side2 A21.out).mono ?_
               (case side1 => repeat (first | exact (Kd.V_reads' HO0.out).2.2 | (with_reducible refine Kd.C_alloc ?_ _) | (with_reducible refine Kd.C_drewN ?_ _) | (with_reducible refine Kd.C_drew ?_)))
               (case side2 => exact (Kd.V_reads' HO0.out).2.1)
               rintro e w' ⟨rfl, ⟨nd, rfl⟩⟩
               refine ⟨_, rfl, ?_⟩
               refine hK.out _ _ ⟨hHeld.1, hHeld.2.1, hHeld.2.2⟩ (fun hHeld => ?_)
               clear hK K
               refine norm_ (a' := ?_) ?_ ?_
               rotate_left
               ·show Act.put _ (some 54) _ = _
                simp only [Act.put, List.setIfInBounds_toArray, List.set_cons_zero, List.set_cons_succ, i64_w, i32_w]
                rfl
               refine pure_ (i := 18) (N := some 55) (v := ?_) (a' := ?_) #[true, true, true, true, true, true, true, true, true, true, true, true, true, true, true, true, true, true, true, true, false] rfl rfl (any_of HT_.out (by kernel_rfl)) (fun _ _ _ h => h) (Or.inl ⟨by rfl, ?_⟩) ?_ ?_
               rotate_left
               ·intro w'
                go_simp
                with_reducible rfl
               rotate_left
               ·simp only [Act.put, List.setIfInBounds_toArray, List.set_cons_zero, List.set_cons_succ, i64_w, i32_w]
                rfl
               exact norm_ (by simp only [putAll, Act.put, List.setIfInBounds_toArray, List.set_cons_zero, List.set_cons_succ]) (hCont (gb159) _ ⟨hHeld, (by (with_reducible repeat (first | apply Kd.V_alloc | apply Kd.V_drewN | apply Kd.V_drew)); exact Kd.V_mono HO0.out (fun _ hk => ⟨hk.1.1, ⟨hk.1.2, hk.2⟩⟩)), (by (with_reducible repeat (first | apply Kd.V_alloc | apply Kd.V_drewN | apply Kd.V_drew)); exact Kd.V_mono HO139.out (fun _ hk => ⟨hk.1.1, ⟨hk.1.2, hk.2⟩⟩)), (by (with_reducible repeat (first | apply Kd.V_alloc | apply Kd.V_drewN | apply Kd.V_drew)); exact Kd.V_mono HO144.out (fun _ hk => ⟨hk.1.1, ⟨hk.1.2, hk.2⟩⟩)), (by (with_reducible repeat (first | apply Kd.V_alloc | apply Kd.V_drewN | apply Kd.V_drew)); exact Kd.V_mono HO151.out (fun _ hk => ⟨hk.1.1, ⟨hk.1.2, hk.2⟩⟩)), (by (with_reducible repeat (first | refine blk_drewN ?_ _ | refine blk_drew ?_ | refine blk_alloc ?_ _)); exact BK134.out), (by (with_reducible repeat (first | refine blk_drewN ?_ _ | refine blk_drew ?_ | refine blk_alloc ?_ _)); exact BK159.out), GW159.out, GE159.out, NB134_159.out, NB159_134.out, (by repeat (first | (with_reducible first | exact HB.out | apply below_alloc | apply pw_below_drewN | apply below_drew1 | refine below_set ?_ GE134.out | refine below_set ?_ GE159.out) | exact HB.out))⟩)
             ·skip
              refine box_step ?hg (N := 8) ?hd (cs := #[.int .i64 0, .int .i64 0, .int .i64 0, .int .i64 0, .int .i64 0, .int .i64 0]) (t := 32) ?hr ?_; (case hd => rfl); (case hg => rfl); (case hr => first | (go_simp; done) | (go_simp; rfl))
              intro gb159 hg w33 hbox hb
              have HS0_ := (hb.cell (World.block_lt_of_cell? _ _ (hHeld.1))).trans (hHeld.1)
              have HS1_ := (hb.cell (World.block_lt_of_cell? _ _ (hHeld.2.1))).trans (hHeld.2.1)
              have HS2_ := (hb.cell (World.block_lt_of_cell? _ _ (hHeld.2.2))).trans (hHeld.2.2)
              have n0_ := Aside0.mk (Kd.V_below (Kd.V_elderB (by (with_reducible repeat (first | apply Kd.V_alloc | apply Kd.V_drewN | apply Kd.V_drew)); exact HO0.out) gb159 (Nat.le_of_eq hg.symm)) hb)
              have n1_ := Aside0.mk (Kd.V_below (Kd.V_elderB (by (with_reducible repeat (first | apply Kd.V_alloc | apply Kd.V_drewN | apply Kd.V_drew)); exact HO139.out) gb159 (Nat.le_of_eq hg.symm)) hb)
              have n2_ := Aside0.mk (Kd.V_below (Kd.V_elderB (by (with_reducible repeat (first | apply Kd.V_alloc | apply Kd.V_drewN | apply Kd.V_drew)); exact HO144.out) gb159 (Nat.le_of_eq hg.symm)) hb)
              have n3_ := Aside0.mk (Kd.V_below (Kd.V_elderB (by (with_reducible repeat (first | apply Kd.V_alloc | apply Kd.V_drewN | apply Kd.V_drew)); exact HO151.out) gb159 (Nat.le_of_eq hg.symm)) hb)
              have n4_ := Aside0.mk (blk_below (g := gb134) (o := .cells #[.int .i64 0, .int .i64 0, .int .i64 0, .int .i64 0, .int .i64 0, .int .i64 0] 32 (0, 0)) (by (with_reducible repeat (first | refine blk_drewN ?_ _ | refine blk_drew ?_ | refine blk_alloc ?_ _)); exact BK134.out) hb)
              have n5_ := Aside0.mk (below_step (by repeat (first | (with_reducible first | exact HB.out | apply below_alloc | apply pw_below_drewN | apply below_drew1 | refine below_set ?_ GE134.out) | exact HB.out)) hb)
              have n6_ := Aside0.mk (hbox)
              have n7_ := Aside0.mk ((by rw [hg]; exact (below_size (by repeat (first | (with_reducible first | exact HB.out | apply below_alloc | apply pw_below_drewN | apply below_drew1 | refine below_set ?_ GE134.out) | exact HB.out))) : w.heap.size ≤ gb159))
              have n8_ := Aside0.mk ((by rw [hg]; exact (below_size (by repeat (first | (with_reducible first | exact HB.out | apply below_alloc | apply pw_below_drewN | apply below_drew1 | refine below_set ?_ GE134.out) | exact HB.out))) : w.heap.size ≤ gb159))
              have n9_ := Aside0.mk ((by rw [hg]; exact Nat.ne_of_lt (blk_lt (g := gb134) (o := .cells #[.int .i64 0, .int .i64 0, .int .i64 0, .int .i64 0, .int .i64 0, .int .i64 0] 32 (0, 0)) (by (with_reducible repeat (first | refine blk_drewN ?_ _ | refine blk_drew ?_ | refine blk_alloc ?_ _)); exact BK134.out)) : gb134 ≠ gb159))
              have n10_ := Aside0.mk ((by rw [hg]; exact Nat.ne_of_gt (blk_lt (g := gb134) (o := .cells #[.int .i64 0, .int .i64 0, .int .i64 0, .int .i64 0, .int .i64 0, .int .i64 0] 32 (0, 0)) (by (with_reducible repeat (first | refine blk_drewN ?_ _ | refine blk_drew ?_ | refine blk_alloc ?_ _)); exact BK134.out)) : gb159 ≠ gb134))
              clear HO0
              clear HO139
              clear HO144
              clear HO151
              clear BK134
              clear HB
              have HO0 := n0_
              have HO139 := n1_
              have HO144 := n2_
              have HO151 := n3_
              have BK134 := n4_
              have HB := n5_
              have BK159 := n6_
              have GW159 := n7_
              have GE159 := n8_
              have NB134_159 := n9_
              have NB159_134 := n10_
              clear n0_ n1_ n2_ n3_ n4_ n5_ n6_ n7_ n8_ n9_ n10_
              clear hb hbox hg
              refine hK.out _ _ ⟨HS0_, HS1_, HS2_⟩ (fun hHeld => ?_)
              clear hK K
              refine norm_ (a' := ?_) ?_ ?_
              rotate_left
              ·show Act.put _ (some 8) _ = _
               simp only [Act.put, List.setIfInBounds_toArray, List.set_cons_zero, List.set_cons_succ, i64_w, i32_w]
               rfl
              refine one_ (i := 13) (N := some 50) #[true, true, true, true, true, true, true, true, true, true, true, true, true, true, true, false, true, false, false, true, false] rfl rfl (one_of HT_.out (by kernel_rfl)) (by decide) (fun K hK => ?_)
              refine goes_ Try.func75 (by kernel_rfl) rfl #[.slice (some ad153) l0.length c0, .int .i64 8] (by rfl) rfl rfl (by (try simp only [List.map_toArray, List.map_cons, List.map_nil]); first | done | rfl | (simp only [List.length_drop, List.length_take]; rfl)) ?_
              with_reducible refine (shard_get.calls _ _ l0 8 t156 _ ?side1 ?side2 A19.out).mono ?_
              (case side1 => repeat (first | exact (Kd.V_reads' HO0.out).2.2 | (with_reducible refine Kd.C_alloc ?_ _) | (with_reducible refine Kd.C_drewN ?_ _) | (with_reducible refine Kd.C_drew ?_)))
              (case side2 => exact (Kd.V_reads' HO0.out).2.1)
              rintro e w' ⟨rfl, ⟨nd, rfl⟩⟩
              refine ⟨_, rfl, ?_⟩
              refine hK.out _ _ ⟨hHeld.1, hHeld.2.1, hHeld.2.2⟩ (fun hHeld => ?_)
              clear hK K
              refine norm_ (a' := ?_) ?_ ?_
              rotate_left
              ·show Act.put _ (some 50) _ = _
               simp only [Act.put, List.setIfInBounds_toArray, List.set_cons_zero, List.set_cons_succ, i64_w, i32_w]
               rfl
              refine one_ (i := 15) (N := some 52) #[true, true, true, true, true, true, true, true, true, true, true, true, true, true, true, true, true, false, false, true, false] rfl rfl (one_of HT_.out (by kernel_rfl)) (by decide) (fun K hK => ?_)
              refine goes_ Try.func75 (by kernel_rfl) rfl #[.slice (some ad153) l0.length c0, .int .i64 12] (by rfl) rfl rfl (by (try simp only [List.map_toArray, List.map_cons, List.map_nil]); first | done | rfl | (simp only [List.length_drop, List.length_take]; rfl)) ?_
              with_reducible refine (shard_get.calls _ _ l0 12 t157 _ ?side1 ?side2 A20.out).mono ?_
              (case side1 => repeat (first | exact (Kd.V_reads' HO0.out).2.2 | (with_reducible refine Kd.C_alloc ?_ _) | (with_reducible refine Kd.C_drewN ?_ _) | (with_reducible refine Kd.C_drew ?_)))
              (case side2 => exact (Kd.V_reads' HO0.out).2.1)
              rintro e w' ⟨rfl, ⟨nd, rfl⟩⟩
              refine ⟨_, rfl, ?_⟩
              refine hK.out _ _ ⟨hHeld.1, hHeld.2.1, hHeld.2.2⟩ (fun hHeld => ?_)
              clear hK K
              refine norm_ (a' := ?_) ?_ ?_
              rotate_left
              ·show Act.put _ (some 52) _ = _
               simp only [Act.put, List.setIfInBounds_toArray, List.set_cons_zero, List.set_cons_succ, i64_w, i32_w]
               rfl
              refine one_ (i := 17) (N := some 54) #[true, true, true, true, true, true, true, true, true, true, true, true, true, true, true, true, true, true, false, true, false] rfl rfl (one_of HT_.out (by kernel_rfl)) (by decide) (fun K hK => ?_)
              refine goes_ Try.func75 (by kernel_rfl) rfl #[.slice (some ad153) l0.length c0, .int .i64 16] (by rfl) rfl rfl (by (try simp only [List.map_toArray, List.map_cons, List.map_nil]); first | done | rfl | (simp only [List.length_drop, List.length_take]; rfl)) ?_
              with_reducible refine (shard_get.calls _ _ l0 16 t158 _ ?side1 ?side2 A21.out).mono ?_
              (case side1 => repeat (first | exact (Kd.V_reads' HO0.out).2.2 | (with_reducible refine Kd.C_alloc ?_ _) | (with_reducible refine Kd.C_drewN ?_ _) | (with_reducible refine Kd.C_drew ?_)))
              (case side2 => exact (Kd.V_reads' HO0.out).2.1)
              rintro e w' ⟨rfl, ⟨nd, rfl⟩⟩
              refine ⟨_, rfl, ?_⟩
              refine hK.out _ _ ⟨hHeld.1, hHeld.2.1, hHeld.2.2⟩ (fun hHeld => ?_)
              clear hK K
              refine norm_ (a' := ?_) ?_ ?_
              rotate_left
              ·show Act.put _ (some 54) _ = _
               simp only [Act.put, List.setIfInBounds_toArray, List.set_cons_zero, List.set_cons_succ, i64_w, i32_w]
               rfl
              refine pure_ (i := 18) (N := some 55) (v := ?_) (a' := ?_) #[true, true, true, true, true, true, true, true, true, true, true, true, true, true, true, true, true, true, true, true, false] rfl rfl (any_of HT_.out (by kernel_rfl)) (fun _ _ _ h => h) (Or.inl ⟨by rfl, ?_⟩) ?_ ?_
              rotate_left
              ·intro w'
               go_simp
               with_reducible rfl
              rotate_left
              ·simp only [Act.put, List.setIfInBounds_toArray, List.set_cons_zero, List.set_cons_succ, i64_w, i32_w]
               rfl
              exact norm_ (by simp only [putAll, Act.put, List.setIfInBounds_toArray, List.set_cons_zero, List.set_cons_succ]) (hCont (gb159) _ ⟨hHeld, (by (with_reducible repeat (first | apply Kd.V_alloc | apply Kd.V_drewN | apply Kd.V_drew)); exact Kd.V_mono HO0.out (fun _ hk => ⟨hk.1.1, ⟨hk.1.2, hk.2⟩⟩)), (by (with_reducible repeat (first | apply Kd.V_alloc | apply Kd.V_drewN | apply Kd.V_drew)); exact Kd.V_mono HO139.out (fun _ hk => ⟨hk.1.1, ⟨hk.1.2, hk.2⟩⟩)), (by (with_reducible repeat (first | apply Kd.V_alloc | apply Kd.V_drewN | apply Kd.V_drew)); exact Kd.V_mono HO144.out (fun _ hk => ⟨hk.1.1, ⟨hk.1.2, hk.2⟩⟩)), (by (with_reducible repeat (first | apply Kd.V_alloc | apply Kd.V_drewN | apply Kd.V_drew)); exact Kd.V_mono HO151.out (fun _ hk => ⟨hk.1.1, ⟨hk.1.2, hk.2⟩⟩)), (by (with_reducible repeat (first | refine blk_drewN ?_ _ | refine blk_drew ?_ | refine blk_alloc ?_ _)); exact BK134.out), (by (with_reducible repeat (first | refine blk_drewN ?_ _ | refine blk_drew ?_ | refine blk_alloc ?_ _)); exact BK159.out), GW159.out, GE159.out, NB134_159.out, NB159_134.out, (by repeat (first | (with_reducible first | exact HB.out | apply below_alloc | apply pw_below_drewN | apply below_drew1 | refine below_set ?_ GE134.out | refine below_set ?_ GE159.out) | exact HB.out))⟩)
            rintro gb159 w34 ⟨hS_, h0_, h1_, h2_, h3_, h4_, h5_, h6_, h7_, h8_, h9_, h10_⟩
            have n0_ : Aside0 (Kd.V (Kd.int .u8) 5 w34 w.heap.size (fun k_ => (P0_ k_ ∨ w.heap.size ≤ k_) ∧ k_ ≠ gb134 ∧ k_ ≠ gb159) (.slice (some ad153) l0.length c0) l0) := ⟨h0_⟩
            have n1_ : Aside0 (Kd.V (Kd.int .u8) 5 w34 w.heap.size (fun k_ => (P0_ k_ ∨ w.heap.size ≤ k_) ∧ k_ ≠ gb134 ∧ k_ ≠ gb159) (.slice (some ad153) y135.length c0) y135) := ⟨h1_⟩
            have n2_ : Aside0 (Kd.V (Kd.int .u8) 5 w34 w.heap.size (fun k_ => (P0_ k_ ∨ w.heap.size ≤ k_) ∧ k_ ≠ gb134 ∧ k_ ≠ gb159) (.slice A30 y140.length c30) y140) := ⟨h2_⟩
            have n3_ : Aside0 (Kd.V (Kd.int .u8) 5 w34 w.heap.size (fun k_ => (P0_ k_ ∨ w.heap.size ≤ k_) ∧ k_ ≠ gb134 ∧ k_ ≠ gb159) (.slice (some ad153) y147.length c0) y147) := ⟨h3_⟩
            have n4_ : Aside0 (w34.heap[gb134]? = some (.cells #[.int .i64 0, .int .i64 0, .int .i64 0, .int .i64 0, .int .i64 0, .int .i64 0] 32 (0, 0))) := ⟨h4_⟩
            have n5_ : Aside0 (w34.heap[gb159]? = some (.cells #[.int .i64 0, .int .i64 0, .int .i64 0, .int .i64 0, .int .i64 0, .int .i64 0] 32 (0, 0))) := ⟨h5_⟩
            have n6_ : Aside0 (w.heap.size ≤ gb159) := ⟨h6_⟩
            have n7_ : Aside0 (w.heap.size ≤ gb159) := ⟨h7_⟩
            have n8_ : Aside0 (gb134 ≠ gb159) := ⟨h8_⟩
            have n9_ : Aside0 (gb159 ≠ gb134) := ⟨h9_⟩
            have n10_ : Aside0 (Below w.heap.size w w34) := ⟨h10_⟩
            clear HO0
            clear HO139
            clear HO144
            clear HO151
            clear BK134
            clear HB
            clear h0_ h1_ h2_ h3_ h4_ h5_ h6_ h7_ h8_ h9_ h10_
            have HO0 := n0_
            have HO139 := n1_
            have HO144 := n2_
            have HO151 := n3_
            have BK134 := n4_
            have BK159 := n5_
            have GW159 := n6_
            have GE159 := n7_
            have NB134_159 := n8_
            have NB159_134 := n9_
            have HB := n10_
            clear n0_ n1_ n2_ n3_ n4_ n5_ n6_ n7_ n8_ n9_ n10_
            have hHeld : w34.cell? ⟨ad153.block, ad153.off + 4, none⟩ = some (.int .u8 (rd l0 4)) ∧ w34.cell? ⟨ad153.block, ad153.off + 5, none⟩ = some (.int .u8 (rd l0 5)) ∧ w34.cell? ⟨ad153.block, ad153.off + 6, none⟩ = some (.int .u8 (rd l0 6)) := hS_
            refine norm_ (a' := ?_) ?_ ?_
            rotate_left
            ·simp only [putAll, Act.put, List.setIfInBounds_toArray, List.set_cons_zero, List.set_cons_succ]
             rfl
            refine one_ (i := 20) (N := none) #[true, true, true, true, true, true, true, true, true, true, true, true, true, true, true, true, true, true, true, true, true] rfl rfl (one_of HT_.out (by kernel_rfl)) (by decide) (fun K hK => ?_)
            have hs35 : w34.cell? ⟨gb159, 0, none⟩ = some (.int .i64 0) := (blk_cell BK159.out 0).trans rfl
            have hfs35 := blk_frozen BK159.out 0
            have hns35_0 := NB134_159.out
            have hms35_0 := NB159_134.out
            have hs36 : w34.cell? ⟨gb159, 1, none⟩ = some (.int .i64 0) := (blk_cell BK159.out 1).trans rfl
            have hfs36 := blk_frozen BK159.out 1
            have hns36_0 := NB134_159.out
            have hms36_0 := NB159_134.out
            have hs37 : w34.cell? ⟨gb159, 2, none⟩ = some (.int .i64 0) := (blk_cell BK159.out 2).trans rfl
            have hfs37 := blk_frozen BK159.out 2
            have hns37_0 := NB134_159.out
            have hms37_0 := NB159_134.out
            have hs38 : w34.cell? ⟨gb159, 3, none⟩ = some (.int .i64 0) := (blk_cell BK159.out 3).trans rfl
            have hfs38 := blk_frozen BK159.out 3
            have hns38_0 := NB134_159.out
            have hms38_0 := NB159_134.out
            have hs39 : w34.cell? ⟨gb159, 4, none⟩ = some (.int .i64 0) := (blk_cell BK159.out 4).trans rfl
            have hfs39 := blk_frozen BK159.out 4
            have hns39_0 := NB134_159.out
            have hms39_0 := NB159_134.out
            have hs40 : w34.cell? ⟨gb159, 5, none⟩ = some (.int .i64 0) := (blk_cell BK159.out 5).trans rfl
            have hfs40 := blk_frozen BK159.out 5
            have hns40_0 := NB134_159.out
            have hms40_0 := NB159_134.out
            refine skip_ (w1 := ?_) (by rfl) rfl ?_ ?_
            rotate_left
            ·go_simp
             rfl
            have far_ : ad153.block ≠ gb159 := Go.Proofs.Ytnlpipjdpmaggaa.More.V_ne HO0.out (fun _ hk => hk.2.2) (Nat.lt_of_le_of_lt (Nat.zero_le _) (of_decide_eq_true c16b1))
            refine hK.out _ _ ⟨((cell_far (p := ⟨gb159, _, none⟩) (by first | exact far_ | (rw [add_block]; exact far_) | (show (Addr.add _ _).block ≠ _; rw [add_block]; exact far_) | (dsimp only; exact far_)) _).trans (((cell_far (p := ⟨gb159, _, none⟩) (by first | exact far_ | (rw [add_block]; exact far_) | (show (Addr.add _ _).block ≠ _; rw [add_block]; exact far_) | (dsimp only; exact far_)) _).trans (((cell_far (p := ⟨gb159, _, none⟩) (by first | exact far_ | (rw [add_block]; exact far_) | (show (Addr.add _ _).block ≠ _; rw [add_block]; exact far_) | (dsimp only; exact far_)) _).trans (((cell_far (p := ⟨gb159, _, none⟩) (by first | exact far_ | (rw [add_block]; exact far_) | (show (Addr.add _ _).block ≠ _; rw [add_block]; exact far_) | (dsimp only; exact far_)) _).trans (((cell_far (p := ⟨gb159, _, none⟩) (by first | exact far_ | (rw [add_block]; exact far_) | (show (Addr.add _ _).block ≠ _; rw [add_block]; exact far_) | (dsimp only; exact far_)) _).trans (((cell_far (p := ⟨gb159, _, none⟩) (by first | exact far_ | (rw [add_block]; exact far_) | (show (Addr.add _ _).block ≠ _; rw [add_block]; exact far_) | (dsimp only; exact far_)) _).trans (hHeld.1)))))))))))), ((cell_far (p := ⟨gb159, _, none⟩) (by first | exact far_ | (rw [add_block]; exact far_) | (show (Addr.add _ _).block ≠ _; rw [add_block]; exact far_) | (dsimp only; exact far_)) _).trans (((cell_far (p := ⟨gb159, _, none⟩) (by first | exact far_ | (rw [add_block]; exact far_) | (show (Addr.add _ _).block ≠ _; rw [add_block]; exact far_) | (dsimp only; exact far_)) _).trans (((cell_far (p := ⟨gb159, _, none⟩) (by first | exact far_ | (rw [add_block]; exact far_) | (show (Addr.add _ _).block ≠ _; rw [add_block]; exact far_) | (dsimp only; exact far_)) _).trans (((cell_far (p := ⟨gb159, _, none⟩) (by first | exact far_ | (rw [add_block]; exact far_) | (show (Addr.add _ _).block ≠ _; rw [add_block]; exact far_) | (dsimp only; exact far_)) _).trans (((cell_far (p := ⟨gb159, _, none⟩) (by first | exact far_ | (rw [add_block]; exact far_) | (show (Addr.add _ _).block ≠ _; rw [add_block]; exact far_) | (dsimp only; exact far_)) _).trans (((cell_far (p := ⟨gb159, _, none⟩) (by first | exact far_ | (rw [add_block]; exact far_) | (show (Addr.add _ _).block ≠ _; rw [add_block]; exact far_) | (dsimp only; exact far_)) _).trans (hHeld.2.1)))))))))))), ((cell_far (p := ⟨gb159, _, none⟩) (by first | exact far_ | (rw [add_block]; exact far_) | (show (Addr.add _ _).block ≠ _; rw [add_block]; exact far_) | (dsimp only; exact far_)) _).trans (((cell_far (p := ⟨gb159, _, none⟩) (by first | exact far_ | (rw [add_block]; exact far_) | (show (Addr.add _ _).block ≠ _; rw [add_block]; exact far_) | (dsimp only; exact far_)) _).trans (((cell_far (p := ⟨gb159, _, none⟩) (by first | exact far_ | (rw [add_block]; exact far_) | (show (Addr.add _ _).block ≠ _; rw [add_block]; exact far_) | (dsimp only; exact far_)) _).trans (((cell_far (p := ⟨gb159, _, none⟩) (by first | exact far_ | (rw [add_block]; exact far_) | (show (Addr.add _ _).block ≠ _; rw [add_block]; exact far_) | (dsimp only; exact far_)) _).trans (((cell_far (p := ⟨gb159, _, none⟩) (by first | exact far_ | (rw [add_block]; exact far_) | (show (Addr.add _ _).block ≠ _; rw [add_block]; exact far_) | (dsimp only; exact far_)) _).trans (((cell_far (p := ⟨gb159, _, none⟩) (by first | exact far_ | (rw [add_block]; exact far_) | (show (Addr.add _ _).block ≠ _; rw [add_block]; exact far_) | (dsimp only; exact far_)) _).trans (hHeld.2.2))))))))))))⟩ (fun hHeld => ?_)
            clear hK K
            refine done_ (done_of HT_.out (by kernel_rfl)) ?_
            have hnb41 := NB159_134.out
            have hnc41 := NB134_159.out
            have hcz42_0 : w34.cell? ⟨gb159, 0, none⟩ = some (.int .i64 0) := (blk_cell BK159.out 0).trans rfl
            have hcz42_1 : w34.cell? ⟨gb159, 1, none⟩ = some (.int .i64 0) := (blk_cell BK159.out 1).trans rfl
            have hcz42_2 : w34.cell? ⟨gb159, 2, none⟩ = some (.int .i64 0) := (blk_cell BK159.out 2).trans rfl
            have hcz42_3 : w34.cell? ⟨gb159, 3, none⟩ = some (.int .i64 0) := (blk_cell BK159.out 3).trans rfl
            have hcz42_4 : w34.cell? ⟨gb159, 4, none⟩ = some (.int .i64 0) := (blk_cell BK159.out 4).trans rfl
            have hcz42_5 : w34.cell? ⟨gb159, 5, none⟩ = some (.int .i64 0) := (blk_cell BK159.out 5).trans rfl
            have hfz42_0 := blk_frozen BK159.out 0
            have hfz42_1 := blk_frozen BK159.out 1
            have hfz42_2 := blk_frozen BK159.out 2
            have hfz42_3 := blk_frozen BK159.out 3
            have hfz42_4 := blk_frozen BK159.out 4
            have hfz42_5 := blk_frozen BK159.out 5
            by_cases c23 : t160 = true
            ·subst c23
             have H1 : (if 7 < (l0.length : Int) then (if (rd l0 7) = 0 then (some (wrap64 (rd l0 4), wrap64 (rd l0 5), wrap64 (rd l0 6), t156, t157, t158, (l0.drop 24), 0, 0)) else (some (0, 0, 0, 0, 0, 0, ([] : List Int), 0, 4))) else (none)) = some (r1, r2, r3, r4, r5, r6, r7, r8, r9) := by rw [if_pos rfl] at H; exact H
             clear H
             have H := H1
             clear H1
             by_cases c24 : 7 < (l0.length : Int)
             ·rw [if_pos c24] at H
              have c24b0 : decide (7 < (l0.length : Int)) = true := decide_eq_true c24
              have c24b1 : decide (7 < l0.length) = true := decide_eq_true (by omega)
              clear c24
              by_cases c25 : (rd l0 7) = 0
              ·rw [if_pos c25] at H
               have c25b0 : ((rd l0 7) == 0) = true := beq_iff_eq.mpr c25
               have c25b1 : ((rd l0 7) != 0) = false := bne_eq_false_iff_eq.mpr c25
               clear c25
               have c26b0 := eq_true (of_decide_eq_true (by first | (with_reducible assumption) | assumption) : 24 ≤ (l0.length : Int))
               obtain ⟨y162, hy162⟩ : ∃ y_ : List Int, y_ = (l0.drop 24) := ⟨_, rfl⟩
               replace H : (some (wrap64 (rd l0 4), wrap64 (rd l0 5), wrap64 (rd l0 6), t156, t157, t158, y162, 0, 0)) = some (r1, r2, r3, r4, r5, r6, r7, r8, r9) := by first | (rw [hy162]; with_reducible exact H) | (have H2_ := (Option.bind_some _ _).symm.trans H; rw [hy162]; with_reducible exact H2_) | (have H2_ := (Option.bind_some _ _).symm.trans H; with_reducible exact H2_) | with_reducible exact H | (rw [hy162]; exact H) | exact H
               have Ny162 := Aside0.mk hy162
               clear hy162
               simp only [Option.some.injEq, Prod.mk.injEq] at H
               obtain ⟨rfl, rfl, rfl, rfl, rfl, rfl, rfl, rfl, rfl⟩ := H
               try go_wp2_with (first | ((with_reducible refine gate_callee (f := 33) rfl ?_); refine goesL_ (some 57) rfl rfl Try.func33 (by kernel_rfl) rfl #[.agg #[.int .i64 (wrap64 (rd l0 4)), .int .i64 (wrap64 (rd l0 5)), .int .i64 (wrap64 (rd l0 6)), .int .i64 t156, .int .i64 t157, .int .i64 t158]] rfl (by (try simp only [List.map_toArray, List.map_cons, List.map_nil]); first | done | rfl | (simp only [List.length_drop, List.length_take]; rfl)) ?_; (with_reducible refine (shard_May.calls k (wrap64 (rd l0 4)) (wrap64 (rd l0 5)) (wrap64 (rd l0 6)) t156 t157 t158 true _ A22.out).mono ?_); rintro e w43 ⟨rfl, hb⟩; refine ⟨_, rfl, ?_⟩; have n0_ := Aside0.mk (Kd.V_below (by (with_reducible repeat (first | apply Kd.V_alloc | apply Kd.V_drewN | apply Kd.V_drew)); exact (Kd.V_mono (Kd.V_far (p := ⟨gb159, 5, none⟩) (Kd.V_far (p := ⟨gb159, 4, none⟩) (Kd.V_far (p := ⟨gb159, 3, none⟩) (Kd.V_far (p := ⟨gb159, 2, none⟩) (Kd.V_far (p := ⟨gb159, 1, none⟩) (Kd.V_far (p := ⟨gb159, 0, none⟩) (Kd.V_mono HO0.out (fun k_ hk => (⟨hk, hk.2.2⟩ : _ ∧ k_ ≠ gb159))) (fun _ hk => hk.2) (.int .i64 (wrap64 (rd l0 4)))) (fun _ hk => hk.2) (.int .i64 (wrap64 (rd l0 5)))) (fun _ hk => hk.2) (.int .i64 (wrap64 (rd l0 6)))) (fun _ hk => hk.2) (.int .i64 t156)) (fun _ hk => hk.2) (.int .i64 t157)) (fun _ hk => hk.2) (.int .i64 t158)) (fun _ h_ => h_.1))) hb); have n1_ := Aside0.mk (Kd.V_below (by (with_reducible repeat (first | apply Kd.V_alloc | apply Kd.V_drewN | apply Kd.V_drew)); exact (Kd.V_mono (Kd.V_far (p := ⟨gb159, 5, none⟩) (Kd.V_far (p := ⟨gb159, 4, none⟩) (Kd.V_far (p := ⟨gb159, 3, none⟩) (Kd.V_far (p := ⟨gb159, 2, none⟩) (Kd.V_far (p := ⟨gb159, 1, none⟩) (Kd.V_far (p := ⟨gb159, 0, none⟩) (Kd.V_mono HO139.out (fun k_ hk => (⟨hk, hk.2.2⟩ : _ ∧ k_ ≠ gb159))) (fun _ hk => hk.2) (.int .i64 (wrap64 (rd l0 4)))) (fun _ hk => hk.2) (.int .i64 (wrap64 (rd l0 5)))) (fun _ hk => hk.2) (.int .i64 (wrap64 (rd l0 6)))) (fun _ hk => hk.2) (.int .i64 t156)) (fun _ hk => hk.2) (.int .i64 t157)) (fun _ hk => hk.2) (.int .i64 t158)) (fun _ h_ => h_.1))) hb); have n2_ := Aside0.mk (Kd.V_below (by (with_reducible repeat (first | apply Kd.V_alloc | apply Kd.V_drewN | apply Kd.V_drew)); exact (Kd.V_mono (Kd.V_far (p := ⟨gb159, 5, none⟩) (Kd.V_far (p := ⟨gb159, 4, none⟩) (Kd.V_far (p := ⟨gb159, 3, none⟩) (Kd.V_far (p := ⟨gb159, 2, none⟩) (Kd.V_far (p := ⟨gb159, 1, none⟩) (Kd.V_far (p := ⟨gb159, 0, none⟩) (Kd.V_mono HO144.out (fun k_ hk => (⟨hk, hk.2.2⟩ : _ ∧ k_ ≠ gb159))) (fun _ hk => hk.2) (.int .i64 (wrap64 (rd l0 4)))) (fun _ hk => hk.2) (.int .i64 (wrap64 (rd l0 5)))) (fun _ hk => hk.2) (.int .i64 (wrap64 (rd l0 6)))) (fun _ hk => hk.2) (.int .i64 t156)) (fun _ hk => hk.2) (.int .i64 t157)) (fun _ hk => hk.2) (.int .i64 t158)) (fun _ h_ => h_.1))) hb); have n3_ := Aside0.mk (Kd.V_below (by (with_reducible repeat (first | apply Kd.V_alloc | apply Kd.V_drewN | apply Kd.V_drew)); exact (Kd.V_mono (Kd.V_far (p := ⟨gb159, 5, none⟩) (Kd.V_far (p := ⟨gb159, 4, none⟩) (Kd.V_far (p := ⟨gb159, 3, none⟩) (Kd.V_far (p := ⟨gb159, 2, none⟩) (Kd.V_far (p := ⟨gb159, 1, none⟩) (Kd.V_far (p := ⟨gb159, 0, none⟩) (Kd.V_mono HO151.out (fun k_ hk => (⟨hk, hk.2.2⟩ : _ ∧ k_ ≠ gb159))) (fun _ hk => hk.2) (.int .i64 (wrap64 (rd l0 4)))) (fun _ hk => hk.2) (.int .i64 (wrap64 (rd l0 5)))) (fun _ hk => hk.2) (.int .i64 (wrap64 (rd l0 6)))) (fun _ hk => hk.2) (.int .i64 t156)) (fun _ hk => hk.2) (.int .i64 t157)) (fun _ hk => hk.2) (.int .i64 t158)) (fun _ h_ => h_.1))) hb); have n4_ := Aside0.mk (blk_below (g := gb134) (o := .cells #[.int .i64 0, .int .i64 0, .int .i64 0, .int .i64 0, .int .i64 0, .int .i64 0] 32 (0, 0)) (by (with_reducible repeat (first | refine blk_drewN ?_ _ | refine blk_drew ?_ | refine blk_alloc ?_ _)); refine blk_far ?_ NB134_159.out _; (with_reducible repeat (first | refine blk_drewN ?_ _ | refine blk_drew ?_ | refine blk_alloc ?_ _)); refine blk_far ?_ NB134_159.out _; (with_reducible repeat (first | refine blk_drewN ?_ _ | refine blk_drew ?_ | refine blk_alloc ?_ _)); refine blk_far ?_ NB134_159.out _; (with_reducible repeat (first | refine blk_drewN ?_ _ | refine blk_drew ?_ | refine blk_alloc ?_ _)); refine blk_far ?_ NB134_159.out _; (with_reducible repeat (first | refine blk_drewN ?_ _ | refine blk_drew ?_ | refine blk_alloc ?_ _)); refine blk_far ?_ NB134_159.out _; (with_reducible repeat (first | refine blk_drewN ?_ _ | refine blk_drew ?_ | refine blk_alloc ?_ _)); refine blk_far ?_ NB134_159.out _; (with_reducible repeat (first | refine blk_drewN ?_ _ | refine blk_drew ?_ | refine blk_alloc ?_ _)); exact BK134.out) hb); have n5_ := Aside0.mk (blk_below (g := gb159) (o := .cells #[.int .i64 (wrap64 (rd l0 4)), .int .i64 (wrap64 (rd l0 5)), .int .i64 (wrap64 (rd l0 6)), .int .i64 t156, .int .i64 t157, .int .i64 t158] 32 (0, 0)) (by (with_reducible repeat (first | refine blk_drewN ?_ _ | refine blk_drew ?_ | refine blk_alloc ?_ _)); refine blk_put (cs := #[.int .i64 (wrap64 (rd l0 4)), .int .i64 (wrap64 (rd l0 5)), .int .i64 (wrap64 (rd l0 6)), .int .i64 t156, .int .i64 t157, .int .i64 0]) ?_ 5 _ rfl; (with_reducible repeat (first | refine blk_drewN ?_ _ | refine blk_drew ?_ | refine blk_alloc ?_ _)); refine blk_put (cs := #[.int .i64 (wrap64 (rd l0 4)), .int .i64 (wrap64 (rd l0 5)), .int .i64 (wrap64 (rd l0 6)), .int .i64 t156, .int .i64 0, .int .i64 0]) ?_ 4 _ rfl; (with_reducible repeat (first | refine blk_drewN ?_ _ | refine blk_drew ?_ | refine blk_alloc ?_ _)); refine blk_put (cs := #[.int .i64 (wrap64 (rd l0 4)), .int .i64 (wrap64 (rd l0 5)), .int .i64 (wrap64 (rd l0 6)), .int .i64 0, .int .i64 0, .int .i64 0]) ?_ 3 _ rfl; (with_reducible repeat (first | refine blk_drewN ?_ _ | refine blk_drew ?_ | refine blk_alloc ?_ _)); refine blk_put (cs := #[.int .i64 (wrap64 (rd l0 4)), .int .i64 (wrap64 (rd l0 5)), .int .i64 0, .int .i64 0, .int .i64 0, .int .i64 0]) ?_ 2 _ rfl; (with_reducible repeat (first | refine blk_drewN ?_ _ | refine blk_drew ?_ | refine blk_alloc ?_ _)); refine blk_put (cs := #[.int .i64 (wrap64 (rd l0 4)), .int .i64 0, .int .i64 0, .int .i64 0, .int .i64 0, .int .i64 0]) ?_ 1 _ rfl; (with_reducible repeat (first | refine blk_drewN ?_ _ | refine blk_drew ?_ | refine blk_alloc ?_ _)); refine blk_put (cs := #[.int .i64 0, .int .i64 0, .int .i64 0, .int .i64 0, .int .i64 0, .int .i64 0]) ?_ 0 _ rfl; (with_reducible repeat (first | refine blk_drewN ?_ _ | refine blk_drew ?_ | refine blk_alloc ?_ _)); exact BK159.out) hb); have n6_ := Aside0.mk (below_step (by repeat (first | (with_reducible first | exact HB.out | apply below_alloc | apply pw_below_drewN | apply below_drew1 | refine below_set ?_ GE134.out | refine below_set ?_ GE159.out) | exact HB.out)) hb); clear HO0; clear HO139; clear HO144; clear HO151; clear BK134; clear BK159; clear HB; have HO0 := n0_; have HO139 := n1_; have HO144 := n2_; have HO151 := n3_; have BK134 := n4_; have BK159 := n5_; have HB := n6_; clear n0_ n1_ n2_ n3_ n4_ n5_ n6_; (try clear hb); (try clear hb2); (try clear hk); (try clear hi); have p161 : 0 ≤ (7 : Int) := (by omega); have q161 : 7 < (l0.length : Int) := of_decide_eq_true (by first | (with_reducible assumption) | assumption); obtain ⟨ad161, e161, hx161_0⟩ := Kd.at_int (Kd.V_reads' HO0.out).2.2 7 p161 q161; obtain rfl : ad153 = ad161 := (by injection e161); (try simp only [show (7 : Int).toNat = 7 from rfl, Nat.reduceMul, Nat.reduceEqDiff, Go.Addr.add, ↓reduceIte] at hx161_0); have qi161 : (7 < l0.length) = True := eq_true (by omega); (try rw [show ((7 : Int)).toNat = 7 from rfl] at hx161_0); replace p161 := eq_true p161; replace q161 := eq_true q161))
               have n0_ := Aside0.mk (Kd.V_drew HO0.out)
               have n1_ := Aside0.mk (Kd.V_drew HO139.out)
               have n2_ := Aside0.mk (Kd.V_drew HO144.out)
               have n3_ := Aside0.mk (Kd.V_drew HO151.out)
               have n4_ := Aside0.mk (blk_drew BK134.out)
               have n5_ := Aside0.mk (blk_drew BK159.out)
               have n6_ := Aside0.mk (below_drew1 HB.out)
               clear HO0
               clear HO139
               clear HO144
               clear HO151
               clear BK134
               clear BK159
               clear HB
               have HO0 := n0_
               have HO139 := n1_
               have HO144 := n2_
               have HO151 := n3_
               have BK134 := n4_
               have BK159 := n5_
               have HB := n6_
               clear n0_ n1_ n2_ n3_ n4_ n5_ n6_
               have q45 : (24 : Int) ≤ ((l0.length : Int) : Int) := of_decide_eq_true (by first | (with_reducible assumption) | assumption)
               obtain ⟨i045, hi045, _, hsz45, _⟩ := info_parts info5
               have hroom45 : l0.length ≤ c0 := (Kd.V_reads' HO0.out).2.1
               have hC45 : Kd.F (Kd.int .u8) _ _ (some ad153) l0.length l0 := (Kd.V_at (base := w.heap.size) HO0.out).2.2
               have hcut45 := cut_from (P := Try.prog) 22 5 .i64 Try.underlying22 hi045 1 hsz45 (some ad153) l0.length c0 24 (by omega) q45
               have hr45 := Kd.F_cut (m := (24 : Int).toNat) (c := c0) hC45 (by omega) hroom45
               obtain ⟨A45, hA45⟩ : ∃ A1, A1 = (if c0 = (24 : Int).toNat then (some ad153) else ((some ad153) : Option Addr).map (·.add ((24 : Int).toNat * 1))) := ⟨_, rfl⟩
               obtain ⟨c45, hc45⟩ : ∃ c1, c1 = c0 - (24 : Int).toNat := ⟨_, rfl⟩
               have hy45 : y162.length = l0.length - (24 : Int).toNat := (by rw [Ny162.out, List.length_drop] <;> omega)
               rw [show (l0).drop (24 : Int).toNat = y162 from Ny162.out.symm] at hr45
               replace hr45 : Kd.F (Kd.int .u8) _ _ A45 y162.length y162 := (by rw [hA45]; exact hr45)
               rw [← hy45, ← hA45, ← hc45] at hcut45
               have HO166 := Aside0.mk (show Kd.V (Kd.int .u8) 5 _ w.heap.size _ (.slice A45 y162.length c45) y162 from Kd.V_mk (by rw [hy45, hc45]; exact Nat.sub_le_sub_right hroom45 _) hr45)
               have HC166 := Aside0.mk (show y162.length ≤ c45 from by rw [hy45, hc45]; exact Nat.sub_le_sub_right hroom45 _)
               clear hr45 hC45 hroom45 hi045 hsz45 hc45
               have KY45 := Aside0.mk hy45
               have KA45 := Aside0.mk hA45
               clear hy45 hA45
               replace q45 := eq_true q45
               refine start_ (n := 7) (S := fun w' => w'.cell? ⟨gb159, 0, none⟩ = some (.int .i64 (wrap64 (rd l0 4))) ∧ w'.cell? ⟨gb159, 1, none⟩ = some (.int .i64 (wrap64 (rd l0 5))) ∧ w'.cell? ⟨gb159, 2, none⟩ = some (.int .i64 (wrap64 (rd l0 6))) ∧ w'.cell? ⟨gb159, 3, none⟩ = some (.int .i64 t156) ∧ w'.cell? ⟨gb159, 4, none⟩ = some (.int .i64 t157) ∧ w'.cell? ⟨gb159, 5, none⟩ = some (.int .i64 t158)) (ds := []) #[false, false, false, false, false, false, false] (by kernel_rfl) rfl rfl ⟨(blk_cell BK159.out 0).trans rfl, (blk_cell BK159.out 1).trans rfl, (blk_cell BK159.out 2).trans rfl, (blk_cell BK159.out 3).trans rfl, (blk_cell BK159.out 4).trans rfl, (blk_cell BK159.out 5).trans rfl⟩ (fun hHeld => ?_)
               generalize w43.drew = w44 at HO0 HO139 HO144 HO151 BK134 BK159 HB HO166 hHeld ⊢
               refine pure_ (i := 1) (N := some 67) (v := ?_) (a' := ?_) #[false, true, false, false, false, false, false] rfl rfl (by kernel_rfl) (fun _ _ _ h => h) (Or.inl ⟨by rfl, ?_⟩) ?_ ?_
               rotate_left
               ·intro w'
                go_simp
                with_reducible rfl
               rotate_left
               ·simp only [Act.put, List.setIfInBounds_toArray, List.set_cons_zero, List.set_cons_succ, i64_w, i32_w]
                rfl
               refine pure_ (i := 2) (N := some 68) (v := ?_) (a' := ?_) #[false, true, true, false, false, false, false] rfl rfl (by kernel_rfl) (fun _ _ _ h => h) (Or.inl ⟨by rfl, ?_⟩) ?_ ?_
               rotate_left
               ·intro w'
                go_simp
                with_reducible rfl
               rotate_left
               ·simp only [Act.put, List.setIfInBounds_toArray, List.set_cons_zero, List.set_cons_succ, i64_w, i32_w]
                rfl
               refine take_ (i := 0) (N := some 66) (v := ?_) (a' := ?_) #[true, true, true, false, false, false, false] rfl rfl (by kernel_rfl) (fun _ _ _ h => h) (Or.inl ⟨by rfl, ?_⟩) hHeld ?_ ?_
               rotate_left
               ·rintro w' ⟨s0, s1, s2, s3, s4, s5⟩
                go_simp
                with_reducible rfl
               rotate_left
               ·simp only [Act.put, List.setIfInBounds_toArray, List.set_cons_zero, List.set_cons_succ, i64_w, i32_w]
                rfl
               refine one_ (i := 3) (N := none) #[true, true, true, true, false, false, false] rfl rfl (by kernel_rfl) (by decide) (fun K hK => ?_)
               have hs46 : w44.cell? ⟨gb134, 0, none⟩ = some (.int .i64 0) := (blk_cell BK134.out 0).trans rfl
               have hfs46 := blk_frozen BK134.out 0
               have hns46_1 := NB159_134.out
               have hms46_1 := NB134_159.out
               have hs47 : w44.cell? ⟨gb134, 1, none⟩ = some (.int .i64 0) := (blk_cell BK134.out 1).trans rfl
               have hfs47 := blk_frozen BK134.out 1
               have hns47_1 := NB159_134.out
               have hms47_1 := NB134_159.out
               have hs48 : w44.cell? ⟨gb134, 2, none⟩ = some (.int .i64 0) := (blk_cell BK134.out 2).trans rfl
               have hfs48 := blk_frozen BK134.out 2
               have hns48_1 := NB159_134.out
               have hms48_1 := NB134_159.out
               have hs49 : w44.cell? ⟨gb134, 3, none⟩ = some (.int .i64 0) := (blk_cell BK134.out 3).trans rfl
               have hfs49 := blk_frozen BK134.out 3
               have hns49_1 := NB159_134.out
               have hms49_1 := NB134_159.out
               have hs50 : w44.cell? ⟨gb134, 4, none⟩ = some (.int .i64 0) := (blk_cell BK134.out 4).trans rfl
               have hfs50 := blk_frozen BK134.out 4
               have hns50_1 := NB159_134.out
               have hms50_1 := NB134_159.out
               have hs51 : w44.cell? ⟨gb134, 5, none⟩ = some (.int .i64 0) := (blk_cell BK134.out 5).trans rfl
               have hfs51 := blk_frozen BK134.out 5
               have hns51_1 := NB159_134.out
               have hms51_1 := NB134_159.out
               refine skip_ (w1 := ?_) (by rfl) rfl ?_ ?_
               rotate_left
               ·go_simp
                rfl
               refine hK.out _ _ ⟨((cell_far (p := ⟨gb134, _, none⟩) NB159_134.out _).trans (((cell_far (p := ⟨gb134, _, none⟩) NB159_134.out _).trans (((cell_far (p := ⟨gb134, _, none⟩) NB159_134.out _).trans (((cell_far (p := ⟨gb134, _, none⟩) NB159_134.out _).trans (((cell_far (p := ⟨gb134, _, none⟩) NB159_134.out _).trans (((cell_far (p := ⟨gb134, _, none⟩) NB159_134.out _).trans (hHeld.1)))))))))))), ((cell_far (p := ⟨gb134, _, none⟩) NB159_134.out _).trans (((cell_far (p := ⟨gb134, _, none⟩) NB159_134.out _).trans (((cell_far (p := ⟨gb134, _, none⟩) NB159_134.out _).trans (((cell_far (p := ⟨gb134, _, none⟩) NB159_134.out _).trans (((cell_far (p := ⟨gb134, _, none⟩) NB159_134.out _).trans (((cell_far (p := ⟨gb134, _, none⟩) NB159_134.out _).trans (hHeld.2.1)))))))))))), ((cell_far (p := ⟨gb134, _, none⟩) NB159_134.out _).trans (((cell_far (p := ⟨gb134, _, none⟩) NB159_134.out _).trans (((cell_far (p := ⟨gb134, _, none⟩) NB159_134.out _).trans (((cell_far (p := ⟨gb134, _, none⟩) NB159_134.out _).trans (((cell_far (p := ⟨gb134, _, none⟩) NB159_134.out _).trans (((cell_far (p := ⟨gb134, _, none⟩) NB159_134.out _).trans (hHeld.2.2.1)))))))))))), ((cell_far (p := ⟨gb134, _, none⟩) NB159_134.out _).trans (((cell_far (p := ⟨gb134, _, none⟩) NB159_134.out _).trans (((cell_far (p := ⟨gb134, _, none⟩) NB159_134.out _).trans (((cell_far (p := ⟨gb134, _, none⟩) NB159_134.out _).trans (((cell_far (p := ⟨gb134, _, none⟩) NB159_134.out _).trans (((cell_far (p := ⟨gb134, _, none⟩) NB159_134.out _).trans (hHeld.2.2.2.1)))))))))))), ((cell_far (p := ⟨gb134, _, none⟩) NB159_134.out _).trans (((cell_far (p := ⟨gb134, _, none⟩) NB159_134.out _).trans (((cell_far (p := ⟨gb134, _, none⟩) NB159_134.out _).trans (((cell_far (p := ⟨gb134, _, none⟩) NB159_134.out _).trans (((cell_far (p := ⟨gb134, _, none⟩) NB159_134.out _).trans (((cell_far (p := ⟨gb134, _, none⟩) NB159_134.out _).trans (hHeld.2.2.2.2.1)))))))))))), ((cell_far (p := ⟨gb134, _, none⟩) NB159_134.out _).trans (((cell_far (p := ⟨gb134, _, none⟩) NB159_134.out _).trans (((cell_far (p := ⟨gb134, _, none⟩) NB159_134.out _).trans (((cell_far (p := ⟨gb134, _, none⟩) NB159_134.out _).trans (((cell_far (p := ⟨gb134, _, none⟩) NB159_134.out _).trans (((cell_far (p := ⟨gb134, _, none⟩) NB159_134.out _).trans (hHeld.2.2.2.2.2))))))))))))⟩ (fun hHeld => ?_)
               clear hK K
               refine pure_ (i := 4) (N := some 3) (v := ?_) (a' := ?_) #[true, true, true, true, true, false, false] rfl rfl (by kernel_rfl) (fun _ _ _ h => h) (Or.inl ⟨by rfl, ?_⟩) ?_ ?_
               rotate_left
               ·intro w'
                go_simp
                with_reducible rfl
               rotate_left
               ·simp only [Act.put, List.setIfInBounds_toArray, List.set_cons_zero, List.set_cons_succ, i64_w, i32_w]
                rfl
               refine pure_ (i := 5) (N := some 4) (v := ?_) (a' := ?_) #[true, true, true, true, true, true, false] rfl rfl (by kernel_rfl) (fun _ _ _ h => h) (Or.inl ⟨by rfl, ?_⟩) ?_ ?_
               rotate_left
               ·intro w'
                go_simp
                with_reducible rfl
               rotate_left
               ·simp only [Act.put, List.setIfInBounds_toArray, List.set_cons_zero, List.set_cons_succ, i64_w, i32_w]
                rfl
               refine pure_ (i := 6) (N := some 5) (v := ?_) (a' := ?_) #[true, true, true, true, true, true, true] rfl rfl (by kernel_rfl) (fun _ _ _ h => h) (Or.inl ⟨by rfl, ?_⟩) ?_ ?_
               rotate_left
               ·intro w'
                go_simp
                with_reducible rfl
               rotate_left
               ·simp only [Act.put, List.setIfInBounds_toArray, List.set_cons_zero, List.set_cons_succ, i64_w, i32_w]
                rfl
               refine done_ (by kernel_rfl) ?_
               try go_wp2
               refine bodyPost_ret (results_list (rs := [.cell 2 32, .tmp 3, .tmp 4, .tmp 5]) rfl (by simp) (.cell gb134 32 #[.int .i64 (wrap64 (rd l0 4)), .int .i64 (wrap64 (rd l0 5)), .int .i64 (wrap64 (rd l0 6)), .int .i64 t156, .int .i64 t157, .int .i64 t158] (0, 0) _ rfl (by (with_reducible repeat (first | refine blk_drewN ?_ _ | refine blk_drew ?_ | refine blk_alloc ?_ _)); refine blk_put (cs := #[.int .i64 (wrap64 (rd l0 4)), .int .i64 (wrap64 (rd l0 5)), .int .i64 (wrap64 (rd l0 6)), .int .i64 t156, .int .i64 t157, .int .i64 0]) ?_ 5 _ rfl; (with_reducible repeat (first | refine blk_drewN ?_ _ | refine blk_drew ?_ | refine blk_alloc ?_ _)); refine blk_put (cs := #[.int .i64 (wrap64 (rd l0 4)), .int .i64 (wrap64 (rd l0 5)), .int .i64 (wrap64 (rd l0 6)), .int .i64 t156, .int .i64 0, .int .i64 0]) ?_ 4 _ rfl; (with_reducible repeat (first | refine blk_drewN ?_ _ | refine blk_drew ?_ | refine blk_alloc ?_ _)); refine blk_put (cs := #[.int .i64 (wrap64 (rd l0 4)), .int .i64 (wrap64 (rd l0 5)), .int .i64 (wrap64 (rd l0 6)), .int .i64 0, .int .i64 0, .int .i64 0]) ?_ 3 _ rfl; (with_reducible repeat (first | refine blk_drewN ?_ _ | refine blk_drew ?_ | refine blk_alloc ?_ _)); refine blk_put (cs := #[.int .i64 (wrap64 (rd l0 4)), .int .i64 (wrap64 (rd l0 5)), .int .i64 0, .int .i64 0, .int .i64 0, .int .i64 0]) ?_ 2 _ rfl; (with_reducible repeat (first | refine blk_drewN ?_ _ | refine blk_drew ?_ | refine blk_alloc ?_ _)); refine blk_put (cs := #[.int .i64 (wrap64 (rd l0 4)), .int .i64 0, .int .i64 0, .int .i64 0, .int .i64 0, .int .i64 0]) ?_ 1 _ rfl; (with_reducible repeat (first | refine blk_drewN ?_ _ | refine blk_drew ?_ | refine blk_alloc ?_ _)); refine blk_put (cs := #[.int .i64 0, .int .i64 0, .int .i64 0, .int .i64 0, .int .i64 0, .int .i64 0]) ?_ 0 _ rfl; (with_reducible repeat (first | refine blk_drewN ?_ _ | refine blk_drew ?_ | refine blk_alloc ?_ _)); exact BK134.out) Try.underlying32 rfl (by kernel_rfl) (.tmp (.tmp (.tmp .nil))))) rfl ?_
               exact ⟨_, by first | rfl | (simp [errW_none, errW_some] <;> rfl) | (simp [*, errW_none, errW_some] <;> rfl), by (with_reducible repeat (first | apply Kd.V_alloc | apply Kd.V_drewN | apply Kd.V_drew)); exact Kd.V_mono (Kd.V_far (p := ⟨gb134, 5, none⟩) (Kd.V_far (p := ⟨gb134, 4, none⟩) (Kd.V_far (p := ⟨gb134, 3, none⟩) (Kd.V_far (p := ⟨gb134, 2, none⟩) (Kd.V_far (p := ⟨gb134, 1, none⟩) (Kd.V_far (p := ⟨gb134, 0, none⟩) (Kd.V_mono HO166.out (fun k_ hk => (⟨hk, hk.2.1⟩ : _ ∧ k_ ≠ gb134))) (fun _ hk => hk.2) (.int .i64 (wrap64 (rd l0 4)))) (fun _ hk => hk.2) (.int .i64 (wrap64 (rd l0 5)))) (fun _ hk => hk.2) (.int .i64 (wrap64 (rd l0 6)))) (fun _ hk => hk.2) (.int .i64 t156)) (fun _ hk => hk.2) (.int .i64 t157)) (fun _ hk => hk.2) (.int .i64 t158)) (fun _ hk => hk.1.1), by repeat (first | (with_reducible first | exact HB.out | apply below_alloc | apply pw_below_drewN | apply below_drew1 | refine below_set ?_ GE134.out | refine below_set ?_ GE159.out) | exact HB.out)⟩
              ·rw [if_neg c25] at H
               have c25b0 : ((rd l0 7) == 0) = false := beq_eq_false_iff_ne.mpr c25
               have c25b1 : ((rd l0 7) != 0) = true := bne_iff_ne.mpr c25
               simp only [Option.some.injEq, Prod.mk.injEq] at H
               obtain ⟨rfl, rfl, rfl, rfl, rfl, rfl, rfl, rfl, rfl⟩ := H
               try go_wp2_with (first | ((with_reducible refine gate_callee (f := 33) rfl ?_); refine goesL_ (some 57) rfl rfl Try.func33 (by kernel_rfl) rfl #[.agg #[.int .i64 (wrap64 (rd l0 4)), .int .i64 (wrap64 (rd l0 5)), .int .i64 (wrap64 (rd l0 6)), .int .i64 t156, .int .i64 t157, .int .i64 t158]] rfl (by (try simp only [List.map_toArray, List.map_cons, List.map_nil]); first | done | rfl | (simp only [List.length_drop, List.length_take]; rfl)) ?_; (with_reducible refine (shard_May.calls k (wrap64 (rd l0 4)) (wrap64 (rd l0 5)) (wrap64 (rd l0 6)) t156 t157 t158 true _ A22.out).mono ?_); rintro e w68 ⟨rfl, hb⟩; refine ⟨_, rfl, ?_⟩; have n0_ := Aside0.mk (Kd.V_below (by (with_reducible repeat (first | apply Kd.V_alloc | apply Kd.V_drewN | apply Kd.V_drew)); exact (Kd.V_mono (Kd.V_far (p := ⟨gb159, 5, none⟩) (Kd.V_far (p := ⟨gb159, 4, none⟩) (Kd.V_far (p := ⟨gb159, 3, none⟩) (Kd.V_far (p := ⟨gb159, 2, none⟩) (Kd.V_far (p := ⟨gb159, 1, none⟩) (Kd.V_far (p := ⟨gb159, 0, none⟩) (Kd.V_mono HO0.out (fun k_ hk => (⟨hk, hk.2.2⟩ : _ ∧ k_ ≠ gb159))) (fun _ hk => hk.2) (.int .i64 (wrap64 (rd l0 4)))) (fun _ hk => hk.2) (.int .i64 (wrap64 (rd l0 5)))) (fun _ hk => hk.2) (.int .i64 (wrap64 (rd l0 6)))) (fun _ hk => hk.2) (.int .i64 t156)) (fun _ hk => hk.2) (.int .i64 t157)) (fun _ hk => hk.2) (.int .i64 t158)) (fun _ h_ => h_.1))) hb); have n1_ := Aside0.mk (Kd.V_below (by (with_reducible repeat (first | apply Kd.V_alloc | apply Kd.V_drewN | apply Kd.V_drew)); exact (Kd.V_mono (Kd.V_far (p := ⟨gb159, 5, none⟩) (Kd.V_far (p := ⟨gb159, 4, none⟩) (Kd.V_far (p := ⟨gb159, 3, none⟩) (Kd.V_far (p := ⟨gb159, 2, none⟩) (Kd.V_far (p := ⟨gb159, 1, none⟩) (Kd.V_far (p := ⟨gb159, 0, none⟩) (Kd.V_mono HO139.out (fun k_ hk => (⟨hk, hk.2.2⟩ : _ ∧ k_ ≠ gb159))) (fun _ hk => hk.2) (.int .i64 (wrap64 (rd l0 4)))) (fun _ hk => hk.2) (.int .i64 (wrap64 (rd l0 5)))) (fun _ hk => hk.2) (.int .i64 (wrap64 (rd l0 6)))) (fun _ hk => hk.2) (.int .i64 t156)) (fun _ hk => hk.2) (.int .i64 t157)) (fun _ hk => hk.2) (.int .i64 t158)) (fun _ h_ => h_.1))) hb); have n2_ := Aside0.mk (Kd.V_below (by (with_reducible repeat (first | apply Kd.V_alloc | apply Kd.V_drewN | apply Kd.V_drew)); exact (Kd.V_mono (Kd.V_far (p := ⟨gb159, 5, none⟩) (Kd.V_far (p := ⟨gb159, 4, none⟩) (Kd.V_far (p := ⟨gb159, 3, none⟩) (Kd.V_far (p := ⟨gb159, 2, none⟩) (Kd.V_far (p := ⟨gb159, 1, none⟩) (Kd.V_far (p := ⟨gb159, 0, none⟩) (Kd.V_mono HO144.out (fun k_ hk => (⟨hk, hk.2.2⟩ : _ ∧ k_ ≠ gb159))) (fun _ hk => hk.2) (.int .i64 (wrap64 (rd l0 4)))) (fun _ hk => hk.2) (.int .i64 (wrap64 (rd l0 5)))) (fun _ hk => hk.2) (.int .i64 (wrap64 (rd l0 6)))) (fun _ hk => hk.2) (.int .i64 t156)) (fun _ hk => hk.2) (.int .i64 t157)) (fun _ hk => hk.2) (.int .i64 t158)) (fun _ h_ => h_.1))) hb); have n3_ := Aside0.mk (Kd.V_below (by (with_reducible repeat (first | apply Kd.V_alloc | apply Kd.V_drewN | apply Kd.V_drew)); exact (Kd.V_mono (Kd.V_far (p := ⟨gb159, 5, none⟩) (Kd.V_far (p := ⟨gb159, 4, none⟩) (Kd.V_far (p := ⟨gb159, 3, none⟩) (Kd.V_far (p := ⟨gb159, 2, none⟩) (Kd.V_far (p := ⟨gb159, 1, none⟩) (Kd.V_far (p := ⟨gb159, 0, none⟩) (Kd.V_mono HO151.out (fun k_ hk => (⟨hk, hk.2.2⟩ : _ ∧ k_ ≠ gb159))) (fun _ hk => hk.2) (.int .i64 (wrap64 (rd l0 4)))) (fun _ hk => hk.2) (.int .i64 (wrap64 (rd l0 5)))) (fun _ hk => hk.2) (.int .i64 (wrap64 (rd l0 6)))) (fun _ hk => hk.2) (.int .i64 t156)) (fun _ hk => hk.2) (.int .i64 t157)) (fun _ hk => hk.2) (.int .i64 t158)) (fun _ h_ => h_.1))) hb); have n4_ := Aside0.mk (blk_below (g := gb134) (o := .cells #[.int .i64 0, .int .i64 0, .int .i64 0, .int .i64 0, .int .i64 0, .int .i64 0] 32 (0, 0)) (by (with_reducible repeat (first | refine blk_drewN ?_ _ | refine blk_drew ?_ | refine blk_alloc ?_ _)); refine blk_far ?_ NB134_159.out _; (with_reducible repeat (first | refine blk_drewN ?_ _ | refine blk_drew ?_ | refine blk_alloc ?_ _)); refine blk_far ?_ NB134_159.out _; (with_reducible repeat (first | refine blk_drewN ?_ _ | refine blk_drew ?_ | refine blk_alloc ?_ _)); refine blk_far ?_ NB134_159.out _; (with_reducible repeat (first | refine blk_drewN ?_ _ | refine blk_drew ?_ | refine blk_alloc ?_ _)); refine blk_far ?_ NB134_159.out _; (with_reducible repeat (first | refine blk_drewN ?_ _ | refine blk_drew ?_ | refine blk_alloc ?_ _)); refine blk_far ?_ NB134_159.out _; (with_reducible repeat (first | refine blk_drewN ?_ _ | refine blk_drew ?_ | refine blk_alloc ?_ _)); refine blk_far ?_ NB134_159.out _; (with_reducible repeat (first | refine blk_drewN ?_ _ | refine blk_drew ?_ | refine blk_alloc ?_ _)); exact BK134.out) hb); have n5_ := Aside0.mk (blk_below (g := gb159) (o := .cells #[.int .i64 (wrap64 (rd l0 4)), .int .i64 (wrap64 (rd l0 5)), .int .i64 (wrap64 (rd l0 6)), .int .i64 t156, .int .i64 t157, .int .i64 t158] 32 (0, 0)) (by (with_reducible repeat (first | refine blk_drewN ?_ _ | refine blk_drew ?_ | refine blk_alloc ?_ _)); refine blk_put (cs := #[.int .i64 (wrap64 (rd l0 4)), .int .i64 (wrap64 (rd l0 5)), .int .i64 (wrap64 (rd l0 6)), .int .i64 t156, .int .i64 t157, .int .i64 0]) ?_ 5 _ rfl; (with_reducible repeat (first | refine blk_drewN ?_ _ | refine blk_drew ?_ | refine blk_alloc ?_ _)); refine blk_put (cs := #[.int .i64 (wrap64 (rd l0 4)), .int .i64 (wrap64 (rd l0 5)), .int .i64 (wrap64 (rd l0 6)), .int .i64 t156, .int .i64 0, .int .i64 0]) ?_ 4 _ rfl; (with_reducible repeat (first | refine blk_drewN ?_ _ | refine blk_drew ?_ | refine blk_alloc ?_ _)); refine blk_put (cs := #[.int .i64 (wrap64 (rd l0 4)), .int .i64 (wrap64 (rd l0 5)), .int .i64 (wrap64 (rd l0 6)), .int .i64 0, .int .i64 0, .int .i64 0]) ?_ 3 _ rfl; (with_reducible repeat (first | refine blk_drewN ?_ _ | refine blk_drew ?_ | refine blk_alloc ?_ _)); refine blk_put (cs := #[.int .i64 (wrap64 (rd l0 4)), .int .i64 (wrap64 (rd l0 5)), .int .i64 0, .int .i64 0, .int .i64 0, .int .i64 0]) ?_ 2 _ rfl; (with_reducible repeat (first | refine blk_drewN ?_ _ | refine blk_drew ?_ | refine blk_alloc ?_ _)); refine blk_put (cs := #[.int .i64 (wrap64 (rd l0 4)), .int .i64 0, .int .i64 0, .int .i64 0, .int .i64 0, .int .i64 0]) ?_ 1 _ rfl; (with_reducible repeat (first | refine blk_drewN ?_ _ | refine blk_drew ?_ | refine blk_alloc ?_ _)); refine blk_put (cs := #[.int .i64 0, .int .i64 0, .int .i64 0, .int .i64 0, .int .i64 0, .int .i64 0]) ?_ 0 _ rfl; (with_reducible repeat (first | refine blk_drewN ?_ _ | refine blk_drew ?_ | refine blk_alloc ?_ _)); exact BK159.out) hb); have n6_ := Aside0.mk (below_step (by repeat (first | (with_reducible first | exact HB.out | apply below_alloc | apply pw_below_drewN | apply below_drew1 | refine below_set ?_ GE134.out | refine below_set ?_ GE159.out) | exact HB.out)) hb); clear HO0; clear HO139; clear HO144; clear HO151; clear BK134; clear BK159; clear HB; have HO0 := n0_; have HO139 := n1_; have HO144 := n2_; have HO151 := n3_; have BK134 := n4_; have BK159 := n5_; have HB := n6_; clear n0_ n1_ n2_ n3_ n4_ n5_ n6_; (try clear hb); (try clear hb2); (try clear hk); (try clear hi); have p161 : 0 ≤ (7 : Int) := (by omega); have q161 : 7 < (l0.length : Int) := of_decide_eq_true (by first | (with_reducible assumption) | assumption); obtain ⟨ad161, e161, hx161_0⟩ := Kd.at_int (Kd.V_reads' HO0.out).2.2 7 p161 q161; obtain rfl : ad153 = ad161 := (by injection e161); (try simp only [show (7 : Int).toNat = 7 from rfl, Nat.reduceMul, Nat.reduceEqDiff, Go.Addr.add, ↓reduceIte] at hx161_0); have qi161 : (7 < l0.length) = True := eq_true (by omega); (try rw [show ((7 : Int)).toNat = 7 from rfl] at hx161_0); replace p161 := eq_true p161; replace q161 := eq_true q161; have hcz69_0 : w68.cell? ⟨gb134, 0, none⟩ = some (.int .i64 0) := (blk_cell BK134.out 0).trans rfl; have hcz69_1 : w68.cell? ⟨gb134, 1, none⟩ = some (.int .i64 0) := (blk_cell BK134.out 1).trans rfl; have hcz69_2 : w68.cell? ⟨gb134, 2, none⟩ = some (.int .i64 0) := (blk_cell BK134.out 2).trans rfl; have hcz69_3 : w68.cell? ⟨gb134, 3, none⟩ = some (.int .i64 0) := (blk_cell BK134.out 3).trans rfl; have hcz69_4 : w68.cell? ⟨gb134, 4, none⟩ = some (.int .i64 0) := (blk_cell BK134.out 4).trans rfl; have hcz69_5 : w68.cell? ⟨gb134, 5, none⟩ = some (.int .i64 0) := (blk_cell BK134.out 5).trans rfl; have hfz69_0 := blk_frozen BK134.out 0; have hfz69_1 := blk_frozen BK134.out 1; have hfz69_2 := blk_frozen BK134.out 2; have hfz69_3 := blk_frozen BK134.out 3; have hfz69_4 := blk_frozen BK134.out 4; have hfz69_5 := blk_frozen BK134.out 5))
               refine bodyPost_ret (results_list (rs := [.cell 2 32, .tmp 3, .tmp 4, .tmp 5]) rfl (by simp) (.cell gb134 32 #[.int .i64 0, .int .i64 0, .int .i64 0, .int .i64 0, .int .i64 0, .int .i64 0] (0, 0) _ rfl (by (with_reducible repeat (first | refine blk_drewN ?_ _ | refine blk_drew ?_ | refine blk_alloc ?_ _)); refine blk_put (cs := #[.int .i64 0, .int .i64 0, .int .i64 0, .int .i64 0, .int .i64 0, .int .i64 0]) ?_ 5 _ rfl; (with_reducible repeat (first | refine blk_drewN ?_ _ | refine blk_drew ?_ | refine blk_alloc ?_ _)); refine blk_put (cs := #[.int .i64 0, .int .i64 0, .int .i64 0, .int .i64 0, .int .i64 0, .int .i64 0]) ?_ 4 _ rfl; (with_reducible repeat (first | refine blk_drewN ?_ _ | refine blk_drew ?_ | refine blk_alloc ?_ _)); refine blk_put (cs := #[.int .i64 0, .int .i64 0, .int .i64 0, .int .i64 0, .int .i64 0, .int .i64 0]) ?_ 3 _ rfl; (with_reducible repeat (first | refine blk_drewN ?_ _ | refine blk_drew ?_ | refine blk_alloc ?_ _)); refine blk_put (cs := #[.int .i64 0, .int .i64 0, .int .i64 0, .int .i64 0, .int .i64 0, .int .i64 0]) ?_ 2 _ rfl; (with_reducible repeat (first | refine blk_drewN ?_ _ | refine blk_drew ?_ | refine blk_alloc ?_ _)); refine blk_put (cs := #[.int .i64 0, .int .i64 0, .int .i64 0, .int .i64 0, .int .i64 0, .int .i64 0]) ?_ 1 _ rfl; (with_reducible repeat (first | refine blk_drewN ?_ _ | refine blk_drew ?_ | refine blk_alloc ?_ _)); refine blk_put (cs := #[.int .i64 0, .int .i64 0, .int .i64 0, .int .i64 0, .int .i64 0, .int .i64 0]) ?_ 0 _ rfl; (with_reducible repeat (first | refine blk_drewN ?_ _ | refine blk_drew ?_ | refine blk_alloc ?_ _)); exact BK134.out) Try.underlying32 rfl (by kernel_rfl) (.tmp (.tmp (.tmp .nil))))) rfl ?_
               exact ⟨_, by first | rfl | (simp [errW_none, errW_some] <;> rfl) | (simp [*, errW_none, errW_some] <;> rfl), (by exact Kd.V_nil _ _ _ _ _), by repeat (first | (with_reducible first | exact HB.out | apply below_alloc | apply pw_below_drewN | apply below_drew1 | refine below_set ?_ GE134.out | refine below_set ?_ GE159.out) | exact HB.out)⟩
             ·rw [if_neg c24] at H
              exact absurd H (by simp)
            ·replace c23 := Bool.eq_false_iff.mpr c23
             subst c23
             have H1 : (some (0, 0, 0, 0, 0, 0, ([] : List Int), 0, 4)) = some (r1, r2, r3, r4, r5, r6, r7, r8, r9) := by rw [if_neg (show ¬ (false = true) by decide)] at H; exact H
             clear H
             have H := H1
             clear H1
             simp only [Option.some.injEq, Prod.mk.injEq] at H
             obtain ⟨rfl, rfl, rfl, rfl, rfl, rfl, rfl, rfl, rfl⟩ := H
             try go_wp2_with (first | ((with_reducible refine gate_callee (f := 33) rfl ?_); refine goesL_ (some 57) rfl rfl Try.func33 (by kernel_rfl) rfl #[.agg #[.int .i64 (wrap64 (rd l0 4)), .int .i64 (wrap64 (rd l0 5)), .int .i64 (wrap64 (rd l0 6)), .int .i64 t156, .int .i64 t157, .int .i64 t158]] rfl (by (try simp only [List.map_toArray, List.map_cons, List.map_nil]); first | done | rfl | (simp only [List.length_drop, List.length_take]; rfl)) ?_; (with_reducible refine (shard_May.calls k (wrap64 (rd l0 4)) (wrap64 (rd l0 5)) (wrap64 (rd l0 6)) t156 t157 t158 false _ A22.out).mono ?_); rintro e w86 ⟨rfl, hb⟩; refine ⟨_, rfl, ?_⟩; have n0_ := Aside0.mk (Kd.V_below (by (with_reducible repeat (first | apply Kd.V_alloc | apply Kd.V_drewN | apply Kd.V_drew)); exact (Kd.V_mono (Kd.V_far (p := ⟨gb159, 5, none⟩) (Kd.V_far (p := ⟨gb159, 4, none⟩) (Kd.V_far (p := ⟨gb159, 3, none⟩) (Kd.V_far (p := ⟨gb159, 2, none⟩) (Kd.V_far (p := ⟨gb159, 1, none⟩) (Kd.V_far (p := ⟨gb159, 0, none⟩) (Kd.V_mono HO0.out (fun k_ hk => (⟨hk, hk.2.2⟩ : _ ∧ k_ ≠ gb159))) (fun _ hk => hk.2) (.int .i64 (wrap64 (rd l0 4)))) (fun _ hk => hk.2) (.int .i64 (wrap64 (rd l0 5)))) (fun _ hk => hk.2) (.int .i64 (wrap64 (rd l0 6)))) (fun _ hk => hk.2) (.int .i64 t156)) (fun _ hk => hk.2) (.int .i64 t157)) (fun _ hk => hk.2) (.int .i64 t158)) (fun _ h_ => h_.1))) hb); have n1_ := Aside0.mk (Kd.V_below (by (with_reducible repeat (first | apply Kd.V_alloc | apply Kd.V_drewN | apply Kd.V_drew)); exact (Kd.V_mono (Kd.V_far (p := ⟨gb159, 5, none⟩) (Kd.V_far (p := ⟨gb159, 4, none⟩) (Kd.V_far (p := ⟨gb159, 3, none⟩) (Kd.V_far (p := ⟨gb159, 2, none⟩) (Kd.V_far (p := ⟨gb159, 1, none⟩) (Kd.V_far (p := ⟨gb159, 0, none⟩) (Kd.V_mono HO139.out (fun k_ hk => (⟨hk, hk.2.2⟩ : _ ∧ k_ ≠ gb159))) (fun _ hk => hk.2) (.int .i64 (wrap64 (rd l0 4)))) (fun _ hk => hk.2) (.int .i64 (wrap64 (rd l0 5)))) (fun _ hk => hk.2) (.int .i64 (wrap64 (rd l0 6)))) (fun _ hk => hk.2) (.int .i64 t156)) (fun _ hk => hk.2) (.int .i64 t157)) (fun _ hk => hk.2) (.int .i64 t158)) (fun _ h_ => h_.1))) hb); have n2_ := Aside0.mk (Kd.V_below (by (with_reducible repeat (first | apply Kd.V_alloc | apply Kd.V_drewN | apply Kd.V_drew)); exact (Kd.V_mono (Kd.V_far (p := ⟨gb159, 5, none⟩) (Kd.V_far (p := ⟨gb159, 4, none⟩) (Kd.V_far (p := ⟨gb159, 3, none⟩) (Kd.V_far (p := ⟨gb159, 2, none⟩) (Kd.V_far (p := ⟨gb159, 1, none⟩) (Kd.V_far (p := ⟨gb159, 0, none⟩) (Kd.V_mono HO144.out (fun k_ hk => (⟨hk, hk.2.2⟩ : _ ∧ k_ ≠ gb159))) (fun _ hk => hk.2) (.int .i64 (wrap64 (rd l0 4)))) (fun _ hk => hk.2) (.int .i64 (wrap64 (rd l0 5)))) (fun _ hk => hk.2) (.int .i64 (wrap64 (rd l0 6)))) (fun _ hk => hk.2) (.int .i64 t156)) (fun _ hk => hk.2) (.int .i64 t157)) (fun _ hk => hk.2) (.int .i64 t158)) (fun _ h_ => h_.1))) hb); have n3_ := Aside0.mk (Kd.V_below (by (with_reducible repeat (first | apply Kd.V_alloc | apply Kd.V_drewN | apply Kd.V_drew)); exact (Kd.V_mono (Kd.V_far (p := ⟨gb159, 5, none⟩) (Kd.V_far (p := ⟨gb159, 4, none⟩) (Kd.V_far (p := ⟨gb159, 3, none⟩) (Kd.V_far (p := ⟨gb159, 2, none⟩) (Kd.V_far (p := ⟨gb159, 1, none⟩) (Kd.V_far (p := ⟨gb159, 0, none⟩) (Kd.V_mono HO151.out (fun k_ hk => (⟨hk, hk.2.2⟩ : _ ∧ k_ ≠ gb159))) (fun _ hk => hk.2) (.int .i64 (wrap64 (rd l0 4)))) (fun _ hk => hk.2) (.int .i64 (wrap64 (rd l0 5)))) (fun _ hk => hk.2) (.int .i64 (wrap64 (rd l0 6)))) (fun _ hk => hk.2) (.int .i64 t156)) (fun _ hk => hk.2) (.int .i64 t157)) (fun _ hk => hk.2) (.int .i64 t158)) (fun _ h_ => h_.1))) hb); have n4_ := Aside0.mk (blk_below (g := gb134) (o := .cells #[.int .i64 0, .int .i64 0, .int .i64 0, .int .i64 0, .int .i64 0, .int .i64 0] 32 (0, 0)) (by (with_reducible repeat (first | refine blk_drewN ?_ _ | refine blk_drew ?_ | refine blk_alloc ?_ _)); refine blk_far ?_ NB134_159.out _; (with_reducible repeat (first | refine blk_drewN ?_ _ | refine blk_drew ?_ | refine blk_alloc ?_ _)); refine blk_far ?_ NB134_159.out _; (with_reducible repeat (first | refine blk_drewN ?_ _ | refine blk_drew ?_ | refine blk_alloc ?_ _)); refine blk_far ?_ NB134_159.out _; (with_reducible repeat (first | refine blk_drewN ?_ _ | refine blk_drew ?_ | refine blk_alloc ?_ _)); refine blk_far ?_ NB134_159.out _; (with_reducible repeat (first | refine blk_drewN ?_ _ | refine blk_drew ?_ | refine blk_alloc ?_ _)); refine blk_far ?_ NB134_159.out _; (with_reducible repeat (first | refine blk_drewN ?_ _ | refine blk_drew ?_ | refine blk_alloc ?_ _)); refine blk_far ?_ NB134_159.out _; (with_reducible repeat (first | refine blk_drewN ?_ _ | refine blk_drew ?_ | refine blk_alloc ?_ _)); exact BK134.out) hb); have n5_ := Aside0.mk (blk_below (g := gb159) (o := .cells #[.int .i64 (wrap64 (rd l0 4)), .int .i64 (wrap64 (rd l0 5)), .int .i64 (wrap64 (rd l0 6)), .int .i64 t156, .int .i64 t157, .int .i64 t158] 32 (0, 0)) (by (with_reducible repeat (first | refine blk_drewN ?_ _ | refine blk_drew ?_ | refine blk_alloc ?_ _)); refine blk_put (cs := #[.int .i64 (wrap64 (rd l0 4)), .int .i64 (wrap64 (rd l0 5)), .int .i64 (wrap64 (rd l0 6)), .int .i64 t156, .int .i64 t157, .int .i64 0]) ?_ 5 _ rfl; (with_reducible repeat (first | refine blk_drewN ?_ _ | refine blk_drew ?_ | refine blk_alloc ?_ _)); refine blk_put (cs := #[.int .i64 (wrap64 (rd l0 4)), .int .i64 (wrap64 (rd l0 5)), .int .i64 (wrap64 (rd l0 6)), .int .i64 t156, .int .i64 0, .int .i64 0]) ?_ 4 _ rfl; (with_reducible repeat (first | refine blk_drewN ?_ _ | refine blk_drew ?_ | refine blk_alloc ?_ _)); refine blk_put (cs := #[.int .i64 (wrap64 (rd l0 4)), .int .i64 (wrap64 (rd l0 5)), .int .i64 (wrap64 (rd l0 6)), .int .i64 0, .int .i64 0, .int .i64 0]) ?_ 3 _ rfl; (with_reducible repeat (first | refine blk_drewN ?_ _ | refine blk_drew ?_ | refine blk_alloc ?_ _)); refine blk_put (cs := #[.int .i64 (wrap64 (rd l0 4)), .int .i64 (wrap64 (rd l0 5)), .int .i64 0, .int .i64 0, .int .i64 0, .int .i64 0]) ?_ 2 _ rfl; (with_reducible repeat (first | refine blk_drewN ?_ _ | refine blk_drew ?_ | refine blk_alloc ?_ _)); refine blk_put (cs := #[.int .i64 (wrap64 (rd l0 4)), .int .i64 0, .int .i64 0, .int .i64 0, .int .i64 0, .int .i64 0]) ?_ 1 _ rfl; (with_reducible repeat (first | refine blk_drewN ?_ _ | refine blk_drew ?_ | refine blk_alloc ?_ _)); refine blk_put (cs := #[.int .i64 0, .int .i64 0, .int .i64 0, .int .i64 0, .int .i64 0, .int .i64 0]) ?_ 0 _ rfl; (with_reducible repeat (first | refine blk_drewN ?_ _ | refine blk_drew ?_ | refine blk_alloc ?_ _)); exact BK159.out) hb); have n6_ := Aside0.mk (below_step (by repeat (first | (with_reducible first | exact HB.out | apply below_alloc | apply pw_below_drewN | apply below_drew1 | refine below_set ?_ GE134.out | refine below_set ?_ GE159.out) | exact HB.out)) hb); clear HO0; clear HO139; clear HO144; clear HO151; clear BK134; clear BK159; clear HB; have HO0 := n0_; have HO139 := n1_; have HO144 := n2_; have HO151 := n3_; have BK134 := n4_; have BK159 := n5_; have HB := n6_; clear n0_ n1_ n2_ n3_ n4_ n5_ n6_; (try clear hb); (try clear hb2); (try clear hk); (try clear hi); have hcz87_0 : w86.cell? ⟨gb134, 0, none⟩ = some (.int .i64 0) := (blk_cell BK134.out 0).trans rfl; have hcz87_1 : w86.cell? ⟨gb134, 1, none⟩ = some (.int .i64 0) := (blk_cell BK134.out 1).trans rfl; have hcz87_2 : w86.cell? ⟨gb134, 2, none⟩ = some (.int .i64 0) := (blk_cell BK134.out 2).trans rfl; have hcz87_3 : w86.cell? ⟨gb134, 3, none⟩ = some (.int .i64 0) := (blk_cell BK134.out 3).trans rfl; have hcz87_4 : w86.cell? ⟨gb134, 4, none⟩ = some (.int .i64 0) := (blk_cell BK134.out 4).trans rfl; have hcz87_5 : w86.cell? ⟨gb134, 5, none⟩ = some (.int .i64 0) := (blk_cell BK134.out 5).trans rfl; have hfz87_0 := blk_frozen BK134.out 0; have hfz87_1 := blk_frozen BK134.out 1; have hfz87_2 := blk_frozen BK134.out 2; have hfz87_3 := blk_frozen BK134.out 3; have hfz87_4 := blk_frozen BK134.out 4; have hfz87_5 := blk_frozen BK134.out 5))
             refine bodyPost_ret (results_list (rs := [.cell 2 32, .tmp 3, .tmp 4, .tmp 5]) rfl (by simp) (.cell gb134 32 #[.int .i64 0, .int .i64 0, .int .i64 0, .int .i64 0, .int .i64 0, .int .i64 0] (0, 0) _ rfl (by (with_reducible repeat (first | refine blk_drewN ?_ _ | refine blk_drew ?_ | refine blk_alloc ?_ _)); refine blk_put (cs := #[.int .i64 0, .int .i64 0, .int .i64 0, .int .i64 0, .int .i64 0, .int .i64 0]) ?_ 5 _ rfl; (with_reducible repeat (first | refine blk_drewN ?_ _ | refine blk_drew ?_ | refine blk_alloc ?_ _)); refine blk_put (cs := #[.int .i64 0, .int .i64 0, .int .i64 0, .int .i64 0, .int .i64 0, .int .i64 0]) ?_ 4 _ rfl; (with_reducible repeat (first | refine blk_drewN ?_ _ | refine blk_drew ?_ | refine blk_alloc ?_ _)); refine blk_put (cs := #[.int .i64 0, .int .i64 0, .int .i64 0, .int .i64 0, .int .i64 0, .int .i64 0]) ?_ 3 _ rfl; (with_reducible repeat (first | refine blk_drewN ?_ _ | refine blk_drew ?_ | refine blk_alloc ?_ _)); refine blk_put (cs := #[.int .i64 0, .int .i64 0, .int .i64 0, .int .i64 0, .int .i64 0, .int .i64 0]) ?_ 2 _ rfl; (with_reducible repeat (first | refine blk_drewN ?_ _ | refine blk_drew ?_ | refine blk_alloc ?_ _)); refine blk_put (cs := #[.int .i64 0, .int .i64 0, .int .i64 0, .int .i64 0, .int .i64 0, .int .i64 0]) ?_ 1 _ rfl; (with_reducible repeat (first | refine blk_drewN ?_ _ | refine blk_drew ?_ | refine blk_alloc ?_ _)); refine blk_put (cs := #[.int .i64 0, .int .i64 0, .int .i64 0, .int .i64 0, .int .i64 0, .int .i64 0]) ?_ 0 _ rfl; (with_reducible repeat (first | refine blk_drewN ?_ _ | refine blk_drew ?_ | refine blk_alloc ?_ _)); exact BK134.out) Try.underlying32 rfl (by kernel_rfl) (.tmp (.tmp (.tmp .nil))))) rfl ?_
             exact ⟨_, by first | rfl | (simp [errW_none, errW_some] <;> rfl) | (simp [*, errW_none, errW_some] <;> rfl), (by exact Kd.V_nil _ _ _ _ _), by repeat (first | (with_reducible first | exact HB.out | apply below_alloc | apply pw_below_drewN | apply below_drew1 | refine below_set ?_ GE134.out | refine below_set ?_ GE159.out) | exact HB.out)⟩
           ·rw [if_neg c18] at H
            exact absurd H (by simp)
          ·rw [if_neg c17] at H
           exact absurd H (by simp)
         ·rw [if_neg c16] at H
          exact absurd H (by simp)
        ·rw [if_neg c15] at H
         have c15b0 : (t145 == t152) = false := beq_eq_false_iff_ne.mpr c15
         have c15b1 : (t145 != t152) = true := bne_iff_ne.mpr c15
         simp only [Option.some.injEq, Prod.mk.injEq] at H
         obtain ⟨rfl, rfl, rfl, rfl, rfl, rfl, rfl, rfl, rfl⟩ := H
         go_enter Try.func71, Try.ntmps71
         go_wp2_with (first | ((with_reducible refine gate_dst (N := 2) rfl ?_); refine box_event ?hg (N := 2) ?hd (cs := #[.int .i64 0, .int .i64 0, .int .i64 0, .int .i64 0, .int .i64 0, .int .i64 0]) (t := 32) ?hr ?_; (case hd => rfl); (case hg => rfl); (case hr => first | (go_simp; done) | (go_simp; rfl)); intro gb134 hg w88 hbox hb; have n0_ := Aside0.mk (Kd.V_below (Kd.V_elderB (by (with_reducible repeat (first | apply Kd.V_alloc | apply Kd.V_drewN | apply Kd.V_drew)); exact HO0.out) gb134 (Nat.le_of_eq hg.symm)) hb); have n1_ := Aside0.mk (below_step (by repeat (first | (with_reducible first | exact HB.out | apply below_alloc | apply pw_below_drewN | apply below_drew1) | exact HB.out)) hb); have n2_ := Aside0.mk (hbox); have n3_ := Aside0.mk ((by rw [hg]; exact (below_size (by repeat (first | (with_reducible first | exact HB.out | apply below_alloc | apply pw_below_drewN | apply below_drew1) | exact HB.out))) : w.heap.size ≤ gb134)); have n4_ := Aside0.mk ((by rw [hg]; exact (below_size (by repeat (first | (with_reducible first | exact HB.out | apply below_alloc | apply pw_below_drewN | apply below_drew1) | exact HB.out))) : w.heap.size ≤ gb134)); clear HO0; clear HB; have HO0 := n0_; have HB := n1_; have BK134 := n2_; have GW134 := n3_; have GE134 := n4_; clear n0_ n1_ n2_ n3_ n4_; clear hb hbox hg; have q89 : (4 : Int) ≤ ((l0.length : Int) : Int) := of_decide_eq_true (by first | (with_reducible assumption) | assumption); obtain ⟨i089, hi089, _, hsz89, _⟩ := info_parts info5; have hroom89 : l0.length ≤ c0 := (Kd.V_reads' HO0.out).2.1; have hC89 : Kd.F (Kd.int .u8) _ _ A0 l0.length l0 := (Kd.V_at (base := w.heap.size) HO0.out).2.2; have hcut89 := cut_to (P := Try.prog) 22 5 .i64 Try.underlying22 hi089 A0 l0.length c0 4 (by omega) q89 hroom89; have hr89 := Kd.F_take (m := 4) hC89 (by omega); have hy89 : y135.length = (4 : Int).toNat := (by rw [Ny135.out, List.length_take]; omega); rw [← Ny135.out] at hr89; rw [← hy89] at hcut89; have HO139 := Aside0.mk (show Kd.V (Kd.int .u8) 5 _ w.heap.size _ (.slice A0 y135.length c0) y135 from Kd.V_mk (by omega) hr89); have HC139 := Aside0.mk (show y135.length ≤ c0 from by omega); clear hr89 hC89 hroom89 hi089 hsz89; have KY89 := Aside0.mk hy89; clear hy89; replace q89 := eq_true q89; have hcv90 := Kd.C_string (P := Try.prog) (A := A0) (c := c0) Try.underlying22 Try.underlying5 Try.underlying9 (Kd.V_reads' HO139.out).2.2; have q91 : (24 : Int) ≤ ((l0.length : Int) : Int) := of_decide_eq_true (by first | (with_reducible assumption) | assumption); obtain ⟨i091, hi091, _, hsz91, _⟩ := info_parts info5; have hroom91 : l0.length ≤ c0 := (Kd.V_reads' HO0.out).2.1; have hC91 : Kd.F (Kd.int .u8) _ _ A0 l0.length l0 := (Kd.V_at (base := w.heap.size) HO0.out).2.2; have ql91 : (20 : Int) ≤ (24 : Int) := (by omega); have hcut91 := cut_mid (P := Try.prog) 22 5 .i64 .i64 Try.underlying22 hi091 1 hsz91 A0 l0.length c0 20 24 (by omega) ql91 q91 hroom91; have hr91 := Kd.F_mid (lo := (20 : Int).toNat) (hi := (24 : Int).toNat) (c := c0) hC91 (by omega) (by omega) hroom91; obtain ⟨A91, hA91⟩ : ∃ A1, A1 = (if c0 = (20 : Int).toNat then A0 else (A0 : Option Addr).map (·.add ((20 : Int).toNat * 1))) := ⟨_, rfl⟩; obtain ⟨c91, hc91⟩ : ∃ c1, c1 = c0 - (20 : Int).toNat := ⟨_, rfl⟩; have hy91 : y140.length = (24 : Int).toNat - (20 : Int).toNat := (by rw [Ny140.out, List.length_drop, List.length_take] <;> omega); rw [show ((l0).take (24 : Int).toNat).drop (20 : Int).toNat = y140 from Ny140.out.symm] at hr91; replace hr91 : Kd.F (Kd.int .u8) _ _ A91 y140.length y140 := (by rw [hA91]; exact hr91); rw [← hy91, ← hA91, ← hc91] at hcut91; have HO144 := Aside0.mk (show Kd.V (Kd.int .u8) 5 _ w.heap.size _ (.slice A91 y140.length c91) y140 from Kd.V_mk (by rw [hy91, hc91]; exact Nat.sub_le_sub_right (Nat.le_trans (by omega) hroom91) _) hr91); have HC144 := Aside0.mk (show y140.length ≤ c91 from by rw [hy91, hc91]; exact Nat.sub_le_sub_right (Nat.le_trans (by omega) hroom91) _); clear hr91 hC91 hroom91 hi091 hsz91 hc91; have KY91 := Aside0.mk hy91; have KA91 := Aside0.mk hA91; clear hy91 hA91; replace q91 := eq_true q91) | ((with_reducible refine gate_callee (f := 58) rfl ?_); refine goesL_ (some 28) rfl rfl Try.func58 (by kernel_rfl) rfl #[.slice A91 y140.length c91] rfl (by (try simp only [List.map_toArray, List.map_cons, List.map_nil]); first | done | rfl | (simp only [List.length_drop, List.length_take]; rfl)) ?_; (with_reducible refine (crc_Read.calls k _ _ y140 t145 t146 _ ?side1 ?side2 A12.out).mono ?_); (case side1 => repeat (first | exact (Kd.V_reads' HO144.out).2.2 | (with_reducible refine Kd.C_alloc ?_ _) | (with_reducible refine Kd.C_drewN ?_ _) | (with_reducible refine Kd.C_drew ?_))); (case side2 => exact (Kd.V_reads' HO144.out).2.1); rintro e w' ⟨rfl, ⟨nd, rfl⟩⟩; refine ⟨_, rfl, ?_⟩; (try (rw [drewN_self w88]; generalize hq_ : World.drewN w88 _ = w88; have n0_ : Aside0 (Kd.V (Kd.int .u8) 5 w88 w.heap.size (fun k_ => (P0_ k_ ∨ w.heap.size ≤ k_) ∧ k_ ≠ gb134) (.slice A0 l0.length c0) l0) := ⟨by rw [← hq_]; exact (by (with_reducible repeat (first | apply Kd.V_alloc | apply Kd.V_drewN | apply Kd.V_drew)); exact HO0.out)⟩; have n1_ : Aside0 (Kd.V (Kd.int .u8) 5 w88 w.heap.size (fun k_ => (P0_ k_ ∨ w.heap.size ≤ k_) ∧ k_ ≠ gb134) (.slice A0 y135.length c0) y135) := ⟨by rw [← hq_]; exact (by (with_reducible repeat (first | apply Kd.V_alloc | apply Kd.V_drewN | apply Kd.V_drew)); exact HO139.out)⟩; have n2_ : Aside0 (Kd.V (Kd.int .u8) 5 w88 w.heap.size (fun k_ => (P0_ k_ ∨ w.heap.size ≤ k_) ∧ k_ ≠ gb134) (.slice A91 y140.length c91) y140) := ⟨by rw [← hq_]; exact (by (with_reducible repeat (first | apply Kd.V_alloc | apply Kd.V_drewN | apply Kd.V_drew)); exact HO144.out)⟩; have n3_ : Aside0 (w88.heap[gb134]? = some (.cells #[.int .i64 0, .int .i64 0, .int .i64 0, .int .i64 0, .int .i64 0, .int .i64 0] 32 (0, 0))) := ⟨by rw [← hq_]; exact (by (with_reducible repeat (first | refine blk_drewN ?_ _ | refine blk_drew ?_ | refine blk_alloc ?_ _)); exact BK134.out)⟩; have n4_ : Aside0 (Below w.heap.size w w88) := ⟨by rw [← hq_]; exact (by repeat (first | (with_reducible first | exact HB.out | apply below_alloc | apply pw_below_drewN | apply below_drew1 | refine below_set ?_ GE134.out) | exact HB.out))⟩; clear HO0 HO139 HO144 BK134 HB hq_; have HO0 := n0_; have HO139 := n1_; have HO144 := n2_; have BK134 := n3_; have HB := n4_; clear n0_ n1_ n2_ n3_ n4_)); have q92 : (20 : Int) ≤ ((l0.length : Int) : Int) := of_decide_eq_true (by first | (with_reducible assumption) | assumption); obtain ⟨i092, hi092, _, hsz92, _⟩ := info_parts info5; have hroom92 : l0.length ≤ c0 := (Kd.V_reads' HO0.out).2.1; have hC92 : Kd.F (Kd.int .u8) _ _ A0 l0.length l0 := (Kd.V_at (base := w.heap.size) HO0.out).2.2; have hcut92 := cut_to (P := Try.prog) 22 5 .i64 Try.underlying22 hi092 A0 l0.length c0 20 (by omega) q92 hroom92; have hr92 := Kd.F_take (m := 20) hC92 (by omega); have hy92 : y147.length = (20 : Int).toNat := (by rw [Ny147.out, List.length_take]; omega); rw [← Ny147.out] at hr92; rw [← hy92] at hcut92; have HO151 := Aside0.mk (show Kd.V (Kd.int .u8) 5 _ w.heap.size _ (.slice A0 y147.length c0) y147 from Kd.V_mk (by omega) hr92); have HC151 := Aside0.mk (show y147.length ≤ c0 from by omega); clear hr92 hC92 hroom92 hi092 hsz92; have KY92 := Aside0.mk hy92; clear hy92; replace q92 := eq_true q92) | ((with_reducible refine gate_callee (f := 55) rfl ?_); refine goesL_ (some 34) rfl rfl Try.func55 (by kernel_rfl) rfl #[.slice A0 y147.length c0] rfl (by (try simp only [List.map_toArray, List.map_cons, List.map_nil]); first | done | rfl | (simp only [List.length_drop, List.length_take]; rfl)) ?_; (with_reducible refine (crc_Sum.calls k _ _ y147 t152 _ ?side1 ?side2 A14.out).mono ?_); (case side1 => repeat (first | exact (Kd.V_reads' HO151.out).2.2 | (with_reducible refine Kd.C_alloc ?_ _) | (with_reducible refine Kd.C_drewN ?_ _) | (with_reducible refine Kd.C_drew ?_))); (case side2 => exact (Kd.V_reads' HO151.out).2.1); rintro e w' ⟨rfl, ⟨nd, rfl⟩⟩; refine ⟨_, rfl, ?_⟩; (try (rw [drewN_self w88]; generalize hq_ : World.drewN w88 _ = w88; have n0_ : Aside0 (Kd.V (Kd.int .u8) 5 w88 w.heap.size (fun k_ => (P0_ k_ ∨ w.heap.size ≤ k_) ∧ k_ ≠ gb134) (.slice A0 l0.length c0) l0) := ⟨by rw [← hq_]; exact (by (with_reducible repeat (first | apply Kd.V_alloc | apply Kd.V_drewN | apply Kd.V_drew)); exact HO0.out)⟩; have n1_ : Aside0 (Kd.V (Kd.int .u8) 5 w88 w.heap.size (fun k_ => (P0_ k_ ∨ w.heap.size ≤ k_) ∧ k_ ≠ gb134) (.slice A0 y135.length c0) y135) := ⟨by rw [← hq_]; exact (by (with_reducible repeat (first | apply Kd.V_alloc | apply Kd.V_drewN | apply Kd.V_drew)); exact HO139.out)⟩; have n2_ : Aside0 (Kd.V (Kd.int .u8) 5 w88 w.heap.size (fun k_ => (P0_ k_ ∨ w.heap.size ≤ k_) ∧ k_ ≠ gb134) (.slice A91 y140.length c91) y140) := ⟨by rw [← hq_]; exact (by (with_reducible repeat (first | apply Kd.V_alloc | apply Kd.V_drewN | apply Kd.V_drew)); exact HO144.out)⟩; have n3_ : Aside0 (Kd.V (Kd.int .u8) 5 w88 w.heap.size (fun k_ => (P0_ k_ ∨ w.heap.size ≤ k_) ∧ k_ ≠ gb134) (.slice A0 y147.length c0) y147) := ⟨by rw [← hq_]; exact (by (with_reducible repeat (first | apply Kd.V_alloc | apply Kd.V_drewN | apply Kd.V_drew)); exact HO151.out)⟩; have n4_ : Aside0 (w88.heap[gb134]? = some (.cells #[.int .i64 0, .int .i64 0, .int .i64 0, .int .i64 0, .int .i64 0, .int .i64 0] 32 (0, 0))) := ⟨by rw [← hq_]; exact (by (with_reducible repeat (first | refine blk_drewN ?_ _ | refine blk_drew ?_ | refine blk_alloc ?_ _)); exact BK134.out)⟩; have n5_ : Aside0 (Below w.heap.size w w88) := ⟨by rw [← hq_]; exact (by repeat (first | (with_reducible first | exact HB.out | apply below_alloc | apply pw_below_drewN | apply below_drew1 | refine below_set ?_ GE134.out) | exact HB.out))⟩; clear HO0 HO139 HO144 HO151 BK134 HB hq_; have HO0 := n0_; have HO139 := n1_; have HO144 := n2_; have HO151 := n3_; have BK134 := n4_; have HB := n5_; clear n0_ n1_ n2_ n3_ n4_ n5_)); have hcz93_0 : w88.cell? ⟨gb134, 0, none⟩ = some (.int .i64 0) := (blk_cell BK134.out 0).trans rfl; have hcz93_1 : w88.cell? ⟨gb134, 1, none⟩ = some (.int .i64 0) := (blk_cell BK134.out 1).trans rfl; have hcz93_2 : w88.cell? ⟨gb134, 2, none⟩ = some (.int .i64 0) := (blk_cell BK134.out 2).trans rfl; have hcz93_3 : w88.cell? ⟨gb134, 3, none⟩ = some (.int .i64 0) := (blk_cell BK134.out 3).trans rfl; have hcz93_4 : w88.cell? ⟨gb134, 4, none⟩ = some (.int .i64 0) := (blk_cell BK134.out 4).trans rfl; have hcz93_5 : w88.cell? ⟨gb134, 5, none⟩ = some (.int .i64 0) := (blk_cell BK134.out 5).trans rfl; have hfz93_0 := blk_frozen BK134.out 0; have hfz93_1 := blk_frozen BK134.out 1; have hfz93_2 := blk_frozen BK134.out 2; have hfz93_3 := blk_frozen BK134.out 3; have hfz93_4 := blk_frozen BK134.out 4; have hfz93_5 := blk_frozen BK134.out 5))
         refine bodyPost_ret (results_list (rs := [.cell 2 32, .tmp 3, .tmp 4, .tmp 5]) rfl (by simp) (.cell gb134 32 #[.int .i64 0, .int .i64 0, .int .i64 0, .int .i64 0, .int .i64 0, .int .i64 0] (0, 0) _ rfl (by (with_reducible repeat (first | refine blk_drewN ?_ _ | refine blk_drew ?_ | refine blk_alloc ?_ _)); refine blk_put (cs := #[.int .i64 0, .int .i64 0, .int .i64 0, .int .i64 0, .int .i64 0, .int .i64 0]) ?_ 5 _ rfl; (with_reducible repeat (first | refine blk_drewN ?_ _ | refine blk_drew ?_ | refine blk_alloc ?_ _)); refine blk_put (cs := #[.int .i64 0, .int .i64 0, .int .i64 0, .int .i64 0, .int .i64 0, .int .i64 0]) ?_ 4 _ rfl; (with_reducible repeat (first | refine blk_drewN ?_ _ | refine blk_drew ?_ | refine blk_alloc ?_ _)); refine blk_put (cs := #[.int .i64 0, .int .i64 0, .int .i64 0, .int .i64 0, .int .i64 0, .int .i64 0]) ?_ 3 _ rfl; (with_reducible repeat (first | refine blk_drewN ?_ _ | refine blk_drew ?_ | refine blk_alloc ?_ _)); refine blk_put (cs := #[.int .i64 0, .int .i64 0, .int .i64 0, .int .i64 0, .int .i64 0, .int .i64 0]) ?_ 2 _ rfl; (with_reducible repeat (first | refine blk_drewN ?_ _ | refine blk_drew ?_ | refine blk_alloc ?_ _)); refine blk_put (cs := #[.int .i64 0, .int .i64 0, .int .i64 0, .int .i64 0, .int .i64 0, .int .i64 0]) ?_ 1 _ rfl; (with_reducible repeat (first | refine blk_drewN ?_ _ | refine blk_drew ?_ | refine blk_alloc ?_ _)); refine blk_put (cs := #[.int .i64 0, .int .i64 0, .int .i64 0, .int .i64 0, .int .i64 0, .int .i64 0]) ?_ 0 _ rfl; (with_reducible repeat (first | refine blk_drewN ?_ _ | refine blk_drew ?_ | refine blk_alloc ?_ _)); exact BK134.out) Try.underlying32 rfl (by kernel_rfl) (.tmp (.tmp (.tmp .nil))))) rfl ?_
         exact ⟨_, by first | rfl | (simp [errW_none, errW_some] <;> rfl) | (simp [*, errW_none, errW_some] <;> rfl), (by exact Kd.V_nil _ _ _ _ _), by repeat (first | (with_reducible first | exact HB.out | apply below_alloc | apply pw_below_drewN | apply below_drew1 | refine below_set ?_ GE134.out) | exact HB.out)⟩
       ·rw [if_neg c13] at H
        exact absurd H (by simp)
      ·rw [if_neg c11] at H
       exact absurd H (by simp)
     ·rw [if_neg c10] at H
      exact absurd H (by simp)
    ·rw [if_neg c9] at H
     have c9b0 : ((strOfNums y135).toList == ([83, 66, 88, 49] : List UInt8)) = false := beq_eq_false_iff_ne.mpr c9
     have c9b1 : ((strOfNums y135).toList != ([83, 66, 88, 49] : List UInt8)) = true := bne_iff_ne.mpr c9
     simp only [Option.some.injEq, Prod.mk.injEq] at H
     obtain ⟨rfl, rfl, rfl, rfl, rfl, rfl, rfl, rfl, rfl⟩ := H
     go_enter Try.func71, Try.ntmps71
     go_wp2_with (first | ((with_reducible refine gate_dst (N := 2) rfl ?_); refine box_event ?hg (N := 2) ?hd (cs := #[.int .i64 0, .int .i64 0, .int .i64 0, .int .i64 0, .int .i64 0, .int .i64 0]) (t := 32) ?hr ?_; (case hd => rfl); (case hg => rfl); (case hr => first | (go_simp; done) | (go_simp; rfl)); intro gb134 hg w94 hbox hb; have n0_ := Aside0.mk (Kd.V_below (Kd.V_elderB (by (with_reducible repeat (first | apply Kd.V_alloc | apply Kd.V_drewN | apply Kd.V_drew)); exact HO0.out) gb134 (Nat.le_of_eq hg.symm)) hb); have n1_ := Aside0.mk (below_step (by repeat (first | (with_reducible first | exact HB.out | apply below_alloc | apply pw_below_drewN | apply below_drew1) | exact HB.out)) hb); have n2_ := Aside0.mk (hbox); have n3_ := Aside0.mk ((by rw [hg]; exact (below_size (by repeat (first | (with_reducible first | exact HB.out | apply below_alloc | apply pw_below_drewN | apply below_drew1) | exact HB.out))) : w.heap.size ≤ gb134)); have n4_ := Aside0.mk ((by rw [hg]; exact (below_size (by repeat (first | (with_reducible first | exact HB.out | apply below_alloc | apply pw_below_drewN | apply below_drew1) | exact HB.out))) : w.heap.size ≤ gb134)); clear HO0; clear HB; have HO0 := n0_; have HB := n1_; have BK134 := n2_; have GW134 := n3_; have GE134 := n4_; clear n0_ n1_ n2_ n3_ n4_; clear hb hbox hg; have q95 : (4 : Int) ≤ ((l0.length : Int) : Int) := of_decide_eq_true (by first | (with_reducible assumption) | assumption); obtain ⟨i095, hi095, _, hsz95, _⟩ := info_parts info5; have hroom95 : l0.length ≤ c0 := (Kd.V_reads' HO0.out).2.1; have hC95 : Kd.F (Kd.int .u8) _ _ A0 l0.length l0 := (Kd.V_at (base := w.heap.size) HO0.out).2.2; have hcut95 := cut_to (P := Try.prog) 22 5 .i64 Try.underlying22 hi095 A0 l0.length c0 4 (by omega) q95 hroom95; have hr95 := Kd.F_take (m := 4) hC95 (by omega); have hy95 : y135.length = (4 : Int).toNat := (by rw [Ny135.out, List.length_take]; omega); rw [← Ny135.out] at hr95; rw [← hy95] at hcut95; have HO139 := Aside0.mk (show Kd.V (Kd.int .u8) 5 _ w.heap.size _ (.slice A0 y135.length c0) y135 from Kd.V_mk (by omega) hr95); have HC139 := Aside0.mk (show y135.length ≤ c0 from by omega); clear hr95 hC95 hroom95 hi095 hsz95; have KY95 := Aside0.mk hy95; clear hy95; replace q95 := eq_true q95; have hcv96 := Kd.C_string (P := Try.prog) (A := A0) (c := c0) Try.underlying22 Try.underlying5 Try.underlying9 (Kd.V_reads' HO139.out).2.2; have hcz97_0 : w94.cell? ⟨gb134, 0, none⟩ = some (.int .i64 0) := (blk_cell BK134.out 0).trans rfl; have hcz97_1 : w94.cell? ⟨gb134, 1, none⟩ = some (.int .i64 0) := (blk_cell BK134.out 1).trans rfl; have hcz97_2 : w94.cell? ⟨gb134, 2, none⟩ = some (.int .i64 0) := (blk_cell BK134.out 2).trans rfl; have hcz97_3 : w94.cell? ⟨gb134, 3, none⟩ = some (.int .i64 0) := (blk_cell BK134.out 3).trans rfl; have hcz97_4 : w94.cell? ⟨gb134, 4, none⟩ = some (.int .i64 0) := (blk_cell BK134.out 4).trans rfl; have hcz97_5 : w94.cell? ⟨gb134, 5, none⟩ = some (.int .i64 0) := (blk_cell BK134.out 5).trans rfl; have hfz97_0 := blk_frozen BK134.out 0; have hfz97_1 := blk_frozen BK134.out 1; have hfz97_2 := blk_frozen BK134.out 2; have hfz97_3 := blk_frozen BK134.out 3; have hfz97_4 := blk_frozen BK134.out 4; have hfz97_5 := blk_frozen BK134.out 5))
     refine bodyPost_ret (results_list (rs := [.cell 2 32, .tmp 3, .tmp 4, .tmp 5]) rfl (by simp) (.cell gb134 32 #[.int .i64 0, .int .i64 0, .int .i64 0, .int .i64 0, .int .i64 0, .int .i64 0] (0, 0) _ rfl (by (with_reducible repeat (first | refine blk_drewN ?_ _ | refine blk_drew ?_ | refine blk_alloc ?_ _)); refine blk_put (cs := #[.int .i64 0, .int .i64 0, .int .i64 0, .int .i64 0, .int .i64 0, .int .i64 0]) ?_ 5 _ rfl; (with_reducible repeat (first | refine blk_drewN ?_ _ | refine blk_drew ?_ | refine blk_alloc ?_ _)); refine blk_put (cs := #[.int .i64 0, .int .i64 0, .int .i64 0, .int .i64 0, .int .i64 0, .int .i64 0]) ?_ 4 _ rfl; (with_reducible repeat (first | refine blk_drewN ?_ _ | refine blk_drew ?_ | refine blk_alloc ?_ _)); refine blk_put (cs := #[.int .i64 0, .int .i64 0, .int .i64 0, .int .i64 0, .int .i64 0, .int .i64 0]) ?_ 3 _ rfl; (with_reducible repeat (first | refine blk_drewN ?_ _ | refine blk_drew ?_ | refine blk_alloc ?_ _)); refine blk_put (cs := #[.int .i64 0, .int .i64 0, .int .i64 0, .int .i64 0, .int .i64 0, .int .i64 0]) ?_ 2 _ rfl; (with_reducible repeat (first | refine blk_drewN ?_ _ | refine blk_drew ?_ | refine blk_alloc ?_ _)); refine blk_put (cs := #[.int .i64 0, .int .i64 0, .int .i64 0, .int .i64 0, .int .i64 0, .int .i64 0]) ?_ 1 _ rfl; (with_reducible repeat (first | refine blk_drewN ?_ _ | refine blk_drew ?_ | refine blk_alloc ?_ _)); refine blk_put (cs := #[.int .i64 0, .int .i64 0, .int .i64 0, .int .i64 0, .int .i64 0, .int .i64 0]) ?_ 0 _ rfl; (with_reducible repeat (first | refine blk_drewN ?_ _ | refine blk_drew ?_ | refine blk_alloc ?_ _)); exact BK134.out) Try.underlying32 rfl (by kernel_rfl) (.tmp (.tmp (.tmp .nil))))) rfl ?_
     exact ⟨_, by first | rfl | (simp [errW_none, errW_some] <;> rfl) | (simp [*, errW_none, errW_some] <;> rfl), (by exact Kd.V_nil _ _ _ _ _), by repeat (first | (with_reducible first | exact HB.out | apply below_alloc | apply pw_below_drewN | apply below_drew1 | refine below_set ?_ GE134.out) | exact HB.out)⟩
   ·rw [if_neg c8] at H
    exact absurd H (by simp)

end Go.Proofs.Ytnlpipjdpmaggaa.PShardWrites
