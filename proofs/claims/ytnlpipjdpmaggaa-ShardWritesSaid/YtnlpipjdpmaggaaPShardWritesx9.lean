/- WRITTEN FOR THIS CLAIM by a program of the prover's own (the kit's printing program, with constructs added): for each Go function that the statement reaches a Lean function with the same answers, and the proof of that. Not trusted: Lean checks it. -/
import Derived.Test.YtnlpipjdpmaggaaMore3
import Derived.Test.YtnlpipjdpmaggaaMayHead
import Derived.Lib.SlBytesConst
import Derived.Test.YtnlpipjdpmaggaaPShardWritesx0
import Derived.Test.YtnlpipjdpmaggaaPShardWritesx8
namespace Go.Proofs.Ytnlpipjdpmaggaa.PShardWrites
open Go.RowKit Go.Proofs.YtnlpipjdpmaggaaW.PrintWords Go.Proofs.YtnlpipjdpmaggaaW.PrintLast Go.Proofs.YtnlpipjdpmaggaaW.PrintMore
attribute [local go_sem] max2_int min2_int max_two min_two max_three min_three max_four min_four   -- for this text's walks alone
set_option linter.unusedVariables false
set_option linter.unusedSimpArgs false

/-! ### strongboxref4_Write: function 32 -/
mutual
def strongboxref4_Write.j0 : Nat → List Int → Bool → Int → Int → Int → Int → Int → Int → Option (List Int × Int)
 | 0, _, _, _, _, _, _, _, _ => none
 | k + 1, x1, x18, x270000, x270001, x270002, x270003, x270004, x270005 => if x18 = true then (some (([] : List Int), 1)) else ((some (([83, 66, 88, 49] : List Int) : List Int)).bind fun y271 => ((some (([(x270000) % 256, (x270001) % 256, (x270002) % 256, 0] : List Int) : List Int)).bind fun y274 => (if y271.length + y274.length < 140737488355328 then ((some (y271 ++ y274 : List Int)).bind fun y277 => ((strongboxref4_little.f k x270003 4).bind fun t280 => (if y277.length + t280.length < 140737488355328 then ((some (y277 ++ t280 : List Int)).bind fun y283 => ((strongboxref4_little.f k x270004 4).bind fun t286 => (if y283.length + t286.length < 140737488355328 then ((some (y283 ++ t286 : List Int)).bind fun y289 => ((strongboxref4_little.f k x270005 4).bind fun t292 => (if y289.length + t292.length < 140737488355328 then ((some (y289 ++ t292 : List Int)).bind fun y295 => ((strongboxref4_Sum.f k y295).bind fun t298 => ((strongboxref4_Bytes.f k t298).bind fun t299 => (if y295.length + t299.length < 140737488355328 then (strongboxref4_Write.l0 k x1 (y295 ++ t299) 0 x270000 x270001 x270002 x270003 x270004 x270005) else (none))))) else (none)))) else (none)))) else (none)))) else (none))))
def strongboxref4_Write.l0 : Nat → List Int → List Int → Int → Int → Int → Int → Int → Int → Int → Option (List Int × Int)
 | 0, _, _, _, _, _, _, _, _, _ => none
 | k + 1, x1, x6, x7, x270000, x270001, x270002, x270003, x270004, x270005 => if x7 < (x1.length : Int) then (if 0 ≤ x7 then (if x7 ≤ (mn (wrap64 (x7 + x270003)) (x1.length : Int)) then (if (mn (wrap64 (x7 + x270003)) (x1.length : Int)) ≤ (x1.length : Int) then ((some ((x1.take ((mn (wrap64 (x7 + x270003)) (x1.length : Int)) : Int).toNat).drop (x7 : Int).toNat : List Int)).bind fun y305 => (if x6.length + y305.length < 140737488355328 then ((some (x6 ++ y305 : List Int)).bind fun y309 => ((strongboxref4_Sum.f k y305).bind fun t312 => ((strongboxref4_Bytes.f k t312).bind fun t313 => (if y309.length + t313.length < 140737488355328 then (strongboxref4_Write.l0 k x1 (y309 ++ t313) (wrap64 (x7 + x270003)) x270000 x270001 x270002 x270003 x270004 x270005) else (none))))) else (none))) else (none)) else (none)) else (none)) else (some (x6, 0))
end
def strongboxref4_Write.f (k : Nat) (a0_0 : Int) (a0_1 : Int) (a0_2 : Int) (a0_3 : Int) (a0_4 : Int) (a0_5 : Int) (l1 : List Int) : Option (List Int × Int) := (strongboxref4_MayHead.f a0_0 a0_1 a0_2 a0_3 a0_4 a0_5).bind fun t270 => (if t270 = true then (strongboxref4_Write.j0 k l1 ((l1.length : Int) != a0_4) a0_0 a0_1 a0_2 a0_3 a0_4 a0_5) else (strongboxref4_Write.j0 k l1 true a0_0 a0_1 a0_2 a0_3 a0_4 a0_5))
theorem strongboxref4_Write.mono_l : ∀ k, (∀ y0 y1 y2 y3 y4 y5 y6 y7, LeO (strongboxref4_Write.j0 k y0 y1 y2 y3 y4 y5 y6 y7) (strongboxref4_Write.j0 (k + 1) y0 y1 y2 y3 y4 y5 y6 y7)) ∧ (∀ y0 y1 y2 y3 y4 y5 y6 y7 y8, LeO (strongboxref4_Write.l0 k y0 y1 y2 y3 y4 y5 y6 y7 y8) (strongboxref4_Write.l0 (k + 1) y0 y1 y2 y3 y4 y5 y6 y7 y8))
 | 0 => ⟨fun _ _ _ _ _ _ _ _ r h => by simp [strongboxref4_Write.j0] at h, fun _ _ _ _ _ _ _ _ _ r h => by simp [strongboxref4_Write.l0] at h⟩
 | k + 1 => by
  obtain ⟨ih0, ih1⟩ := strongboxref4_Write.mono_l k
  refine ⟨?_, ?_⟩
  ·intro y0 y1 y2 y3 y4 y5 y6 y7
   unfold strongboxref4_Write.j0
   repeat' first
   | (with_reducible exact ih0 _ _ _ _ _ _ _ _)
   | (with_reducible exact ih1 _ _ _ _ _ _ _ _ _)
   | (with_reducible exact strongboxref4_Bytes.mono _ _)
   | (with_reducible exact strongboxref4_Sum.mono _ _)
   | (with_reducible exact strongboxref4_little.mono _ _ _)
   | (with_reducible exact LeO.refl _)
   | (with_reducible exact LeO.none _)
   | (with_reducible refine LeO.ite ?_ ?_)
   | (with_reducible refine LeO.bind ?_ (fun _ => ?_))
   | exact ih0 _ _ _ _ _ _ _ _
   | exact ih1 _ _ _ _ _ _ _ _ _
   | exact strongboxref4_Bytes.mono _ _
   | exact strongboxref4_Sum.mono _ _
   | exact strongboxref4_little.mono _ _ _
   | exact LeO.none _
   | refine LeO.ite ?_ ?_
   | refine LeO.bind ?_ (fun _ => ?_)
  ·intro y0 y1 y2 y3 y4 y5 y6 y7 y8
   unfold strongboxref4_Write.l0
   repeat' first
   | (with_reducible exact ih0 _ _ _ _ _ _ _ _)
   | (with_reducible exact ih1 _ _ _ _ _ _ _ _ _)
   | (with_reducible exact strongboxref4_Bytes.mono _ _)
   | (with_reducible exact strongboxref4_Sum.mono _ _)
   | (with_reducible exact strongboxref4_little.mono _ _ _)
   | (with_reducible exact LeO.refl _)
   | (with_reducible exact LeO.none _)
   | (with_reducible refine LeO.ite ?_ ?_)
   | (with_reducible refine LeO.bind ?_ (fun _ => ?_))
   | exact ih0 _ _ _ _ _ _ _ _
   | exact ih1 _ _ _ _ _ _ _ _ _
   | exact strongboxref4_Bytes.mono _ _
   | exact strongboxref4_Sum.mono _ _
   | exact strongboxref4_little.mono _ _ _
   | exact LeO.none _
   | refine LeO.ite ?_ ?_
   | refine LeO.bind ?_ (fun _ => ?_)
theorem strongboxref4_Write.mono : ∀ a0 a1 a2 a3 a4 a5 a6 k, LeO (strongboxref4_Write.f k a0 a1 a2 a3 a4 a5 a6) (strongboxref4_Write.f (k + 1) a0 a1 a2 a3 a4 a5 a6) := by
 intro a0 a1 a2 a3 a4 a5 a6 k
 obtain ⟨ih0, ih1⟩ := strongboxref4_Write.mono_l k
 unfold strongboxref4_Write.f
 repeat' first
   | (with_reducible exact ih0 _ _ _ _ _ _ _ _)
   | (with_reducible exact ih1 _ _ _ _ _ _ _ _ _)
   | (with_reducible exact strongboxref4_Bytes.mono _ _)
   | (with_reducible exact strongboxref4_Sum.mono _ _)
   | (with_reducible exact strongboxref4_little.mono _ _ _)
   | (with_reducible exact LeO.refl _)
   | (with_reducible exact LeO.none _)
   | (with_reducible refine LeO.ite ?_ ?_)
   | (with_reducible refine LeO.bind ?_ (fun _ => ?_))
   | exact ih0 _ _ _ _ _ _ _ _
   | exact ih1 _ _ _ _ _ _ _ _ _
   | exact strongboxref4_Bytes.mono _ _
   | exact strongboxref4_Sum.mono _ _
   | exact strongboxref4_little.mono _ _ _
   | exact LeO.none _
   | refine LeO.ite ?_ ?_
   | refine LeO.bind ?_ (fun _ => ?_)
def strongboxref4_Write.T4 : Bool × List (List Nat × List Nat) := (true, [([], []), ([], []), ([1], [1]), ([2], [2]), ([0, 3, 3], [0, 3]), ([], []), ([5], [5]), ([6, 4], [6]), ([4, 7, 7], [4, 7]), ([], []), ([9], [9]), ([10, 8], [10]), ([8, 11, 11], [8, 11]), ([12, 12, 0, 1, 2, 3, 4, 5, 6, 7, 8, 9, 10, 11, 12], [0, 12])])
def strongboxref4_Write.B4 : List Nat := [0, 0, 2, 6, 15, 0, 32, 127, 255, 0, 512, 2047, 4095, 8191]
theorem strongboxref4_Write.tab4 : rtab .any (opsOf Try.f32 4) = strongboxref4_Write.T4 := by kernel_rfl
theorem strongboxref4_Write.bits4 : waitsOk strongboxref4_Write.T4.2 strongboxref4_Write.B4 = true := by kernel_rfl
set_option maxHeartbeats 8000000 in
set_option maxRecDepth 100000 in
theorem strongboxref4_Write.calls (k : Nat) (a0_0 : Int) (a0_1 : Int) (a0_2 : Int) (a0_3 : Int) (a0_4 : Int) (a0_5 : Int) (A1 : Option Addr) (c1 : Nat) (l1 : List Int) (r1 : List Int) (r2 : Int) (w : World) (hr1 : Kd.C (Kd.int .u8) w A1 l1.length l1) (hc1 : l1.length ≤ c1) (h : strongboxref4_Write.f k a0_0 a0_1 a0_2 a0_3 a0_4 a0_5 l1 = some (r1, r2)) :
  Calls Try.prog 32 #[.agg #[.int .i64 a0_0, .int .i64 a0_1, .int .i64 a0_2, .int .i64 a0_3, .int .i64 a0_4, .int .i64 a0_5], .slice A1 l1.length c1] w fun e w' => ∃ v0_ : Value, e = .returned (.tuple #[v0_, .int .i64 r2]) ∧ Kd.R (Kd.int .u8) 5 w' w.heap.size (fun _ => True) v0_ r1 ∧ Below w.heap.size w w' := by
 have hu27 := Try.underlying27
 have HR1 := Aside0.mk hr1
 have HC1 := Aside0.mk hc1
 clear hr1 hc1
 have HB := Aside0.mk (Below.refl w.heap.size w)
 have H : ((strongboxref4_MayHead.f a0_0 a0_1 a0_2 a0_3 a0_4 a0_5).bind fun t270 => (if t270 = true then (strongboxref4_Write.j0 k l1 ((l1.length : Int) != a0_4) a0_0 a0_1 a0_2 a0_3 a0_4 a0_5) else (strongboxref4_Write.j0 k l1 true a0_0 a0_1 a0_2 a0_3 a0_4 a0_5))) = some (r1, r2) := h
 clear h
 have HC3 := Aside0.mk H
 clear H
 go_enter Try.func32, Try.ntmps32
 go_upto_region 1 with (first | ((with_reducible refine gate_dst (N := 2) rfl ?_); (try (refine gate_guard (by rfl) ?_; dsimp only)); refine box_event ?hg (N := 2) ?hd (cs := #[.int .i64 a0_0, .int .i64 a0_1, .int .i64 a0_2, .int .i64 a0_3, .int .i64 a0_4, .int .i64 a0_5]) (t := 27) ?hr ?_; (case hd => rfl); (case hg => rfl); (case hr => first | (go_simp; done) | (go_simp; rfl)); intro gb269 hg w4 hbox hb; have n0_ := Aside0.mk (below_step (by repeat (first | (with_reducible first | exact HB.out | apply below_alloc | apply pw_below_drewN | apply below_drew1) | exact HB.out)) hb); have n1_ := Aside0.mk (hbox); have n2_ := Aside0.mk ((by rw [hg]; exact (below_size (by repeat (first | (with_reducible first | exact HB.out | apply below_alloc | apply pw_below_drewN | apply below_drew1) | exact HB.out))) : w.heap.size ≤ gb269)); have n3_ := Aside0.mk ((by rw [hg]; exact (below_size (by repeat (first | (with_reducible first | exact HB.out | apply below_alloc | apply pw_below_drewN | apply below_drew1) | exact HB.out))) : w.heap.size ≤ gb269)); clear HB; have HB := n0_; have BK269 := n1_; have GW269 := n2_; have GE269 := n3_; clear n0_ n1_ n2_ n3_; clear hb hbox hg))
 (try simp only [Act.put, List.setIfInBounds_toArray, List.set_cons_zero, List.set_cons_succ])
 go_cut [18] (fun v18 wc => ∃ (kq : Nat) (x18_2 : Bool), v18 = .bool x18_2 ∧ Aside0 (strongboxref4_Write.j0 kq l1 x18_2 a0_0 a0_1 a0_2 a0_3 a0_4 a0_5 = some (r1, r2)) ∧ Aside0 (kq ≤ k) ∧ Aside0 (wc.heap[gb269]? = some (.cells #[.int .i64 a0_0, .int .i64 a0_1, .int .i64 a0_2, .int .i64 a0_3, .int .i64 a0_4, .int .i64 a0_5] 27 (0, 0))) ∧ Aside0 (Below w.heap.size w wc))
 case first =>
  have H := HC3.out
  clear HC3
  replace H := Option.bind_eq_some_iff.mp H
  obtain ⟨t270, A50, H⟩ := H
  replace H : (if t270 = true then (strongboxref4_Write.j0 k l1 ((l1.length : Int) != a0_4) a0_0 a0_1 a0_2 a0_3 a0_4 a0_5) else (strongboxref4_Write.j0 k l1 true a0_0 a0_1 a0_2 a0_3 a0_4 a0_5)) = some (r1, r2) := H
  have A5 := Aside0.mk A50
  clear A50
  by_cases c6 : t270 = true
  ·subst c6
   have H1 : (strongboxref4_Write.j0 k l1 ((l1.length : Int) != a0_4) a0_0 a0_1 a0_2 a0_3 a0_4 a0_5) = some (r1, r2) := by rw [if_pos rfl] at H; exact H
   clear H
   have H := H1
   clear H1
   have H' := Aside0.mk H
   clear H
   have hcz7_0 : w4.cell? ⟨gb269, 0, none⟩ = some (.int .i64 a0_0) := (blk_cell BK269.out 0).trans rfl
   have hcz7_1 : w4.cell? ⟨gb269, 1, none⟩ = some (.int .i64 a0_1) := (blk_cell BK269.out 1).trans rfl
   have hcz7_2 : w4.cell? ⟨gb269, 2, none⟩ = some (.int .i64 a0_2) := (blk_cell BK269.out 2).trans rfl
   have hcz7_3 : w4.cell? ⟨gb269, 3, none⟩ = some (.int .i64 a0_3) := (blk_cell BK269.out 3).trans rfl
   have hcz7_4 : w4.cell? ⟨gb269, 4, none⟩ = some (.int .i64 a0_4) := (blk_cell BK269.out 4).trans rfl
   have hcz7_5 : w4.cell? ⟨gb269, 5, none⟩ = some (.int .i64 a0_5) := (blk_cell BK269.out 5).trans rfl
   have hfz7_0 := blk_frozen BK269.out 0
   have hfz7_1 := blk_frozen BK269.out 1
   have hfz7_2 := blk_frozen BK269.out 2
   have hfz7_3 := blk_frozen BK269.out 3
   have hfz7_4 := blk_frozen BK269.out 4
   have hfz7_5 := blk_frozen BK269.out 5
   go_wp2_with (first | ((with_reducible refine gate_callee (f := 34) rfl ?_); refine goesL_ (some 10) rfl rfl Try.func34 (by kernel_rfl) rfl #[.agg #[.int .i64 a0_0, .int .i64 a0_1, .int .i64 a0_2, .int .i64 a0_3, .int .i64 a0_4, .int .i64 a0_5]] rfl (by (try simp only [List.map_toArray, List.map_cons, List.map_nil]); first | done | rfl | (simp only [List.length_drop, List.length_take]; rfl)) ?_; (with_reducible refine (strongboxref4_MayHead.calls a0_0 a0_1 a0_2 a0_3 a0_4 a0_5 true _ A5.out).mono ?_); rintro e w8 ⟨rfl, hb⟩; refine ⟨_, rfl, ?_⟩; have n0_ := Aside0.mk (blk_below (g := gb269) (o := .cells #[.int .i64 a0_0, .int .i64 a0_1, .int .i64 a0_2, .int .i64 a0_3, .int .i64 a0_4, .int .i64 a0_5] 27 (0, 0)) (by (with_reducible repeat (first | refine blk_drewN ?_ _ | refine blk_drew ?_ | refine blk_alloc ?_ _)); exact BK269.out) hb); have n1_ := Aside0.mk (below_step (by repeat (first | (with_reducible first | exact HB.out | apply below_alloc | apply pw_below_drewN | apply below_drew1 | refine below_set ?_ GE269.out) | exact HB.out)) hb); clear BK269; clear HB; have BK269 := n0_; have HB := n1_; clear n0_ n1_; (try clear hb); (try clear hb2); (try clear hk); (try clear hi); have hcz9_0 : w8.cell? ⟨gb269, 0, none⟩ = some (.int .i64 a0_0) := (blk_cell BK269.out 0).trans rfl; have hcz9_1 : w8.cell? ⟨gb269, 1, none⟩ = some (.int .i64 a0_1) := (blk_cell BK269.out 1).trans rfl; have hcz9_2 : w8.cell? ⟨gb269, 2, none⟩ = some (.int .i64 a0_2) := (blk_cell BK269.out 2).trans rfl; have hcz9_3 : w8.cell? ⟨gb269, 3, none⟩ = some (.int .i64 a0_3) := (blk_cell BK269.out 3).trans rfl; have hcz9_4 : w8.cell? ⟨gb269, 4, none⟩ = some (.int .i64 a0_4) := (blk_cell BK269.out 4).trans rfl; have hcz9_5 : w8.cell? ⟨gb269, 5, none⟩ = some (.int .i64 a0_5) := (blk_cell BK269.out 5).trans rfl; have hfz9_0 := blk_frozen BK269.out 0; have hfz9_1 := blk_frozen BK269.out 1; have hfz9_2 := blk_frozen BK269.out 2; have hfz9_3 := blk_frozen BK269.out 3; have hfz9_4 := blk_frozen BK269.out 4; have hfz9_5 := blk_frozen BK269.out 5))
   go_meet
   case rel => exact ⟨_, (((l1.length : Int) != a0_4)), (by first | rfl | (simp; done) | (simp [*]; done)), H', ⟨by first | omega | exact Nat.le_refl _⟩, ⟨by (with_reducible repeat (first | refine blk_drewN ?_ _ | refine blk_drew ?_ | refine blk_alloc ?_ _)); exact BK269.out⟩, ⟨by repeat (first | (with_reducible first | exact HB.out | apply below_alloc | apply pw_below_drewN | apply below_drew1 | refine below_set ?_ GE269.out) | exact HB.out)⟩⟩
  ·replace c6 := Bool.eq_false_iff.mpr c6
   subst c6
   have H1 : (strongboxref4_Write.j0 k l1 true a0_0 a0_1 a0_2 a0_3 a0_4 a0_5) = some (r1, r2) := by rw [if_neg (show ¬ (false = true) by decide)] at H; exact H
   clear H
   have H := H1
   clear H1
   have H' := Aside0.mk H
   clear H
   have hcz10_0 : w4.cell? ⟨gb269, 0, none⟩ = some (.int .i64 a0_0) := (blk_cell BK269.out 0).trans rfl
   have hcz10_1 : w4.cell? ⟨gb269, 1, none⟩ = some (.int .i64 a0_1) := (blk_cell BK269.out 1).trans rfl
   have hcz10_2 : w4.cell? ⟨gb269, 2, none⟩ = some (.int .i64 a0_2) := (blk_cell BK269.out 2).trans rfl
   have hcz10_3 : w4.cell? ⟨gb269, 3, none⟩ = some (.int .i64 a0_3) := (blk_cell BK269.out 3).trans rfl
   have hcz10_4 : w4.cell? ⟨gb269, 4, none⟩ = some (.int .i64 a0_4) := (blk_cell BK269.out 4).trans rfl
   have hcz10_5 : w4.cell? ⟨gb269, 5, none⟩ = some (.int .i64 a0_5) := (blk_cell BK269.out 5).trans rfl
   have hfz10_0 := blk_frozen BK269.out 0
   have hfz10_1 := blk_frozen BK269.out 1
   have hfz10_2 := blk_frozen BK269.out 2
   have hfz10_3 := blk_frozen BK269.out 3
   have hfz10_4 := blk_frozen BK269.out 4
   have hfz10_5 := blk_frozen BK269.out 5
   go_wp2_with (first | ((with_reducible refine gate_callee (f := 34) rfl ?_); refine goesL_ (some 10) rfl rfl Try.func34 (by kernel_rfl) rfl #[.agg #[.int .i64 a0_0, .int .i64 a0_1, .int .i64 a0_2, .int .i64 a0_3, .int .i64 a0_4, .int .i64 a0_5]] rfl (by (try simp only [List.map_toArray, List.map_cons, List.map_nil]); first | done | rfl | (simp only [List.length_drop, List.length_take]; rfl)) ?_; (with_reducible refine (strongboxref4_MayHead.calls a0_0 a0_1 a0_2 a0_3 a0_4 a0_5 false _ A5.out).mono ?_); rintro e w11 ⟨rfl, hb⟩; refine ⟨_, rfl, ?_⟩; have n0_ := Aside0.mk (blk_below (g := gb269) (o := .cells #[.int .i64 a0_0, .int .i64 a0_1, .int .i64 a0_2, .int .i64 a0_3, .int .i64 a0_4, .int .i64 a0_5] 27 (0, 0)) (by (with_reducible repeat (first | refine blk_drewN ?_ _ | refine blk_drew ?_ | refine blk_alloc ?_ _)); exact BK269.out) hb); have n1_ := Aside0.mk (below_step (by repeat (first | (with_reducible first | exact HB.out | apply below_alloc | apply pw_below_drewN | apply below_drew1 | refine below_set ?_ GE269.out) | exact HB.out)) hb); clear BK269; clear HB; have BK269 := n0_; have HB := n1_; clear n0_ n1_; (try clear hb); (try clear hb2); (try clear hk); (try clear hi)))
   go_meet
   case rel => exact ⟨_, (true), (by first | rfl | (simp; done) | (simp [*]; done)), H', ⟨by first | omega | exact Nat.le_refl _⟩, ⟨by (with_reducible repeat (first | refine blk_drewN ?_ _ | refine blk_drew ?_ | refine blk_alloc ?_ _)); exact BK269.out⟩, ⟨by repeat (first | (with_reducible first | exact HB.out | apply below_alloc | apply pw_below_drewN | apply below_drew1 | refine below_set ?_ GE269.out) | exact HB.out)⟩⟩
 case rest =>
  clear HC3
  try clear c1
  try clear p2
  try clear c3
  try clear c6
  try clear hcz10_0
  try clear hcz10_1
  try clear hcz10_2
  try clear hcz10_3
  try clear hcz10_4
  try clear hcz10_5
  try clear hcz7_0
  try clear hcz7_1
  try clear hcz7_2
  try clear hcz7_3
  try clear hcz7_4
  try clear hcz7_5
  try clear hcz9_0
  try clear hcz9_1
  try clear hcz9_2
  try clear hcz9_3
  try clear hcz9_4
  try clear hcz9_5
  try clear hfz10_0
  try clear hfz10_1
  try clear hfz10_2
  try clear hfz10_3
  try clear hfz10_4
  try clear hfz10_5
  try clear hfz7_0
  try clear hfz7_1
  try clear hfz7_2
  try clear hfz7_3
  try clear hfz7_4
  try clear hfz7_5
  try clear hfz9_0
  try clear hfz9_1
  try clear hfz9_2
  try clear hfz9_3
  try clear hfz9_4
  try clear hfz9_5
  obtain ⟨kq, x18_2, rfl, HA, HJ2, BK269, HB⟩ := hcut
  cases kq with
  | zero => exact absurd HA.out (by simp [strongboxref4_Write.j0])
  | succ kj2 =>
   have H := HA.out
   clear HA
   simp only [strongboxref4_Write.j0] at H
   by_cases c12 : x18_2 = true
   ·subst c12
    have H1 : (some (([] : List Int), 1)) = some (r1, r2) := by rw [if_pos rfl] at H; exact H
    clear H
    have H := H1
    clear H1
    simp only [Option.some.injEq, Prod.mk.injEq] at H
    obtain ⟨rfl, rfl⟩ := H
    go_wp2
    go_ret2
    exact ⟨_, by first | rfl | (simp [errW_none, errW_some] <;> rfl) | (simp [*, errW_none, errW_some] <;> rfl), by first | exact Kd.R_nil _ _ _ _ _ | exact Kd.N_nil _ _ _ _ _ | exact Kd.V_nil _ _ _ _ _ | exact Kd.Q_nil _ _ _ _ _ | exact Kd.S_nil _ _ _ _ _, by repeat (first | (with_reducible first | exact HB.out | apply below_alloc | apply pw_below_drewN | apply below_drew1 | refine below_set ?_ GE269.out) | exact HB.out)⟩
   ·replace c12 := Bool.eq_false_iff.mpr c12
    subst c12
    have H1 : ((some (([83, 66, 88, 49] : List Int) : List Int)).bind fun y271 => ((some (([(a0_0) % 256, (a0_1) % 256, (a0_2) % 256, 0] : List Int) : List Int)).bind fun y274 => (if y271.length + y274.length < 140737488355328 then ((some (y271 ++ y274 : List Int)).bind fun y277 => ((strongboxref4_little.f kj2 a0_3 4).bind fun t280 => (if y277.length + t280.length < 140737488355328 then ((some (y277 ++ t280 : List Int)).bind fun y283 => ((strongboxref4_little.f kj2 a0_4 4).bind fun t286 => (if y283.length + t286.length < 140737488355328 then ((some (y283 ++ t286 : List Int)).bind fun y289 => ((strongboxref4_little.f kj2 a0_5 4).bind fun t292 => (if y289.length + t292.length < 140737488355328 then ((some (y289 ++ t292 : List Int)).bind fun y295 => ((strongboxref4_Sum.f kj2 y295).bind fun t298 => ((strongboxref4_Bytes.f kj2 t298).bind fun t299 => (if y295.length + t299.length < 140737488355328 then (strongboxref4_Write.l0 kj2 l1 (y295 ++ t299) 0 a0_0 a0_1 a0_2 a0_3 a0_4 a0_5) else (none))))) else (none)))) else (none)))) else (none)))) else (none)))) = some (r1, r2) := by rw [if_neg (show ¬ (false = true) by decide)] at H; exact H
    clear H
    have H := H1
    clear H1
    obtain ⟨y271, hy271⟩ : ∃ y_ : List Int, y_ = (([83, 66, 88, 49] : List Int)) := ⟨_, rfl⟩
    replace H : ((some (([(a0_0) % 256, (a0_1) % 256, (a0_2) % 256, 0] : List Int) : List Int)).bind fun y274 => (if y271.length + y274.length < 140737488355328 then ((some (y271 ++ y274 : List Int)).bind fun y277 => ((strongboxref4_little.f kj2 a0_3 4).bind fun t280 => (if y277.length + t280.length < 140737488355328 then ((some (y277 ++ t280 : List Int)).bind fun y283 => ((strongboxref4_little.f kj2 a0_4 4).bind fun t286 => (if y283.length + t286.length < 140737488355328 then ((some (y283 ++ t286 : List Int)).bind fun y289 => ((strongboxref4_little.f kj2 a0_5 4).bind fun t292 => (if y289.length + t292.length < 140737488355328 then ((some (y289 ++ t292 : List Int)).bind fun y295 => ((strongboxref4_Sum.f kj2 y295).bind fun t298 => ((strongboxref4_Bytes.f kj2 t298).bind fun t299 => (if y295.length + t299.length < 140737488355328 then (strongboxref4_Write.l0 kj2 l1 (y295 ++ t299) 0 a0_0 a0_1 a0_2 a0_3 a0_4 a0_5) else (none))))) else (none)))) else (none)))) else (none)))) else (none))) = some (r1, r2) := by first | (rw [hy271]; with_reducible exact H) | (have H2_ := (Option.bind_some _ _).symm.trans H; rw [hy271]; with_reducible exact H2_) | (have H2_ := (Option.bind_some _ _).symm.trans H; with_reducible exact H2_) | with_reducible exact H | (rw [hy271]; exact H) | exact H
    have Ny271 := Aside0.mk hy271
    clear hy271
    obtain ⟨y274, hy274⟩ : ∃ y_ : List Int, y_ = (([(a0_0) % 256, (a0_1) % 256, (a0_2) % 256, 0] : List Int)) := ⟨_, rfl⟩
    replace H : (if y271.length + y274.length < 140737488355328 then ((some (y271 ++ y274 : List Int)).bind fun y277 => ((strongboxref4_little.f kj2 a0_3 4).bind fun t280 => (if y277.length + t280.length < 140737488355328 then ((some (y277 ++ t280 : List Int)).bind fun y283 => ((strongboxref4_little.f kj2 a0_4 4).bind fun t286 => (if y283.length + t286.length < 140737488355328 then ((some (y283 ++ t286 : List Int)).bind fun y289 => ((strongboxref4_little.f kj2 a0_5 4).bind fun t292 => (if y289.length + t292.length < 140737488355328 then ((some (y289 ++ t292 : List Int)).bind fun y295 => ((strongboxref4_Sum.f kj2 y295).bind fun t298 => ((strongboxref4_Bytes.f kj2 t298).bind fun t299 => (if y295.length + t299.length < 140737488355328 then (strongboxref4_Write.l0 kj2 l1 (y295 ++ t299) 0 a0_0 a0_1 a0_2 a0_3 a0_4 a0_5) else (none))))) else (none)))) else (none)))) else (none)))) else (none)) = some (r1, r2) := by first | (rw [hy274]; with_reducible exact H) | (have H2_ := (Option.bind_some _ _).symm.trans H; rw [hy274]; with_reducible exact H2_) | (have H2_ := (Option.bind_some _ _).symm.trans H; with_reducible exact H2_) | with_reducible exact H | (rw [hy274]; exact H) | exact H
    have Ny274 := Aside0.mk hy274
    clear hy274
    by_cases c13 : y271.length + y274.length < 140737488355328
    ·rw [if_pos c13] at H
     have LMc13 := Aside0.mk c13
     clear c13
     obtain ⟨y277, hy277⟩ : ∃ y_ : List Int, y_ = (y271 ++ y274) := ⟨_, rfl⟩
     replace H : ((strongboxref4_little.f kj2 a0_3 4).bind fun t280 => (if y277.length + t280.length < 140737488355328 then ((some (y277 ++ t280 : List Int)).bind fun y283 => ((strongboxref4_little.f kj2 a0_4 4).bind fun t286 => (if y283.length + t286.length < 140737488355328 then ((some (y283 ++ t286 : List Int)).bind fun y289 => ((strongboxref4_little.f kj2 a0_5 4).bind fun t292 => (if y289.length + t292.length < 140737488355328 then ((some (y289 ++ t292 : List Int)).bind fun y295 => ((strongboxref4_Sum.f kj2 y295).bind fun t298 => ((strongboxref4_Bytes.f kj2 t298).bind fun t299 => (if y295.length + t299.length < 140737488355328 then (strongboxref4_Write.l0 kj2 l1 (y295 ++ t299) 0 a0_0 a0_1 a0_2 a0_3 a0_4 a0_5) else (none))))) else (none)))) else (none)))) else (none))) = some (r1, r2) := by first | (rw [hy277]; with_reducible exact H) | (have H2_ := (Option.bind_some _ _).symm.trans H; rw [hy277]; with_reducible exact H2_) | (have H2_ := (Option.bind_some _ _).symm.trans H; with_reducible exact H2_) | with_reducible exact H | (rw [hy277]; exact H) | exact H
     have Ny277 := Aside0.mk hy277
     clear hy277
     replace H := Option.bind_eq_some_iff.mp H
     obtain ⟨t280, A140, H⟩ := H
     replace H : (if y277.length + t280.length < 140737488355328 then ((some (y277 ++ t280 : List Int)).bind fun y283 => ((strongboxref4_little.f kj2 a0_4 4).bind fun t286 => (if y283.length + t286.length < 140737488355328 then ((some (y283 ++ t286 : List Int)).bind fun y289 => ((strongboxref4_little.f kj2 a0_5 4).bind fun t292 => (if y289.length + t292.length < 140737488355328 then ((some (y289 ++ t292 : List Int)).bind fun y295 => ((strongboxref4_Sum.f kj2 y295).bind fun t298 => ((strongboxref4_Bytes.f kj2 t298).bind fun t299 => (if y295.length + t299.length < 140737488355328 then (strongboxref4_Write.l0 kj2 l1 (y295 ++ t299) 0 a0_0 a0_1 a0_2 a0_3 a0_4 a0_5) else (none))))) else (none)))) else (none)))) else (none)) = some (r1, r2) := H
     have A14 := Aside0.mk A140
     clear A140
     by_cases c15 : y277.length + t280.length < 140737488355328
     ·rw [if_pos c15] at H
      have LMc15 := Aside0.mk c15
      clear c15
      obtain ⟨y283, hy283⟩ : ∃ y_ : List Int, y_ = (y277 ++ t280) := ⟨_, rfl⟩
      replace H : ((strongboxref4_little.f kj2 a0_4 4).bind fun t286 => (if y283.length + t286.length < 140737488355328 then ((some (y283 ++ t286 : List Int)).bind fun y289 => ((strongboxref4_little.f kj2 a0_5 4).bind fun t292 => (if y289.length + t292.length < 140737488355328 then ((some (y289 ++ t292 : List Int)).bind fun y295 => ((strongboxref4_Sum.f kj2 y295).bind fun t298 => ((strongboxref4_Bytes.f kj2 t298).bind fun t299 => (if y295.length + t299.length < 140737488355328 then (strongboxref4_Write.l0 kj2 l1 (y295 ++ t299) 0 a0_0 a0_1 a0_2 a0_3 a0_4 a0_5) else (none))))) else (none)))) else (none))) = some (r1, r2) := by first | (rw [hy283]; with_reducible exact H) | (have H2_ := (Option.bind_some _ _).symm.trans H; rw [hy283]; with_reducible exact H2_) | (have H2_ := (Option.bind_some _ _).symm.trans H; with_reducible exact H2_) | with_reducible exact H | (rw [hy283]; exact H) | exact H
      have Ny283 := Aside0.mk hy283
      clear hy283
      replace H := Option.bind_eq_some_iff.mp H
      obtain ⟨t286, A160, H⟩ := H
      replace H : (if y283.length + t286.length < 140737488355328 then ((some (y283 ++ t286 : List Int)).bind fun y289 => ((strongboxref4_little.f kj2 a0_5 4).bind fun t292 => (if y289.length + t292.length < 140737488355328 then ((some (y289 ++ t292 : List Int)).bind fun y295 => ((strongboxref4_Sum.f kj2 y295).bind fun t298 => ((strongboxref4_Bytes.f kj2 t298).bind fun t299 => (if y295.length + t299.length < 140737488355328 then (strongboxref4_Write.l0 kj2 l1 (y295 ++ t299) 0 a0_0 a0_1 a0_2 a0_3 a0_4 a0_5) else (none))))) else (none)))) else (none)) = some (r1, r2) := H
      have A16 := Aside0.mk A160
      clear A160
      by_cases c17 : y283.length + t286.length < 140737488355328
      ·rw [if_pos c17] at H
       have LMc17 := Aside0.mk c17
       clear c17
       obtain ⟨y289, hy289⟩ : ∃ y_ : List Int, y_ = (y283 ++ t286) := ⟨_, rfl⟩
       replace H : ((strongboxref4_little.f kj2 a0_5 4).bind fun t292 => (if y289.length + t292.length < 140737488355328 then ((some (y289 ++ t292 : List Int)).bind fun y295 => ((strongboxref4_Sum.f kj2 y295).bind fun t298 => ((strongboxref4_Bytes.f kj2 t298).bind fun t299 => (if y295.length + t299.length < 140737488355328 then (strongboxref4_Write.l0 kj2 l1 (y295 ++ t299) 0 a0_0 a0_1 a0_2 a0_3 a0_4 a0_5) else (none))))) else (none))) = some (r1, r2) := by first | (rw [hy289]; with_reducible exact H) | (have H2_ := (Option.bind_some _ _).symm.trans H; rw [hy289]; with_reducible exact H2_) | (have H2_ := (Option.bind_some _ _).symm.trans H; with_reducible exact H2_) | with_reducible exact H | (rw [hy289]; exact H) | exact H
       have Ny289 := Aside0.mk hy289
       clear hy289
       replace H := Option.bind_eq_some_iff.mp H
       obtain ⟨t292, A180, H⟩ := H
       replace H : (if y289.length + t292.length < 140737488355328 then ((some (y289 ++ t292 : List Int)).bind fun y295 => ((strongboxref4_Sum.f kj2 y295).bind fun t298 => ((strongboxref4_Bytes.f kj2 t298).bind fun t299 => (if y295.length + t299.length < 140737488355328 then (strongboxref4_Write.l0 kj2 l1 (y295 ++ t299) 0 a0_0 a0_1 a0_2 a0_3 a0_4 a0_5) else (none))))) else (none)) = some (r1, r2) := H
       have A18 := Aside0.mk A180
       clear A180
       by_cases c19 : y289.length + t292.length < 140737488355328
       ·rw [if_pos c19] at H
        have LMc19 := Aside0.mk c19
        clear c19
        obtain ⟨y295, hy295⟩ : ∃ y_ : List Int, y_ = (y289 ++ t292) := ⟨_, rfl⟩
        replace H : ((strongboxref4_Sum.f kj2 y295).bind fun t298 => ((strongboxref4_Bytes.f kj2 t298).bind fun t299 => (if y295.length + t299.length < 140737488355328 then (strongboxref4_Write.l0 kj2 l1 (y295 ++ t299) 0 a0_0 a0_1 a0_2 a0_3 a0_4 a0_5) else (none)))) = some (r1, r2) := by first | (rw [hy295]; with_reducible exact H) | (have H2_ := (Option.bind_some _ _).symm.trans H; rw [hy295]; with_reducible exact H2_) | (have H2_ := (Option.bind_some _ _).symm.trans H; with_reducible exact H2_) | with_reducible exact H | (rw [hy295]; exact H) | exact H
        have Ny295 := Aside0.mk hy295
        clear hy295
        replace H := Option.bind_eq_some_iff.mp H
        obtain ⟨t298, A200, H⟩ := H
        replace H : ((strongboxref4_Bytes.f kj2 t298).bind fun t299 => (if y295.length + t299.length < 140737488355328 then (strongboxref4_Write.l0 kj2 l1 (y295 ++ t299) 0 a0_0 a0_1 a0_2 a0_3 a0_4 a0_5) else (none))) = some (r1, r2) := H
        have A20 := Aside0.mk A200
        clear A200
        replace H := Option.bind_eq_some_iff.mp H
        obtain ⟨t299, A210, H⟩ := H
        replace H : (if y295.length + t299.length < 140737488355328 then (strongboxref4_Write.l0 kj2 l1 (y295 ++ t299) 0 a0_0 a0_1 a0_2 a0_3 a0_4 a0_5) else (none)) = some (r1, r2) := H
        have A21 := Aside0.mk A210
        clear A210
        by_cases c22 : y295.length + t299.length < 140737488355328
        ·rw [if_pos c22] at H
         have LMc22 := Aside0.mk c22
         clear c22
         obtain ⟨y302, hy302⟩ : ∃ y_ : List Int, y_ = (y295 ++ t299) := ⟨_, rfl⟩
         replace H : (strongboxref4_Write.l0 kj2 l1 y302 0 a0_0 a0_1 a0_2 a0_3 a0_4 a0_5) = some (r1, r2) := by first | (rw [hy302]; with_reducible exact H) | (have H2_ := (Option.bind_some _ _).symm.trans H; rw [hy302]; with_reducible exact H2_) | (have H2_ := (Option.bind_some _ _).symm.trans H; with_reducible exact H2_) | with_reducible exact H | (rw [hy302]; exact H) | exact H
         have Ny302 := Aside0.mk hy302
         clear hy302
         have H' := Aside0.mk H
         clear H
         have kc_ : (convert 22 22 (.slice (some ⟨wc.heap.size, 0, none⟩) 4 4)).run Try.prog (wc.alloc (.cells #[.int .u8 83, .int .u8 66, .int .u8 88, .int .u8 49] 5)) = .ok (.slice (some ⟨wc.heap.size, 0, none⟩) 4 4) (wc.alloc (.cells #[.int .u8 83, .int .u8 66, .int .u8 88, .int .u8 49] 5 (4, 5))) := Lib.run_convert_bytes_const (P := Try.prog) wc 22 5 #[.int .u8 83, .int .u8 66, .int .u8 88, .int .u8 49] 4 4 Try.underlying22 Try.underlying5
         have hcz25_0 : (wc.alloc (.cells #[.int .u8 83, .int .u8 66, .int .u8 88, .int .u8 49] 5 (4, 5))).cell? ⟨gb269, 0, none⟩ = some (.int .i64 a0_0) := (blk_cell (blk_alloc BK269.out _) 0).trans rfl
         have hcz25_1 : (wc.alloc (.cells #[.int .u8 83, .int .u8 66, .int .u8 88, .int .u8 49] 5 (4, 5))).cell? ⟨gb269, 1, none⟩ = some (.int .i64 a0_1) := (blk_cell (blk_alloc BK269.out _) 1).trans rfl
         have hcz25_2 : (wc.alloc (.cells #[.int .u8 83, .int .u8 66, .int .u8 88, .int .u8 49] 5 (4, 5))).cell? ⟨gb269, 2, none⟩ = some (.int .i64 a0_2) := (blk_cell (blk_alloc BK269.out _) 2).trans rfl
         have hcz25_3 : (wc.alloc (.cells #[.int .u8 83, .int .u8 66, .int .u8 88, .int .u8 49] 5 (4, 5))).cell? ⟨gb269, 3, none⟩ = some (.int .i64 a0_3) := (blk_cell (blk_alloc BK269.out _) 3).trans rfl
         have hcz25_4 : (wc.alloc (.cells #[.int .u8 83, .int .u8 66, .int .u8 88, .int .u8 49] 5 (4, 5))).cell? ⟨gb269, 4, none⟩ = some (.int .i64 a0_4) := (blk_cell (blk_alloc BK269.out _) 4).trans rfl
         have hcz25_5 : (wc.alloc (.cells #[.int .u8 83, .int .u8 66, .int .u8 88, .int .u8 49] 5 (4, 5))).cell? ⟨gb269, 5, none⟩ = some (.int .i64 a0_5) := (blk_cell (blk_alloc BK269.out _) 5).trans rfl
         have hfz25_0 : (wc.alloc (.cells #[.int .u8 83, .int .u8 66, .int .u8 88, .int .u8 49] 5 (4, 5))).frozen? ⟨gb269, 0, none⟩ = false := blk_frozen (blk_alloc BK269.out _) 0
         have hfz25_1 : (wc.alloc (.cells #[.int .u8 83, .int .u8 66, .int .u8 88, .int .u8 49] 5 (4, 5))).frozen? ⟨gb269, 1, none⟩ = false := blk_frozen (blk_alloc BK269.out _) 1
         have hfz25_2 : (wc.alloc (.cells #[.int .u8 83, .int .u8 66, .int .u8 88, .int .u8 49] 5 (4, 5))).frozen? ⟨gb269, 2, none⟩ = false := blk_frozen (blk_alloc BK269.out _) 2
         have hfz25_3 : (wc.alloc (.cells #[.int .u8 83, .int .u8 66, .int .u8 88, .int .u8 49] 5 (4, 5))).frozen? ⟨gb269, 3, none⟩ = false := blk_frozen (blk_alloc BK269.out _) 3
         have hfz25_4 : (wc.alloc (.cells #[.int .u8 83, .int .u8 66, .int .u8 88, .int .u8 49] 5 (4, 5))).frozen? ⟨gb269, 4, none⟩ = false := blk_frozen (blk_alloc BK269.out _) 4
         have hfz25_5 : (wc.alloc (.cells #[.int .u8 83, .int .u8 66, .int .u8 88, .int .u8 49] 5 (4, 5))).frozen? ⟨gb269, 5, none⟩ = false := blk_frozen (blk_alloc BK269.out _) 5
         go_wp2_with (first | ((with_reducible refine gate_dst (N := 30) rfl ?_); (try (refine gate_guard (by rfl) ?_; dsimp only)); refine Kd.R_lit (Kd.int .u8) _ 5 ?hg (N := 30) ?hd (xs := ([(a0_0) % 256, (a0_1) % 256, (a0_2) % 256, 0] : List Int)) (inner := [.int .u8 ((a0_0) % 256), .int .u8 ((a0_1) % 256), .int .u8 ((a0_2) % 256), .int .u8 0]) (ok := fun _ => True) (okp := fun _ => True) ?hr ?hp (fun _ hk => hk) trivial (Below.refl _ _) (Nat.le_refl _) (by simp) ?_; (case hd => rfl); (case hg => rfl); (case hr => first | (go_simp; done) | (go_simp; rfl)); (case hp => exact (Reps.one (show Kd.M (Kd.int .u8) _ _ _ ((a0_0) % 256) [.int .u8 ((a0_0) % 256)] from rfl) (Reps.one (show Kd.M (Kd.int .u8) _ _ _ ((a0_1) % 256) [.int .u8 ((a0_1) % 256)] from rfl) (Reps.one (show Kd.M (Kd.int .u8) _ _ _ ((a0_2) % 256) [.int .u8 ((a0_2) % 256)] from rfl) (Reps.one (show Kd.M (Kd.int .u8) _ _ _ 0 [.int .u8 0] from rfl) (Reps.none _ _)))))); intro v275 w26 ho27 hb hg_ hnew_; clear hg_ hnew_; (first | rw [← Ny274.out] at ho27 | (simp only [Int.reduceToNat] at ho27; rw [← Ny274.out] at ho27)); have n0_ := Aside0.mk (Kd.C_below (Go.Proofs.Ytnlpipjdpmaggaa.More2.C_marked wc [83, 66, 88, 49] 5 (4, 5) (by decide)) hb); have n1_ := Aside0.mk (Kd.R_mono (ok' := fun _ => True) (Kd.R_lower ho27 (below_size (below_alloc HB.out (.cells #[.int .u8 83, .int .u8 66, .int .u8 88, .int .u8 49] 5 (4, 5))))) (fun _ _ => trivial)); have n2_ := Aside0.mk (blk_below (blk_alloc BK269.out _) hb); have n3_ := Aside0.mk (below_step (below_alloc HB.out (.cells #[.int .u8 83, .int .u8 66, .int .u8 88, .int .u8 49] 5 (4, 5))) hb); clear BK269; clear HB; have HCm_ := n0_; have HO276 := n1_; have BK269 := n2_; have HB := n3_; clear n0_ n1_ n2_ n3_; clear hb ho27; obtain ⟨Ao29, co29, eo29⟩ := Kd.R_slice HO276.out; subst eo29; have hlen_ : Aside0 (y274.length = 4) := ⟨by rw [Ny274.out]; rfl⟩) | ((with_reducible refine gate_builtin (b := .append) (xs := #[.tmp 20, .tmp 30]) rfl ?_); at_builtin; refine Go.Proofs.Ytnlpipjdpmaggaa.More2.append_markedO rfl (.tmp 20) (.tmp 30) 22 5 (.int .u8 0) 1 rfl Try.underlying22 info5 rfl ⟨wc.heap.size, 0, none⟩ 4 4 [83, 66, 88, 49] y274 Ao29 y274.length co29 rfl rfl HCm_.out (Kd.R_reads' HO276.out).2.2 (by rw [hlen_.out]; decide) (by rw [hlen_.out]; decide) (by rw [hlen_.out]; decide) (by rw [hlen_.out]; decide) ?_; intro v278 w28 ho hg; rw [← Ny271.out, ← Ny277.out] at ho; have hs_ := below_size HB.out; have n0_ := Aside0.mk (blk_grown BK269.out hg (by simp)); have n1_ := Aside0.mk (Kd.R_mono (ok' := fun k_ => True ∧ some k_ ≠ (v278 : Value).ownBlock) (Kd.R_after (ok := (fun _ => True)) (v := .slice none 0 0) (Kd.R_mono HO276.out (fun _ _ => ⟨trivial, by simp [Value.ownBlock]⟩)) hg ((Kd.R_base2 ho).imp (fun h_ => h_.trans rfl) (fun h_ => h_))) (fun _ h_ => h_)); have n2_ := Aside0.mk (HB.out.grown hg hs_ (fun k_ hk_ => by cases hk_)); have n3_ := Aside0.mk (Kd.R_reok (ok := (fun k_ => some k_ ≠ (.slice Ao29 y274.length co29 : Value).ownBlock)) rfl (Kd.R_lower ho hs_) (fun k_ hk_ e_ => absurd (Kd.R_lt HO276.out k_ e_.symm) (by have h_ := Kd.R_base ho k_ hk_; omega))); clear BK269; clear HO276; clear HB; clear HCm_; have BK269 := n0_; have HO276 := n1_; have HB := n2_; have HO279 := n3_; clear n0_ n1_ n2_ n3_; clear ho hg hs_ hlen_))
         have n0_ := Aside0.mk (Kd.R_drew HO276.out)
         have n1_ := Aside0.mk (Kd.R_drew HO279.out)
         have n2_ := Aside0.mk (blk_drew BK269.out)
         have n3_ := Aside0.mk (below_drew1 HB.out)
         clear HO276
         clear HO279
         clear BK269
         clear HB
         have HO276 := n0_
         have HO279 := n1_
         have BK269 := n2_
         have HB := n3_
         clear n0_ n1_ n2_ n3_
         refine start_ (n := 14) (S := fun w' => w'.cell? ⟨gb269, 0, none⟩ = some (.int .i64 a0_0) ∧ w'.cell? ⟨gb269, 1, none⟩ = some (.int .i64 a0_1) ∧ w'.cell? ⟨gb269, 2, none⟩ = some (.int .i64 a0_2) ∧ w'.cell? ⟨gb269, 3, none⟩ = some (.int .i64 a0_3) ∧ w'.cell? ⟨gb269, 4, none⟩ = some (.int .i64 a0_4) ∧ w'.cell? ⟨gb269, 5, none⟩ = some (.int .i64 a0_5)) (ds := []) #[false, false, false, false, false, false, false, false, false, false, false, false, false, false] (by kernel_rfl) rfl rfl ⟨(blk_cell BK269.out 0).trans rfl, (blk_cell BK269.out 1).trans rfl, (blk_cell BK269.out 2).trans rfl, (blk_cell BK269.out 3).trans rfl, (blk_cell BK269.out 4).trans rfl, (blk_cell BK269.out 5).trans rfl⟩ (fun hHeld => ?_); refine with_tabW strongboxref4_Write.tab4 strongboxref4_Write.bits4 (fun HT_ HW_ => ?_)
         generalize w28.drew = w30 at HO276 HO279 BK269 HB hHeld ⊢
         refine pure_ (i := 0) (N := some 32) (v := ?_) (a' := ?_) #[true, false, false, false, false, false, false, false, false, false, false, false, false, false] rfl rfl (any_of HT_.out (by kernel_rfl)) (fun _ _ _ h => h) (Or.inl ⟨by rfl, ?_⟩) ?_ ?_
         rotate_left
         ·intro w'
          go_simp
          with_reducible rfl
         rotate_left
         ·simp only [Act.put, List.setIfInBounds_toArray, List.set_cons_zero, List.set_cons_succ, i64_w, i32_w]
          rfl
         refine pure_ (i := 1) (N := some 33) (v := ?_) (a' := ?_) #[true, true, false, false, false, false, false, false, false, false, false, false, false, false] rfl rfl (any_of HT_.out (by kernel_rfl)) (fun _ _ _ h => h) (Or.inl ⟨by rfl, ?_⟩) ?_ ?_
         rotate_left
         ·intro w'
          go_simp
          with_reducible rfl
         rotate_left
         ·simp only [Act.put, List.setIfInBounds_toArray, List.set_cons_zero, List.set_cons_succ, i64_w, i32_w]
          rfl
         refine pure_ (i := 5) (N := some 37) (v := ?_) (a' := ?_) #[true, true, false, false, false, true, false, false, false, false, false, false, false, false] rfl rfl (any_of HT_.out (by kernel_rfl)) (fun _ _ _ h => h) (Or.inl ⟨by rfl, ?_⟩) ?_ ?_
         rotate_left
         ·intro w'
          go_simp
          with_reducible rfl
         rotate_left
         ·simp only [Act.put, List.setIfInBounds_toArray, List.set_cons_zero, List.set_cons_succ, i64_w, i32_w]
          rfl
         refine pure_ (i := 9) (N := some 41) (v := ?_) (a' := ?_) #[true, true, false, false, false, true, false, false, false, true, false, false, false, false] rfl rfl (any_of HT_.out (by kernel_rfl)) (fun _ _ _ h => h) (Or.inl ⟨by rfl, ?_⟩) ?_ ?_
         rotate_left
         ·intro w'
          go_simp
          with_reducible rfl
         rotate_left
         ·simp only [Act.put, List.setIfInBounds_toArray, List.set_cons_zero, List.set_cons_succ, i64_w, i32_w]
          rfl
         refine take_ (i := 2) (N := some 34) (v := ?_) (a' := ?_) #[true, true, true, false, false, true, false, false, false, true, false, false, false, false] rfl rfl (take_ofW HT_.out HW_.out (by kernel_rfl)) (fun _ _ _ h => h) (Or.inl ⟨by rfl, ?_⟩) hHeld ?_ ?_
         rotate_left
         ·rintro w' ⟨s0, s1, s2, s3, s4, s5⟩
          go_simp
          with_reducible rfl
         rotate_left
         ·simp only [Act.put, List.setIfInBounds_toArray, List.set_cons_zero, List.set_cons_succ, i64_w, i32_w]
          rfl
         refine take_ (i := 6) (N := some 38) (v := ?_) (a' := ?_) #[true, true, true, false, false, true, true, false, false, true, false, false, false, false] rfl rfl (take_ofW HT_.out HW_.out (by kernel_rfl)) (fun _ _ _ h => h) (Or.inl ⟨by rfl, ?_⟩) hHeld ?_ ?_
         rotate_left
         ·rintro w' ⟨s0, s1, s2, s3, s4, s5⟩
          go_simp
          with_reducible rfl
         rotate_left
         ·simp only [Act.put, List.setIfInBounds_toArray, List.set_cons_zero, List.set_cons_succ, i64_w, i32_w]
          rfl
         refine take_ (i := 10) (N := some 42) (v := ?_) (a' := ?_) #[true, true, true, false, false, true, true, false, false, true, true, false, false, false] rfl rfl (take_ofW HT_.out HW_.out (by kernel_rfl)) (fun _ _ _ h => h) (Or.inl ⟨by rfl, ?_⟩) hHeld ?_ ?_
         rotate_left
         ·rintro w' ⟨s0, s1, s2, s3, s4, s5⟩
          go_simp
          with_reducible rfl
         rotate_left
         ·simp only [Act.put, List.setIfInBounds_toArray, List.set_cons_zero, List.set_cons_succ, i64_w, i32_w]
          rfl
         refine one_ (i := 3) (N := some 35) #[true, true, true, true, false, true, true, false, false, true, true, false, false, false] rfl rfl (one_of HT_.out (by kernel_rfl)) (by decide) (fun K hK => ?_)
         refine goes_ Try.func51 (by kernel_rfl) rfl #[.int .i64 a0_3, .int .i64 4] (by rfl) rfl rfl (by (try simp only [List.map_toArray, List.map_cons, List.map_nil]); first | done | rfl | (simp only [List.length_drop, List.length_take]; rfl)) ?_
         with_reducible refine (strongboxref4_little.calls kj2 a0_3 4 t280 _ A14.out).mono ?_
         rintro e w31 ⟨v281, rfl, ho0, hb⟩
         refine ⟨_, rfl, ?_⟩
         have n0_ := Aside0.mk (Kd.R_elder' (by (with_reducible repeat (first | apply Kd.R_alloc | apply Kd.R_drewN | apply Kd.R_drew)); exact HO276.out) (Kd.R_base ho0) hb)
         have n1_ := Aside0.mk (Kd.R_elder' (by (with_reducible repeat (first | apply Kd.R_alloc | apply Kd.R_drewN | apply Kd.R_drew)); exact HO279.out) (Kd.R_base ho0) hb)
         have n2_ := Aside0.mk (Kd.R_lower (Kd.R_new' (Kd.R_new' ho0 (Kd.R_lt (by (with_reducible repeat (first | apply Kd.R_alloc | apply Kd.R_drewN | apply Kd.R_drew)); exact HO276.out))) (Kd.R_lt (by (with_reducible repeat (first | apply Kd.R_alloc | apply Kd.R_drewN | apply Kd.R_drew)); exact HO279.out))) (below_size (by repeat (first | (with_reducible first | exact HB.out | apply below_alloc | apply pw_below_drewN | apply below_drew1 | refine below_set ?_ GE269.out) | exact HB.out))))
         have n3_ := Aside0.mk (blk_below (g := gb269) (o := .cells #[.int .i64 a0_0, .int .i64 a0_1, .int .i64 a0_2, .int .i64 a0_3, .int .i64 a0_4, .int .i64 a0_5] 27 (0, 0)) (by (with_reducible repeat (first | refine blk_drewN ?_ _ | refine blk_drew ?_ | refine blk_alloc ?_ _)); exact BK269.out) hb)
         have n4_ := Aside0.mk (below_step (by repeat (first | (with_reducible first | exact HB.out | apply below_alloc | apply pw_below_drewN | apply below_drew1 | refine below_set ?_ GE269.out) | exact HB.out)) hb)
         clear HO276
         clear HO279
         clear BK269
         clear HB
         have HO276 := n0_
         have HO279 := n1_
         have HO282 := n2_
         have BK269 := n3_
         have HB := n4_
         clear n0_ n1_ n2_ n3_ n4_
         (try clear hb)
         (try clear hb2)
         (try clear hk)
         (try clear hi)
         (try clear ho0)
         obtain ⟨Ao33, co33, eo33⟩ := Kd.R_slice HO282.out
         (first | subst eo33 | (injection eo33 with f1_ f2_ f3_; have f4_ := f1_.symm; have f5_ := f3_.symm; clear f1_ f2_ f3_; subst f4_; subst f5_))
         refine hK.out _ _ ⟨(blk_cell BK269.out 0).trans rfl, (blk_cell BK269.out 1).trans rfl, (blk_cell BK269.out 2).trans rfl, (blk_cell BK269.out 3).trans rfl, (blk_cell BK269.out 4).trans rfl, (blk_cell BK269.out 5).trans rfl⟩ (fun hHeld => ?_)
         clear hK K
         refine norm_ (a' := ?_) ?_ ?_
         rotate_left
         ·show Act.put _ (some 35) _ = _
          simp only [Act.put, List.setIfInBounds_toArray, List.set_cons_zero, List.set_cons_succ, i64_w, i32_w]
          rfl
         refine one_ (i := 4) (N := some 36) #[true, true, true, true, true, true, true, false, false, true, true, false, false, false] rfl rfl (one_of HT_.out (by kernel_rfl)) (by decide) (fun K hK => ?_)
         refine Kd.R_append_rows_step (Kd.int .u8) (w0 := w) w.heap.size (by rfl) (.tmp 32) (.tmp 35) 22 5 (.int .u8 0) 1 rfl Try.underlying22 info5 rfl (by decide) (by omega) v278 y277 t280 _ _ _ (fun k_ => some k_ ≠ (.slice Ao29 y274.length co29 : Value).ownBlock ∧ some k_ ≠ (.slice Ao33 t280.length co33 : Value).ownBlock) (fun _ => False) rfl rfl ?aO ?aR (fun _ _ h => h) (fun _ h => h.elim) ?aF ?aB ?aS ?aL ?_
         (case aR => repeat (first | exact (Kd.R_reads' HO282.out).2.2 | (with_reducible refine Kd.C_alloc ?_ _) | (with_reducible refine Kd.C_drewN ?_ _) | (with_reducible refine Kd.C_drew ?_)))
         (case aB => exact (by repeat (first | (with_reducible first | exact HB.out | apply below_alloc | apply pw_below_drewN | apply below_drew1 | refine below_set ?_ GE269.out) | exact HB.out)))
         (case aF => exact (fun k_ hk => ⟨Kd.fresh' (Kd.R_lt (by (with_reducible repeat (first | apply Kd.R_alloc | apply Kd.R_drewN | apply Kd.R_drew)); exact HO276.out)) k_ hk, Kd.fresh' (Kd.R_lt (by (with_reducible repeat (first | apply Kd.R_alloc | apply Kd.R_drewN | apply Kd.R_drew)); exact HO282.out)) k_ hk⟩))
         (case aO => exact (by (with_reducible repeat (first | apply Kd.R_alloc | apply Kd.R_drewN | apply Kd.R_drew)); exact HO279.out))
         (case aS => exact (below_size (by repeat (first | (with_reducible first | exact HB.out | apply below_alloc | apply pw_below_drewN | apply below_drew1 | refine below_set ?_ GE269.out) | exact HB.out))))
         (case aL => have := LMc15.out; omega)
         intro v284 w32 ho hb hg hat
         rw [← Ny283.out] at ho
         have n0_ := Aside0.mk (blk_grown (g := gb269) (o := .cells #[.int .i64 a0_0, .int .i64 a0_1, .int .i64 a0_2, .int .i64 a0_3, .int .i64 a0_4, .int .i64 a0_5] 27 (0, 0)) (by (with_reducible repeat (first | refine blk_drewN ?_ _ | refine blk_drew ?_ | refine blk_alloc ?_ _)); exact BK269.out) hg (Kd.R_ne HO279.out BK269.out (by decide)))
         have n1_ := Aside0.mk (Kd.R_after (ok := (fun k_ => some k_ ≠ (.slice Ao33 t280.length co33 : Value).ownBlock)) (by (with_reducible repeat (first | apply Kd.R_alloc | apply Kd.R_drewN | apply Kd.R_drew)); exact Kd.R_mono HO276.out (fun _ hk => ⟨hk.2, hk.1.2⟩)) hg hat)
         have n2_ := Aside0.mk (Kd.R_after (ok := (fun k_ => some k_ ≠ (.slice Ao29 y274.length co29 : Value).ownBlock)) (by (with_reducible repeat (first | apply Kd.R_alloc | apply Kd.R_drewN | apply Kd.R_drew)); exact Kd.R_mono HO282.out (fun _ hk => ⟨hk.1.2, hk.2⟩)) hg hat)
         have n3_ := Aside0.mk (hb)
         have n4_ := Aside0.mk (ho)
         clear BK269
         clear HO276
         clear HO282
         clear HB
         clear HO279
         have BK269 := n0_
         have HO276 := n1_
         have HO282 := n2_
         have HB := n3_
         have HO285 := n4_
         clear n0_ n1_ n2_ n3_ n4_
         clear ho hb hg hat
         refine hK.out _ _ ⟨(blk_cell BK269.out 0).trans rfl, (blk_cell BK269.out 1).trans rfl, (blk_cell BK269.out 2).trans rfl, (blk_cell BK269.out 3).trans rfl, (blk_cell BK269.out 4).trans rfl, (blk_cell BK269.out 5).trans rfl⟩ (fun hHeld => ?_)
         clear hK K
         refine norm_ (a' := ?_) ?_ ?_
         rotate_left
         ·show Act.put _ (some 36) _ = _
          simp only [Act.put, List.setIfInBounds_toArray, List.set_cons_zero, List.set_cons_succ, i64_w, i32_w]
          rfl
         refine one_ (i := 7) (N := some 39) #[true, true, true, true, true, true, true, true, false, true, true, false, false, false] rfl rfl (one_of HT_.out (by kernel_rfl)) (by decide) (fun K hK => ?_)
         refine goes_ Try.func51 (by kernel_rfl) rfl #[.int .i64 a0_4, .int .i64 4] (by rfl) rfl rfl (by (try simp only [List.map_toArray, List.map_cons, List.map_nil]); first | done | rfl | (simp only [List.length_drop, List.length_take]; rfl)) ?_
         with_reducible refine (strongboxref4_little.calls kj2 a0_4 4 t286 _ A16.out).mono ?_
         rintro e w34 ⟨v287, rfl, ho0, hb⟩
         refine ⟨_, rfl, ?_⟩
         have n0_ := Aside0.mk (Kd.R_elder' (by (with_reducible repeat (first | apply Kd.R_alloc | apply Kd.R_drewN | apply Kd.R_drew)); exact HO276.out) (Kd.R_base ho0) hb)
         have n1_ := Aside0.mk (Kd.R_elder' (by (with_reducible repeat (first | apply Kd.R_alloc | apply Kd.R_drewN | apply Kd.R_drew)); exact HO282.out) (Kd.R_base ho0) hb)
         have n2_ := Aside0.mk (Kd.R_elder' (by (with_reducible repeat (first | apply Kd.R_alloc | apply Kd.R_drewN | apply Kd.R_drew)); exact HO285.out) (Kd.R_base ho0) hb)
         have n3_ := Aside0.mk (Kd.R_lower (Kd.R_new' (Kd.R_new' (Kd.R_new' ho0 (Kd.R_lt (by (with_reducible repeat (first | apply Kd.R_alloc | apply Kd.R_drewN | apply Kd.R_drew)); exact HO276.out))) (Kd.R_lt (by (with_reducible repeat (first | apply Kd.R_alloc | apply Kd.R_drewN | apply Kd.R_drew)); exact HO282.out))) (Kd.R_lt (by (with_reducible repeat (first | apply Kd.R_alloc | apply Kd.R_drewN | apply Kd.R_drew)); exact HO285.out))) (below_size (by repeat (first | (with_reducible first | exact HB.out | apply below_alloc | apply pw_below_drewN | apply below_drew1 | refine below_set ?_ GE269.out) | exact HB.out))))
         have n4_ := Aside0.mk (blk_below (g := gb269) (o := .cells #[.int .i64 a0_0, .int .i64 a0_1, .int .i64 a0_2, .int .i64 a0_3, .int .i64 a0_4, .int .i64 a0_5] 27 (0, 0)) (by (with_reducible repeat (first | refine blk_drewN ?_ _ | refine blk_drew ?_ | refine blk_alloc ?_ _)); exact BK269.out) hb)
         have n5_ := Aside0.mk (below_step (by repeat (first | (with_reducible first | exact HB.out | apply below_alloc | apply pw_below_drewN | apply below_drew1 | refine below_set ?_ GE269.out) | exact HB.out)) hb)
         clear HO276
         clear HO282
         clear HO285
         clear BK269
         clear HB
         have HO276 := n0_
         have HO282 := n1_
         have HO285 := n2_
         have HO288 := n3_
         have BK269 := n4_
         have HB := n5_
         clear n0_ n1_ n2_ n3_ n4_ n5_
         (try clear hb)
         (try clear hb2)
         (try clear hk)
         (try clear hi)
         (try clear ho0)
         obtain ⟨Ao36, co36, eo36⟩ := Kd.R_slice HO288.out
         (first | subst eo36 | (injection eo36 with f1_ f2_ f3_; have f4_ := f1_.symm; have f5_ := f3_.symm; clear f1_ f2_ f3_; subst f4_; subst f5_))
         refine hK.out _ _ ⟨(blk_cell BK269.out 0).trans rfl, (blk_cell BK269.out 1).trans rfl, (blk_cell BK269.out 2).trans rfl, (blk_cell BK269.out 3).trans rfl, (blk_cell BK269.out 4).trans rfl, (blk_cell BK269.out 5).trans rfl⟩ (fun hHeld => ?_)
         clear hK K
         refine norm_ (a' := ?_) ?_ ?_
         rotate_left
         ·show Act.put _ (some 39) _ = _
          simp only [Act.put, List.setIfInBounds_toArray, List.set_cons_zero, List.set_cons_succ, i64_w, i32_w]
          rfl
         refine one_ (i := 8) (N := some 40) #[true, true, true, true, true, true, true, true, true, true, true, false, false, false] rfl rfl (one_of HT_.out (by kernel_rfl)) (by decide) (fun K hK => ?_)
         refine Kd.R_append_rows_step (Kd.int .u8) (w0 := w) w.heap.size (by rfl) (.tmp 36) (.tmp 39) 22 5 (.int .u8 0) 1 rfl Try.underlying22 info5 rfl (by decide) (by omega) v284 y283 t286 _ _ _ (fun k_ => some k_ ≠ (.slice Ao29 y274.length co29 : Value).ownBlock ∧ some k_ ≠ (.slice Ao33 t280.length co33 : Value).ownBlock ∧ some k_ ≠ (.slice Ao36 t286.length co36 : Value).ownBlock) (fun _ => False) rfl rfl ?aO ?aR (fun _ _ h => h) (fun _ h => h.elim) ?aF ?aB ?aS ?aL ?_
         (case aR => repeat (first | exact (Kd.R_reads' HO288.out).2.2 | (with_reducible refine Kd.C_alloc ?_ _) | (with_reducible refine Kd.C_drewN ?_ _) | (with_reducible refine Kd.C_drew ?_)))
         (case aB => exact (by repeat (first | (with_reducible first | exact HB.out | apply below_alloc | apply pw_below_drewN | apply below_drew1 | refine below_set ?_ GE269.out) | exact HB.out)))
         (case aF => exact (fun k_ hk => ⟨Kd.fresh' (Kd.R_lt (by (with_reducible repeat (first | apply Kd.R_alloc | apply Kd.R_drewN | apply Kd.R_drew)); exact HO276.out)) k_ hk, Kd.fresh' (Kd.R_lt (by (with_reducible repeat (first | apply Kd.R_alloc | apply Kd.R_drewN | apply Kd.R_drew)); exact HO282.out)) k_ hk, Kd.fresh' (Kd.R_lt (by (with_reducible repeat (first | apply Kd.R_alloc | apply Kd.R_drewN | apply Kd.R_drew)); exact HO288.out)) k_ hk⟩))
         (case aO => exact (by (with_reducible repeat (first | apply Kd.R_alloc | apply Kd.R_drewN | apply Kd.R_drew)); exact Kd.R_mono HO285.out (fun _ hk => ⟨hk.1.1, ⟨hk.1.2, hk.2⟩⟩)))
         (case aS => exact (below_size (by repeat (first | (with_reducible first | exact HB.out | apply below_alloc | apply pw_below_drewN | apply below_drew1 | refine below_set ?_ GE269.out) | exact HB.out))))
         (case aL => have := LMc17.out; omega)
         intro v290 w35 ho hb hg hat
         rw [← Ny289.out] at ho
         have n0_ := Aside0.mk (blk_grown (g := gb269) (o := .cells #[.int .i64 a0_0, .int .i64 a0_1, .int .i64 a0_2, .int .i64 a0_3, .int .i64 a0_4, .int .i64 a0_5] 27 (0, 0)) (by (with_reducible repeat (first | refine blk_drewN ?_ _ | refine blk_drew ?_ | refine blk_alloc ?_ _)); exact BK269.out) hg (Kd.R_ne HO285.out BK269.out (by decide)))
         have n1_ := Aside0.mk (Kd.R_after (ok := (fun k_ => some k_ ≠ (.slice Ao33 t280.length co33 : Value).ownBlock ∧ some k_ ≠ (.slice Ao36 t286.length co36 : Value).ownBlock)) (by (with_reducible repeat (first | apply Kd.R_alloc | apply Kd.R_drewN | apply Kd.R_drew)); exact Kd.R_mono HO276.out (fun _ hk => ⟨⟨hk.1.1, hk.2⟩, hk.1.2⟩)) hg hat)
         have n2_ := Aside0.mk (Kd.R_after (ok := (fun k_ => some k_ ≠ (.slice Ao29 y274.length co29 : Value).ownBlock ∧ some k_ ≠ (.slice Ao36 t286.length co36 : Value).ownBlock)) (by (with_reducible repeat (first | apply Kd.R_alloc | apply Kd.R_drewN | apply Kd.R_drew)); exact Kd.R_mono HO282.out (fun _ hk => ⟨⟨hk.1.1, hk.2⟩, hk.1.2⟩)) hg hat)
         have n3_ := Aside0.mk (Kd.R_after (ok := (fun k_ => some k_ ≠ (.slice Ao29 y274.length co29 : Value).ownBlock ∧ some k_ ≠ (.slice Ao33 t280.length co33 : Value).ownBlock)) (by (with_reducible repeat (first | apply Kd.R_alloc | apply Kd.R_drewN | apply Kd.R_drew)); exact Kd.R_mono HO288.out (fun _ hk => ⟨⟨hk.1.1.2, hk.1.2⟩, hk.2⟩)) hg hat)
         have n4_ := Aside0.mk (hb)
         have n5_ := Aside0.mk (ho)
         clear BK269
         clear HO276
         clear HO282
         clear HO288
         clear HB
         clear HO285
         have BK269 := n0_
         have HO276 := n1_
         have HO282 := n2_
         have HO288 := n3_
         have HB := n4_
         have HO291 := n5_
         clear n0_ n1_ n2_ n3_ n4_ n5_
         clear ho hb hg hat
         refine hK.out _ _ ⟨(blk_cell BK269.out 0).trans rfl, (blk_cell BK269.out 1).trans rfl, (blk_cell BK269.out 2).trans rfl, (blk_cell BK269.out 3).trans rfl, (blk_cell BK269.out 4).trans rfl, (blk_cell BK269.out 5).trans rfl⟩ (fun hHeld => ?_)
         clear hK K
         refine norm_ (a' := ?_) ?_ ?_
         rotate_left
         ·show Act.put _ (some 40) _ = _
          simp only [Act.put, List.setIfInBounds_toArray, List.set_cons_zero, List.set_cons_succ, i64_w, i32_w]
          rfl
         refine one_ (i := 11) (N := some 43) #[true, true, true, true, true, true, true, true, true, true, true, true, false, false] rfl rfl (one_of HT_.out (by kernel_rfl)) (by decide) (fun K hK => ?_)
         refine goes_ Try.func51 (by kernel_rfl) rfl #[.int .i64 a0_5, .int .i64 4] (by rfl) rfl rfl (by (try simp only [List.map_toArray, List.map_cons, List.map_nil]); first | done | rfl | (simp only [List.length_drop, List.length_take]; rfl)) ?_
         with_reducible refine (strongboxref4_little.calls kj2 a0_5 4 t292 _ A18.out).mono ?_
         rintro e w37 ⟨v293, rfl, ho0, hb⟩
         refine ⟨_, rfl, ?_⟩
         have n0_ := Aside0.mk (Kd.R_elder' (by (with_reducible repeat (first | apply Kd.R_alloc | apply Kd.R_drewN | apply Kd.R_drew)); exact HO276.out) (Kd.R_base ho0) hb)
         have n1_ := Aside0.mk (Kd.R_elder' (by (with_reducible repeat (first | apply Kd.R_alloc | apply Kd.R_drewN | apply Kd.R_drew)); exact HO282.out) (Kd.R_base ho0) hb)
         have n2_ := Aside0.mk (Kd.R_elder' (by (with_reducible repeat (first | apply Kd.R_alloc | apply Kd.R_drewN | apply Kd.R_drew)); exact HO288.out) (Kd.R_base ho0) hb)
         have n3_ := Aside0.mk (Kd.R_elder' (by (with_reducible repeat (first | apply Kd.R_alloc | apply Kd.R_drewN | apply Kd.R_drew)); exact HO291.out) (Kd.R_base ho0) hb)
         have n4_ := Aside0.mk (Kd.R_lower (Kd.R_new' (Kd.R_new' (Kd.R_new' (Kd.R_new' ho0 (Kd.R_lt (by (with_reducible repeat (first | apply Kd.R_alloc | apply Kd.R_drewN | apply Kd.R_drew)); exact HO276.out))) (Kd.R_lt (by (with_reducible repeat (first | apply Kd.R_alloc | apply Kd.R_drewN | apply Kd.R_drew)); exact HO282.out))) (Kd.R_lt (by (with_reducible repeat (first | apply Kd.R_alloc | apply Kd.R_drewN | apply Kd.R_drew)); exact HO288.out))) (Kd.R_lt (by (with_reducible repeat (first | apply Kd.R_alloc | apply Kd.R_drewN | apply Kd.R_drew)); exact HO291.out))) (below_size (by repeat (first | (with_reducible first | exact HB.out | apply below_alloc | apply pw_below_drewN | apply below_drew1 | refine below_set ?_ GE269.out) | exact HB.out))))
         have n5_ := Aside0.mk (blk_below (g := gb269) (o := .cells #[.int .i64 a0_0, .int .i64 a0_1, .int .i64 a0_2, .int .i64 a0_3, .int .i64 a0_4, .int .i64 a0_5] 27 (0, 0)) (by (with_reducible repeat (first | refine blk_drewN ?_ _ | refine blk_drew ?_ | refine blk_alloc ?_ _)); exact BK269.out) hb)
         have n6_ := Aside0.mk (below_step (by repeat (first | (with_reducible first | exact HB.out | apply below_alloc | apply pw_below_drewN | apply below_drew1 | refine below_set ?_ GE269.out) | exact HB.out)) hb)
         clear HO276
         clear HO282
         clear HO288
         clear HO291
         clear BK269
         clear HB
         have HO276 := n0_
         have HO282 := n1_
         have HO288 := n2_
         have HO291 := n3_
         have HO294 := n4_
         have BK269 := n5_
         have HB := n6_
         clear n0_ n1_ n2_ n3_ n4_ n5_ n6_
         (try clear hb)
         (try clear hb2)
         (try clear hk)
         (try clear hi)
         (try clear ho0)
         obtain ⟨Ao39, co39, eo39⟩ := Kd.R_slice HO294.out
         (first | subst eo39 | (injection eo39 with f1_ f2_ f3_; have f4_ := f1_.symm; have f5_ := f3_.symm; clear f1_ f2_ f3_; subst f4_; subst f5_))
         refine hK.out _ _ ⟨(blk_cell BK269.out 0).trans rfl, (blk_cell BK269.out 1).trans rfl, (blk_cell BK269.out 2).trans rfl, (blk_cell BK269.out 3).trans rfl, (blk_cell BK269.out 4).trans rfl, (blk_cell BK269.out 5).trans rfl⟩ (fun hHeld => ?_)
         clear hK K
         refine norm_ (a' := ?_) ?_ ?_
         rotate_left
         ·show Act.put _ (some 43) _ = _
          simp only [Act.put, List.setIfInBounds_toArray, List.set_cons_zero, List.set_cons_succ, i64_w, i32_w]
          rfl
         refine one_ (i := 12) (N := some 44) #[true, true, true, true, true, true, true, true, true, true, true, true, true, false] rfl rfl (one_of HT_.out (by kernel_rfl)) (by decide) (fun K hK => ?_)
         refine Kd.R_append_rows_step (Kd.int .u8) (w0 := w) w.heap.size (by rfl) (.tmp 40) (.tmp 43) 22 5 (.int .u8 0) 1 rfl Try.underlying22 info5 rfl (by decide) (by omega) v290 y289 t292 _ _ _ (fun k_ => some k_ ≠ (.slice Ao29 y274.length co29 : Value).ownBlock ∧ some k_ ≠ (.slice Ao33 t280.length co33 : Value).ownBlock ∧ some k_ ≠ (.slice Ao36 t286.length co36 : Value).ownBlock ∧ some k_ ≠ (.slice Ao39 t292.length co39 : Value).ownBlock) (fun _ => False) rfl rfl ?aO ?aR (fun _ _ h => h) (fun _ h => h.elim) ?aF ?aB ?aS ?aL ?_
         (case aR => repeat (first | exact (Kd.R_reads' HO294.out).2.2 | (with_reducible refine Kd.C_alloc ?_ _) | (with_reducible refine Kd.C_drewN ?_ _) | (with_reducible refine Kd.C_drew ?_)))
         (case aB => exact (by repeat (first | (with_reducible first | exact HB.out | apply below_alloc | apply pw_below_drewN | apply below_drew1 | refine below_set ?_ GE269.out) | exact HB.out)))
         (case aF => exact (fun k_ hk => ⟨Kd.fresh' (Kd.R_lt (by (with_reducible repeat (first | apply Kd.R_alloc | apply Kd.R_drewN | apply Kd.R_drew)); exact HO276.out)) k_ hk, Kd.fresh' (Kd.R_lt (by (with_reducible repeat (first | apply Kd.R_alloc | apply Kd.R_drewN | apply Kd.R_drew)); exact HO282.out)) k_ hk, Kd.fresh' (Kd.R_lt (by (with_reducible repeat (first | apply Kd.R_alloc | apply Kd.R_drewN | apply Kd.R_drew)); exact HO288.out)) k_ hk, Kd.fresh' (Kd.R_lt (by (with_reducible repeat (first | apply Kd.R_alloc | apply Kd.R_drewN | apply Kd.R_drew)); exact HO294.out)) k_ hk⟩))
         (case aO => exact (by (with_reducible repeat (first | apply Kd.R_alloc | apply Kd.R_drewN | apply Kd.R_drew)); exact Kd.R_mono HO291.out (fun _ hk => ⟨hk.1.1, ⟨hk.1.2.1, ⟨hk.1.2.2, hk.2⟩⟩⟩)))
         (case aS => exact (below_size (by repeat (first | (with_reducible first | exact HB.out | apply below_alloc | apply pw_below_drewN | apply below_drew1 | refine below_set ?_ GE269.out) | exact HB.out))))
         (case aL => have := LMc19.out; omega)
         intro v296 w38 ho hb hg hat
         rw [← Ny295.out] at ho
         have n0_ := Aside0.mk (blk_grown (g := gb269) (o := .cells #[.int .i64 a0_0, .int .i64 a0_1, .int .i64 a0_2, .int .i64 a0_3, .int .i64 a0_4, .int .i64 a0_5] 27 (0, 0)) (by (with_reducible repeat (first | refine blk_drewN ?_ _ | refine blk_drew ?_ | refine blk_alloc ?_ _)); exact BK269.out) hg (Kd.R_ne HO291.out BK269.out (by decide)))
         have n1_ := Aside0.mk (Kd.R_after (ok := (fun k_ => some k_ ≠ (.slice Ao33 t280.length co33 : Value).ownBlock ∧ some k_ ≠ (.slice Ao36 t286.length co36 : Value).ownBlock ∧ some k_ ≠ (.slice Ao39 t292.length co39 : Value).ownBlock)) (by (with_reducible repeat (first | apply Kd.R_alloc | apply Kd.R_drewN | apply Kd.R_drew)); exact Kd.R_mono HO276.out (fun _ hk => ⟨⟨hk.1.1.1, ⟨hk.1.1.2, hk.2⟩⟩, hk.1.2⟩)) hg hat)
         have n2_ := Aside0.mk (Kd.R_after (ok := (fun k_ => some k_ ≠ (.slice Ao29 y274.length co29 : Value).ownBlock ∧ some k_ ≠ (.slice Ao36 t286.length co36 : Value).ownBlock ∧ some k_ ≠ (.slice Ao39 t292.length co39 : Value).ownBlock)) (by (with_reducible repeat (first | apply Kd.R_alloc | apply Kd.R_drewN | apply Kd.R_drew)); exact Kd.R_mono HO282.out (fun _ hk => ⟨⟨hk.1.1.1, ⟨hk.1.1.2, hk.2⟩⟩, hk.1.2⟩)) hg hat)
         have n3_ := Aside0.mk (Kd.R_after (ok := (fun k_ => some k_ ≠ (.slice Ao29 y274.length co29 : Value).ownBlock ∧ some k_ ≠ (.slice Ao33 t280.length co33 : Value).ownBlock ∧ some k_ ≠ (.slice Ao39 t292.length co39 : Value).ownBlock)) (by (with_reducible repeat (first | apply Kd.R_alloc | apply Kd.R_drewN | apply Kd.R_drew)); exact Kd.R_mono HO288.out (fun _ hk => ⟨⟨hk.1.1.1, ⟨hk.1.1.2, hk.2⟩⟩, hk.1.2⟩)) hg hat)
         have n4_ := Aside0.mk (Kd.R_after (ok := (fun k_ => some k_ ≠ (.slice Ao29 y274.length co29 : Value).ownBlock ∧ some k_ ≠ (.slice Ao33 t280.length co33 : Value).ownBlock ∧ some k_ ≠ (.slice Ao36 t286.length co36 : Value).ownBlock)) (by (with_reducible repeat (first | apply Kd.R_alloc | apply Kd.R_drewN | apply Kd.R_drew)); exact Kd.R_mono HO294.out (fun _ hk => ⟨⟨hk.1.1.1.2, ⟨hk.1.1.2, hk.1.2⟩⟩, hk.2⟩)) hg hat)
         have n5_ := Aside0.mk (hb)
         have n6_ := Aside0.mk (ho)
         clear BK269
         clear HO276
         clear HO282
         clear HO288
         clear HO294
         clear HB
         clear HO291
         have BK269 := n0_
         have HO276 := n1_
         have HO282 := n2_
         have HO288 := n3_
         have HO294 := n4_
         have HB := n5_
         have HO297 := n6_
         clear n0_ n1_ n2_ n3_ n4_ n5_ n6_
         clear ho hb hg hat
         refine hK.out _ _ ⟨(blk_cell BK269.out 0).trans rfl, (blk_cell BK269.out 1).trans rfl, (blk_cell BK269.out 2).trans rfl, (blk_cell BK269.out 3).trans rfl, (blk_cell BK269.out 4).trans rfl, (blk_cell BK269.out 5).trans rfl⟩ (fun hHeld => ?_)
         clear hK K
         refine norm_ (a' := ?_) ?_ ?_
         rotate_left
         ·show Act.put _ (some 44) _ = _
          simp only [Act.put, List.setIfInBounds_toArray, List.set_cons_zero, List.set_cons_succ, i64_w, i32_w]
          rfl
         refine pure_ (i := 13) (N := some 6) (v := ?_) (a' := ?_) #[true, true, true, true, true, true, true, true, true, true, true, true, true, true] rfl rfl (any_of HT_.out (by kernel_rfl)) (fun _ _ _ h => h) (Or.inl ⟨by rfl, ?_⟩) ?_ ?_
         rotate_left
         ·intro w'
          go_simp
          with_reducible rfl
         rotate_left
         ·simp only [Act.put, List.setIfInBounds_toArray, List.set_cons_zero, List.set_cons_succ, i64_w, i32_w]
          rfl
         refine done_ (done_of HT_.out (by kernel_rfl)) ?_
         obtain ⟨Ao40, co40, eo40⟩ := Kd.R_slice HO297.out
         subst eo40
         try go_wp2_with (first | ((with_reducible refine gate_callee (f := 20) rfl ?_); refine goesL_ (some 47) rfl rfl Try.func20 (by kernel_rfl) rfl #[.slice Ao40 y295.length co40] rfl (by (try simp only [List.map_toArray, List.map_cons, List.map_nil]); first | done | rfl | (simp only [List.length_drop, List.length_take]; rfl)) ?_; (with_reducible refine (strongboxref4_Sum.calls kj2 _ _ y295 t298 _ ?side1 ?side2 A20.out).mono ?_); (case side1 => repeat (first | exact (Kd.R_reads' HO297.out).2.2 | (with_reducible refine Kd.C_alloc ?_ _) | (with_reducible refine Kd.C_drewN ?_ _) | (with_reducible refine Kd.C_drew ?_))); (case side2 => exact (Kd.R_reads' HO297.out).2.1); rintro e w' ⟨rfl, ⟨nd, rfl⟩⟩; refine ⟨_, rfl, ?_⟩) | ((with_reducible refine gate_callee (f := 19) rfl ?_); refine goesL_ (some 48) rfl rfl Try.func19 (by kernel_rfl) rfl #[.int .u32 t298] rfl (by (try simp only [List.map_toArray, List.map_cons, List.map_nil]); first | done | rfl | (simp only [List.length_drop, List.length_take]; rfl)) ?_; (with_reducible refine (strongboxref4_Bytes.calls kj2 t298 t299 _ A21.out).mono ?_); rintro e w41 ⟨v300, rfl, ho0, hb⟩; refine ⟨_, rfl, ?_⟩; have n0_ := Aside0.mk (Kd.R_elder' (by (with_reducible repeat (first | apply Kd.R_alloc | apply Kd.R_drewN | apply Kd.R_drew)); exact HO276.out) (Kd.R_base ho0) hb); have n1_ := Aside0.mk (Kd.R_elder' (by (with_reducible repeat (first | apply Kd.R_alloc | apply Kd.R_drewN | apply Kd.R_drew)); exact HO282.out) (Kd.R_base ho0) hb); have n2_ := Aside0.mk (Kd.R_elder' (by (with_reducible repeat (first | apply Kd.R_alloc | apply Kd.R_drewN | apply Kd.R_drew)); exact HO288.out) (Kd.R_base ho0) hb); have n3_ := Aside0.mk (Kd.R_elder' (by (with_reducible repeat (first | apply Kd.R_alloc | apply Kd.R_drewN | apply Kd.R_drew)); exact HO294.out) (Kd.R_base ho0) hb); have n4_ := Aside0.mk (Kd.R_elder' (by (with_reducible repeat (first | apply Kd.R_alloc | apply Kd.R_drewN | apply Kd.R_drew)); exact HO297.out) (Kd.R_base ho0) hb); have n5_ := Aside0.mk (Kd.R_lower (Kd.R_new' (Kd.R_new' (Kd.R_new' (Kd.R_new' (Kd.R_new' ho0 (Kd.R_lt (by (with_reducible repeat (first | apply Kd.R_alloc | apply Kd.R_drewN | apply Kd.R_drew)); exact HO276.out))) (Kd.R_lt (by (with_reducible repeat (first | apply Kd.R_alloc | apply Kd.R_drewN | apply Kd.R_drew)); exact HO282.out))) (Kd.R_lt (by (with_reducible repeat (first | apply Kd.R_alloc | apply Kd.R_drewN | apply Kd.R_drew)); exact HO288.out))) (Kd.R_lt (by (with_reducible repeat (first | apply Kd.R_alloc | apply Kd.R_drewN | apply Kd.R_drew)); exact HO294.out))) (Kd.R_lt (by (with_reducible repeat (first | apply Kd.R_alloc | apply Kd.R_drewN | apply Kd.R_drew)); exact HO297.out))) (below_size (by repeat (first | (with_reducible first | exact HB.out | apply below_alloc | apply pw_below_drewN | apply below_drew1 | refine below_set ?_ GE269.out) | exact HB.out)))); have n6_ := Aside0.mk (blk_below (g := gb269) (o := .cells #[.int .i64 a0_0, .int .i64 a0_1, .int .i64 a0_2, .int .i64 a0_3, .int .i64 a0_4, .int .i64 a0_5] 27 (0, 0)) (by (with_reducible repeat (first | refine blk_drewN ?_ _ | refine blk_drew ?_ | refine blk_alloc ?_ _)); exact BK269.out) hb); have n7_ := Aside0.mk (below_step (by repeat (first | (with_reducible first | exact HB.out | apply below_alloc | apply pw_below_drewN | apply below_drew1 | refine below_set ?_ GE269.out) | exact HB.out)) hb); clear HO276; clear HO282; clear HO288; clear HO294; clear HO297; clear BK269; clear HB; have HO276 := n0_; have HO282 := n1_; have HO288 := n2_; have HO294 := n3_; have HO297 := n4_; have HO301 := n5_; have BK269 := n6_; have HB := n7_; clear n0_ n1_ n2_ n3_ n4_ n5_ n6_ n7_; (try clear hb); (try clear hb2); (try clear hk); (try clear hi); (try clear ho0); obtain ⟨Ao43, co43, eo43⟩ := Kd.R_slice HO301.out; subst eo43) | ((with_reducible refine gate_builtin (b := .append) (xs := #[.tmp 45, .tmp 48]) rfl ?_); (try (refine gate_guard (by rfl) ?_; dsimp only)); at_builtin; refine Kd.R_append_rows (Kd.int .u8) (w0 := w) w.heap.size rfl (.tmp 45) (.tmp 48) 22 5 (.int .u8 0) 1 rfl Try.underlying22 info5 rfl (by decide) (by omega) (.slice Ao40 y295.length co40) y295 t299 _ _ _ (fun k_ => some k_ ≠ (.slice Ao29 y274.length co29 : Value).ownBlock ∧ some k_ ≠ (.slice Ao33 t280.length co33 : Value).ownBlock ∧ some k_ ≠ (.slice Ao36 t286.length co36 : Value).ownBlock ∧ some k_ ≠ (.slice Ao39 t292.length co39 : Value).ownBlock ∧ some k_ ≠ (.slice Ao43 t299.length co43 : Value).ownBlock) (fun _ => False) rfl rfl ?aO ?aR (fun _ _ h => h) (fun _ h => h.elim) ?aF ?aB ?aS ?aL ?_; (case aR => repeat (first | exact (Kd.R_reads' HO301.out).2.2 | (with_reducible refine Kd.C_alloc ?_ _) | (with_reducible refine Kd.C_drewN ?_ _) | (with_reducible refine Kd.C_drew ?_))); (case aB => exact (by repeat (first | (with_reducible first | exact HB.out | apply below_alloc | apply pw_below_drewN | apply below_drew1 | refine below_set ?_ GE269.out) | exact HB.out))); (case aF => exact (fun k_ hk => ⟨Kd.fresh' (Kd.R_lt (by (with_reducible repeat (first | apply Kd.R_alloc | apply Kd.R_drewN | apply Kd.R_drew)); exact HO276.out)) k_ hk, Kd.fresh' (Kd.R_lt (by (with_reducible repeat (first | apply Kd.R_alloc | apply Kd.R_drewN | apply Kd.R_drew)); exact HO282.out)) k_ hk, Kd.fresh' (Kd.R_lt (by (with_reducible repeat (first | apply Kd.R_alloc | apply Kd.R_drewN | apply Kd.R_drew)); exact HO288.out)) k_ hk, Kd.fresh' (Kd.R_lt (by (with_reducible repeat (first | apply Kd.R_alloc | apply Kd.R_drewN | apply Kd.R_drew)); exact HO294.out)) k_ hk, Kd.fresh' (Kd.R_lt (by (with_reducible repeat (first | apply Kd.R_alloc | apply Kd.R_drewN | apply Kd.R_drew)); exact HO301.out)) k_ hk⟩)); (case aO => exact (by (with_reducible repeat (first | apply Kd.R_alloc | apply Kd.R_drewN | apply Kd.R_drew)); exact Kd.R_mono HO297.out (fun _ hk => ⟨hk.1.1, ⟨hk.1.2.1, ⟨hk.1.2.2.1, ⟨hk.1.2.2.2, hk.2⟩⟩⟩⟩))); (case aS => exact (below_size (by repeat (first | (with_reducible first | exact HB.out | apply below_alloc | apply pw_below_drewN | apply below_drew1 | refine below_set ?_ GE269.out) | exact HB.out)))); (case aL => have := LMc22.out; omega); intro v303 w42 ho hb hg hat; rw [← Ny302.out] at ho; have n0_ := Aside0.mk (blk_grown (g := gb269) (o := .cells #[.int .i64 a0_0, .int .i64 a0_1, .int .i64 a0_2, .int .i64 a0_3, .int .i64 a0_4, .int .i64 a0_5] 27 (0, 0)) (by (with_reducible repeat (first | refine blk_drewN ?_ _ | refine blk_drew ?_ | refine blk_alloc ?_ _)); exact BK269.out) hg (Kd.R_ne HO297.out BK269.out (by decide))); have n1_ := Aside0.mk (Kd.R_after (ok := (fun k_ => some k_ ≠ (.slice Ao33 t280.length co33 : Value).ownBlock ∧ some k_ ≠ (.slice Ao36 t286.length co36 : Value).ownBlock ∧ some k_ ≠ (.slice Ao39 t292.length co39 : Value).ownBlock ∧ some k_ ≠ (.slice Ao43 t299.length co43 : Value).ownBlock)) (by (with_reducible repeat (first | apply Kd.R_alloc | apply Kd.R_drewN | apply Kd.R_drew)); exact Kd.R_mono HO276.out (fun _ hk => ⟨⟨hk.1.1.1, ⟨hk.1.1.2.1, ⟨hk.1.1.2.2, hk.2⟩⟩⟩, hk.1.2⟩)) hg hat); have n2_ := Aside0.mk (Kd.R_after (ok := (fun k_ => some k_ ≠ (.slice Ao29 y274.length co29 : Value).ownBlock ∧ some k_ ≠ (.slice Ao36 t286.length co36 : Value).ownBlock ∧ some k_ ≠ (.slice Ao39 t292.length co39 : Value).ownBlock ∧ some k_ ≠ (.slice Ao43 t299.length co43 : Value).ownBlock)) (by (with_reducible repeat (first | apply Kd.R_alloc | apply Kd.R_drewN | apply Kd.R_drew)); exact Kd.R_mono HO282.out (fun _ hk => ⟨⟨hk.1.1.1, ⟨hk.1.1.2.1, ⟨hk.1.1.2.2, hk.2⟩⟩⟩, hk.1.2⟩)) hg hat); have n3_ := Aside0.mk (Kd.R_after (ok := (fun k_ => some k_ ≠ (.slice Ao29 y274.length co29 : Value).ownBlock ∧ some k_ ≠ (.slice Ao33 t280.length co33 : Value).ownBlock ∧ some k_ ≠ (.slice Ao39 t292.length co39 : Value).ownBlock ∧ some k_ ≠ (.slice Ao43 t299.length co43 : Value).ownBlock)) (by (with_reducible repeat (first | apply Kd.R_alloc | apply Kd.R_drewN | apply Kd.R_drew)); exact Kd.R_mono HO288.out (fun _ hk => ⟨⟨hk.1.1.1, ⟨hk.1.1.2.1, ⟨hk.1.1.2.2, hk.2⟩⟩⟩, hk.1.2⟩)) hg hat); have n4_ := Aside0.mk (Kd.R_after (ok := (fun k_ => some k_ ≠ (.slice Ao29 y274.length co29 : Value).ownBlock ∧ some k_ ≠ (.slice Ao33 t280.length co33 : Value).ownBlock ∧ some k_ ≠ (.slice Ao36 t286.length co36 : Value).ownBlock ∧ some k_ ≠ (.slice Ao43 t299.length co43 : Value).ownBlock)) (by (with_reducible repeat (first | apply Kd.R_alloc | apply Kd.R_drewN | apply Kd.R_drew)); exact Kd.R_mono HO294.out (fun _ hk => ⟨⟨hk.1.1.1, ⟨hk.1.1.2.1, ⟨hk.1.1.2.2, hk.2⟩⟩⟩, hk.1.2⟩)) hg hat); have n5_ := Aside0.mk (Kd.R_after (ok := (fun k_ => some k_ ≠ (.slice Ao29 y274.length co29 : Value).ownBlock ∧ some k_ ≠ (.slice Ao33 t280.length co33 : Value).ownBlock ∧ some k_ ≠ (.slice Ao36 t286.length co36 : Value).ownBlock ∧ some k_ ≠ (.slice Ao39 t292.length co39 : Value).ownBlock)) (by (with_reducible repeat (first | apply Kd.R_alloc | apply Kd.R_drewN | apply Kd.R_drew)); exact Kd.R_mono HO301.out (fun _ hk => ⟨⟨hk.1.1.1.1.2, ⟨hk.1.1.1.2, ⟨hk.1.1.2, hk.1.2⟩⟩⟩, hk.2⟩)) hg hat); have n6_ := Aside0.mk (hb); have n7_ := Aside0.mk (ho); clear BK269; clear HO276; clear HO282; clear HO288; clear HO294; clear HO301; clear HB; clear HO297; have BK269 := n0_; have HO276 := n1_; have HO282 := n2_; have HO288 := n3_; have HO294 := n4_; have HO301 := n5_; have HB := n6_; have HO304 := n7_; clear n0_ n1_ n2_ n3_ n4_ n5_ n6_ n7_; clear ho hb hg hat))
         go_loopg [6, 7] kj2 (fun kq v6 v7 w' => ∃ (x6_2 : List Int) (x7_2 : Int), v7 = .int .i64 x7_2 ∧ Aside0 (strongboxref4_Write.l0 kq l1 x6_2 x7_2 a0_0 a0_1 a0_2 a0_3 a0_4 a0_5 = some (r1, r2)) ∧ Aside0 (kq ≤ kj2) ∧ Aside0 (Kd.R (Kd.int .u8) 5 w' w.heap.size (fun _ => True) v6 x6_2) ∧ Aside0 (w'.heap[gb269]? = some (.cells #[.int .i64 a0_0, .int .i64 a0_1, .int .i64 a0_2, .int .i64 a0_3, .int .i64 a0_4, .int .i64 a0_5] 27 (0, 0))) ∧ Aside0 (Below w.heap.size w w'))
         case atStart => exact ⟨(y302), (0), (by first | rfl | (simp; done) | (simp [*]; done)), H', ⟨Nat.le_refl _⟩, ⟨by (with_reducible repeat (first | apply Kd.R_alloc | apply Kd.R_drewN | apply Kd.R_drew)); exact Kd.R_mono HO304.out (fun _ hk => trivial)⟩, ⟨by (with_reducible repeat (first | refine blk_drewN ?_ _ | refine blk_drew ?_ | refine blk_alloc ?_ _)); exact BK269.out⟩, ⟨by repeat (first | (with_reducible first | exact HB.out | apply below_alloc | apply pw_below_drewN | apply below_drew1 | refine below_set ?_ GE269.out) | exact HB.out)⟩⟩
         case round =>
          clear H'
          try clear c1
          try clear c2
          try clear p2
          try clear c3
          try clear c5
          try clear c6
          try clear c12
          try clear c13
          try clear c15
          try clear c17
          try clear c19
          try clear c20
          try clear c22
          try clear c32
          try clear c34
          try clear hcz10_0
          try clear hcz10_1
          try clear hcz10_2
          try clear hcz10_3
          try clear hcz10_4
          try clear hcz10_5
          try clear hcz25_0
          try clear hcz25_1
          try clear hcz25_2
          try clear hcz25_3
          try clear hcz25_4
          try clear hcz25_5
          try clear hcz7_0
          try clear hcz7_1
          try clear hcz7_2
          try clear hcz7_3
          try clear hcz7_4
          try clear hcz7_5
          try clear hcz9_0
          try clear hcz9_1
          try clear hcz9_2
          try clear hcz9_3
          try clear hcz9_4
          try clear hcz9_5
          try clear hfz10_0
          try clear hfz10_1
          try clear hfz10_2
          try clear hfz10_3
          try clear hfz10_4
          try clear hfz10_5
          try clear hfz25_0
          try clear hfz25_1
          try clear hfz25_2
          try clear hfz25_3
          try clear hfz25_4
          try clear hfz25_5
          try clear hfz7_0
          try clear hfz7_1
          try clear hfz7_2
          try clear hfz7_3
          try clear hfz7_4
          try clear hfz7_5
          try clear hfz9_0
          try clear hfz9_1
          try clear hfz9_2
          try clear hfz9_3
          try clear hfz9_4
          try clear hfz9_5
          try clear p2
          obtain ⟨x6_2, x7_2, rfl, HA, HK2, HO_6, BK269, HB⟩ := hrel
          cases gk with
          | zero => exact absurd HA.out (by simp [strongboxref4_Write.l0])
          | succ k2 =>
           have H := HA.out
           clear HA
           simp only [strongboxref4_Write.l0] at H
           by_cases c44 : x7_2 < (l1.length : Int)
           ·rw [if_pos c44] at H
            have c44b0 : decide (x7_2 < (l1.length : Int)) = true := decide_eq_true c44
            clear c44
            obtain ⟨ji45, hji45⟩ : ∃ j_ : Int, (mn (wrap64 (x7_2 + a0_3)) (l1.length : Int)) = j_ := ⟨_, rfl⟩
            replace H : (if 0 ≤ x7_2 then (if x7_2 ≤ (ji45) then (if (ji45) ≤ (l1.length : Int) then ((some ((l1.take ((ji45) : Int).toNat).drop (x7_2 : Int).toNat : List Int)).bind fun y305 => (if x6_2.length + y305.length < 140737488355328 then ((some (x6_2 ++ y305 : List Int)).bind fun y309 => ((strongboxref4_Sum.f k2 y305).bind fun t312 => ((strongboxref4_Bytes.f k2 t312).bind fun t313 => (if y309.length + t313.length < 140737488355328 then (strongboxref4_Write.l0 k2 l1 (y309 ++ t313) (wrap64 (x7_2 + a0_3)) a0_0 a0_1 a0_2 a0_3 a0_4 a0_5) else (none))))) else (none))) else (none)) else (none)) else (none)) = some (r1, r2) := by first | (rw [hji45] at H; exact H) | (simp only [hji45] at H ⊢; exact H)
            have hji45_ : (if (l1.length : Int) < (wrap64 (x7_2 + a0_3)) then (l1.length : Int) else (wrap64 (x7_2 + a0_3))) = ji45 := hji45
            by_cases c46 : 0 ≤ x7_2
            ·rw [if_pos c46] at H
             have c46b0 := eq_true c46
             have c46b1 : decide (0 ≤ x7_2) = true := decide_eq_true c46
             clear c46
             by_cases c47 : x7_2 ≤ (ji45)
             ·rw [if_pos c47] at H
              have c47b0 := eq_true c47
              have c47b1 : decide (x7_2 ≤ (ji45)) = true := decide_eq_true c47
              clear c47
              by_cases c48 : (ji45) ≤ (l1.length : Int)
              ·rw [if_pos c48] at H
               have c48b0 := eq_true c48
               have c48b1 : decide ((ji45) ≤ (l1.length : Int)) = true := decide_eq_true c48
               clear c48
               obtain ⟨y305, hy305⟩ : ∃ y_ : List Int, y_ = ((l1.take ((ji45) : Int).toNat).drop (x7_2 : Int).toNat) := ⟨_, rfl⟩
               replace H : (if x6_2.length + y305.length < 140737488355328 then ((some (x6_2 ++ y305 : List Int)).bind fun y309 => ((strongboxref4_Sum.f k2 y305).bind fun t312 => ((strongboxref4_Bytes.f k2 t312).bind fun t313 => (if y309.length + t313.length < 140737488355328 then (strongboxref4_Write.l0 k2 l1 (y309 ++ t313) (wrap64 (x7_2 + a0_3)) a0_0 a0_1 a0_2 a0_3 a0_4 a0_5) else (none))))) else (none)) = some (r1, r2) := by first | (rw [hy305]; with_reducible exact H) | (have H2_ := (Option.bind_some _ _).symm.trans H; rw [hy305]; with_reducible exact H2_) | (have H2_ := (Option.bind_some _ _).symm.trans H; with_reducible exact H2_) | with_reducible exact H | (rw [hy305]; exact H) | exact H
               have Ny305 := Aside0.mk hy305
               clear hy305
               by_cases c49 : x6_2.length + y305.length < 140737488355328
               ·rw [if_pos c49] at H
                have LMc49 := Aside0.mk c49
                clear c49
                obtain ⟨y309, hy309⟩ : ∃ y_ : List Int, y_ = (x6_2 ++ y305) := ⟨_, rfl⟩
                replace H : ((strongboxref4_Sum.f k2 y305).bind fun t312 => ((strongboxref4_Bytes.f k2 t312).bind fun t313 => (if y309.length + t313.length < 140737488355328 then (strongboxref4_Write.l0 k2 l1 (y309 ++ t313) (wrap64 (x7_2 + a0_3)) a0_0 a0_1 a0_2 a0_3 a0_4 a0_5) else (none)))) = some (r1, r2) := by first | (rw [hy309]; with_reducible exact H) | (have H2_ := (Option.bind_some _ _).symm.trans H; rw [hy309]; with_reducible exact H2_) | (have H2_ := (Option.bind_some _ _).symm.trans H; with_reducible exact H2_) | with_reducible exact H | (rw [hy309]; exact H) | exact H
                have Ny309 := Aside0.mk hy309
                clear hy309
                replace H := Option.bind_eq_some_iff.mp H
                obtain ⟨t312, A500, H⟩ := H
                replace H : ((strongboxref4_Bytes.f k2 t312).bind fun t313 => (if y309.length + t313.length < 140737488355328 then (strongboxref4_Write.l0 k2 l1 (y309 ++ t313) (wrap64 (x7_2 + a0_3)) a0_0 a0_1 a0_2 a0_3 a0_4 a0_5) else (none))) = some (r1, r2) := H
                have A50 := Aside0.mk A500
                clear A500
                replace H := Option.bind_eq_some_iff.mp H
                obtain ⟨t313, A510, H⟩ := H
                replace H : (if y309.length + t313.length < 140737488355328 then (strongboxref4_Write.l0 k2 l1 (y309 ++ t313) (wrap64 (x7_2 + a0_3)) a0_0 a0_1 a0_2 a0_3 a0_4 a0_5) else (none)) = some (r1, r2) := H
                have A51 := Aside0.mk A510
                clear A510
                by_cases c52 : y309.length + t313.length < 140737488355328
                ·rw [if_pos c52] at H
                 have LMc52 := Aside0.mk c52
                 clear c52
                 obtain ⟨y316, hy316⟩ : ∃ y_ : List Int, y_ = (y309 ++ t313) := ⟨_, rfl⟩
                 replace H : (strongboxref4_Write.l0 k2 l1 y316 (wrap64 (x7_2 + a0_3)) a0_0 a0_1 a0_2 a0_3 a0_4 a0_5) = some (r1, r2) := by first | (rw [hy316]; with_reducible exact H) | (have H2_ := (Option.bind_some _ _).symm.trans H; rw [hy316]; with_reducible exact H2_) | (have H2_ := (Option.bind_some _ _).symm.trans H; with_reducible exact H2_) | with_reducible exact H | (rw [hy316]; exact H) | exact H
                 have Ny316 := Aside0.mk hy316
                 clear hy316
                 have H' := Aside0.mk H
                 clear H
                 have hcz53_0 : wr.cell? ⟨gb269, 0, none⟩ = some (.int .i64 a0_0) := (blk_cell BK269.out 0).trans rfl
                 have hcz53_1 : wr.cell? ⟨gb269, 1, none⟩ = some (.int .i64 a0_1) := (blk_cell BK269.out 1).trans rfl
                 have hcz53_2 : wr.cell? ⟨gb269, 2, none⟩ = some (.int .i64 a0_2) := (blk_cell BK269.out 2).trans rfl
                 have hcz53_3 : wr.cell? ⟨gb269, 3, none⟩ = some (.int .i64 a0_3) := (blk_cell BK269.out 3).trans rfl
                 have hcz53_4 : wr.cell? ⟨gb269, 4, none⟩ = some (.int .i64 a0_4) := (blk_cell BK269.out 4).trans rfl
                 have hcz53_5 : wr.cell? ⟨gb269, 5, none⟩ = some (.int .i64 a0_5) := (blk_cell BK269.out 5).trans rfl
                 have hfz53_0 := blk_frozen BK269.out 0
                 have hfz53_1 := blk_frozen BK269.out 1
                 have hfz53_2 := blk_frozen BK269.out 2
                 have hfz53_3 := blk_frozen BK269.out 3
                 have hfz53_4 := blk_frozen BK269.out 4
                 have hfz53_5 := blk_frozen BK269.out 5
                 have q54 : ((ji45) : Int) ≤ ((l1.length : Int) : Int) := of_decide_eq_true (by first | (with_reducible assumption) | assumption)
                 obtain ⟨i054, hi054, _, hsz54, _⟩ := info_parts info5
                 have hroom54 : l1.length ≤ c1 := HC1.out
                 have hC54 : Kd.C (Kd.int .u8) _ A1 l1.length l1 := HR1.out
                 have ql54 : (x7_2 : Int) ≤ ((ji45) : Int) := of_decide_eq_true (by first | (with_reducible assumption) | assumption)
                 have q054 : (0 : Int) ≤ (x7_2 : Int) := of_decide_eq_true (by first | (with_reducible assumption) | assumption)
                 have hcut54 := cut_mid (P := Try.prog) 22 5 .i64 .i64 Try.underlying22 hi054 1 hsz54 A1 l1.length c1 x7_2 (ji45) q054 ql54 q54 hroom54
                 have hr54 := Kd.C_mid (lo := (x7_2 : Int).toNat) (hi := ((ji45) : Int).toNat) (c := c1) hC54 (by omega) (by omega) hroom54
                 obtain ⟨A54, hA54⟩ : ∃ A1_, A1_ = (if c1 = (x7_2 : Int).toNat then A1 else (A1 : Option Addr).map (·.add ((x7_2 : Int).toNat * 1))) := ⟨_, rfl⟩
                 obtain ⟨c54, hc54⟩ : ∃ c1_, c1_ = c1 - (x7_2 : Int).toNat := ⟨_, rfl⟩
                 have hy54 : y305.length = ((ji45) : Int).toNat - (x7_2 : Int).toNat := (by rw [Ny305.out, List.length_drop, List.length_take] <;> omega)
                 rw [show ((l1).take ((ji45) : Int).toNat).drop (x7_2 : Int).toNat = y305 from Ny305.out.symm] at hr54
                 replace hr54 : Kd.C (Kd.int .u8) _ A54 y305.length y305 := (by rw [hA54]; exact hr54)
                 rw [← hy54, ← hA54, ← hc54] at hcut54
                 have HR308 := Aside0.mk hr54
                 have HC308 := Aside0.mk (show y305.length ≤ c54 from by rw [hy54, hc54]; exact Nat.sub_le_sub_right (Nat.le_trans (by omega) hroom54) _)
                 clear hr54 hC54 hroom54 hi054 hsz54 hc54
                 have KY54 := Aside0.mk hy54
                 have KA54 := Aside0.mk hA54
                 clear hy54 hA54
                 replace q54 := eq_true q54
                 go_wp2_with (first | ((with_reducible refine gate_builtin (b := .append) (xs := #[.tmp 68, .tmp 69]) rfl ?_); (try (refine gate_guard (by rfl) ?_; dsimp only)); at_builtin; refine Kd.R_append_rows (Kd.int .u8) (w0 := w) w.heap.size rfl (.tmp 68) (.tmp 69) 22 5 (.int .u8 0) 1 rfl Try.underlying22 info5 rfl (by decide) (by omega) u6 x6_2 y305 _ _ _ (fun _ => True) (fun _ => False) rfl rfl ?aO ?aR (fun _ _ h => h) (fun _ h => h.elim) ?aF ?aB ?aS ?aL ?_; (case aR => repeat (first | exact (Kd.C_below HR308.out HB.out) | (with_reducible refine Kd.C_alloc ?_ _) | (with_reducible refine Kd.C_drewN ?_ _) | (with_reducible refine Kd.C_drew ?_))); (case aB => exact (by repeat (first | (with_reducible first | exact HB.out | apply below_alloc | apply pw_below_drewN | apply below_drew1 | refine below_set ?_ GE269.out) | exact HB.out))); (case aF => exact (fun _ _ => trivial)); (case aO => exact (by (with_reducible repeat (first | apply Kd.R_alloc | apply Kd.R_drewN | apply Kd.R_drew)); exact HO_6.out)); (case aS => exact (below_size (by repeat (first | (with_reducible first | exact HB.out | apply below_alloc | apply pw_below_drewN | apply below_drew1 | refine below_set ?_ GE269.out) | exact HB.out)))); (case aL => have := LMc49.out; omega); intro v310 w55 ho hb hg hat; rw [← Ny309.out] at ho; have n0_ := Aside0.mk (blk_grown (g := gb269) (o := .cells #[.int .i64 a0_0, .int .i64 a0_1, .int .i64 a0_2, .int .i64 a0_3, .int .i64 a0_4, .int .i64 a0_5] 27 (0, 0)) (by (with_reducible repeat (first | refine blk_drewN ?_ _ | refine blk_drew ?_ | refine blk_alloc ?_ _)); exact BK269.out) hg (Kd.R_ne HO_6.out BK269.out (by decide))); have n1_ := Aside0.mk (hb); have n2_ := Aside0.mk (ho); clear BK269; clear HB; clear HO_6; have BK269 := n0_; have HB := n1_; have HO311 := n2_; clear n0_ n1_ n2_; clear ho hb hg hat) | ((with_reducible refine gate_callee (f := 20) rfl ?_); refine goesL_ (some 72) rfl rfl Try.func20 (by kernel_rfl) rfl #[.slice A54 y305.length c54] rfl (by (try simp only [List.map_toArray, List.map_cons, List.map_nil]); first | done | rfl | (simp only [List.length_drop, List.length_take]; rfl)) ?_; (with_reducible refine (strongboxref4_Sum.calls k2 _ _ y305 t312 _ ?side1 ?side2 A50.out).mono ?_); (case side1 => repeat (first | exact (Kd.C_below HR308.out HB.out) | (with_reducible refine Kd.C_alloc ?_ _) | (with_reducible refine Kd.C_drewN ?_ _) | (with_reducible refine Kd.C_drew ?_))); (case side2 => exact HC308.out); rintro e w' ⟨rfl, ⟨nd, rfl⟩⟩; refine ⟨_, rfl, ?_⟩) | ((with_reducible refine gate_callee (f := 19) rfl ?_); refine goesL_ (some 73) rfl rfl Try.func19 (by kernel_rfl) rfl #[.int .u32 t312] rfl (by (try simp only [List.map_toArray, List.map_cons, List.map_nil]); first | done | rfl | (simp only [List.length_drop, List.length_take]; rfl)) ?_; (with_reducible refine (strongboxref4_Bytes.calls k2 t312 t313 _ A51.out).mono ?_); rintro e w56 ⟨v314, rfl, ho0, hb⟩; refine ⟨_, rfl, ?_⟩; have n0_ := Aside0.mk (Kd.R_elder' (by (with_reducible repeat (first | apply Kd.R_alloc | apply Kd.R_drewN | apply Kd.R_drew)); exact HO311.out) (Kd.R_base ho0) hb); have n1_ := Aside0.mk (Kd.R_lower (Kd.R_new' ho0 (Kd.R_lt (by (with_reducible repeat (first | apply Kd.R_alloc | apply Kd.R_drewN | apply Kd.R_drew)); exact HO311.out))) (below_size (by repeat (first | (with_reducible first | exact HB.out | apply below_alloc | apply pw_below_drewN | apply below_drew1 | refine below_set ?_ GE269.out) | exact HB.out)))); have n2_ := Aside0.mk (blk_below (g := gb269) (o := .cells #[.int .i64 a0_0, .int .i64 a0_1, .int .i64 a0_2, .int .i64 a0_3, .int .i64 a0_4, .int .i64 a0_5] 27 (0, 0)) (by (with_reducible repeat (first | refine blk_drewN ?_ _ | refine blk_drew ?_ | refine blk_alloc ?_ _)); exact BK269.out) hb); have n3_ := Aside0.mk (below_step (by repeat (first | (with_reducible first | exact HB.out | apply below_alloc | apply pw_below_drewN | apply below_drew1 | refine below_set ?_ GE269.out) | exact HB.out)) hb); clear HO311; clear BK269; clear HB; have HO311 := n0_; have HO315 := n1_; have BK269 := n2_; have HB := n3_; clear n0_ n1_ n2_ n3_; (try clear hb); (try clear hb2); (try clear hk); (try clear hi); (try clear ho0); obtain ⟨Ao58, co58, eo58⟩ := Kd.R_slice HO315.out; subst eo58) | ((with_reducible refine gate_builtin (b := .append) (xs := #[.tmp 70, .tmp 73]) rfl ?_); (try (refine gate_guard (by rfl) ?_; dsimp only)); at_builtin; refine Kd.R_append_rows (Kd.int .u8) (w0 := w) w.heap.size rfl (.tmp 70) (.tmp 73) 22 5 (.int .u8 0) 1 rfl Try.underlying22 info5 rfl (by decide) (by omega) v310 y309 t313 _ _ _ (fun k_ => some k_ ≠ (.slice Ao58 t313.length co58 : Value).ownBlock) (fun _ => False) rfl rfl ?aO ?aR (fun _ _ h => h) (fun _ h => h.elim) ?aF ?aB ?aS ?aL ?_; (case aR => repeat (first | exact (Kd.R_reads' HO315.out).2.2 | (with_reducible refine Kd.C_alloc ?_ _) | (with_reducible refine Kd.C_drewN ?_ _) | (with_reducible refine Kd.C_drew ?_))); (case aB => exact (by repeat (first | (with_reducible first | exact HB.out | apply below_alloc | apply pw_below_drewN | apply below_drew1 | refine below_set ?_ GE269.out) | exact HB.out))); (case aF => exact (fun k_ hk => Kd.fresh' (Kd.R_lt (by (with_reducible repeat (first | apply Kd.R_alloc | apply Kd.R_drewN | apply Kd.R_drew)); exact HO315.out)) k_ hk)); (case aO => exact (by (with_reducible repeat (first | apply Kd.R_alloc | apply Kd.R_drewN | apply Kd.R_drew)); exact Kd.R_mono HO311.out (fun _ hk => hk.2))); (case aS => exact (below_size (by repeat (first | (with_reducible first | exact HB.out | apply below_alloc | apply pw_below_drewN | apply below_drew1 | refine below_set ?_ GE269.out) | exact HB.out)))); (case aL => have := LMc52.out; omega); intro v317 w57 ho hb hg hat; rw [← Ny316.out] at ho; have n0_ := Aside0.mk (blk_grown (g := gb269) (o := .cells #[.int .i64 a0_0, .int .i64 a0_1, .int .i64 a0_2, .int .i64 a0_3, .int .i64 a0_4, .int .i64 a0_5] 27 (0, 0)) (by (with_reducible repeat (first | refine blk_drewN ?_ _ | refine blk_drew ?_ | refine blk_alloc ?_ _)); exact BK269.out) hg (Kd.R_ne HO311.out BK269.out (by decide))); have n1_ := Aside0.mk (Kd.R_after (ok := (fun _ => True)) (by (with_reducible repeat (first | apply Kd.R_alloc | apply Kd.R_drewN | apply Kd.R_drew)); exact HO315.out) hg hat); have n2_ := Aside0.mk (hb); have n3_ := Aside0.mk (ho); clear BK269; clear HO315; clear HB; clear HO311; have BK269 := n0_; have HO315 := n1_; have HB := n2_; have HO318 := n3_; clear n0_ n1_ n2_ n3_; clear ho hb hg hat; have hcz59_0 : w57.cell? ⟨gb269, 0, none⟩ = some (.int .i64 a0_0) := (blk_cell BK269.out 0).trans rfl; have hcz59_1 : w57.cell? ⟨gb269, 1, none⟩ = some (.int .i64 a0_1) := (blk_cell BK269.out 1).trans rfl; have hcz59_2 : w57.cell? ⟨gb269, 2, none⟩ = some (.int .i64 a0_2) := (blk_cell BK269.out 2).trans rfl; have hcz59_3 : w57.cell? ⟨gb269, 3, none⟩ = some (.int .i64 a0_3) := (blk_cell BK269.out 3).trans rfl; have hcz59_4 : w57.cell? ⟨gb269, 4, none⟩ = some (.int .i64 a0_4) := (blk_cell BK269.out 4).trans rfl; have hcz59_5 : w57.cell? ⟨gb269, 5, none⟩ = some (.int .i64 a0_5) := (blk_cell BK269.out 5).trans rfl; have hfz59_0 := blk_frozen BK269.out 0; have hfz59_1 := blk_frozen BK269.out 1; have hfz59_2 := blk_frozen BK269.out 2; have hfz59_3 := blk_frozen BK269.out 3; have hfz59_4 := blk_frozen BK269.out 4; have hfz59_5 := blk_frozen BK269.out 5))
                 go_roundg k2
                 case measure => have := HJ2.out; have := HK2.out; omega
                 case rel => exact ⟨(y316), (wrap64 (x7_2 + a0_3)), (by first | rfl | (simp; done) | (simp [*]; done)), H', ⟨by have := HJ2.out; have := HK2.out; omega⟩, ⟨by (with_reducible repeat (first | apply Kd.R_alloc | apply Kd.R_drewN | apply Kd.R_drew)); exact Kd.R_mono HO318.out (fun _ hk => trivial)⟩, ⟨by (with_reducible repeat (first | refine blk_drewN ?_ _ | refine blk_drew ?_ | refine blk_alloc ?_ _)); exact BK269.out⟩, ⟨by repeat (first | (with_reducible first | exact HB.out | apply below_alloc | apply pw_below_drewN | apply below_drew1 | refine below_set ?_ GE269.out) | exact HB.out)⟩⟩
                ·rw [if_neg c52] at H
                 exact absurd H (by simp)
               ·rw [if_neg c49] at H
                exact absurd H (by simp)
              ·rw [if_neg c48] at H
               exact absurd H (by simp)
             ·rw [if_neg c47] at H
              exact absurd H (by simp)
            ·rw [if_neg c46] at H
             exact absurd H (by simp)
           ·rw [if_neg c44] at H
            have c44b0 : decide (x7_2 < (l1.length : Int)) = false := decide_eq_false c44
            clear c44
            simp only [Option.some.injEq, Prod.mk.injEq] at H
            obtain ⟨rfl, rfl⟩ := H
            go_wp2
            go_ret2
            exact ⟨_, by first | rfl | (simp [errW_none, errW_some] <;> rfl) | (simp [*, errW_none, errW_some] <;> rfl), by (with_reducible repeat (first | apply Kd.R_alloc | apply Kd.R_drewN | apply Kd.R_drew)); exact HO_6.out, by repeat (first | (with_reducible first | exact HB.out | apply below_alloc | apply pw_below_drewN | apply below_drew1 | refine below_set ?_ GE269.out) | exact HB.out)⟩
        ·rw [if_neg c22] at H
         exact absurd H (by simp)
       ·rw [if_neg c19] at H
        exact absurd H (by simp)
      ·rw [if_neg c17] at H
       exact absurd H (by simp)
     ·rw [if_neg c15] at H
      exact absurd H (by simp)
    ·rw [if_neg c13] at H
     exact absurd H (by simp)

-- NOT PRINTED: function 35 (shard_NewWriter)

-- NOT PRINTED: function 63 (shard_Writer_open)

-- NOT PRINTED: function 64 (shard_Writer_flush)

-- NOT PRINTED: function 36 (shard_Writer_Add)

-- NOT PRINTED: function 37 (shard_Writer_End)

-- NOT PRINTED: function 10 (strongboxlaw5_ShardWrites)

end Go.Proofs.Ytnlpipjdpmaggaa.PShardWrites
