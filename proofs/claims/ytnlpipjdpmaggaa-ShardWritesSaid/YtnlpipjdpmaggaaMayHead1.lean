/- strongboxref4.MayHead, some of the ways through its one condition: each answers as its Lean function tells. The printing program's text, a theorem for each way. -/
import Derived.Test.YtnlpipjdpmaggaaPShardWritesx0
namespace Go.Proofs.Ytnlpipjdpmaggaa.PShardWrites
open Go.RowKit Go.Proofs.YtnlpipjdpmaggaaW.PrintWords Go.Proofs.YtnlpipjdpmaggaaW.PrintLast Go.Proofs.YtnlpipjdpmaggaaW.PrintMore
attribute [local go_sem] max2_int min2_int max_two min_two max_three min_three max_four min_four   -- for this text's walks alone
set_option linter.unusedVariables false
set_option linter.unusedSimpArgs false

set_option maxHeartbeats 8000000 in
set_option maxRecDepth 100000 in
theorem strongboxref4_MayHead.leaf4 (a0_0 : Int) (a0_1 : Int) (a0_2 : Int) (a0_3 : Int) (a0_4 : Int) (a0_5 : Int) (w : World) (c2 : a0_0 ≥ 1) (c3 : a0_1 ≥ 1) (c4 : a0_0 ≤ 255) (c5 : a0_1 ≤ (wrap64 (255 - a0_0))) (c6 : ¬ (a0_2 ≥ 0)) :
    Calls Try.prog 34 #[.agg #[.int .i64 a0_0, .int .i64 a0_1, .int .i64 a0_2, .int .i64 a0_3, .int .i64 a0_4, .int .i64 a0_5]] w fun e w' => e = .returned (.bool false) ∧ Below w.heap.size w w' := by
  have hu27 := Try.underlying27
  have HB := Aside0.mk (Below.refl w.heap.size w)
  have c2b0 : decide (1 ≤ a0_0) = true := decide_eq_true c2
  clear c2
  have c3b0 : decide (1 ≤ a0_1) = true := decide_eq_true c3
  clear c3
  have c4b0 : decide (a0_0 ≤ 255) = true := decide_eq_true c4
  clear c4
  have c5b0 : decide (a0_1 ≤ (wrap64 (255 - a0_0))) = true := decide_eq_true c5
  clear c5
  have c6b0 : decide (0 ≤ a0_2) = false := decide_eq_false c6
  clear c6
  go_enter Try.func34, Try.ntmps34
  go_wp2_with (first | ((with_reducible refine gate_dst (N := 1) rfl ?_); refine box_event ?hg (N := 1) ?hd (cs := #[.int .i64 a0_0, .int .i64 a0_1, .int .i64 a0_2, .int .i64 a0_3, .int .i64 a0_4, .int .i64 a0_5]) (t := 27) ?hr ?_; (case hd => rfl); (case hg => rfl); (case hr => first | (go_simp; done) | (go_simp; rfl)); intro gb268 hg w27 hbox hb; have n0_ := Aside0.mk (below_step (by repeat (first | (with_reducible first | exact HB.out | apply below_alloc | apply pw_below_drewN | apply below_drew1) | exact HB.out)) hb); have n1_ := Aside0.mk (hbox); have n2_ := Aside0.mk ((by rw [hg]; exact (below_size (by repeat (first | (with_reducible first | exact HB.out | apply below_alloc | apply pw_below_drewN | apply below_drew1) | exact HB.out))) : w.heap.size ≤ gb268)); have n3_ := Aside0.mk ((by rw [hg]; exact (below_size (by repeat (first | (with_reducible first | exact HB.out | apply below_alloc | apply pw_below_drewN | apply below_drew1) | exact HB.out))) : w.heap.size ≤ gb268)); clear HB; have HB := n0_; have BK268 := n1_; have GW268 := n2_; have GE268 := n3_; clear n0_ n1_ n2_ n3_; clear hb hbox hg; have hcz28_0 : w27.cell? ⟨gb268, 0, none⟩ = some (.int .i64 a0_0) := (blk_cell BK268.out 0).trans rfl; have hcz28_1 : w27.cell? ⟨gb268, 1, none⟩ = some (.int .i64 a0_1) := (blk_cell BK268.out 1).trans rfl; have hcz28_2 : w27.cell? ⟨gb268, 2, none⟩ = some (.int .i64 a0_2) := (blk_cell BK268.out 2).trans rfl; have hcz28_3 : w27.cell? ⟨gb268, 3, none⟩ = some (.int .i64 a0_3) := (blk_cell BK268.out 3).trans rfl; have hcz28_4 : w27.cell? ⟨gb268, 4, none⟩ = some (.int .i64 a0_4) := (blk_cell BK268.out 4).trans rfl; have hcz28_5 : w27.cell? ⟨gb268, 5, none⟩ = some (.int .i64 a0_5) := (blk_cell BK268.out 5).trans rfl; have hfz28_0 := blk_frozen BK268.out 0; have hfz28_1 := blk_frozen BK268.out 1; have hfz28_2 := blk_frozen BK268.out 2; have hfz28_3 := blk_frozen BK268.out 3; have hfz28_4 := blk_frozen BK268.out 4; have hfz28_5 := blk_frozen BK268.out 5))
  go_ret
  exact ⟨by first | rfl | (simp [errW_none, errW_some] <;> rfl) | (simp [*, errW_none, errW_some] <;> rfl), by repeat (first | (with_reducible first | exact HB.out | apply below_alloc | apply pw_below_drewN | apply below_drew1 | refine below_set ?_ GE268.out) | exact HB.out)⟩

set_option maxHeartbeats 8000000 in
set_option maxRecDepth 100000 in
theorem strongboxref4_MayHead.leaf5 (a0_0 : Int) (a0_1 : Int) (a0_2 : Int) (a0_3 : Int) (a0_4 : Int) (a0_5 : Int) (w : World) (c2 : a0_0 ≥ 1) (c3 : a0_1 ≥ 1) (c4 : a0_0 ≤ 255) (c5 : a0_1 ≤ (wrap64 (255 - a0_0))) (c6 : a0_2 ≥ 0) (c7 : ¬ (a0_2 < (wrap64 (a0_0 + a0_1)))) :
    Calls Try.prog 34 #[.agg #[.int .i64 a0_0, .int .i64 a0_1, .int .i64 a0_2, .int .i64 a0_3, .int .i64 a0_4, .int .i64 a0_5]] w fun e w' => e = .returned (.bool false) ∧ Below w.heap.size w w' := by
  have hu27 := Try.underlying27
  have HB := Aside0.mk (Below.refl w.heap.size w)
  have c2b0 : decide (1 ≤ a0_0) = true := decide_eq_true c2
  clear c2
  have c3b0 : decide (1 ≤ a0_1) = true := decide_eq_true c3
  clear c3
  have c4b0 : decide (a0_0 ≤ 255) = true := decide_eq_true c4
  clear c4
  have c5b0 : decide (a0_1 ≤ (wrap64 (255 - a0_0))) = true := decide_eq_true c5
  clear c5
  have c6b0 : decide (0 ≤ a0_2) = true := decide_eq_true c6
  clear c6
  have c7b0 : decide (a0_2 < (wrap64 (a0_0 + a0_1))) = false := decide_eq_false c7
  clear c7
  go_enter Try.func34, Try.ntmps34
  go_wp2_with (first | ((with_reducible refine gate_dst (N := 1) rfl ?_); refine box_event ?hg (N := 1) ?hd (cs := #[.int .i64 a0_0, .int .i64 a0_1, .int .i64 a0_2, .int .i64 a0_3, .int .i64 a0_4, .int .i64 a0_5]) (t := 27) ?hr ?_; (case hd => rfl); (case hg => rfl); (case hr => first | (go_simp; done) | (go_simp; rfl)); intro gb268 hg w25 hbox hb; have n0_ := Aside0.mk (below_step (by repeat (first | (with_reducible first | exact HB.out | apply below_alloc | apply pw_below_drewN | apply below_drew1) | exact HB.out)) hb); have n1_ := Aside0.mk (hbox); have n2_ := Aside0.mk ((by rw [hg]; exact (below_size (by repeat (first | (with_reducible first | exact HB.out | apply below_alloc | apply pw_below_drewN | apply below_drew1) | exact HB.out))) : w.heap.size ≤ gb268)); have n3_ := Aside0.mk ((by rw [hg]; exact (below_size (by repeat (first | (with_reducible first | exact HB.out | apply below_alloc | apply pw_below_drewN | apply below_drew1) | exact HB.out))) : w.heap.size ≤ gb268)); clear HB; have HB := n0_; have BK268 := n1_; have GW268 := n2_; have GE268 := n3_; clear n0_ n1_ n2_ n3_; clear hb hbox hg; have hcz26_0 : w25.cell? ⟨gb268, 0, none⟩ = some (.int .i64 a0_0) := (blk_cell BK268.out 0).trans rfl; have hcz26_1 : w25.cell? ⟨gb268, 1, none⟩ = some (.int .i64 a0_1) := (blk_cell BK268.out 1).trans rfl; have hcz26_2 : w25.cell? ⟨gb268, 2, none⟩ = some (.int .i64 a0_2) := (blk_cell BK268.out 2).trans rfl; have hcz26_3 : w25.cell? ⟨gb268, 3, none⟩ = some (.int .i64 a0_3) := (blk_cell BK268.out 3).trans rfl; have hcz26_4 : w25.cell? ⟨gb268, 4, none⟩ = some (.int .i64 a0_4) := (blk_cell BK268.out 4).trans rfl; have hcz26_5 : w25.cell? ⟨gb268, 5, none⟩ = some (.int .i64 a0_5) := (blk_cell BK268.out 5).trans rfl; have hfz26_0 := blk_frozen BK268.out 0; have hfz26_1 := blk_frozen BK268.out 1; have hfz26_2 := blk_frozen BK268.out 2; have hfz26_3 := blk_frozen BK268.out 3; have hfz26_4 := blk_frozen BK268.out 4; have hfz26_5 := blk_frozen BK268.out 5))
  go_ret
  exact ⟨by first | rfl | (simp [errW_none, errW_some] <;> rfl) | (simp [*, errW_none, errW_some] <;> rfl), by repeat (first | (with_reducible first | exact HB.out | apply below_alloc | apply pw_below_drewN | apply below_drew1 | refine below_set ?_ GE268.out) | exact HB.out)⟩

set_option maxHeartbeats 8000000 in
set_option maxRecDepth 100000 in
theorem strongboxref4_MayHead.leaf6 (a0_0 : Int) (a0_1 : Int) (a0_2 : Int) (a0_3 : Int) (a0_4 : Int) (a0_5 : Int) (w : World) (c2 : a0_0 ≥ 1) (c3 : a0_1 ≥ 1) (c4 : a0_0 ≤ 255) (c5 : a0_1 ≤ (wrap64 (255 - a0_0))) (c6 : a0_2 ≥ 0) (c7 : a0_2 < (wrap64 (a0_0 + a0_1))) (c8 : ¬ (a0_3 ≥ 16)) :
    Calls Try.prog 34 #[.agg #[.int .i64 a0_0, .int .i64 a0_1, .int .i64 a0_2, .int .i64 a0_3, .int .i64 a0_4, .int .i64 a0_5]] w fun e w' => e = .returned (.bool false) ∧ Below w.heap.size w w' := by
  have hu27 := Try.underlying27
  have HB := Aside0.mk (Below.refl w.heap.size w)
  have c2b0 : decide (1 ≤ a0_0) = true := decide_eq_true c2
  clear c2
  have c3b0 : decide (1 ≤ a0_1) = true := decide_eq_true c3
  clear c3
  have c4b0 : decide (a0_0 ≤ 255) = true := decide_eq_true c4
  clear c4
  have c5b0 : decide (a0_1 ≤ (wrap64 (255 - a0_0))) = true := decide_eq_true c5
  clear c5
  have c6b0 : decide (0 ≤ a0_2) = true := decide_eq_true c6
  clear c6
  have c7b0 : decide (a0_2 < (wrap64 (a0_0 + a0_1))) = true := decide_eq_true c7
  clear c7
  have c8b0 : decide (16 ≤ a0_3) = false := decide_eq_false c8
  clear c8
  go_enter Try.func34, Try.ntmps34
  go_wp2_with (first | ((with_reducible refine gate_dst (N := 1) rfl ?_); refine box_event ?hg (N := 1) ?hd (cs := #[.int .i64 a0_0, .int .i64 a0_1, .int .i64 a0_2, .int .i64 a0_3, .int .i64 a0_4, .int .i64 a0_5]) (t := 27) ?hr ?_; (case hd => rfl); (case hg => rfl); (case hr => first | (go_simp; done) | (go_simp; rfl)); intro gb268 hg w23 hbox hb; have n0_ := Aside0.mk (below_step (by repeat (first | (with_reducible first | exact HB.out | apply below_alloc | apply pw_below_drewN | apply below_drew1) | exact HB.out)) hb); have n1_ := Aside0.mk (hbox); have n2_ := Aside0.mk ((by rw [hg]; exact (below_size (by repeat (first | (with_reducible first | exact HB.out | apply below_alloc | apply pw_below_drewN | apply below_drew1) | exact HB.out))) : w.heap.size ≤ gb268)); have n3_ := Aside0.mk ((by rw [hg]; exact (below_size (by repeat (first | (with_reducible first | exact HB.out | apply below_alloc | apply pw_below_drewN | apply below_drew1) | exact HB.out))) : w.heap.size ≤ gb268)); clear HB; have HB := n0_; have BK268 := n1_; have GW268 := n2_; have GE268 := n3_; clear n0_ n1_ n2_ n3_; clear hb hbox hg; have hcz24_0 : w23.cell? ⟨gb268, 0, none⟩ = some (.int .i64 a0_0) := (blk_cell BK268.out 0).trans rfl; have hcz24_1 : w23.cell? ⟨gb268, 1, none⟩ = some (.int .i64 a0_1) := (blk_cell BK268.out 1).trans rfl; have hcz24_2 : w23.cell? ⟨gb268, 2, none⟩ = some (.int .i64 a0_2) := (blk_cell BK268.out 2).trans rfl; have hcz24_3 : w23.cell? ⟨gb268, 3, none⟩ = some (.int .i64 a0_3) := (blk_cell BK268.out 3).trans rfl; have hcz24_4 : w23.cell? ⟨gb268, 4, none⟩ = some (.int .i64 a0_4) := (blk_cell BK268.out 4).trans rfl; have hcz24_5 : w23.cell? ⟨gb268, 5, none⟩ = some (.int .i64 a0_5) := (blk_cell BK268.out 5).trans rfl; have hfz24_0 := blk_frozen BK268.out 0; have hfz24_1 := blk_frozen BK268.out 1; have hfz24_2 := blk_frozen BK268.out 2; have hfz24_3 := blk_frozen BK268.out 3; have hfz24_4 := blk_frozen BK268.out 4; have hfz24_5 := blk_frozen BK268.out 5))
  go_ret
  exact ⟨by first | rfl | (simp [errW_none, errW_some] <;> rfl) | (simp [*, errW_none, errW_some] <;> rfl), by repeat (first | (with_reducible first | exact HB.out | apply below_alloc | apply pw_below_drewN | apply below_drew1 | refine below_set ?_ GE268.out) | exact HB.out)⟩

end Go.Proofs.Ytnlpipjdpmaggaa.PShardWrites
