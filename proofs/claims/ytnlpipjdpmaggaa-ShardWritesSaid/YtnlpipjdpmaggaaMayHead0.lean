/- strongboxref4.MayHead, some of the ways through its one condition: each answers as its Lean function tells. The printing program's text, a theorem for each way. -/
import Derived.Test.YtnlpipjdpmaggaaPShardWritesx0
namespace Go.Proofs.Ytnlpipjdpmaggaa.PShardWrites
open Go.RowKit Go.Proofs.YtnlpipjdpmaggaaW.PrintWords Go.Proofs.YtnlpipjdpmaggaaW.PrintLast Go.Proofs.YtnlpipjdpmaggaaW.PrintMore
attribute [local go_sem] max2_int min2_int max_two min_two max_three min_three max_four min_four   -- for this text's walks alone
set_option linter.unusedVariables false
set_option linter.unusedSimpArgs false

set_option maxHeartbeats 8000000 in
set_option maxRecDepth 100000 in
theorem strongboxref4_MayHead.leaf0 (a0_0 : Int) (a0_1 : Int) (a0_2 : Int) (a0_3 : Int) (a0_4 : Int) (a0_5 : Int) (w : World)  (c2 : ¬ (a0_0 ≥ 1)) :
    Calls Try.prog 34 #[.agg #[.int .i64 a0_0, .int .i64 a0_1, .int .i64 a0_2, .int .i64 a0_3, .int .i64 a0_4, .int .i64 a0_5]] w fun e w' => e = .returned (.bool false) ∧ Below w.heap.size w w' := by
  have hu27 := Try.underlying27
  have HB := Aside0.mk (Below.refl w.heap.size w)
  have c2b0 : decide (1 ≤ a0_0) = false := decide_eq_false c2
  clear c2
  go_enter Try.func34, Try.ntmps34
  go_wp2_with (first | ((with_reducible refine gate_dst (N := 1) rfl ?_); refine box_event ?hg (N := 1) ?hd (cs := #[.int .i64 a0_0, .int .i64 a0_1, .int .i64 a0_2, .int .i64 a0_3, .int .i64 a0_4, .int .i64 a0_5]) (t := 27) ?hr ?_; (case hd => rfl); (case hg => rfl); (case hr => first | (go_simp; done) | (go_simp; rfl)); intro gb268 hg w35 hbox hb; have n0_ := Aside0.mk (below_step (by repeat (first | (with_reducible first | exact HB.out | apply below_alloc | apply pw_below_drewN | apply below_drew1) | exact HB.out)) hb); have n1_ := Aside0.mk (hbox); have n2_ := Aside0.mk ((by rw [hg]; exact (below_size (by repeat (first | (with_reducible first | exact HB.out | apply below_alloc | apply pw_below_drewN | apply below_drew1) | exact HB.out))) : w.heap.size ≤ gb268)); have n3_ := Aside0.mk ((by rw [hg]; exact (below_size (by repeat (first | (with_reducible first | exact HB.out | apply below_alloc | apply pw_below_drewN | apply below_drew1) | exact HB.out))) : w.heap.size ≤ gb268)); clear HB; have HB := n0_; have BK268 := n1_; have GW268 := n2_; have GE268 := n3_; clear n0_ n1_ n2_ n3_; clear hb hbox hg; have hcz36_0 : w35.cell? ⟨gb268, 0, none⟩ = some (.int .i64 a0_0) := (blk_cell BK268.out 0).trans rfl; have hcz36_1 : w35.cell? ⟨gb268, 1, none⟩ = some (.int .i64 a0_1) := (blk_cell BK268.out 1).trans rfl; have hcz36_2 : w35.cell? ⟨gb268, 2, none⟩ = some (.int .i64 a0_2) := (blk_cell BK268.out 2).trans rfl; have hcz36_3 : w35.cell? ⟨gb268, 3, none⟩ = some (.int .i64 a0_3) := (blk_cell BK268.out 3).trans rfl; have hcz36_4 : w35.cell? ⟨gb268, 4, none⟩ = some (.int .i64 a0_4) := (blk_cell BK268.out 4).trans rfl; have hcz36_5 : w35.cell? ⟨gb268, 5, none⟩ = some (.int .i64 a0_5) := (blk_cell BK268.out 5).trans rfl; have hfz36_0 := blk_frozen BK268.out 0; have hfz36_1 := blk_frozen BK268.out 1; have hfz36_2 := blk_frozen BK268.out 2; have hfz36_3 := blk_frozen BK268.out 3; have hfz36_4 := blk_frozen BK268.out 4; have hfz36_5 := blk_frozen BK268.out 5))
  go_ret
  exact ⟨by first | rfl | (simp [errW_none, errW_some] <;> rfl) | (simp [*, errW_none, errW_some] <;> rfl), by repeat (first | (with_reducible first | exact HB.out | apply below_alloc | apply pw_below_drewN | apply below_drew1 | refine below_set ?_ GE268.out) | exact HB.out)⟩

set_option maxHeartbeats 8000000 in
set_option maxRecDepth 100000 in
theorem strongboxref4_MayHead.leaf1 (a0_0 : Int) (a0_1 : Int) (a0_2 : Int) (a0_3 : Int) (a0_4 : Int) (a0_5 : Int) (w : World) (c2 : a0_0 ≥ 1) (c3 : ¬ (a0_1 ≥ 1)) :
    Calls Try.prog 34 #[.agg #[.int .i64 a0_0, .int .i64 a0_1, .int .i64 a0_2, .int .i64 a0_3, .int .i64 a0_4, .int .i64 a0_5]] w fun e w' => e = .returned (.bool false) ∧ Below w.heap.size w w' := by
  have hu27 := Try.underlying27
  have HB := Aside0.mk (Below.refl w.heap.size w)
  have c2b0 : decide (1 ≤ a0_0) = true := decide_eq_true c2
  clear c2
  have c3b0 : decide (1 ≤ a0_1) = false := decide_eq_false c3
  clear c3
  go_enter Try.func34, Try.ntmps34
  go_wp2_with (first | ((with_reducible refine gate_dst (N := 1) rfl ?_); refine box_event ?hg (N := 1) ?hd (cs := #[.int .i64 a0_0, .int .i64 a0_1, .int .i64 a0_2, .int .i64 a0_3, .int .i64 a0_4, .int .i64 a0_5]) (t := 27) ?hr ?_; (case hd => rfl); (case hg => rfl); (case hr => first | (go_simp; done) | (go_simp; rfl)); intro gb268 hg w33 hbox hb; have n0_ := Aside0.mk (below_step (by repeat (first | (with_reducible first | exact HB.out | apply below_alloc | apply pw_below_drewN | apply below_drew1) | exact HB.out)) hb); have n1_ := Aside0.mk (hbox); have n2_ := Aside0.mk ((by rw [hg]; exact (below_size (by repeat (first | (with_reducible first | exact HB.out | apply below_alloc | apply pw_below_drewN | apply below_drew1) | exact HB.out))) : w.heap.size ≤ gb268)); have n3_ := Aside0.mk ((by rw [hg]; exact (below_size (by repeat (first | (with_reducible first | exact HB.out | apply below_alloc | apply pw_below_drewN | apply below_drew1) | exact HB.out))) : w.heap.size ≤ gb268)); clear HB; have HB := n0_; have BK268 := n1_; have GW268 := n2_; have GE268 := n3_; clear n0_ n1_ n2_ n3_; clear hb hbox hg; have hcz34_0 : w33.cell? ⟨gb268, 0, none⟩ = some (.int .i64 a0_0) := (blk_cell BK268.out 0).trans rfl; have hcz34_1 : w33.cell? ⟨gb268, 1, none⟩ = some (.int .i64 a0_1) := (blk_cell BK268.out 1).trans rfl; have hcz34_2 : w33.cell? ⟨gb268, 2, none⟩ = some (.int .i64 a0_2) := (blk_cell BK268.out 2).trans rfl; have hcz34_3 : w33.cell? ⟨gb268, 3, none⟩ = some (.int .i64 a0_3) := (blk_cell BK268.out 3).trans rfl; have hcz34_4 : w33.cell? ⟨gb268, 4, none⟩ = some (.int .i64 a0_4) := (blk_cell BK268.out 4).trans rfl; have hcz34_5 : w33.cell? ⟨gb268, 5, none⟩ = some (.int .i64 a0_5) := (blk_cell BK268.out 5).trans rfl; have hfz34_0 := blk_frozen BK268.out 0; have hfz34_1 := blk_frozen BK268.out 1; have hfz34_2 := blk_frozen BK268.out 2; have hfz34_3 := blk_frozen BK268.out 3; have hfz34_4 := blk_frozen BK268.out 4; have hfz34_5 := blk_frozen BK268.out 5))
  go_ret
  exact ⟨by first | rfl | (simp [errW_none, errW_some] <;> rfl) | (simp [*, errW_none, errW_some] <;> rfl), by repeat (first | (with_reducible first | exact HB.out | apply below_alloc | apply pw_below_drewN | apply below_drew1 | refine below_set ?_ GE268.out) | exact HB.out)⟩

set_option maxHeartbeats 8000000 in
set_option maxRecDepth 100000 in
theorem strongboxref4_MayHead.leaf2 (a0_0 : Int) (a0_1 : Int) (a0_2 : Int) (a0_3 : Int) (a0_4 : Int) (a0_5 : Int) (w : World) (c2 : a0_0 ≥ 1) (c3 : a0_1 ≥ 1) (c4 : ¬ (a0_0 ≤ 255)) :
    Calls Try.prog 34 #[.agg #[.int .i64 a0_0, .int .i64 a0_1, .int .i64 a0_2, .int .i64 a0_3, .int .i64 a0_4, .int .i64 a0_5]] w fun e w' => e = .returned (.bool false) ∧ Below w.heap.size w w' := by
  have hu27 := Try.underlying27
  have HB := Aside0.mk (Below.refl w.heap.size w)
  have c2b0 : decide (1 ≤ a0_0) = true := decide_eq_true c2
  clear c2
  have c3b0 : decide (1 ≤ a0_1) = true := decide_eq_true c3
  clear c3
  have c4b0 : decide (a0_0 ≤ 255) = false := decide_eq_false c4
  clear c4
  go_enter Try.func34, Try.ntmps34
  go_wp2_with (first | ((with_reducible refine gate_dst (N := 1) rfl ?_); refine box_event ?hg (N := 1) ?hd (cs := #[.int .i64 a0_0, .int .i64 a0_1, .int .i64 a0_2, .int .i64 a0_3, .int .i64 a0_4, .int .i64 a0_5]) (t := 27) ?hr ?_; (case hd => rfl); (case hg => rfl); (case hr => first | (go_simp; done) | (go_simp; rfl)); intro gb268 hg w31 hbox hb; have n0_ := Aside0.mk (below_step (by repeat (first | (with_reducible first | exact HB.out | apply below_alloc | apply pw_below_drewN | apply below_drew1) | exact HB.out)) hb); have n1_ := Aside0.mk (hbox); have n2_ := Aside0.mk ((by rw [hg]; exact (below_size (by repeat (first | (with_reducible first | exact HB.out | apply below_alloc | apply pw_below_drewN | apply below_drew1) | exact HB.out))) : w.heap.size ≤ gb268)); have n3_ := Aside0.mk ((by rw [hg]; exact (below_size (by repeat (first | (with_reducible first | exact HB.out | apply below_alloc | apply pw_below_drewN | apply below_drew1) | exact HB.out))) : w.heap.size ≤ gb268)); clear HB; have HB := n0_; have BK268 := n1_; have GW268 := n2_; have GE268 := n3_; clear n0_ n1_ n2_ n3_; clear hb hbox hg; have hcz32_0 : w31.cell? ⟨gb268, 0, none⟩ = some (.int .i64 a0_0) := (blk_cell BK268.out 0).trans rfl; have hcz32_1 : w31.cell? ⟨gb268, 1, none⟩ = some (.int .i64 a0_1) := (blk_cell BK268.out 1).trans rfl; have hcz32_2 : w31.cell? ⟨gb268, 2, none⟩ = some (.int .i64 a0_2) := (blk_cell BK268.out 2).trans rfl; have hcz32_3 : w31.cell? ⟨gb268, 3, none⟩ = some (.int .i64 a0_3) := (blk_cell BK268.out 3).trans rfl; have hcz32_4 : w31.cell? ⟨gb268, 4, none⟩ = some (.int .i64 a0_4) := (blk_cell BK268.out 4).trans rfl; have hcz32_5 : w31.cell? ⟨gb268, 5, none⟩ = some (.int .i64 a0_5) := (blk_cell BK268.out 5).trans rfl; have hfz32_0 := blk_frozen BK268.out 0; have hfz32_1 := blk_frozen BK268.out 1; have hfz32_2 := blk_frozen BK268.out 2; have hfz32_3 := blk_frozen BK268.out 3; have hfz32_4 := blk_frozen BK268.out 4; have hfz32_5 := blk_frozen BK268.out 5))
  go_ret
  exact ⟨by first | rfl | (simp [errW_none, errW_some] <;> rfl) | (simp [*, errW_none, errW_some] <;> rfl), by repeat (first | (with_reducible first | exact HB.out | apply below_alloc | apply pw_below_drewN | apply below_drew1 | refine below_set ?_ GE268.out) | exact HB.out)⟩

set_option maxHeartbeats 8000000 in
set_option maxRecDepth 100000 in
theorem strongboxref4_MayHead.leaf3 (a0_0 : Int) (a0_1 : Int) (a0_2 : Int) (a0_3 : Int) (a0_4 : Int) (a0_5 : Int) (w : World) (c2 : a0_0 ≥ 1) (c3 : a0_1 ≥ 1) (c4 : a0_0 ≤ 255) (c5 : ¬ (a0_1 ≤ (wrap64 (255 - a0_0)))) :
    Calls Try.prog 34 #[.agg #[.int .i64 a0_0, .int .i64 a0_1, .int .i64 a0_2, .int .i64 a0_3, .int .i64 a0_4, .int .i64 a0_5]] w fun e w' => e = .returned (.bool false) ∧ Below w.heap.size w w' := by
  have hu27 := Try.underlying27
  have HB := Aside0.mk (Below.refl w.heap.size w)
  have c2b0 : decide (1 ≤ a0_0) = true := decide_eq_true c2
  clear c2
  have c3b0 : decide (1 ≤ a0_1) = true := decide_eq_true c3
  clear c3
  have c4b0 : decide (a0_0 ≤ 255) = true := decide_eq_true c4
  clear c4
  have c5b0 : decide (a0_1 ≤ (wrap64 (255 - a0_0))) = false := decide_eq_false c5
  clear c5
  go_enter Try.func34, Try.ntmps34
  go_wp2_with (first | ((with_reducible refine gate_dst (N := 1) rfl ?_); refine box_event ?hg (N := 1) ?hd (cs := #[.int .i64 a0_0, .int .i64 a0_1, .int .i64 a0_2, .int .i64 a0_3, .int .i64 a0_4, .int .i64 a0_5]) (t := 27) ?hr ?_; (case hd => rfl); (case hg => rfl); (case hr => first | (go_simp; done) | (go_simp; rfl)); intro gb268 hg w29 hbox hb; have n0_ := Aside0.mk (below_step (by repeat (first | (with_reducible first | exact HB.out | apply below_alloc | apply pw_below_drewN | apply below_drew1) | exact HB.out)) hb); have n1_ := Aside0.mk (hbox); have n2_ := Aside0.mk ((by rw [hg]; exact (below_size (by repeat (first | (with_reducible first | exact HB.out | apply below_alloc | apply pw_below_drewN | apply below_drew1) | exact HB.out))) : w.heap.size ≤ gb268)); have n3_ := Aside0.mk ((by rw [hg]; exact (below_size (by repeat (first | (with_reducible first | exact HB.out | apply below_alloc | apply pw_below_drewN | apply below_drew1) | exact HB.out))) : w.heap.size ≤ gb268)); clear HB; have HB := n0_; have BK268 := n1_; have GW268 := n2_; have GE268 := n3_; clear n0_ n1_ n2_ n3_; clear hb hbox hg; have hcz30_0 : w29.cell? ⟨gb268, 0, none⟩ = some (.int .i64 a0_0) := (blk_cell BK268.out 0).trans rfl; have hcz30_1 : w29.cell? ⟨gb268, 1, none⟩ = some (.int .i64 a0_1) := (blk_cell BK268.out 1).trans rfl; have hcz30_2 : w29.cell? ⟨gb268, 2, none⟩ = some (.int .i64 a0_2) := (blk_cell BK268.out 2).trans rfl; have hcz30_3 : w29.cell? ⟨gb268, 3, none⟩ = some (.int .i64 a0_3) := (blk_cell BK268.out 3).trans rfl; have hcz30_4 : w29.cell? ⟨gb268, 4, none⟩ = some (.int .i64 a0_4) := (blk_cell BK268.out 4).trans rfl; have hcz30_5 : w29.cell? ⟨gb268, 5, none⟩ = some (.int .i64 a0_5) := (blk_cell BK268.out 5).trans rfl; have hfz30_0 := blk_frozen BK268.out 0; have hfz30_1 := blk_frozen BK268.out 1; have hfz30_2 := blk_frozen BK268.out 2; have hfz30_3 := blk_frozen BK268.out 3; have hfz30_4 := blk_frozen BK268.out 4; have hfz30_5 := blk_frozen BK268.out 5))
  go_ret
  exact ⟨by first | rfl | (simp [errW_none, errW_some] <;> rfl) | (simp [*, errW_none, errW_some] <;> rfl), by repeat (first | (with_reducible first | exact HB.out | apply below_alloc | apply pw_below_drewN | apply below_drew1 | refine below_set ?_ GE268.out) | exact HB.out)⟩

end Go.Proofs.Ytnlpipjdpmaggaa.PShardWrites
