/- WRITTEN FOR THIS CLAIM by a program of the prover's own (the kit's printing program, with constructs added): for each Go function that the statement reaches a Lean function with the same answers, and the proof of that. Not trusted: Lean checks it. -/
import Derived.Test.YtnlpipjdpmaggaaPJournalReadsx0
import Derived.Test.YtnlpipjdpmaggaaPJournalChangesx10
namespace Go.Proofs.Ytnlpipjdpmaggaa.PJournalReads
open Go.RowKit Go.Proofs.YtnlpipjdpmaggaaW.PrintWords Go.Proofs.YtnlpipjdpmaggaaW.PrintLast Go.Proofs.YtnlpipjdpmaggaaW.PrintMore
attribute [local go_sem] max2_int min2_int max_two min_two max_three min_three max_four min_four   -- for this text's walks alone
set_option linter.unusedVariables false
set_option linter.unusedSimpArgs false

/-! ### strongboxref4_Add: function 45 -/
def strongboxref4_Add.f (k : Nat) (a0_0 : Int) (a0_1 : ByteArray) (l0_2 : List (S72)) (a1_0 : Int) (a1_1 : Bool) (a1_2 : Int) (a1_3 : Int) : Option (Int × ByteArray × (List (S72)) × Int) := if (l0_2.length : Int) ≥ 64 then (some (0, (⟨#[]⟩ : ByteArray), ([] : List (S72)), 18)) else (if ([] : List (S72)).length + l0_2.length < 4398046511104 then ((some (([] : List (S72)) ++ l0_2 : List (S72))).bind fun y270 => ((some (([(⟨a1_0, a1_1, a1_2, a1_3⟩ : S72)] : List (S72)) : List (S72))).bind fun y273 => (if y270.length + y273.length < 4398046511104 then ((some (y270 ++ y273 : List (S72))).bind fun y276 => ((strongboxref4_May.f k a0_0 a0_1 y276).bind fun t279 => (if t279 = true then (some (a0_0, a0_1, y276, 0)) else (some (0, (⟨#[]⟩ : ByteArray), ([] : List (S72)), 1))))) else (none)))) else (none))
theorem strongboxref4_Add.mono : ∀ a0 a1 a2 a3 a4 a5 a6 k, LeO (strongboxref4_Add.f k a0 a1 a2 a3 a4 a5 a6) (strongboxref4_Add.f (k + 1) a0 a1 a2 a3 a4 a5 a6) := by
  intro a0 a1 a2 a3 a4 a5 a6 k
  unfold strongboxref4_Add.f
  repeat' first
      | (with_reducible exact strongboxref4_May.mono _ _ _ _)
      | (with_reducible exact LeO.refl _)
      | (with_reducible exact LeO.none _)
      | (with_reducible refine LeO.ite ?_ ?_)
      | (with_reducible refine LeO.bind ?_ (fun _ => ?_))
      | exact strongboxref4_May.mono _ _ _ _
      | exact LeO.none _
      | refine LeO.ite ?_ ?_
      | refine LeO.bind ?_ (fun _ => ?_)
def strongboxref4_Add.T3 : Bool × List (List Nat × List Nat) := (true, [([], []), ([0], [0]), ([1], [1]), ([], []), ([3], [3]), ([2, 4, 2], [2, 4]), ([0, 1, 2, 3, 4, 5], []), ([6, 5, 5, 0, 1, 2, 3, 4, 5], [5, 6])])
def strongboxref4_Add.B3 : List Nat := [0, 1, 3, 0, 8, 31, 63, 127]
theorem strongboxref4_Add.tab3 : rtab .any (opsOf Try.f45 3) = strongboxref4_Add.T3 := by kernel_rfl
theorem strongboxref4_Add.bits3 : waitsOk strongboxref4_Add.T3.2 strongboxref4_Add.B3 = true := by kernel_rfl
set_option maxHeartbeats 8000000 in
set_option maxRecDepth 100000 in
theorem strongboxref4_Add.calls (k : Nat) (a0_0 : Int) (a0_1 : ByteArray) (A0_2 : Option Addr) (c0_2 : Nat) (l0_2 : List (S72)) (a1_0 : Int) (a1_1 : Bool) (a1_2 : Int) (a1_3 : Int) (r1 : Int) (r2 : ByteArray) (r3 : List (S72)) (r4 : Int) (w : World) (hr0_2 : Kd.C k72 w A0_2 l0_2.length l0_2) (hc0_2 : l0_2.length ≤ c0_2) (h : strongboxref4_Add.f k a0_0 a0_1 l0_2 a1_0 a1_1 a1_2 a1_3 = some (r1, r2, r3, r4)) :
    Calls Try.prog 45 #[.agg #[.int .i64 a0_0, .string a0_1, .slice A0_2 l0_2.length c0_2], .agg #[.int .i64 a1_0, .bool a1_1, .int .i64 a1_2, .int .u32 a1_3]] w fun e w' => ∃ v2_ : Value, e = .returned (.tuple #[.agg #[.int .i64 r1, .string r2, v2_], .int .i64 r4]) ∧ Kd.R k72 72 w' w.heap.size (fun _ => True) v2_ r3 ∧ Below w.heap.size w w' := by
  have hu45 := Try.underlying45
  have hu72 := Try.underlying72
  have HR0_2 := Aside0.mk hr0_2
  have HC0_2 := Aside0.mk hc0_2
  clear hr0_2 hc0_2
  have HB := Aside0.mk (Below.refl w.heap.size w)
  have H : (if (l0_2.length : Int) ≥ 64 then (some (0, (⟨#[]⟩ : ByteArray), ([] : List (S72)), 18)) else (if ([] : List (S72)).length + l0_2.length < 4398046511104 then ((some (([] : List (S72)) ++ l0_2 : List (S72))).bind fun y270 => ((some (([(⟨a1_0, a1_1, a1_2, a1_3⟩ : S72)] : List (S72)) : List (S72))).bind fun y273 => (if y270.length + y273.length < 4398046511104 then ((some (y270 ++ y273 : List (S72))).bind fun y276 => ((strongboxref4_May.f k a0_0 a0_1 y276).bind fun t279 => (if t279 = true then (some (a0_0, a0_1, y276, 0)) else (some (0, (⟨#[]⟩ : ByteArray), ([] : List (S72)), 1))))) else (none)))) else (none))) = some (r1, r2, r3, r4) := h
  clear h
  by_cases c3 : (l0_2.length : Int) ≥ 64
  · rw [if_pos c3] at H
    have c3b0 : decide (64 ≤ (l0_2.length : Int)) = true := decide_eq_true c3
    have c3b1 : decide (64 ≤ l0_2.length) = true := decide_eq_true (by omega)
    clear c3
    simp only [Option.some.injEq, Prod.mk.injEq] at H
    obtain ⟨rfl, rfl, rfl, rfl⟩ := H
    go_enter Try.func45, Try.ntmps45
    go_wp2_with (first | ((with_reducible refine gate_dst (N := 2) rfl ?_); refine box_event ?hg (N := 2) ?hd (cs := #[.int .i64 a0_0, .string a0_1, .slice A0_2 l0_2.length c0_2]) (t := 45) ?hr ?_; (case hd => rfl); (case hg => rfl); (case hr => first | (go_simp; done) | (go_simp; rfl)); intro gb267 hg w4 hbox hb; have n0_ := Aside0.mk (below_step (by repeat (first | (with_reducible first | exact HB.out | apply below_alloc | apply pw_below_drewN | apply below_drew1) | exact HB.out)) hb); have BK267 := Aside0.mk (hbox); have GW267 := Aside0.mk ((by rw [hg]; exact (below_size (by repeat (first | (with_reducible first | exact HB.out | apply below_alloc | apply pw_below_drewN | apply below_drew1) | exact HB.out))) : w.heap.size ≤ gb267)); have GE267 := Aside0.mk GW267.out; clear HB; have HB := n0_; clear n0_; clear hb hbox hg) | ((with_reducible refine gate_dst (N := 3) rfl ?_); refine box_event ?hg (N := 3) ?hd (cs := #[.int .i64 a1_0, .bool a1_1, .int .i64 a1_2, .int .u32 a1_3]) (t := 72) ?hr ?_; (case hd => rfl); (case hg => rfl); (case hr => first | (go_simp; done) | (go_simp; rfl)); intro gb268 hg w5 hbox hb; have n0_ := Aside0.mk (blk_below (by (with_reducible repeat (first | refine blk_drewN ?_ _ | refine blk_drew ?_ | refine blk_alloc ?_ _)); exact BK267.out) hb); have n1_ := Aside0.mk (below_step (by repeat (first | (with_reducible first | exact HB.out | apply below_alloc | apply pw_below_drewN | apply below_drew1 | refine below_set ?_ GE267.out) | exact HB.out)) hb); have BK268 := Aside0.mk (hbox); have GW268 := Aside0.mk ((by rw [hg]; exact (below_size (by repeat (first | (with_reducible first | exact HB.out | apply below_alloc | apply pw_below_drewN | apply below_drew1 | refine below_set ?_ GE267.out) | exact HB.out))) : w.heap.size ≤ gb268)); have GE268 := Aside0.mk GW268.out; have NB267_268 := Aside0.mk ((by rw [hg]; exact Nat.ne_of_lt (blk_lt (by (with_reducible repeat (first | refine blk_drewN ?_ _ | refine blk_drew ?_ | refine blk_alloc ?_ _)); exact BK267.out)) : gb267 ≠ gb268)); have NB268_267 := Aside0.mk NB267_268.out.symm; clear BK267; clear HB; have BK267 := n0_; have HB := n1_; clear n0_ n1_; clear hb hbox hg) | ((with_reducible refine gate_dst (N := 4) rfl ?_); refine box_event ?hg (N := 4) ?hd (cs := #[.int .i64 0, .string (⟨#[]⟩ : ByteArray), .slice none 0 0]) (t := 45) ?hr ?_; (case hd => rfl); (case hg => rfl); (case hr => first | (go_simp; done) | (go_simp; rfl)); intro gb269 hg w6 hbox hb; have n0_ := Aside0.mk (blk_below (by (with_reducible repeat (first | refine blk_drewN ?_ _ | refine blk_drew ?_ | refine blk_alloc ?_ _)); exact BK267.out) hb); have n1_ := Aside0.mk (blk_below (by (with_reducible repeat (first | refine blk_drewN ?_ _ | refine blk_drew ?_ | refine blk_alloc ?_ _)); exact BK268.out) hb); have n2_ := Aside0.mk (below_step (by repeat (first | (with_reducible first | exact HB.out | apply below_alloc | apply pw_below_drewN | apply below_drew1 | refine below_set ?_ GE267.out | refine below_set ?_ GE268.out) | exact HB.out)) hb); have BK269 := Aside0.mk (hbox); have GW269 := Aside0.mk ((by rw [hg]; exact (below_size (by repeat (first | (with_reducible first | exact HB.out | apply below_alloc | apply pw_below_drewN | apply below_drew1 | refine below_set ?_ GE267.out | refine below_set ?_ GE268.out) | exact HB.out))) : w.heap.size ≤ gb269)); have GE269 := Aside0.mk GW269.out; have NB267_269 := Aside0.mk ((by rw [hg]; exact Nat.ne_of_lt (blk_lt (by (with_reducible repeat (first | refine blk_drewN ?_ _ | refine blk_drew ?_ | refine blk_alloc ?_ _)); exact BK267.out)) : gb267 ≠ gb269)); have NB269_267 := Aside0.mk NB267_269.out.symm; have NB268_269 := Aside0.mk ((by rw [hg]; exact Nat.ne_of_lt (blk_lt (by (with_reducible repeat (first | refine blk_drewN ?_ _ | refine blk_drew ?_ | refine blk_alloc ?_ _)); exact BK268.out)) : gb268 ≠ gb269)); have NB269_268 := Aside0.mk NB268_269.out.symm; clear BK267; clear BK268; clear HB; have BK267 := n0_; have BK268 := n1_; have HB := n2_; clear n0_ n1_ n2_; clear hb hbox hg; have hnb7 := NB267_268.out; have hnc7 := NB268_267.out; have hnb8 := NB267_269.out; have hnc8 := NB269_267.out; have hcz9_0 : w6.cell? ⟨gb267, 0, none⟩ = some (.int .i64 a0_0) := (blk_cell BK267.out 0).trans rfl; have hcz9_1 : w6.cell? ⟨gb267, 1, none⟩ = some (.string a0_1) := (blk_cell BK267.out 1).trans rfl; have hcz9_2 : w6.cell? ⟨gb267, 2, none⟩ = some (.slice A0_2 l0_2.length c0_2) := (blk_cell BK267.out 2).trans rfl; have hfz9_0 := blk_frozen BK267.out 0; have hfz9_1 := blk_frozen BK267.out 1; have hfz9_2 := blk_frozen BK267.out 2; have hnb10 := NB269_268.out; have hnc10 := NB268_269.out; have hcz11_0 : w6.cell? ⟨gb269, 0, none⟩ = some (.int .i64 0) := (blk_cell BK269.out 0).trans rfl; have hcz11_1 : w6.cell? ⟨gb269, 1, none⟩ = some (.string (⟨#[]⟩ : ByteArray)) := (blk_cell BK269.out 1).trans rfl; have hcz11_2 : w6.cell? ⟨gb269, 2, none⟩ = some (.slice none 0 0) := (blk_cell BK269.out 2).trans rfl; have hfz11_0 := blk_frozen BK269.out 0; have hfz11_1 := blk_frozen BK269.out 1; have hfz11_2 := blk_frozen BK269.out 2))
    refine bodyPost_ret (results_ct rfl _ _ gb269 45 #[.int .i64 0, .string (⟨#[]⟩ : ByteArray), .slice none 0 0] (0, 0) _ rfl (by (with_reducible repeat (first | refine blk_drewN ?_ _ | refine blk_drew ?_ | refine blk_alloc ?_ _)); refine blk_put (cs := #[.int .i64 0, .string (⟨#[]⟩ : ByteArray), .slice none 0 0]) ?_ 2 _ rfl; (with_reducible repeat (first | refine blk_drewN ?_ _ | refine blk_drew ?_ | refine blk_alloc ?_ _)); refine blk_put (cs := #[.int .i64 0, .string (⟨#[]⟩ : ByteArray), .slice none 0 0]) ?_ 1 _ rfl; (with_reducible repeat (first | refine blk_drewN ?_ _ | refine blk_drew ?_ | refine blk_alloc ?_ _)); refine blk_put (cs := #[.int .i64 0, .string (⟨#[]⟩ : ByteArray), .slice none 0 0]) ?_ 0 _ rfl; (with_reducible repeat (first | refine blk_drewN ?_ _ | refine blk_drew ?_ | refine blk_alloc ?_ _)); exact BK269.out) Try.underlying45 rfl (by kernel_rfl)) rfl ?_
    exact ⟨_, by first | rfl | (simp [errW_none, errW_some] <;> rfl) | (simp [*, errW_none, errW_some] <;> rfl), by first | exact Kd.R_nil _ _ _ _ _ | exact Kd.N_nil _ _ _ _ _ | exact Kd.V_nil _ _ _ _ _ | exact Kd.Q_nil _ _ _ _ _ | exact Kd.S_nil _ _ _ _ _, by repeat (first | (with_reducible first | exact HB.out | apply below_alloc | apply pw_below_drewN | apply below_drew1 | refine below_set ?_ GE267.out | refine below_set ?_ GE268.out | refine below_set ?_ GE269.out) | exact HB.out)⟩
  · rw [if_neg c3] at H
    have c3b0 : decide (64 ≤ (l0_2.length : Int)) = false := decide_eq_false c3
    have c3b1 : decide (64 ≤ l0_2.length) = false := decide_eq_false (by omega)
    clear c3
    by_cases c12 : ([] : List (S72)).length + l0_2.length < 4398046511104
    · rw [if_pos c12] at H
      have LMc12 := Aside0.mk c12
      clear c12
      obtain ⟨y270, hy270⟩ : ∃ y_ : List (S72), y_ = (([] : List (S72)) ++ l0_2) := ⟨_, rfl⟩
      replace H : ((some (([(⟨a1_0, a1_1, a1_2, a1_3⟩ : S72)] : List (S72)) : List (S72))).bind fun y273 => (if y270.length + y273.length < 4398046511104 then ((some (y270 ++ y273 : List (S72))).bind fun y276 => ((strongboxref4_May.f k a0_0 a0_1 y276).bind fun t279 => (if t279 = true then (some (a0_0, a0_1, y276, 0)) else (some (0, (⟨#[]⟩ : ByteArray), ([] : List (S72)), 1))))) else (none))) = some (r1, r2, r3, r4) := by first | (rw [hy270]; with_reducible exact H) | (have H2_ := (Option.bind_some _ _).symm.trans H; rw [hy270]; with_reducible exact H2_) | (have H2_ := (Option.bind_some _ _).symm.trans H; with_reducible exact H2_) | with_reducible exact H | (rw [hy270]; exact H) | exact H
      have Ny270 := Aside0.mk hy270
      clear hy270
      obtain ⟨y273, hy273⟩ : ∃ y_ : List (S72), y_ = (([(⟨a1_0, a1_1, a1_2, a1_3⟩ : S72)] : List (S72))) := ⟨_, rfl⟩
      replace H : (if y270.length + y273.length < 4398046511104 then ((some (y270 ++ y273 : List (S72))).bind fun y276 => ((strongboxref4_May.f k a0_0 a0_1 y276).bind fun t279 => (if t279 = true then (some (a0_0, a0_1, y276, 0)) else (some (0, (⟨#[]⟩ : ByteArray), ([] : List (S72)), 1))))) else (none)) = some (r1, r2, r3, r4) := by first | (rw [hy273]; with_reducible exact H) | (have H2_ := (Option.bind_some _ _).symm.trans H; rw [hy273]; with_reducible exact H2_) | (have H2_ := (Option.bind_some _ _).symm.trans H; with_reducible exact H2_) | with_reducible exact H | (rw [hy273]; exact H) | exact H
      have Ny273 := Aside0.mk hy273
      clear hy273
      by_cases c13 : y270.length + y273.length < 4398046511104
      · rw [if_pos c13] at H
        have LMc13 := Aside0.mk c13
        clear c13
        obtain ⟨y276, hy276⟩ : ∃ y_ : List (S72), y_ = (y270 ++ y273) := ⟨_, rfl⟩
        replace H : ((strongboxref4_May.f k a0_0 a0_1 y276).bind fun t279 => (if t279 = true then (some (a0_0, a0_1, y276, 0)) else (some (0, (⟨#[]⟩ : ByteArray), ([] : List (S72)), 1)))) = some (r1, r2, r3, r4) := by first | (rw [hy276]; with_reducible exact H) | (have H2_ := (Option.bind_some _ _).symm.trans H; rw [hy276]; with_reducible exact H2_) | (have H2_ := (Option.bind_some _ _).symm.trans H; with_reducible exact H2_) | with_reducible exact H | (rw [hy276]; exact H) | exact H
        have Ny276 := Aside0.mk hy276
        clear hy276
        replace H := Option.bind_eq_some_iff.mp H
        obtain ⟨t279, A140, H⟩ := H
        replace H : (if t279 = true then (some (a0_0, a0_1, y276, 0)) else (some (0, (⟨#[]⟩ : ByteArray), ([] : List (S72)), 1))) = some (r1, r2, r3, r4) := H
        have A14 := Aside0.mk A140
        clear A140
        by_cases c15 : t279 = true
        · subst c15
          have H1 : (some (a0_0, a0_1, y276, 0)) = some (r1, r2, r3, r4) := by rw [if_pos rfl] at H; exact H
          clear H
          have H := H1
          clear H1
          simp only [Option.some.injEq, Prod.mk.injEq] at H
          obtain ⟨rfl, rfl, rfl, rfl⟩ := H
          go_enter Try.func45, Try.ntmps45
          try go_wp2_with (first | ((with_reducible refine gate_dst (N := 2) rfl ?_); refine box_event ?hg (N := 2) ?hd (cs := #[.int .i64 a0_0, .string a0_1, .slice A0_2 l0_2.length c0_2]) (t := 45) ?hr ?_; (case hd => rfl); (case hg => rfl); (case hr => first | (go_simp; done) | (go_simp; rfl)); intro gb267 hg w16 hbox hb; have n0_ := Aside0.mk (below_step (by repeat (first | (with_reducible first | exact HB.out | apply below_alloc | apply pw_below_drewN | apply below_drew1) | exact HB.out)) hb); have BK267 := Aside0.mk (hbox); have GW267 := Aside0.mk ((by rw [hg]; exact (below_size (by repeat (first | (with_reducible first | exact HB.out | apply below_alloc | apply pw_below_drewN | apply below_drew1) | exact HB.out))) : w.heap.size ≤ gb267)); have GE267 := Aside0.mk GW267.out; clear HB; have HB := n0_; clear n0_; clear hb hbox hg) | ((with_reducible refine gate_dst (N := 3) rfl ?_); refine box_event ?hg (N := 3) ?hd (cs := #[.int .i64 a1_0, .bool a1_1, .int .i64 a1_2, .int .u32 a1_3]) (t := 72) ?hr ?_; (case hd => rfl); (case hg => rfl); (case hr => first | (go_simp; done) | (go_simp; rfl)); intro gb268 hg w17 hbox hb; have n0_ := Aside0.mk (blk_below (by (with_reducible repeat (first | refine blk_drewN ?_ _ | refine blk_drew ?_ | refine blk_alloc ?_ _)); exact BK267.out) hb); have n1_ := Aside0.mk (below_step (by repeat (first | (with_reducible first | exact HB.out | apply below_alloc | apply pw_below_drewN | apply below_drew1 | refine below_set ?_ GE267.out) | exact HB.out)) hb); have BK268 := Aside0.mk (hbox); have GW268 := Aside0.mk ((by rw [hg]; exact (below_size (by repeat (first | (with_reducible first | exact HB.out | apply below_alloc | apply pw_below_drewN | apply below_drew1 | refine below_set ?_ GE267.out) | exact HB.out))) : w.heap.size ≤ gb268)); have GE268 := Aside0.mk GW268.out; have NB267_268 := Aside0.mk ((by rw [hg]; exact Nat.ne_of_lt (blk_lt (by (with_reducible repeat (first | refine blk_drewN ?_ _ | refine blk_drew ?_ | refine blk_alloc ?_ _)); exact BK267.out)) : gb267 ≠ gb268)); have NB268_267 := Aside0.mk NB267_268.out.symm; clear BK267; clear HB; have BK267 := n0_; have HB := n1_; clear n0_ n1_; clear hb hbox hg) | ((with_reducible refine gate_dst (N := 4) rfl ?_); refine box_event ?hg (N := 4) ?hd (cs := #[.int .i64 0, .string (⟨#[]⟩ : ByteArray), .slice none 0 0]) (t := 45) ?hr ?_; (case hd => rfl); (case hg => rfl); (case hr => first | (go_simp; done) | (go_simp; rfl)); intro gb269 hg w18 hbox hb; have n0_ := Aside0.mk (blk_below (by (with_reducible repeat (first | refine blk_drewN ?_ _ | refine blk_drew ?_ | refine blk_alloc ?_ _)); exact BK267.out) hb); have n1_ := Aside0.mk (blk_below (by (with_reducible repeat (first | refine blk_drewN ?_ _ | refine blk_drew ?_ | refine blk_alloc ?_ _)); exact BK268.out) hb); have n2_ := Aside0.mk (below_step (by repeat (first | (with_reducible first | exact HB.out | apply below_alloc | apply pw_below_drewN | apply below_drew1 | refine below_set ?_ GE267.out | refine below_set ?_ GE268.out) | exact HB.out)) hb); have BK269 := Aside0.mk (hbox); have GW269 := Aside0.mk ((by rw [hg]; exact (below_size (by repeat (first | (with_reducible first | exact HB.out | apply below_alloc | apply pw_below_drewN | apply below_drew1 | refine below_set ?_ GE267.out | refine below_set ?_ GE268.out) | exact HB.out))) : w.heap.size ≤ gb269)); have GE269 := Aside0.mk GW269.out; have NB267_269 := Aside0.mk ((by rw [hg]; exact Nat.ne_of_lt (blk_lt (by (with_reducible repeat (first | refine blk_drewN ?_ _ | refine blk_drew ?_ | refine blk_alloc ?_ _)); exact BK267.out)) : gb267 ≠ gb269)); have NB269_267 := Aside0.mk NB267_269.out.symm; have NB268_269 := Aside0.mk ((by rw [hg]; exact Nat.ne_of_lt (blk_lt (by (with_reducible repeat (first | refine blk_drewN ?_ _ | refine blk_drew ?_ | refine blk_alloc ?_ _)); exact BK268.out)) : gb268 ≠ gb269)); have NB269_268 := Aside0.mk NB268_269.out.symm; clear BK267; clear BK268; clear HB; have BK267 := n0_; have BK268 := n1_; have HB := n2_; clear n0_ n1_ n2_; clear hb hbox hg; have hnb19 := NB267_268.out; have hnc19 := NB268_267.out; have hnb20 := NB267_269.out; have hnc20 := NB269_267.out; have hcz21_0 : w18.cell? ⟨gb267, 0, none⟩ = some (.int .i64 a0_0) := (blk_cell BK267.out 0).trans rfl; have hcz21_1 : w18.cell? ⟨gb267, 1, none⟩ = some (.string a0_1) := (blk_cell BK267.out 1).trans rfl; have hcz21_2 : w18.cell? ⟨gb267, 2, none⟩ = some (.slice A0_2 l0_2.length c0_2) := (blk_cell BK267.out 2).trans rfl; have hfz21_0 := blk_frozen BK267.out 0; have hfz21_1 := blk_frozen BK267.out 1; have hfz21_2 := blk_frozen BK267.out 2))
          have n0_ := Aside0.mk (blk_drew BK267.out)
          have n1_ := Aside0.mk (blk_drew BK268.out)
          have n2_ := Aside0.mk (blk_drew BK269.out)
          have n3_ := Aside0.mk (below_drew1 HB.out)
          clear BK267
          clear BK268
          clear BK269
          clear HB
          have BK267 := n0_
          have BK268 := n1_
          have BK269 := n2_
          have HB := n3_
          clear n0_ n1_ n2_ n3_
          refine start_ (n := 8) (S := fun w' => w'.cell? ⟨gb267, 0, none⟩ = some (.int .i64 a0_0) ∧ w'.cell? ⟨gb267, 1, none⟩ = some (.string a0_1) ∧ w'.cell? ⟨gb267, 2, none⟩ = some (.slice A0_2 l0_2.length c0_2) ∧ w'.cell? ⟨gb268, 0, none⟩ = some (.int .i64 a1_0) ∧ w'.cell? ⟨gb268, 1, none⟩ = some (.bool a1_1) ∧ w'.cell? ⟨gb268, 2, none⟩ = some (.int .i64 a1_2) ∧ w'.cell? ⟨gb268, 3, none⟩ = some (.int .u32 a1_3)) (ds := [7]) #[false, false, false, false, false, false, false, false] (by kernel_rfl) rfl rfl ⟨(blk_cell BK267.out 0).trans rfl, (blk_cell BK267.out 1).trans rfl, (blk_cell BK267.out 2).trans rfl, (blk_cell BK268.out 0).trans rfl, (blk_cell BK268.out 1).trans rfl, (blk_cell BK268.out 2).trans rfl, (blk_cell BK268.out 3).trans rfl⟩ (fun hHeld => ?_); refine with_tabW strongboxref4_Add.tab3 strongboxref4_Add.bits3 (fun HT_ HW_ => ?_)
          generalize w18.drew = w22 at BK267 BK268 BK269 HB hHeld ⊢
          refine pure_ (i := 0) (N := some 11) (v := ?_) (a' := ?_) #[true, false, false, false, false, false, false, false] rfl rfl (any_of HT_.out (by kernel_rfl)) (fun _ _ _ h => h) (Or.inl ⟨by rfl, ?_⟩) ?_ ?_
          rotate_left
          · intro w'
            go_simp
            with_reducible rfl
          rotate_left
          · simp only [Act.put, List.setIfInBounds_toArray, List.set_cons_zero, List.set_cons_succ, i64_w, i32_w]
            rfl
          refine take_ (i := 1) (N := some 12) (v := ?_) (a' := ?_) #[true, true, false, false, false, false, false, false] rfl rfl (take_ofW HT_.out HW_.out (by kernel_rfl)) (fun _ _ _ h => h) (Or.inl ⟨by rfl, ?_⟩) hHeld ?_ ?_
          rotate_left
          · rintro w' ⟨s0, s1, s2, s3, s4, s5, s6⟩
            go_simp
            with_reducible rfl
          rotate_left
          · simp only [Act.put, List.setIfInBounds_toArray, List.set_cons_zero, List.set_cons_succ, i64_w, i32_w]
            rfl
          refine take_ (i := 3) (N := some 14) (v := ?_) (a' := ?_) #[true, true, false, true, false, false, false, false] rfl rfl (take_ofW HT_.out HW_.out (by kernel_rfl)) (fun _ _ _ h => h) (Or.inl ⟨by rfl, ?_⟩) hHeld ?_ ?_
          rotate_left
          · rintro w' ⟨s0, s1, s2, s3, s4, s5, s6⟩
            go_simp
            with_reducible rfl
          rotate_left
          · simp only [Act.put, List.setIfInBounds_toArray, List.set_cons_zero, List.set_cons_succ, i64_w, i32_w]
            rfl
          refine join_ (σ := Value × Value) 3 #[true, true, true, true, true, false, false, false] (fun s_ => [(13, s_.1), (15, s_.2)]) (fun s_ w' => (w'.cell? ⟨gb267, 0, none⟩ = some (.int .i64 a0_0) ∧ w'.cell? ⟨gb267, 1, none⟩ = some (.string a0_1) ∧ w'.cell? ⟨gb267, 2, none⟩ = some (.slice A0_2 l0_2.length c0_2) ∧ w'.cell? ⟨gb268, 0, none⟩ = some (.int .i64 a1_0) ∧ w'.cell? ⟨gb268, 1, none⟩ = some (.bool a1_1) ∧ w'.cell? ⟨gb268, 2, none⟩ = some (.int .i64 a1_2) ∧ w'.cell? ⟨gb268, 3, none⟩ = some (.int .u32 a1_3)) ∧ (Kd.R k72 72 w' w.heap.size (fun k_ => some k_ ≠ (s_.2 : Value).ownBlock ∧ k_ ≠ gb268) s_.1 y270) ∧ (Kd.R k72 72 w' w.heap.size (fun k_ => some k_ ≠ (s_.1 : Value).ownBlock ∧ k_ ≠ gb268) s_.2 y273) ∧ (w'.heap[gb267]? = some (.cells #[.int .i64 a0_0, .string a0_1, .slice A0_2 l0_2.length c0_2] 45 (0, 0))) ∧ (w'.heap[gb268]? = some (.cells #[.int .i64 a1_0, .bool a1_1, .int .i64 a1_2, .int .u32 a1_3] 72 (0, 0))) ∧ (w'.heap[gb269]? = some (.cells #[.int .i64 0, .string (⟨#[]⟩ : ByteArray), .slice none 0 0] 45 (0, 0))) ∧ (Below w.heap.size w w')) ?_ ?_
          rotate_left
          · intro hCont
            refine two_ (i := 2) (j := 4) (Ni := some 13) (Nj := some 15) #[true, true, true, true, false, false, false, false] #[true, true, false, true, true, false, false, false] rfl rfl rfl rfl (two_of HT_.out (by kernel_rfl)) (by decide) (by decide) (fun K hK => ?_) (fun K hK => ?_)
            · skip
              refine Kd.R_append_rows_step k72 (w0 := w) w.heap.size rfl (.const (.slice none 0 0)) (.tmp 12) 43 72 (.agg #[(.int .i64 0), (.bool false), (.int .i64 0), (.int .u32 0)]) 32 rfl Try.underlying43 info72 rfl (by decide) (by omega) (.slice none 0 0) ([] : List (S72)) l0_2 _ _ _ (fun k_ => k_ ≠ gb268) (fun _ => False) rfl rfl ?aO ?aR (fun _ _ h => h) (fun _ h => h.elim) ?aF ?aB ?aS ?aL ?_
              (case aR => repeat (first | exact (Kd.C_below HR0_2.out HB.out) | (with_reducible refine Kd.C_alloc ?_ _) | (with_reducible refine Kd.C_drewN ?_ _) | (with_reducible refine Kd.C_drew ?_)))
              (case aB => exact (by repeat (first | (with_reducible first | exact HB.out | apply below_alloc | apply pw_below_drewN | apply below_drew1 | refine below_set ?_ GE267.out | refine below_set ?_ GE268.out | refine below_set ?_ GE269.out) | exact HB.out)))
              (case aF => exact (fun k_ hk => Kd.freshB (g := gb268) (o := .cells #[.int .i64 a1_0, .bool a1_1, .int .i64 a1_2, .int .u32 a1_3] 72 (0, 0)) (by (with_reducible repeat (first | refine blk_drewN ?_ _ | refine blk_drew ?_ | refine blk_alloc ?_ _)); exact BK268.out) k_ hk))
              (case aO => exact ((Kd.R_nil _ _ _ _ (fun k_ => k_ ≠ gb268))))
              (case aS => exact (below_size (by repeat (first | (with_reducible first | exact HB.out | apply below_alloc | apply pw_below_drewN | apply below_drew1 | refine below_set ?_ GE267.out | refine below_set ?_ GE268.out | refine below_set ?_ GE269.out) | exact HB.out))))
              (case aL => have := LMc12.out; omega)
              intro v271 w23 ho hb hg hat
              rw [← Ny270.out] at ho
              have n0_ := Aside0.mk (blk_grown (g := gb267) (o := .cells #[.int .i64 a0_0, .string a0_1, .slice A0_2 l0_2.length c0_2] 45 (0, 0)) (by (with_reducible repeat (first | refine blk_drewN ?_ _ | refine blk_drew ?_ | refine blk_alloc ?_ _)); exact BK267.out) hg (by simp [Value.ownBlock]))
              have n1_ := Aside0.mk (blk_grown (g := gb268) (o := .cells #[.int .i64 a1_0, .bool a1_1, .int .i64 a1_2, .int .u32 a1_3] 72 (0, 0)) (by (with_reducible repeat (first | refine blk_drewN ?_ _ | refine blk_drew ?_ | refine blk_alloc ?_ _)); exact BK268.out) hg (by simp [Value.ownBlock]))
              have n2_ := Aside0.mk (blk_grown (g := gb269) (o := .cells #[.int .i64 0, .string (⟨#[]⟩ : ByteArray), .slice none 0 0] 45 (0, 0)) (by (with_reducible repeat (first | refine blk_drewN ?_ _ | refine blk_drew ?_ | refine blk_alloc ?_ _)); exact BK269.out) hg (by simp [Value.ownBlock]))
              have n3_ := Aside0.mk (hb)
              have n4_ := Aside0.mk (ho)
              clear BK267
              clear BK268
              clear BK269
              clear HB
              have BK267 := n0_
              have BK268 := n1_
              have BK269 := n2_
              have HB := n3_
              have HO272 := n4_
              clear n0_ n1_ n2_ n3_ n4_
              clear ho hb hg hat
              refine hK.out _ _ ⟨(blk_cell BK267.out 0).trans rfl, (blk_cell BK267.out 1).trans rfl, (blk_cell BK267.out 2).trans rfl, (blk_cell BK268.out 0).trans rfl, (blk_cell BK268.out 1).trans rfl, (blk_cell BK268.out 2).trans rfl, (blk_cell BK268.out 3).trans rfl⟩ (fun hHeld => ?_)
              clear hK K
              refine norm_ (a' := ?_) ?_ ?_
              rotate_left
              · show Act.put _ (some 13) _ = _
                simp only [Act.put, List.setIfInBounds_toArray, List.set_cons_zero, List.set_cons_succ, i64_w, i32_w]
                rfl
              refine one_ (i := 4) (N := some 15) #[true, true, true, true, true, false, false, false] rfl rfl (one_of HT_.out (by kernel_rfl)) (by decide) (fun K hK => ?_)
              refine Kd.R_lit_step k72 _ 72 ?hg (N := 15) ?hd (xs := ([(⟨a1_0, a1_1, a1_2, a1_3⟩ : S72)] : List (S72))) (inner := [.int .i64 a1_0, .bool a1_1, .int .i64 a1_2, .int .u32 a1_3]) (ok := fun _ => True) (okp := fun _ => True) ?hr ?hp (fun _ hk => hk) trivial (Below.refl _ _) (Nat.le_refl _) (by simp) ?_; (case hd => rfl); (case hg => rfl); (case hr => first | (go_simp; done) | (go_simp; rfl)); (case hp => exact (Reps.c4 (show Kd.M k72 _ _ _ (⟨a1_0, a1_1, a1_2, a1_3⟩ : S72) [.int .i64 a1_0, .bool a1_1, .int .i64 a1_2, .int .u32 a1_3] from (k72_mkM _ _ _ (⟨a1_0, a1_1, a1_2, a1_3⟩ : S72) )) (Reps.none _ _)))
              intro v274 w24 ho25 hb hg_ hnew_
              clear hg_ hnew_
              (first | rw [← Ny273.out] at ho25 | (simp only [Int.reduceToNat] at ho25; rw [← Ny273.out] at ho25))
              have n0_ := Aside0.mk (Kd.R_elder' (by (with_reducible repeat (first | apply Kd.R_alloc | apply Kd.R_drewN | apply Kd.R_drew)); exact HO272.out) (Kd.R_base ho25) hb)
              have n1_ := Aside0.mk (Kd.R_lower (Kd.R_newB (Kd.R_new' ho25 (Kd.R_lt (by (with_reducible repeat (first | apply Kd.R_alloc | apply Kd.R_drewN | apply Kd.R_drew)); exact HO272.out))) (g := gb268) (o := .cells #[.int .i64 a1_0, .bool a1_1, .int .i64 a1_2, .int .u32 a1_3] 72 (0, 0)) (by (with_reducible repeat (first | refine blk_drewN ?_ _ | refine blk_drew ?_ | refine blk_alloc ?_ _)); exact BK268.out)) (below_size (by repeat (first | (with_reducible first | exact HB.out | apply below_alloc | apply pw_below_drewN | apply below_drew1 | refine below_set ?_ GE267.out | refine below_set ?_ GE268.out | refine below_set ?_ GE269.out) | exact HB.out))))
              have n2_ := Aside0.mk (blk_below (by (with_reducible repeat (first | refine blk_drewN ?_ _ | refine blk_drew ?_ | refine blk_alloc ?_ _)); exact BK267.out) hb)
              have n3_ := Aside0.mk (blk_below (by (with_reducible repeat (first | refine blk_drewN ?_ _ | refine blk_drew ?_ | refine blk_alloc ?_ _)); exact BK268.out) hb)
              have n4_ := Aside0.mk (blk_below (by (with_reducible repeat (first | refine blk_drewN ?_ _ | refine blk_drew ?_ | refine blk_alloc ?_ _)); exact BK269.out) hb)
              have n5_ := Aside0.mk (below_step (by repeat (first | (with_reducible first | exact HB.out | apply below_alloc | apply pw_below_drewN | apply below_drew1 | refine below_set ?_ GE267.out | refine below_set ?_ GE268.out | refine below_set ?_ GE269.out) | exact HB.out)) hb)
              clear HO272
              clear BK267
              clear BK268
              clear BK269
              clear HB
              have HO272 := n0_
              have HO275 := n1_
              have BK267 := n2_
              have BK268 := n3_
              have BK269 := n4_
              have HB := n5_
              clear n0_ n1_ n2_ n3_ n4_ n5_
              clear hb ho25
              refine hK.out _ _ ⟨(blk_cell BK267.out 0).trans rfl, (blk_cell BK267.out 1).trans rfl, (blk_cell BK267.out 2).trans rfl, (blk_cell BK268.out 0).trans rfl, (blk_cell BK268.out 1).trans rfl, (blk_cell BK268.out 2).trans rfl, (blk_cell BK268.out 3).trans rfl⟩ (fun hHeld => ?_)
              clear hK K
              refine norm_ (a' := ?_) ?_ ?_
              rotate_left
              · show Act.put _ (some 15) _ = _
                simp only [Act.put, List.setIfInBounds_toArray, List.set_cons_zero, List.set_cons_succ, i64_w, i32_w]
                rfl
              exact norm_ (by simp only [putAll, Act.put, List.setIfInBounds_toArray, List.set_cons_zero, List.set_cons_succ]) (hCont (v271, v274) _ ⟨hHeld, (by (with_reducible repeat (first | apply Kd.R_alloc | apply Kd.R_drewN | apply Kd.R_drew)); exact Kd.R_mono HO272.out (fun _ hk => ⟨hk.2, hk.1⟩)), (by (with_reducible repeat (first | apply Kd.R_alloc | apply Kd.R_drewN | apply Kd.R_drew)); exact Kd.R_mono HO275.out (fun _ hk => ⟨hk.1.2, hk.2⟩)), (by (with_reducible repeat (first | refine blk_drewN ?_ _ | refine blk_drew ?_ | refine blk_alloc ?_ _)); exact BK267.out), (by (with_reducible repeat (first | refine blk_drewN ?_ _ | refine blk_drew ?_ | refine blk_alloc ?_ _)); exact BK268.out), (by (with_reducible repeat (first | refine blk_drewN ?_ _ | refine blk_drew ?_ | refine blk_alloc ?_ _)); exact BK269.out), (by repeat (first | (with_reducible first | exact HB.out | apply below_alloc | apply pw_below_drewN | apply below_drew1 | refine below_set ?_ GE267.out | refine below_set ?_ GE268.out | refine below_set ?_ GE269.out) | exact HB.out))⟩)
            · skip
              refine Kd.R_lit_step k72 _ 72 ?hg (N := 15) ?hd (xs := ([(⟨a1_0, a1_1, a1_2, a1_3⟩ : S72)] : List (S72))) (inner := [.int .i64 a1_0, .bool a1_1, .int .i64 a1_2, .int .u32 a1_3]) (ok := fun _ => True) (okp := fun _ => True) ?hr ?hp (fun _ hk => hk) trivial (Below.refl _ _) (Nat.le_refl _) (by simp) ?_; (case hd => rfl); (case hg => rfl); (case hr => first | (go_simp; done) | (go_simp; rfl)); (case hp => exact (Reps.c4 (show Kd.M k72 _ _ _ (⟨a1_0, a1_1, a1_2, a1_3⟩ : S72) [.int .i64 a1_0, .bool a1_1, .int .i64 a1_2, .int .u32 a1_3] from (k72_mkM _ _ _ (⟨a1_0, a1_1, a1_2, a1_3⟩ : S72) )) (Reps.none _ _)))
              intro v274 w23 ho24 hb hg_ hnew_
              clear hg_ hnew_
              (first | rw [← Ny273.out] at ho24 | (simp only [Int.reduceToNat] at ho24; rw [← Ny273.out] at ho24))
              have n0_ := Aside0.mk (Kd.R_lower (Kd.R_newB ho24 (g := gb268) (o := .cells #[.int .i64 a1_0, .bool a1_1, .int .i64 a1_2, .int .u32 a1_3] 72 (0, 0)) (by (with_reducible repeat (first | refine blk_drewN ?_ _ | refine blk_drew ?_ | refine blk_alloc ?_ _)); exact BK268.out)) (below_size (by repeat (first | (with_reducible first | exact HB.out | apply below_alloc | apply pw_below_drewN | apply below_drew1 | refine below_set ?_ GE267.out | refine below_set ?_ GE268.out | refine below_set ?_ GE269.out) | exact HB.out))))
              have n1_ := Aside0.mk (blk_below (by (with_reducible repeat (first | refine blk_drewN ?_ _ | refine blk_drew ?_ | refine blk_alloc ?_ _)); exact BK267.out) hb)
              have n2_ := Aside0.mk (blk_below (by (with_reducible repeat (first | refine blk_drewN ?_ _ | refine blk_drew ?_ | refine blk_alloc ?_ _)); exact BK268.out) hb)
              have n3_ := Aside0.mk (blk_below (by (with_reducible repeat (first | refine blk_drewN ?_ _ | refine blk_drew ?_ | refine blk_alloc ?_ _)); exact BK269.out) hb)
              have n4_ := Aside0.mk (below_step (by repeat (first | (with_reducible first | exact HB.out | apply below_alloc | apply pw_below_drewN | apply below_drew1 | refine below_set ?_ GE267.out | refine below_set ?_ GE268.out | refine below_set ?_ GE269.out) | exact HB.out)) hb)
              clear BK267
              clear BK268
              clear BK269
              clear HB
              have HO275 := n0_
              have BK267 := n1_
              have BK268 := n2_
              have BK269 := n3_
              have HB := n4_
              clear n0_ n1_ n2_ n3_ n4_
              clear hb ho24
              refine hK.out _ _ ⟨(blk_cell BK267.out 0).trans rfl, (blk_cell BK267.out 1).trans rfl, (blk_cell BK267.out 2).trans rfl, (blk_cell BK268.out 0).trans rfl, (blk_cell BK268.out 1).trans rfl, (blk_cell BK268.out 2).trans rfl, (blk_cell BK268.out 3).trans rfl⟩ (fun hHeld => ?_)
              clear hK K
              refine norm_ (a' := ?_) ?_ ?_
              rotate_left
              · show Act.put _ (some 15) _ = _
                simp only [Act.put, List.setIfInBounds_toArray, List.set_cons_zero, List.set_cons_succ, i64_w, i32_w]
                rfl
              refine one_ (i := 2) (N := some 13) #[true, true, true, true, true, false, false, false] rfl rfl (one_of HT_.out (by kernel_rfl)) (by decide) (fun K hK => ?_)
              refine Kd.R_append_rows_step k72 (w0 := w) w.heap.size rfl (.const (.slice none 0 0)) (.tmp 12) 43 72 (.agg #[(.int .i64 0), (.bool false), (.int .i64 0), (.int .u32 0)]) 32 rfl Try.underlying43 info72 rfl (by decide) (by omega) (.slice none 0 0) ([] : List (S72)) l0_2 _ _ _ (fun k_ => some k_ ≠ (v274 : Value).ownBlock ∧ k_ ≠ gb268) (fun _ => False) rfl rfl ?aO ?aR (fun _ _ h => h) (fun _ h => h.elim) ?aF ?aB ?aS ?aL ?_
              (case aR => repeat (first | exact (Kd.C_below HR0_2.out HB.out) | (with_reducible refine Kd.C_alloc ?_ _) | (with_reducible refine Kd.C_drewN ?_ _) | (with_reducible refine Kd.C_drew ?_)))
              (case aB => exact (by repeat (first | (with_reducible first | exact HB.out | apply below_alloc | apply pw_below_drewN | apply below_drew1 | refine below_set ?_ GE267.out | refine below_set ?_ GE268.out | refine below_set ?_ GE269.out) | exact HB.out)))
              (case aF => exact (fun k_ hk => ⟨Kd.fresh' (Kd.R_lt (by (with_reducible repeat (first | apply Kd.R_alloc | apply Kd.R_drewN | apply Kd.R_drew)); exact HO275.out)) k_ hk, Kd.freshB (g := gb268) (o := .cells #[.int .i64 a1_0, .bool a1_1, .int .i64 a1_2, .int .u32 a1_3] 72 (0, 0)) (by (with_reducible repeat (first | refine blk_drewN ?_ _ | refine blk_drew ?_ | refine blk_alloc ?_ _)); exact BK268.out) k_ hk⟩))
              (case aO => exact ((Kd.R_nil _ _ _ _ (fun k_ => some k_ ≠ (v274 : Value).ownBlock ∧ k_ ≠ gb268))))
              (case aS => exact (below_size (by repeat (first | (with_reducible first | exact HB.out | apply below_alloc | apply pw_below_drewN | apply below_drew1 | refine below_set ?_ GE267.out | refine below_set ?_ GE268.out | refine below_set ?_ GE269.out) | exact HB.out))))
              (case aL => have := LMc12.out; omega)
              intro v271 w25 ho hb hg hat
              rw [← Ny270.out] at ho
              have n0_ := Aside0.mk (blk_grown (g := gb267) (o := .cells #[.int .i64 a0_0, .string a0_1, .slice A0_2 l0_2.length c0_2] 45 (0, 0)) (by (with_reducible repeat (first | refine blk_drewN ?_ _ | refine blk_drew ?_ | refine blk_alloc ?_ _)); exact BK267.out) hg (by simp [Value.ownBlock]))
              have n1_ := Aside0.mk (blk_grown (g := gb268) (o := .cells #[.int .i64 a1_0, .bool a1_1, .int .i64 a1_2, .int .u32 a1_3] 72 (0, 0)) (by (with_reducible repeat (first | refine blk_drewN ?_ _ | refine blk_drew ?_ | refine blk_alloc ?_ _)); exact BK268.out) hg (by simp [Value.ownBlock]))
              have n2_ := Aside0.mk (blk_grown (g := gb269) (o := .cells #[.int .i64 0, .string (⟨#[]⟩ : ByteArray), .slice none 0 0] 45 (0, 0)) (by (with_reducible repeat (first | refine blk_drewN ?_ _ | refine blk_drew ?_ | refine blk_alloc ?_ _)); exact BK269.out) hg (by simp [Value.ownBlock]))
              have n3_ := Aside0.mk (Kd.R_after (Kd.R_apart_nil (by (with_reducible repeat (first | apply Kd.R_alloc | apply Kd.R_drewN | apply Kd.R_drew)); exact HO275.out)) hg hat)
              have n4_ := Aside0.mk (hb)
              have n5_ := Aside0.mk (ho)
              clear BK267
              clear BK268
              clear BK269
              clear HO275
              clear HB
              have BK267 := n0_
              have BK268 := n1_
              have BK269 := n2_
              have HO275 := n3_
              have HB := n4_
              have HO272 := n5_
              clear n0_ n1_ n2_ n3_ n4_ n5_
              clear ho hb hg hat
              refine hK.out _ _ ⟨(blk_cell BK267.out 0).trans rfl, (blk_cell BK267.out 1).trans rfl, (blk_cell BK267.out 2).trans rfl, (blk_cell BK268.out 0).trans rfl, (blk_cell BK268.out 1).trans rfl, (blk_cell BK268.out 2).trans rfl, (blk_cell BK268.out 3).trans rfl⟩ (fun hHeld => ?_)
              clear hK K
              refine norm_ (a' := ?_) ?_ ?_
              rotate_left
              · show Act.put _ (some 13) _ = _
                simp only [Act.put, List.setIfInBounds_toArray, List.set_cons_zero, List.set_cons_succ, i64_w, i32_w]
                rfl
              exact norm_ (by simp only [putAll, Act.put, List.setIfInBounds_toArray, List.set_cons_zero, List.set_cons_succ]) (hCont (v271, v274) _ ⟨hHeld, (by (with_reducible repeat (first | apply Kd.R_alloc | apply Kd.R_drewN | apply Kd.R_drew)); exact HO272.out), (by (with_reducible repeat (first | apply Kd.R_alloc | apply Kd.R_drewN | apply Kd.R_drew)); exact Kd.R_mono HO275.out (fun _ hk => ⟨hk.2, hk.1.2⟩)), (by (with_reducible repeat (first | refine blk_drewN ?_ _ | refine blk_drew ?_ | refine blk_alloc ?_ _)); exact BK267.out), (by (with_reducible repeat (first | refine blk_drewN ?_ _ | refine blk_drew ?_ | refine blk_alloc ?_ _)); exact BK268.out), (by (with_reducible repeat (first | refine blk_drewN ?_ _ | refine blk_drew ?_ | refine blk_alloc ?_ _)); exact BK269.out), (by repeat (first | (with_reducible first | exact HB.out | apply below_alloc | apply pw_below_drewN | apply below_drew1 | refine below_set ?_ GE267.out | refine below_set ?_ GE268.out | refine below_set ?_ GE269.out) | exact HB.out))⟩)
          rintro ⟨v271, v274⟩ w26 ⟨hS_, h0_, h1_, h2_, h3_, h4_, h5_⟩
          have n0_ : Aside0 (Kd.R k72 72 w26 w.heap.size (fun k_ => some k_ ≠ (v274 : Value).ownBlock ∧ k_ ≠ gb268) v271 y270) := ⟨h0_⟩
          have n1_ : Aside0 (Kd.R k72 72 w26 w.heap.size (fun k_ => some k_ ≠ (v271 : Value).ownBlock ∧ k_ ≠ gb268) v274 y273) := ⟨h1_⟩
          have n2_ : Aside0 (w26.heap[gb267]? = some (.cells #[.int .i64 a0_0, .string a0_1, .slice A0_2 l0_2.length c0_2] 45 (0, 0))) := ⟨h2_⟩
          have n3_ : Aside0 (w26.heap[gb268]? = some (.cells #[.int .i64 a1_0, .bool a1_1, .int .i64 a1_2, .int .u32 a1_3] 72 (0, 0))) := ⟨h3_⟩
          have n4_ : Aside0 (w26.heap[gb269]? = some (.cells #[.int .i64 0, .string (⟨#[]⟩ : ByteArray), .slice none 0 0] 45 (0, 0))) := ⟨h4_⟩
          have n5_ : Aside0 (Below w.heap.size w w26) := ⟨h5_⟩
          clear BK267
          clear BK268
          clear BK269
          clear HB
          clear h0_ h1_ h2_ h3_ h4_ h5_
          have HO272 := n0_
          have HO275 := n1_
          have BK267 := n2_
          have BK268 := n3_
          have BK269 := n4_
          have HB := n5_
          clear n0_ n1_ n2_ n3_ n4_ n5_
          have hHeld : w26.cell? ⟨gb267, 0, none⟩ = some (.int .i64 a0_0) ∧ w26.cell? ⟨gb267, 1, none⟩ = some (.string a0_1) ∧ w26.cell? ⟨gb267, 2, none⟩ = some (.slice A0_2 l0_2.length c0_2) ∧ w26.cell? ⟨gb268, 0, none⟩ = some (.int .i64 a1_0) ∧ w26.cell? ⟨gb268, 1, none⟩ = some (.bool a1_1) ∧ w26.cell? ⟨gb268, 2, none⟩ = some (.int .i64 a1_2) ∧ w26.cell? ⟨gb268, 3, none⟩ = some (.int .u32 a1_3) := hS_
          obtain ⟨Ao28, co28, eo28⟩ := Kd.R_slice HO275.out
          (first | subst eo28 | (injection eo28 with f1_ f2_ f3_; have f4_ := f1_.symm; have f5_ := f3_.symm; clear f1_ f2_ f3_; subst f4_; subst f5_))
          refine norm_ (a' := ?_) ?_ ?_
          rotate_left
          · simp only [putAll, Act.put, List.setIfInBounds_toArray, List.set_cons_zero, List.set_cons_succ]
            rfl
          refine one_ (i := 5) (N := some 16) #[true, true, true, true, true, true, false, false] rfl rfl (one_of HT_.out (by kernel_rfl)) (by decide) (fun K hK => ?_)
          refine Kd.R_append_rows_step k72 (w0 := w) w.heap.size (by rfl) (.tmp 13) (.tmp 15) 43 72 (.agg #[(.int .i64 0), (.bool false), (.int .i64 0), (.int .u32 0)]) 32 rfl Try.underlying43 info72 rfl (by decide) (by omega) v271 y270 y273 _ _ _ (fun k_ => some k_ ≠ (.slice Ao28 y273.length co28 : Value).ownBlock ∧ k_ ≠ gb268) (fun _ => False) rfl rfl ?aO ?aR (fun _ _ h => h) (fun _ h => h.elim) ?aF ?aB ?aS ?aL ?_
          (case aR => repeat (first | exact (Kd.R_reads' HO275.out).2.2 | (with_reducible refine Kd.C_alloc ?_ _) | (with_reducible refine Kd.C_drewN ?_ _) | (with_reducible refine Kd.C_drew ?_)))
          (case aB => exact (by repeat (first | (with_reducible first | exact HB.out | apply below_alloc | apply pw_below_drewN | apply below_drew1 | refine below_set ?_ GE267.out | refine below_set ?_ GE268.out | refine below_set ?_ GE269.out) | exact HB.out)))
          (case aF => exact (fun k_ hk => ⟨Kd.fresh' (Kd.R_lt (by (with_reducible repeat (first | apply Kd.R_alloc | apply Kd.R_drewN | apply Kd.R_drew)); exact HO275.out)) k_ hk, Kd.freshB (g := gb268) (o := .cells #[.int .i64 a1_0, .bool a1_1, .int .i64 a1_2, .int .u32 a1_3] 72 (0, 0)) (by (with_reducible repeat (first | refine blk_drewN ?_ _ | refine blk_drew ?_ | refine blk_alloc ?_ _)); exact BK268.out) k_ hk⟩))
          (case aO => exact (by (with_reducible repeat (first | apply Kd.R_alloc | apply Kd.R_drewN | apply Kd.R_drew)); exact HO272.out))
          (case aS => exact (below_size (by repeat (first | (with_reducible first | exact HB.out | apply below_alloc | apply pw_below_drewN | apply below_drew1 | refine below_set ?_ GE267.out | refine below_set ?_ GE268.out | refine below_set ?_ GE269.out) | exact HB.out))))
          (case aL => have := LMc13.out; omega)
          intro v277 w27 ho hb hg hat
          rw [← Ny276.out] at ho
          have n0_ := Aside0.mk (blk_grown (g := gb267) (o := .cells #[.int .i64 a0_0, .string a0_1, .slice A0_2 l0_2.length c0_2] 45 (0, 0)) (by (with_reducible repeat (first | refine blk_drewN ?_ _ | refine blk_drew ?_ | refine blk_alloc ?_ _)); exact BK267.out) hg (Kd.R_ne HO272.out BK267.out (by decide)))
          have n1_ := Aside0.mk (blk_grown (g := gb268) (o := .cells #[.int .i64 a1_0, .bool a1_1, .int .i64 a1_2, .int .u32 a1_3] 72 (0, 0)) (by (with_reducible repeat (first | refine blk_drewN ?_ _ | refine blk_drew ?_ | refine blk_alloc ?_ _)); exact BK268.out) hg (Kd.R_away HO272.out (fun _ hk => hk.2)))
          have n2_ := Aside0.mk (blk_grown (g := gb269) (o := .cells #[.int .i64 0, .string (⟨#[]⟩ : ByteArray), .slice none 0 0] 45 (0, 0)) (by (with_reducible repeat (first | refine blk_drewN ?_ _ | refine blk_drew ?_ | refine blk_alloc ?_ _)); exact BK269.out) hg (Kd.R_ne HO272.out BK269.out (by decide)))
          have n3_ := Aside0.mk (Kd.R_after (ok := (fun k_ => k_ ≠ gb268)) (by (with_reducible repeat (first | apply Kd.R_alloc | apply Kd.R_drewN | apply Kd.R_drew)); exact Kd.R_mono HO275.out (fun _ hk => ⟨hk.2, hk.1⟩)) hg hat)
          have n4_ := Aside0.mk (hb)
          have n5_ := Aside0.mk (ho)
          clear BK267
          clear BK268
          clear BK269
          clear HO275
          clear HB
          clear HO272
          have BK267 := n0_
          have BK268 := n1_
          have BK269 := n2_
          have HO275 := n3_
          have HB := n4_
          have HO278 := n5_
          clear n0_ n1_ n2_ n3_ n4_ n5_
          clear ho hb hg hat
          obtain ⟨Ao29, co29, eo29⟩ := Kd.R_slice HO278.out
          (first | subst eo29 | (injection eo29 with f1_ f2_ f3_; have f4_ := f1_.symm; have f5_ := f3_.symm; clear f1_ f2_ f3_; subst f4_; subst f5_))
          refine hK.out _ _ ⟨(blk_cell BK267.out 0).trans rfl, (blk_cell BK267.out 1).trans rfl, (blk_cell BK267.out 2).trans rfl, (blk_cell BK268.out 0).trans rfl, (blk_cell BK268.out 1).trans rfl, (blk_cell BK268.out 2).trans rfl, (blk_cell BK268.out 3).trans rfl⟩ (fun hHeld => ?_)
          clear hK K
          refine norm_ (a' := ?_) ?_ ?_
          rotate_left
          · show Act.put _ (some 16) _ = _
            simp only [Act.put, List.setIfInBounds_toArray, List.set_cons_zero, List.set_cons_succ, i64_w, i32_w]
            rfl
          refine pure_ (i := 6) (N := some 17) (v := ?_) (a' := ?_) #[true, true, true, true, true, true, true, false] rfl rfl (any_of HT_.out (by kernel_rfl)) (fun _ _ _ h => h) (Or.inl ⟨by rfl, ?_⟩) ?_ ?_
          rotate_left
          · intro w'
            go_simp
            with_reducible rfl
          rotate_left
          · simp only [Act.put, List.setIfInBounds_toArray, List.set_cons_zero, List.set_cons_succ, i64_w, i32_w]
            rfl
          refine last_ (i := 7) (N := none) #[true, true, true, true, true, true, true, true] rfl rfl (one_of HT_.out (by kernel_rfl)) (by decide) (fun K hK => ?_)
          have hs30 : w27.cell? ⟨gb267, 2, none⟩ = some (.slice A0_2 l0_2.length c0_2) := (blk_cell BK267.out 2).trans rfl
          have hfs30 := blk_frozen BK267.out 2
          have hns30_1 := NB268_267.out
          have hns30_2 := NB269_267.out
          have hms30_1 := NB267_268.out
          have hms30_2 := NB267_269.out
          refine skip_ (w1 := ?_) (by rfl) rfl ?_ ?_
          rotate_left
          · go_simp
            rfl
          refine hK.out _ _ ?_
          clear hK K
          refine done_ (done_of HT_.out (by kernel_rfl)) ?_
          have hcz31_0 : w27.cell? ⟨gb267, 0, none⟩ = some (.int .i64 a0_0) := (blk_cell BK267.out 0).trans rfl
          have hcz31_1 : w27.cell? ⟨gb267, 1, none⟩ = some (.string a0_1) := (blk_cell BK267.out 1).trans rfl
          have hcz31_2 : w27.cell? ⟨gb267, 2, none⟩ = some (.slice A0_2 l0_2.length c0_2) := (blk_cell BK267.out 2).trans rfl
          have hfz31_0 := blk_frozen BK267.out 0
          have hfz31_1 := blk_frozen BK267.out 1
          have hfz31_2 := blk_frozen BK267.out 2
          try go_wp2_with (first | ((with_reducible refine gate_callee (f := 27) rfl ?_); refine goesL_ (some 19) rfl rfl Try.func27 (by kernel_rfl) rfl #[.agg #[.int .i64 a0_0, .string a0_1, .slice Ao29 y276.length co29]] rfl (by (try simp only [List.map_toArray, List.map_cons, List.map_nil]); first | done | rfl | (simp only [List.length_drop, List.length_take]; rfl)) ?_; (with_reducible refine (strongboxref4_May.calls k a0_0 a0_1 _ _ y276 true _ ?side1 ?side2 A14.out).mono ?_); (case side1 => refine (Kd.R_reads' (e := 72) (base := w.heap.size) (ok := fun k_ => (some k_ ≠ (.slice Ao28 y273.length co28 : Value).ownBlock ∧ k_ ≠ gb268)) (n := y276.length) (c := co29) ?_).2.2; exact (by (with_reducible repeat (first | apply Kd.R_alloc | apply Kd.R_drewN | apply Kd.R_drew)); exact (Kd.R_mono (Kd.R_far (p := ⟨gb267, 2, none⟩) (Kd.R_types HO278.out BK267.out (by decide)) (fun _ hk => hk.2) (.slice Ao29 y276.length co29)) (fun _ h_ => h_.1)))); (case side2 => exact (Kd.R_reads' HO278.out).2.1); rintro e w32 ⟨rfl, hb⟩; refine ⟨_, rfl, ?_⟩; have n0_ := Aside0.mk (Kd.R_below (by (with_reducible repeat (first | apply Kd.R_alloc | apply Kd.R_drewN | apply Kd.R_drew)); exact (Kd.R_mono (Kd.R_far (p := ⟨gb267, 2, none⟩) (Kd.R_types HO275.out BK267.out (by decide)) (fun _ hk => hk.2) (.slice Ao29 y276.length co29)) (fun _ h_ => h_.1))) hb); have n1_ := Aside0.mk (Kd.R_below (by (with_reducible repeat (first | apply Kd.R_alloc | apply Kd.R_drewN | apply Kd.R_drew)); exact (Kd.R_mono (Kd.R_far (p := ⟨gb267, 2, none⟩) (Kd.R_types HO278.out BK267.out (by decide)) (fun _ hk => hk.2) (.slice Ao29 y276.length co29)) (fun _ h_ => h_.1))) hb); have n2_ := Aside0.mk (blk_below (g := gb267) (o := .cells #[.int .i64 a0_0, .string a0_1, .slice Ao29 y276.length co29] 45 (0, 0)) (by (with_reducible repeat (first | refine blk_drewN ?_ _ | refine blk_drew ?_ | refine blk_alloc ?_ _)); refine blk_put (cs := #[.int .i64 a0_0, .string a0_1, .slice A0_2 l0_2.length c0_2]) ?_ 2 _ rfl; (with_reducible repeat (first | refine blk_drewN ?_ _ | refine blk_drew ?_ | refine blk_alloc ?_ _)); exact BK267.out) hb); have n3_ := Aside0.mk (blk_below (g := gb268) (o := .cells #[.int .i64 a1_0, .bool a1_1, .int .i64 a1_2, .int .u32 a1_3] 72 (0, 0)) (by (with_reducible repeat (first | refine blk_drewN ?_ _ | refine blk_drew ?_ | refine blk_alloc ?_ _)); refine blk_far ?_ NB268_267.out _; (with_reducible repeat (first | refine blk_drewN ?_ _ | refine blk_drew ?_ | refine blk_alloc ?_ _)); exact BK268.out) hb); have n4_ := Aside0.mk (blk_below (g := gb269) (o := .cells #[.int .i64 0, .string (⟨#[]⟩ : ByteArray), .slice none 0 0] 45 (0, 0)) (by (with_reducible repeat (first | refine blk_drewN ?_ _ | refine blk_drew ?_ | refine blk_alloc ?_ _)); refine blk_far ?_ NB269_267.out _; (with_reducible repeat (first | refine blk_drewN ?_ _ | refine blk_drew ?_ | refine blk_alloc ?_ _)); exact BK269.out) hb); have n5_ := Aside0.mk (below_step (by repeat (first | (with_reducible first | exact HB.out | apply below_alloc | apply pw_below_drewN | apply below_drew1 | refine below_set ?_ GE267.out | refine below_set ?_ GE268.out | refine below_set ?_ GE269.out) | exact HB.out)) hb); clear HO275; clear HO278; clear BK267; clear BK268; clear BK269; clear HB; have HO275 := n0_; have HO278 := n1_; have BK267 := n2_; have BK268 := n3_; have BK269 := n4_; have HB := n5_; clear n0_ n1_ n2_ n3_ n4_ n5_; (try clear hb); (try clear hb2); (try clear hk); (try clear hi); have hcz33_0 : w32.cell? ⟨gb267, 0, none⟩ = some (.int .i64 a0_0) := (blk_cell BK267.out 0).trans rfl; have hcz33_1 : w32.cell? ⟨gb267, 1, none⟩ = some (.string a0_1) := (blk_cell BK267.out 1).trans rfl; have hcz33_2 : w32.cell? ⟨gb267, 2, none⟩ = some (.slice Ao29 y276.length co29) := (blk_cell BK267.out 2).trans rfl; have hfz33_0 := blk_frozen BK267.out 0; have hfz33_1 := blk_frozen BK267.out 1; have hfz33_2 := blk_frozen BK267.out 2; have hnb34 := NB269_268.out; have hnc34 := NB268_269.out; have hcz35_0 : w32.cell? ⟨gb269, 0, none⟩ = some (.int .i64 0) := (blk_cell BK269.out 0).trans rfl; have hcz35_1 : w32.cell? ⟨gb269, 1, none⟩ = some (.string (⟨#[]⟩ : ByteArray)) := (blk_cell BK269.out 1).trans rfl; have hcz35_2 : w32.cell? ⟨gb269, 2, none⟩ = some (.slice none 0 0) := (blk_cell BK269.out 2).trans rfl; have hfz35_0 := blk_frozen BK269.out 0; have hfz35_1 := blk_frozen BK269.out 1; have hfz35_2 := blk_frozen BK269.out 2))
          refine bodyPost_ret (results_ct rfl _ _ gb269 45 #[.int .i64 a0_0, .string a0_1, .slice Ao29 y276.length co29] (0, 0) _ rfl (by (with_reducible repeat (first | refine blk_drewN ?_ _ | refine blk_drew ?_ | refine blk_alloc ?_ _)); refine blk_put (cs := #[.int .i64 a0_0, .string a0_1, .slice none 0 0]) ?_ 2 _ rfl; (with_reducible repeat (first | refine blk_drewN ?_ _ | refine blk_drew ?_ | refine blk_alloc ?_ _)); refine blk_put (cs := #[.int .i64 a0_0, .string (⟨#[]⟩ : ByteArray), .slice none 0 0]) ?_ 1 _ rfl; (with_reducible repeat (first | refine blk_drewN ?_ _ | refine blk_drew ?_ | refine blk_alloc ?_ _)); refine blk_put (cs := #[.int .i64 0, .string (⟨#[]⟩ : ByteArray), .slice none 0 0]) ?_ 0 _ rfl; (with_reducible repeat (first | refine blk_drewN ?_ _ | refine blk_drew ?_ | refine blk_alloc ?_ _)); exact BK269.out) Try.underlying45 rfl (by kernel_rfl)) rfl ?_
          exact ⟨_, by first | rfl | (simp [errW_none, errW_some] <;> rfl) | (simp [*, errW_none, errW_some] <;> rfl), by (with_reducible repeat (first | apply Kd.R_alloc | apply Kd.R_drewN | apply Kd.R_drew)); exact Kd.R_mono (Kd.R_far (p := ⟨gb269, 2, none⟩) (Kd.R_far (p := ⟨gb269, 1, none⟩) (Kd.R_far (p := ⟨gb269, 0, none⟩) (Kd.R_types HO278.out BK269.out (by decide)) (fun _ hk => hk.2) (.int .i64 a0_0)) (fun _ hk => hk.2) (.string a0_1)) (fun _ hk => hk.2) (.slice Ao29 y276.length co29)) (fun _ hk => trivial), by repeat (first | (with_reducible first | exact HB.out | apply below_alloc | apply pw_below_drewN | apply below_drew1 | refine below_set ?_ GE267.out | refine below_set ?_ GE268.out | refine below_set ?_ GE269.out) | exact HB.out)⟩
        · replace c15 := Bool.eq_false_iff.mpr c15
          subst c15
          have H1 : (some (0, (⟨#[]⟩ : ByteArray), ([] : List (S72)), 1)) = some (r1, r2, r3, r4) := by rw [if_neg (show ¬ (false = true) by decide)] at H; exact H
          clear H
          have H := H1
          clear H1
          simp only [Option.some.injEq, Prod.mk.injEq] at H
          obtain ⟨rfl, rfl, rfl, rfl⟩ := H
          go_enter Try.func45, Try.ntmps45
          try go_wp2_with (first | ((with_reducible refine gate_dst (N := 2) rfl ?_); refine box_event ?hg (N := 2) ?hd (cs := #[.int .i64 a0_0, .string a0_1, .slice A0_2 l0_2.length c0_2]) (t := 45) ?hr ?_; (case hd => rfl); (case hg => rfl); (case hr => first | (go_simp; done) | (go_simp; rfl)); intro gb267 hg w36 hbox hb; have n0_ := Aside0.mk (below_step (by repeat (first | (with_reducible first | exact HB.out | apply below_alloc | apply pw_below_drewN | apply below_drew1) | exact HB.out)) hb); have BK267 := Aside0.mk (hbox); have GW267 := Aside0.mk ((by rw [hg]; exact (below_size (by repeat (first | (with_reducible first | exact HB.out | apply below_alloc | apply pw_below_drewN | apply below_drew1) | exact HB.out))) : w.heap.size ≤ gb267)); have GE267 := Aside0.mk GW267.out; clear HB; have HB := n0_; clear n0_; clear hb hbox hg) | ((with_reducible refine gate_dst (N := 3) rfl ?_); refine box_event ?hg (N := 3) ?hd (cs := #[.int .i64 a1_0, .bool a1_1, .int .i64 a1_2, .int .u32 a1_3]) (t := 72) ?hr ?_; (case hd => rfl); (case hg => rfl); (case hr => first | (go_simp; done) | (go_simp; rfl)); intro gb268 hg w37 hbox hb; have n0_ := Aside0.mk (blk_below (by (with_reducible repeat (first | refine blk_drewN ?_ _ | refine blk_drew ?_ | refine blk_alloc ?_ _)); exact BK267.out) hb); have n1_ := Aside0.mk (below_step (by repeat (first | (with_reducible first | exact HB.out | apply below_alloc | apply pw_below_drewN | apply below_drew1 | refine below_set ?_ GE267.out) | exact HB.out)) hb); have BK268 := Aside0.mk (hbox); have GW268 := Aside0.mk ((by rw [hg]; exact (below_size (by repeat (first | (with_reducible first | exact HB.out | apply below_alloc | apply pw_below_drewN | apply below_drew1 | refine below_set ?_ GE267.out) | exact HB.out))) : w.heap.size ≤ gb268)); have GE268 := Aside0.mk GW268.out; have NB267_268 := Aside0.mk ((by rw [hg]; exact Nat.ne_of_lt (blk_lt (by (with_reducible repeat (first | refine blk_drewN ?_ _ | refine blk_drew ?_ | refine blk_alloc ?_ _)); exact BK267.out)) : gb267 ≠ gb268)); have NB268_267 := Aside0.mk NB267_268.out.symm; clear BK267; clear HB; have BK267 := n0_; have HB := n1_; clear n0_ n1_; clear hb hbox hg) | ((with_reducible refine gate_dst (N := 4) rfl ?_); refine box_event ?hg (N := 4) ?hd (cs := #[.int .i64 0, .string (⟨#[]⟩ : ByteArray), .slice none 0 0]) (t := 45) ?hr ?_; (case hd => rfl); (case hg => rfl); (case hr => first | (go_simp; done) | (go_simp; rfl)); intro gb269 hg w38 hbox hb; have n0_ := Aside0.mk (blk_below (by (with_reducible repeat (first | refine blk_drewN ?_ _ | refine blk_drew ?_ | refine blk_alloc ?_ _)); exact BK267.out) hb); have n1_ := Aside0.mk (blk_below (by (with_reducible repeat (first | refine blk_drewN ?_ _ | refine blk_drew ?_ | refine blk_alloc ?_ _)); exact BK268.out) hb); have n2_ := Aside0.mk (below_step (by repeat (first | (with_reducible first | exact HB.out | apply below_alloc | apply pw_below_drewN | apply below_drew1 | refine below_set ?_ GE267.out | refine below_set ?_ GE268.out) | exact HB.out)) hb); have BK269 := Aside0.mk (hbox); have GW269 := Aside0.mk ((by rw [hg]; exact (below_size (by repeat (first | (with_reducible first | exact HB.out | apply below_alloc | apply pw_below_drewN | apply below_drew1 | refine below_set ?_ GE267.out | refine below_set ?_ GE268.out) | exact HB.out))) : w.heap.size ≤ gb269)); have GE269 := Aside0.mk GW269.out; have NB267_269 := Aside0.mk ((by rw [hg]; exact Nat.ne_of_lt (blk_lt (by (with_reducible repeat (first | refine blk_drewN ?_ _ | refine blk_drew ?_ | refine blk_alloc ?_ _)); exact BK267.out)) : gb267 ≠ gb269)); have NB269_267 := Aside0.mk NB267_269.out.symm; have NB268_269 := Aside0.mk ((by rw [hg]; exact Nat.ne_of_lt (blk_lt (by (with_reducible repeat (first | refine blk_drewN ?_ _ | refine blk_drew ?_ | refine blk_alloc ?_ _)); exact BK268.out)) : gb268 ≠ gb269)); have NB269_268 := Aside0.mk NB268_269.out.symm; clear BK267; clear BK268; clear HB; have BK267 := n0_; have BK268 := n1_; have HB := n2_; clear n0_ n1_ n2_; clear hb hbox hg; have hnb39 := NB267_268.out; have hnc39 := NB268_267.out; have hnb40 := NB267_269.out; have hnc40 := NB269_267.out; have hcz41_0 : w38.cell? ⟨gb267, 0, none⟩ = some (.int .i64 a0_0) := (blk_cell BK267.out 0).trans rfl; have hcz41_1 : w38.cell? ⟨gb267, 1, none⟩ = some (.string a0_1) := (blk_cell BK267.out 1).trans rfl; have hcz41_2 : w38.cell? ⟨gb267, 2, none⟩ = some (.slice A0_2 l0_2.length c0_2) := (blk_cell BK267.out 2).trans rfl; have hfz41_0 := blk_frozen BK267.out 0; have hfz41_1 := blk_frozen BK267.out 1; have hfz41_2 := blk_frozen BK267.out 2))
          have n0_ := Aside0.mk (blk_drew BK267.out)
          have n1_ := Aside0.mk (blk_drew BK268.out)
          have n2_ := Aside0.mk (blk_drew BK269.out)
          have n3_ := Aside0.mk (below_drew1 HB.out)
          clear BK267
          clear BK268
          clear BK269
          clear HB
          have BK267 := n0_
          have BK268 := n1_
          have BK269 := n2_
          have HB := n3_
          clear n0_ n1_ n2_ n3_
          refine start_ (n := 8) (S := fun w' => w'.cell? ⟨gb267, 0, none⟩ = some (.int .i64 a0_0) ∧ w'.cell? ⟨gb267, 1, none⟩ = some (.string a0_1) ∧ w'.cell? ⟨gb267, 2, none⟩ = some (.slice A0_2 l0_2.length c0_2) ∧ w'.cell? ⟨gb268, 0, none⟩ = some (.int .i64 a1_0) ∧ w'.cell? ⟨gb268, 1, none⟩ = some (.bool a1_1) ∧ w'.cell? ⟨gb268, 2, none⟩ = some (.int .i64 a1_2) ∧ w'.cell? ⟨gb268, 3, none⟩ = some (.int .u32 a1_3)) (ds := [7]) #[false, false, false, false, false, false, false, false] (by kernel_rfl) rfl rfl ⟨(blk_cell BK267.out 0).trans rfl, (blk_cell BK267.out 1).trans rfl, (blk_cell BK267.out 2).trans rfl, (blk_cell BK268.out 0).trans rfl, (blk_cell BK268.out 1).trans rfl, (blk_cell BK268.out 2).trans rfl, (blk_cell BK268.out 3).trans rfl⟩ (fun hHeld => ?_); refine with_tabW strongboxref4_Add.tab3 strongboxref4_Add.bits3 (fun HT_ HW_ => ?_)
          generalize w38.drew = w42 at BK267 BK268 BK269 HB hHeld ⊢
          refine pure_ (i := 0) (N := some 11) (v := ?_) (a' := ?_) #[true, false, false, false, false, false, false, false] rfl rfl (any_of HT_.out (by kernel_rfl)) (fun _ _ _ h => h) (Or.inl ⟨by rfl, ?_⟩) ?_ ?_
          rotate_left
          · intro w'
            go_simp
            with_reducible rfl
          rotate_left
          · simp only [Act.put, List.setIfInBounds_toArray, List.set_cons_zero, List.set_cons_succ, i64_w, i32_w]
            rfl
          refine take_ (i := 1) (N := some 12) (v := ?_) (a' := ?_) #[true, true, false, false, false, false, false, false] rfl rfl (take_ofW HT_.out HW_.out (by kernel_rfl)) (fun _ _ _ h => h) (Or.inl ⟨by rfl, ?_⟩) hHeld ?_ ?_
          rotate_left
          · rintro w' ⟨s0, s1, s2, s3, s4, s5, s6⟩
            go_simp
            with_reducible rfl
          rotate_left
          · simp only [Act.put, List.setIfInBounds_toArray, List.set_cons_zero, List.set_cons_succ, i64_w, i32_w]
            rfl
          refine take_ (i := 3) (N := some 14) (v := ?_) (a' := ?_) #[true, true, false, true, false, false, false, false] rfl rfl (take_ofW HT_.out HW_.out (by kernel_rfl)) (fun _ _ _ h => h) (Or.inl ⟨by rfl, ?_⟩) hHeld ?_ ?_
          rotate_left
          · rintro w' ⟨s0, s1, s2, s3, s4, s5, s6⟩
            go_simp
            with_reducible rfl
          rotate_left
          · simp only [Act.put, List.setIfInBounds_toArray, List.set_cons_zero, List.set_cons_succ, i64_w, i32_w]
            rfl
          refine join_ (σ := Value × Value) 3 #[true, true, true, true, true, false, false, false] (fun s_ => [(13, s_.1), (15, s_.2)]) (fun s_ w' => (w'.cell? ⟨gb267, 0, none⟩ = some (.int .i64 a0_0) ∧ w'.cell? ⟨gb267, 1, none⟩ = some (.string a0_1) ∧ w'.cell? ⟨gb267, 2, none⟩ = some (.slice A0_2 l0_2.length c0_2) ∧ w'.cell? ⟨gb268, 0, none⟩ = some (.int .i64 a1_0) ∧ w'.cell? ⟨gb268, 1, none⟩ = some (.bool a1_1) ∧ w'.cell? ⟨gb268, 2, none⟩ = some (.int .i64 a1_2) ∧ w'.cell? ⟨gb268, 3, none⟩ = some (.int .u32 a1_3)) ∧ (Kd.R k72 72 w' w.heap.size (fun k_ => some k_ ≠ (s_.2 : Value).ownBlock ∧ k_ ≠ gb268) s_.1 y270) ∧ (Kd.R k72 72 w' w.heap.size (fun k_ => some k_ ≠ (s_.1 : Value).ownBlock ∧ k_ ≠ gb268) s_.2 y273) ∧ (w'.heap[gb267]? = some (.cells #[.int .i64 a0_0, .string a0_1, .slice A0_2 l0_2.length c0_2] 45 (0, 0))) ∧ (w'.heap[gb268]? = some (.cells #[.int .i64 a1_0, .bool a1_1, .int .i64 a1_2, .int .u32 a1_3] 72 (0, 0))) ∧ (w'.heap[gb269]? = some (.cells #[.int .i64 0, .string (⟨#[]⟩ : ByteArray), .slice none 0 0] 45 (0, 0))) ∧ (Below w.heap.size w w')) ?_ ?_
          rotate_left
          · intro hCont
            refine two_ (i := 2) (j := 4) (Ni := some 13) (Nj := some 15) #[true, true, true, true, false, false, false, false] #[true, true, false, true, true, false, false, false] rfl rfl rfl rfl (two_of HT_.out (by kernel_rfl)) (by decide) (by decide) (fun K hK => ?_) (fun K hK => ?_)
            · skip
              refine Kd.R_append_rows_step k72 (w0 := w) w.heap.size rfl (.const (.slice none 0 0)) (.tmp 12) 43 72 (.agg #[(.int .i64 0), (.bool false), (.int .i64 0), (.int .u32 0)]) 32 rfl Try.underlying43 info72 rfl (by decide) (by omega) (.slice none 0 0) ([] : List (S72)) l0_2 _ _ _ (fun k_ => k_ ≠ gb268) (fun _ => False) rfl rfl ?aO ?aR (fun _ _ h => h) (fun _ h => h.elim) ?aF ?aB ?aS ?aL ?_
              (case aR => repeat (first | exact (Kd.C_below HR0_2.out HB.out) | (with_reducible refine Kd.C_alloc ?_ _) | (with_reducible refine Kd.C_drewN ?_ _) | (with_reducible refine Kd.C_drew ?_)))
              (case aB => exact (by repeat (first | (with_reducible first | exact HB.out | apply below_alloc | apply pw_below_drewN | apply below_drew1 | refine below_set ?_ GE267.out | refine below_set ?_ GE268.out | refine below_set ?_ GE269.out) | exact HB.out)))
              (case aF => exact (fun k_ hk => Kd.freshB (g := gb268) (o := .cells #[.int .i64 a1_0, .bool a1_1, .int .i64 a1_2, .int .u32 a1_3] 72 (0, 0)) (by (with_reducible repeat (first | refine blk_drewN ?_ _ | refine blk_drew ?_ | refine blk_alloc ?_ _)); exact BK268.out) k_ hk))
              (case aO => exact ((Kd.R_nil _ _ _ _ (fun k_ => k_ ≠ gb268))))
              (case aS => exact (below_size (by repeat (first | (with_reducible first | exact HB.out | apply below_alloc | apply pw_below_drewN | apply below_drew1 | refine below_set ?_ GE267.out | refine below_set ?_ GE268.out | refine below_set ?_ GE269.out) | exact HB.out))))
              (case aL => have := LMc12.out; omega)
              intro v271 w43 ho hb hg hat
              rw [← Ny270.out] at ho
              have n0_ := Aside0.mk (blk_grown (g := gb267) (o := .cells #[.int .i64 a0_0, .string a0_1, .slice A0_2 l0_2.length c0_2] 45 (0, 0)) (by (with_reducible repeat (first | refine blk_drewN ?_ _ | refine blk_drew ?_ | refine blk_alloc ?_ _)); exact BK267.out) hg (by simp [Value.ownBlock]))
              have n1_ := Aside0.mk (blk_grown (g := gb268) (o := .cells #[.int .i64 a1_0, .bool a1_1, .int .i64 a1_2, .int .u32 a1_3] 72 (0, 0)) (by (with_reducible repeat (first | refine blk_drewN ?_ _ | refine blk_drew ?_ | refine blk_alloc ?_ _)); exact BK268.out) hg (by simp [Value.ownBlock]))
              have n2_ := Aside0.mk (blk_grown (g := gb269) (o := .cells #[.int .i64 0, .string (⟨#[]⟩ : ByteArray), .slice none 0 0] 45 (0, 0)) (by (with_reducible repeat (first | refine blk_drewN ?_ _ | refine blk_drew ?_ | refine blk_alloc ?_ _)); exact BK269.out) hg (by simp [Value.ownBlock]))
              have n3_ := Aside0.mk (hb)
              have n4_ := Aside0.mk (ho)
              clear BK267
              clear BK268
              clear BK269
              clear HB
              have BK267 := n0_
              have BK268 := n1_
              have BK269 := n2_
              have HB := n3_
              have HO272 := n4_
              clear n0_ n1_ n2_ n3_ n4_
              clear ho hb hg hat
              refine hK.out _ _ ⟨(blk_cell BK267.out 0).trans rfl, (blk_cell BK267.out 1).trans rfl, (blk_cell BK267.out 2).trans rfl, (blk_cell BK268.out 0).trans rfl, (blk_cell BK268.out 1).trans rfl, (blk_cell BK268.out 2).trans rfl, (blk_cell BK268.out 3).trans rfl⟩ (fun hHeld => ?_)
              clear hK K
              refine norm_ (a' := ?_) ?_ ?_
              rotate_left
              · show Act.put _ (some 13) _ = _
                simp only [Act.put, List.setIfInBounds_toArray, List.set_cons_zero, List.set_cons_succ, i64_w, i32_w]
                rfl
              refine one_ (i := 4) (N := some 15) #[true, true, true, true, true, false, false, false] rfl rfl (one_of HT_.out (by kernel_rfl)) (by decide) (fun K hK => ?_)
              refine Kd.R_lit_step k72 _ 72 ?hg (N := 15) ?hd (xs := ([(⟨a1_0, a1_1, a1_2, a1_3⟩ : S72)] : List (S72))) (inner := [.int .i64 a1_0, .bool a1_1, .int .i64 a1_2, .int .u32 a1_3]) (ok := fun _ => True) (okp := fun _ => True) ?hr ?hp (fun _ hk => hk) trivial (Below.refl _ _) (Nat.le_refl _) (by simp) ?_; (case hd => rfl); (case hg => rfl); (case hr => first | (go_simp; done) | (go_simp; rfl)); (case hp => exact (Reps.c4 (show Kd.M k72 _ _ _ (⟨a1_0, a1_1, a1_2, a1_3⟩ : S72) [.int .i64 a1_0, .bool a1_1, .int .i64 a1_2, .int .u32 a1_3] from (k72_mkM _ _ _ (⟨a1_0, a1_1, a1_2, a1_3⟩ : S72) )) (Reps.none _ _)))
              intro v274 w44 ho45 hb hg_ hnew_
              clear hg_ hnew_
              (first | rw [← Ny273.out] at ho45 | (simp only [Int.reduceToNat] at ho45; rw [← Ny273.out] at ho45))
              have n0_ := Aside0.mk (Kd.R_elder' (by (with_reducible repeat (first | apply Kd.R_alloc | apply Kd.R_drewN | apply Kd.R_drew)); exact HO272.out) (Kd.R_base ho45) hb)
              have n1_ := Aside0.mk (Kd.R_lower (Kd.R_newB (Kd.R_new' ho45 (Kd.R_lt (by (with_reducible repeat (first | apply Kd.R_alloc | apply Kd.R_drewN | apply Kd.R_drew)); exact HO272.out))) (g := gb268) (o := .cells #[.int .i64 a1_0, .bool a1_1, .int .i64 a1_2, .int .u32 a1_3] 72 (0, 0)) (by (with_reducible repeat (first | refine blk_drewN ?_ _ | refine blk_drew ?_ | refine blk_alloc ?_ _)); exact BK268.out)) (below_size (by repeat (first | (with_reducible first | exact HB.out | apply below_alloc | apply pw_below_drewN | apply below_drew1 | refine below_set ?_ GE267.out | refine below_set ?_ GE268.out | refine below_set ?_ GE269.out) | exact HB.out))))
              have n2_ := Aside0.mk (blk_below (by (with_reducible repeat (first | refine blk_drewN ?_ _ | refine blk_drew ?_ | refine blk_alloc ?_ _)); exact BK267.out) hb)
              have n3_ := Aside0.mk (blk_below (by (with_reducible repeat (first | refine blk_drewN ?_ _ | refine blk_drew ?_ | refine blk_alloc ?_ _)); exact BK268.out) hb)
              have n4_ := Aside0.mk (blk_below (by (with_reducible repeat (first | refine blk_drewN ?_ _ | refine blk_drew ?_ | refine blk_alloc ?_ _)); exact BK269.out) hb)
              have n5_ := Aside0.mk (below_step (by repeat (first | (with_reducible first | exact HB.out | apply below_alloc | apply pw_below_drewN | apply below_drew1 | refine below_set ?_ GE267.out | refine below_set ?_ GE268.out | refine below_set ?_ GE269.out) | exact HB.out)) hb)
              clear HO272
              clear BK267
              clear BK268
              clear BK269
              clear HB
              have HO272 := n0_
              have HO275 := n1_
              have BK267 := n2_
              have BK268 := n3_
              have BK269 := n4_
              have HB := n5_
              clear n0_ n1_ n2_ n3_ n4_ n5_
              clear hb ho45
              refine hK.out _ _ ⟨(blk_cell BK267.out 0).trans rfl, (blk_cell BK267.out 1).trans rfl, (blk_cell BK267.out 2).trans rfl, (blk_cell BK268.out 0).trans rfl, (blk_cell BK268.out 1).trans rfl, (blk_cell BK268.out 2).trans rfl, (blk_cell BK268.out 3).trans rfl⟩ (fun hHeld => ?_)
              clear hK K
              refine norm_ (a' := ?_) ?_ ?_
              rotate_left
              · show Act.put _ (some 15) _ = _
                simp only [Act.put, List.setIfInBounds_toArray, List.set_cons_zero, List.set_cons_succ, i64_w, i32_w]
                rfl
              exact norm_ (by simp only [putAll, Act.put, List.setIfInBounds_toArray, List.set_cons_zero, List.set_cons_succ]) (hCont (v271, v274) _ ⟨hHeld, (by (with_reducible repeat (first | apply Kd.R_alloc | apply Kd.R_drewN | apply Kd.R_drew)); exact Kd.R_mono HO272.out (fun _ hk => ⟨hk.2, hk.1⟩)), (by (with_reducible repeat (first | apply Kd.R_alloc | apply Kd.R_drewN | apply Kd.R_drew)); exact Kd.R_mono HO275.out (fun _ hk => ⟨hk.1.2, hk.2⟩)), (by (with_reducible repeat (first | refine blk_drewN ?_ _ | refine blk_drew ?_ | refine blk_alloc ?_ _)); exact BK267.out), (by (with_reducible repeat (first | refine blk_drewN ?_ _ | refine blk_drew ?_ | refine blk_alloc ?_ _)); exact BK268.out), (by (with_reducible repeat (first | refine blk_drewN ?_ _ | refine blk_drew ?_ | refine blk_alloc ?_ _)); exact BK269.out), (by repeat (first | (with_reducible first | exact HB.out | apply below_alloc | apply pw_below_drewN | apply below_drew1 | refine below_set ?_ GE267.out | refine below_set ?_ GE268.out | refine below_set ?_ GE269.out) | exact HB.out))⟩)
            · skip
              refine Kd.R_lit_step k72 _ 72 ?hg (N := 15) ?hd (xs := ([(⟨a1_0, a1_1, a1_2, a1_3⟩ : S72)] : List (S72))) (inner := [.int .i64 a1_0, .bool a1_1, .int .i64 a1_2, .int .u32 a1_3]) (ok := fun _ => True) (okp := fun _ => True) ?hr ?hp (fun _ hk => hk) trivial (Below.refl _ _) (Nat.le_refl _) (by simp) ?_; (case hd => rfl); (case hg => rfl); (case hr => first | (go_simp; done) | (go_simp; rfl)); (case hp => exact (Reps.c4 (show Kd.M k72 _ _ _ (⟨a1_0, a1_1, a1_2, a1_3⟩ : S72) [.int .i64 a1_0, .bool a1_1, .int .i64 a1_2, .int .u32 a1_3] from (k72_mkM _ _ _ (⟨a1_0, a1_1, a1_2, a1_3⟩ : S72) )) (Reps.none _ _)))
              intro v274 w43 ho44 hb hg_ hnew_
              clear hg_ hnew_
              (first | rw [← Ny273.out] at ho44 | (simp only [Int.reduceToNat] at ho44; rw [← Ny273.out] at ho44))
              have n0_ := Aside0.mk (Kd.R_lower (Kd.R_newB ho44 (g := gb268) (o := .cells #[.int .i64 a1_0, .bool a1_1, .int .i64 a1_2, .int .u32 a1_3] 72 (0, 0)) (by (with_reducible repeat (first | refine blk_drewN ?_ _ | refine blk_drew ?_ | refine blk_alloc ?_ _)); exact BK268.out)) (below_size (by repeat (first | (with_reducible first | exact HB.out | apply below_alloc | apply pw_below_drewN | apply below_drew1 | refine below_set ?_ GE267.out | refine below_set ?_ GE268.out | refine below_set ?_ GE269.out) | exact HB.out))))
              have n1_ := Aside0.mk (blk_below (by (with_reducible repeat (first | refine blk_drewN ?_ _ | refine blk_drew ?_ | refine blk_alloc ?_ _)); exact BK267.out) hb)
              have n2_ := Aside0.mk (blk_below (by (with_reducible repeat (first | refine blk_drewN ?_ _ | refine blk_drew ?_ | refine blk_alloc ?_ _)); exact BK268.out) hb)
              have n3_ := Aside0.mk (blk_below (by (with_reducible repeat (first | refine blk_drewN ?_ _ | refine blk_drew ?_ | refine blk_alloc ?_ _)); exact BK269.out) hb)
              have n4_ := Aside0.mk (below_step (by repeat (first | (with_reducible first | exact HB.out | apply below_alloc | apply pw_below_drewN | apply below_drew1 | refine below_set ?_ GE267.out | refine below_set ?_ GE268.out | refine below_set ?_ GE269.out) | exact HB.out)) hb)
              clear BK267
              clear BK268
              clear BK269
              clear HB
              have HO275 := n0_
              have BK267 := n1_
              have BK268 := n2_
              have BK269 := n3_
              have HB := n4_
              clear n0_ n1_ n2_ n3_ n4_
              clear hb ho44
              refine hK.out _ _ ⟨(blk_cell BK267.out 0).trans rfl, (blk_cell BK267.out 1).trans rfl, (blk_cell BK267.out 2).trans rfl, (blk_cell BK268.out 0).trans rfl, (blk_cell BK268.out 1).trans rfl, (blk_cell BK268.out 2).trans rfl, (blk_cell BK268.out 3).trans rfl⟩ (fun hHeld => ?_)
              clear hK K
              refine norm_ (a' := ?_) ?_ ?_
              rotate_left
              · show Act.put _ (some 15) _ = _
                simp only [Act.put, List.setIfInBounds_toArray, List.set_cons_zero, List.set_cons_succ, i64_w, i32_w]
                rfl
              refine one_ (i := 2) (N := some 13) #[true, true, true, true, true, false, false, false] rfl rfl (one_of HT_.out (by kernel_rfl)) (by decide) (fun K hK => ?_)
              refine Kd.R_append_rows_step k72 (w0 := w) w.heap.size rfl (.const (.slice none 0 0)) (.tmp 12) 43 72 (.agg #[(.int .i64 0), (.bool false), (.int .i64 0), (.int .u32 0)]) 32 rfl Try.underlying43 info72 rfl (by decide) (by omega) (.slice none 0 0) ([] : List (S72)) l0_2 _ _ _ (fun k_ => some k_ ≠ (v274 : Value).ownBlock ∧ k_ ≠ gb268) (fun _ => False) rfl rfl ?aO ?aR (fun _ _ h => h) (fun _ h => h.elim) ?aF ?aB ?aS ?aL ?_
              (case aR => repeat (first | exact (Kd.C_below HR0_2.out HB.out) | (with_reducible refine Kd.C_alloc ?_ _) | (with_reducible refine Kd.C_drewN ?_ _) | (with_reducible refine Kd.C_drew ?_)))
              (case aB => exact (by repeat (first | (with_reducible first | exact HB.out | apply below_alloc | apply pw_below_drewN | apply below_drew1 | refine below_set ?_ GE267.out | refine below_set ?_ GE268.out | refine below_set ?_ GE269.out) | exact HB.out)))
              (case aF => exact (fun k_ hk => ⟨Kd.fresh' (Kd.R_lt (by (with_reducible repeat (first | apply Kd.R_alloc | apply Kd.R_drewN | apply Kd.R_drew)); exact HO275.out)) k_ hk, Kd.freshB (g := gb268) (o := .cells #[.int .i64 a1_0, .bool a1_1, .int .i64 a1_2, .int .u32 a1_3] 72 (0, 0)) (by (with_reducible repeat (first | refine blk_drewN ?_ _ | refine blk_drew ?_ | refine blk_alloc ?_ _)); exact BK268.out) k_ hk⟩))
              (case aO => exact ((Kd.R_nil _ _ _ _ (fun k_ => some k_ ≠ (v274 : Value).ownBlock ∧ k_ ≠ gb268))))
              (case aS => exact (below_size (by repeat (first | (with_reducible first | exact HB.out | apply below_alloc | apply pw_below_drewN | apply below_drew1 | refine below_set ?_ GE267.out | refine below_set ?_ GE268.out | refine below_set ?_ GE269.out) | exact HB.out))))
              (case aL => have := LMc12.out; omega)
              intro v271 w45 ho hb hg hat
              rw [← Ny270.out] at ho
              have n0_ := Aside0.mk (blk_grown (g := gb267) (o := .cells #[.int .i64 a0_0, .string a0_1, .slice A0_2 l0_2.length c0_2] 45 (0, 0)) (by (with_reducible repeat (first | refine blk_drewN ?_ _ | refine blk_drew ?_ | refine blk_alloc ?_ _)); exact BK267.out) hg (by simp [Value.ownBlock]))
              have n1_ := Aside0.mk (blk_grown (g := gb268) (o := .cells #[.int .i64 a1_0, .bool a1_1, .int .i64 a1_2, .int .u32 a1_3] 72 (0, 0)) (by (with_reducible repeat (first | refine blk_drewN ?_ _ | refine blk_drew ?_ | refine blk_alloc ?_ _)); exact BK268.out) hg (by simp [Value.ownBlock]))
              have n2_ := Aside0.mk (blk_grown (g := gb269) (o := .cells #[.int .i64 0, .string (⟨#[]⟩ : ByteArray), .slice none 0 0] 45 (0, 0)) (by (with_reducible repeat (first | refine blk_drewN ?_ _ | refine blk_drew ?_ | refine blk_alloc ?_ _)); exact BK269.out) hg (by simp [Value.ownBlock]))
              have n3_ := Aside0.mk (Kd.R_after (Kd.R_apart_nil (by (with_reducible repeat (first | apply Kd.R_alloc | apply Kd.R_drewN | apply Kd.R_drew)); exact HO275.out)) hg hat)
              have n4_ := Aside0.mk (hb)
              have n5_ := Aside0.mk (ho)
              clear BK267
              clear BK268
              clear BK269
              clear HO275
              clear HB
              have BK267 := n0_
              have BK268 := n1_
              have BK269 := n2_
              have HO275 := n3_
              have HB := n4_
              have HO272 := n5_
              clear n0_ n1_ n2_ n3_ n4_ n5_
              clear ho hb hg hat
              refine hK.out _ _ ⟨(blk_cell BK267.out 0).trans rfl, (blk_cell BK267.out 1).trans rfl, (blk_cell BK267.out 2).trans rfl, (blk_cell BK268.out 0).trans rfl, (blk_cell BK268.out 1).trans rfl, (blk_cell BK268.out 2).trans rfl, (blk_cell BK268.out 3).trans rfl⟩ (fun hHeld => ?_)
              clear hK K
              refine norm_ (a' := ?_) ?_ ?_
              rotate_left
              · show Act.put _ (some 13) _ = _
                simp only [Act.put, List.setIfInBounds_toArray, List.set_cons_zero, List.set_cons_succ, i64_w, i32_w]
                rfl
              exact norm_ (by simp only [putAll, Act.put, List.setIfInBounds_toArray, List.set_cons_zero, List.set_cons_succ]) (hCont (v271, v274) _ ⟨hHeld, (by (with_reducible repeat (first | apply Kd.R_alloc | apply Kd.R_drewN | apply Kd.R_drew)); exact HO272.out), (by (with_reducible repeat (first | apply Kd.R_alloc | apply Kd.R_drewN | apply Kd.R_drew)); exact Kd.R_mono HO275.out (fun _ hk => ⟨hk.2, hk.1.2⟩)), (by (with_reducible repeat (first | refine blk_drewN ?_ _ | refine blk_drew ?_ | refine blk_alloc ?_ _)); exact BK267.out), (by (with_reducible repeat (first | refine blk_drewN ?_ _ | refine blk_drew ?_ | refine blk_alloc ?_ _)); exact BK268.out), (by (with_reducible repeat (first | refine blk_drewN ?_ _ | refine blk_drew ?_ | refine blk_alloc ?_ _)); exact BK269.out), (by repeat (first | (with_reducible first | exact HB.out | apply below_alloc | apply pw_below_drewN | apply below_drew1 | refine below_set ?_ GE267.out | refine below_set ?_ GE268.out | refine below_set ?_ GE269.out) | exact HB.out))⟩)
          rintro ⟨v271, v274⟩ w46 ⟨hS_, h0_, h1_, h2_, h3_, h4_, h5_⟩
          have n0_ : Aside0 (Kd.R k72 72 w46 w.heap.size (fun k_ => some k_ ≠ (v274 : Value).ownBlock ∧ k_ ≠ gb268) v271 y270) := ⟨h0_⟩
          have n1_ : Aside0 (Kd.R k72 72 w46 w.heap.size (fun k_ => some k_ ≠ (v271 : Value).ownBlock ∧ k_ ≠ gb268) v274 y273) := ⟨h1_⟩
          have n2_ : Aside0 (w46.heap[gb267]? = some (.cells #[.int .i64 a0_0, .string a0_1, .slice A0_2 l0_2.length c0_2] 45 (0, 0))) := ⟨h2_⟩
          have n3_ : Aside0 (w46.heap[gb268]? = some (.cells #[.int .i64 a1_0, .bool a1_1, .int .i64 a1_2, .int .u32 a1_3] 72 (0, 0))) := ⟨h3_⟩
          have n4_ : Aside0 (w46.heap[gb269]? = some (.cells #[.int .i64 0, .string (⟨#[]⟩ : ByteArray), .slice none 0 0] 45 (0, 0))) := ⟨h4_⟩
          have n5_ : Aside0 (Below w.heap.size w w46) := ⟨h5_⟩
          clear BK267
          clear BK268
          clear BK269
          clear HB
          clear h0_ h1_ h2_ h3_ h4_ h5_
          have HO272 := n0_
          have HO275 := n1_
          have BK267 := n2_
          have BK268 := n3_
          have BK269 := n4_
          have HB := n5_
          clear n0_ n1_ n2_ n3_ n4_ n5_
          have hHeld : w46.cell? ⟨gb267, 0, none⟩ = some (.int .i64 a0_0) ∧ w46.cell? ⟨gb267, 1, none⟩ = some (.string a0_1) ∧ w46.cell? ⟨gb267, 2, none⟩ = some (.slice A0_2 l0_2.length c0_2) ∧ w46.cell? ⟨gb268, 0, none⟩ = some (.int .i64 a1_0) ∧ w46.cell? ⟨gb268, 1, none⟩ = some (.bool a1_1) ∧ w46.cell? ⟨gb268, 2, none⟩ = some (.int .i64 a1_2) ∧ w46.cell? ⟨gb268, 3, none⟩ = some (.int .u32 a1_3) := hS_
          obtain ⟨Ao48, co48, eo48⟩ := Kd.R_slice HO275.out
          (first | subst eo48 | (injection eo48 with f1_ f2_ f3_; have f4_ := f1_.symm; have f5_ := f3_.symm; clear f1_ f2_ f3_; subst f4_; subst f5_))
          refine norm_ (a' := ?_) ?_ ?_
          rotate_left
          · simp only [putAll, Act.put, List.setIfInBounds_toArray, List.set_cons_zero, List.set_cons_succ]
            rfl
          refine one_ (i := 5) (N := some 16) #[true, true, true, true, true, true, false, false] rfl rfl (one_of HT_.out (by kernel_rfl)) (by decide) (fun K hK => ?_)
          refine Kd.R_append_rows_step k72 (w0 := w) w.heap.size (by rfl) (.tmp 13) (.tmp 15) 43 72 (.agg #[(.int .i64 0), (.bool false), (.int .i64 0), (.int .u32 0)]) 32 rfl Try.underlying43 info72 rfl (by decide) (by omega) v271 y270 y273 _ _ _ (fun k_ => some k_ ≠ (.slice Ao48 y273.length co48 : Value).ownBlock ∧ k_ ≠ gb268) (fun _ => False) rfl rfl ?aO ?aR (fun _ _ h => h) (fun _ h => h.elim) ?aF ?aB ?aS ?aL ?_
          (case aR => repeat (first | exact (Kd.R_reads' HO275.out).2.2 | (with_reducible refine Kd.C_alloc ?_ _) | (with_reducible refine Kd.C_drewN ?_ _) | (with_reducible refine Kd.C_drew ?_)))
          (case aB => exact (by repeat (first | (with_reducible first | exact HB.out | apply below_alloc | apply pw_below_drewN | apply below_drew1 | refine below_set ?_ GE267.out | refine below_set ?_ GE268.out | refine below_set ?_ GE269.out) | exact HB.out)))
          (case aF => exact (fun k_ hk => ⟨Kd.fresh' (Kd.R_lt (by (with_reducible repeat (first | apply Kd.R_alloc | apply Kd.R_drewN | apply Kd.R_drew)); exact HO275.out)) k_ hk, Kd.freshB (g := gb268) (o := .cells #[.int .i64 a1_0, .bool a1_1, .int .i64 a1_2, .int .u32 a1_3] 72 (0, 0)) (by (with_reducible repeat (first | refine blk_drewN ?_ _ | refine blk_drew ?_ | refine blk_alloc ?_ _)); exact BK268.out) k_ hk⟩))
          (case aO => exact (by (with_reducible repeat (first | apply Kd.R_alloc | apply Kd.R_drewN | apply Kd.R_drew)); exact HO272.out))
          (case aS => exact (below_size (by repeat (first | (with_reducible first | exact HB.out | apply below_alloc | apply pw_below_drewN | apply below_drew1 | refine below_set ?_ GE267.out | refine below_set ?_ GE268.out | refine below_set ?_ GE269.out) | exact HB.out))))
          (case aL => have := LMc13.out; omega)
          intro v277 w47 ho hb hg hat
          rw [← Ny276.out] at ho
          have n0_ := Aside0.mk (blk_grown (g := gb267) (o := .cells #[.int .i64 a0_0, .string a0_1, .slice A0_2 l0_2.length c0_2] 45 (0, 0)) (by (with_reducible repeat (first | refine blk_drewN ?_ _ | refine blk_drew ?_ | refine blk_alloc ?_ _)); exact BK267.out) hg (Kd.R_ne HO272.out BK267.out (by decide)))
          have n1_ := Aside0.mk (blk_grown (g := gb268) (o := .cells #[.int .i64 a1_0, .bool a1_1, .int .i64 a1_2, .int .u32 a1_3] 72 (0, 0)) (by (with_reducible repeat (first | refine blk_drewN ?_ _ | refine blk_drew ?_ | refine blk_alloc ?_ _)); exact BK268.out) hg (Kd.R_away HO272.out (fun _ hk => hk.2)))
          have n2_ := Aside0.mk (blk_grown (g := gb269) (o := .cells #[.int .i64 0, .string (⟨#[]⟩ : ByteArray), .slice none 0 0] 45 (0, 0)) (by (with_reducible repeat (first | refine blk_drewN ?_ _ | refine blk_drew ?_ | refine blk_alloc ?_ _)); exact BK269.out) hg (Kd.R_ne HO272.out BK269.out (by decide)))
          have n3_ := Aside0.mk (Kd.R_after (ok := (fun k_ => k_ ≠ gb268)) (by (with_reducible repeat (first | apply Kd.R_alloc | apply Kd.R_drewN | apply Kd.R_drew)); exact Kd.R_mono HO275.out (fun _ hk => ⟨hk.2, hk.1⟩)) hg hat)
          have n4_ := Aside0.mk (hb)
          have n5_ := Aside0.mk (ho)
          clear BK267
          clear BK268
          clear BK269
          clear HO275
          clear HB
          clear HO272
          have BK267 := n0_
          have BK268 := n1_
          have BK269 := n2_
          have HO275 := n3_
          have HB := n4_
          have HO278 := n5_
          clear n0_ n1_ n2_ n3_ n4_ n5_
          clear ho hb hg hat
          obtain ⟨Ao49, co49, eo49⟩ := Kd.R_slice HO278.out
          (first | subst eo49 | (injection eo49 with f1_ f2_ f3_; have f4_ := f1_.symm; have f5_ := f3_.symm; clear f1_ f2_ f3_; subst f4_; subst f5_))
          refine hK.out _ _ ⟨(blk_cell BK267.out 0).trans rfl, (blk_cell BK267.out 1).trans rfl, (blk_cell BK267.out 2).trans rfl, (blk_cell BK268.out 0).trans rfl, (blk_cell BK268.out 1).trans rfl, (blk_cell BK268.out 2).trans rfl, (blk_cell BK268.out 3).trans rfl⟩ (fun hHeld => ?_)
          clear hK K
          refine norm_ (a' := ?_) ?_ ?_
          rotate_left
          · show Act.put _ (some 16) _ = _
            simp only [Act.put, List.setIfInBounds_toArray, List.set_cons_zero, List.set_cons_succ, i64_w, i32_w]
            rfl
          refine pure_ (i := 6) (N := some 17) (v := ?_) (a' := ?_) #[true, true, true, true, true, true, true, false] rfl rfl (any_of HT_.out (by kernel_rfl)) (fun _ _ _ h => h) (Or.inl ⟨by rfl, ?_⟩) ?_ ?_
          rotate_left
          · intro w'
            go_simp
            with_reducible rfl
          rotate_left
          · simp only [Act.put, List.setIfInBounds_toArray, List.set_cons_zero, List.set_cons_succ, i64_w, i32_w]
            rfl
          refine last_ (i := 7) (N := none) #[true, true, true, true, true, true, true, true] rfl rfl (one_of HT_.out (by kernel_rfl)) (by decide) (fun K hK => ?_)
          have hs50 : w47.cell? ⟨gb267, 2, none⟩ = some (.slice A0_2 l0_2.length c0_2) := (blk_cell BK267.out 2).trans rfl
          have hfs50 := blk_frozen BK267.out 2
          have hns50_1 := NB268_267.out
          have hns50_2 := NB269_267.out
          have hms50_1 := NB267_268.out
          have hms50_2 := NB267_269.out
          refine skip_ (w1 := ?_) (by rfl) rfl ?_ ?_
          rotate_left
          · go_simp
            rfl
          refine hK.out _ _ ?_
          clear hK K
          refine done_ (done_of HT_.out (by kernel_rfl)) ?_
          have hcz51_0 : w47.cell? ⟨gb267, 0, none⟩ = some (.int .i64 a0_0) := (blk_cell BK267.out 0).trans rfl
          have hcz51_1 : w47.cell? ⟨gb267, 1, none⟩ = some (.string a0_1) := (blk_cell BK267.out 1).trans rfl
          have hcz51_2 : w47.cell? ⟨gb267, 2, none⟩ = some (.slice A0_2 l0_2.length c0_2) := (blk_cell BK267.out 2).trans rfl
          have hfz51_0 := blk_frozen BK267.out 0
          have hfz51_1 := blk_frozen BK267.out 1
          have hfz51_2 := blk_frozen BK267.out 2
          try go_wp2_with (first | ((with_reducible refine gate_callee (f := 27) rfl ?_); refine goesL_ (some 19) rfl rfl Try.func27 (by kernel_rfl) rfl #[.agg #[.int .i64 a0_0, .string a0_1, .slice Ao49 y276.length co49]] rfl (by (try simp only [List.map_toArray, List.map_cons, List.map_nil]); first | done | rfl | (simp only [List.length_drop, List.length_take]; rfl)) ?_; (with_reducible refine (strongboxref4_May.calls k a0_0 a0_1 _ _ y276 false _ ?side1 ?side2 A14.out).mono ?_); (case side1 => refine (Kd.R_reads' (e := 72) (base := w.heap.size) (ok := fun k_ => (some k_ ≠ (.slice Ao48 y273.length co48 : Value).ownBlock ∧ k_ ≠ gb268)) (n := y276.length) (c := co49) ?_).2.2; exact (by (with_reducible repeat (first | apply Kd.R_alloc | apply Kd.R_drewN | apply Kd.R_drew)); exact (Kd.R_mono (Kd.R_far (p := ⟨gb267, 2, none⟩) (Kd.R_types HO278.out BK267.out (by decide)) (fun _ hk => hk.2) (.slice Ao49 y276.length co49)) (fun _ h_ => h_.1)))); (case side2 => exact (Kd.R_reads' HO278.out).2.1); rintro e w52 ⟨rfl, hb⟩; refine ⟨_, rfl, ?_⟩; have n0_ := Aside0.mk (Kd.R_below (by (with_reducible repeat (first | apply Kd.R_alloc | apply Kd.R_drewN | apply Kd.R_drew)); exact (Kd.R_mono (Kd.R_far (p := ⟨gb267, 2, none⟩) (Kd.R_types HO275.out BK267.out (by decide)) (fun _ hk => hk.2) (.slice Ao49 y276.length co49)) (fun _ h_ => h_.1))) hb); have n1_ := Aside0.mk (Kd.R_below (by (with_reducible repeat (first | apply Kd.R_alloc | apply Kd.R_drewN | apply Kd.R_drew)); exact (Kd.R_mono (Kd.R_far (p := ⟨gb267, 2, none⟩) (Kd.R_types HO278.out BK267.out (by decide)) (fun _ hk => hk.2) (.slice Ao49 y276.length co49)) (fun _ h_ => h_.1))) hb); have n2_ := Aside0.mk (blk_below (g := gb267) (o := .cells #[.int .i64 a0_0, .string a0_1, .slice Ao49 y276.length co49] 45 (0, 0)) (by (with_reducible repeat (first | refine blk_drewN ?_ _ | refine blk_drew ?_ | refine blk_alloc ?_ _)); refine blk_put (cs := #[.int .i64 a0_0, .string a0_1, .slice A0_2 l0_2.length c0_2]) ?_ 2 _ rfl; (with_reducible repeat (first | refine blk_drewN ?_ _ | refine blk_drew ?_ | refine blk_alloc ?_ _)); exact BK267.out) hb); have n3_ := Aside0.mk (blk_below (g := gb268) (o := .cells #[.int .i64 a1_0, .bool a1_1, .int .i64 a1_2, .int .u32 a1_3] 72 (0, 0)) (by (with_reducible repeat (first | refine blk_drewN ?_ _ | refine blk_drew ?_ | refine blk_alloc ?_ _)); refine blk_far ?_ NB268_267.out _; (with_reducible repeat (first | refine blk_drewN ?_ _ | refine blk_drew ?_ | refine blk_alloc ?_ _)); exact BK268.out) hb); have n4_ := Aside0.mk (blk_below (g := gb269) (o := .cells #[.int .i64 0, .string (⟨#[]⟩ : ByteArray), .slice none 0 0] 45 (0, 0)) (by (with_reducible repeat (first | refine blk_drewN ?_ _ | refine blk_drew ?_ | refine blk_alloc ?_ _)); refine blk_far ?_ NB269_267.out _; (with_reducible repeat (first | refine blk_drewN ?_ _ | refine blk_drew ?_ | refine blk_alloc ?_ _)); exact BK269.out) hb); have n5_ := Aside0.mk (below_step (by repeat (first | (with_reducible first | exact HB.out | apply below_alloc | apply pw_below_drewN | apply below_drew1 | refine below_set ?_ GE267.out | refine below_set ?_ GE268.out | refine below_set ?_ GE269.out) | exact HB.out)) hb); clear HO275; clear HO278; clear BK267; clear BK268; clear BK269; clear HB; have HO275 := n0_; have HO278 := n1_; have BK267 := n2_; have BK268 := n3_; have BK269 := n4_; have HB := n5_; clear n0_ n1_ n2_ n3_ n4_ n5_; (try clear hb); (try clear hb2); (try clear hk); (try clear hi); have hnb53 := NB269_268.out; have hnc53 := NB268_269.out; have hcz54_0 : w52.cell? ⟨gb269, 0, none⟩ = some (.int .i64 0) := (blk_cell BK269.out 0).trans rfl; have hcz54_1 : w52.cell? ⟨gb269, 1, none⟩ = some (.string (⟨#[]⟩ : ByteArray)) := (blk_cell BK269.out 1).trans rfl; have hcz54_2 : w52.cell? ⟨gb269, 2, none⟩ = some (.slice none 0 0) := (blk_cell BK269.out 2).trans rfl; have hfz54_0 := blk_frozen BK269.out 0; have hfz54_1 := blk_frozen BK269.out 1; have hfz54_2 := blk_frozen BK269.out 2))
          refine bodyPost_ret (results_ct rfl _ _ gb269 45 #[.int .i64 0, .string (⟨#[]⟩ : ByteArray), .slice none 0 0] (0, 0) _ rfl (by (with_reducible repeat (first | refine blk_drewN ?_ _ | refine blk_drew ?_ | refine blk_alloc ?_ _)); refine blk_put (cs := #[.int .i64 0, .string (⟨#[]⟩ : ByteArray), .slice none 0 0]) ?_ 2 _ rfl; (with_reducible repeat (first | refine blk_drewN ?_ _ | refine blk_drew ?_ | refine blk_alloc ?_ _)); refine blk_put (cs := #[.int .i64 0, .string (⟨#[]⟩ : ByteArray), .slice none 0 0]) ?_ 1 _ rfl; (with_reducible repeat (first | refine blk_drewN ?_ _ | refine blk_drew ?_ | refine blk_alloc ?_ _)); refine blk_put (cs := #[.int .i64 0, .string (⟨#[]⟩ : ByteArray), .slice none 0 0]) ?_ 0 _ rfl; (with_reducible repeat (first | refine blk_drewN ?_ _ | refine blk_drew ?_ | refine blk_alloc ?_ _)); exact BK269.out) Try.underlying45 rfl (by kernel_rfl)) rfl ?_
          exact ⟨_, by first | rfl | (simp [errW_none, errW_some] <;> rfl) | (simp [*, errW_none, errW_some] <;> rfl), by first | exact Kd.R_nil _ _ _ _ _ | exact Kd.N_nil _ _ _ _ _ | exact Kd.V_nil _ _ _ _ _ | exact Kd.Q_nil _ _ _ _ _ | exact Kd.S_nil _ _ _ _ _, by repeat (first | (with_reducible first | exact HB.out | apply below_alloc | apply pw_below_drewN | apply below_drew1 | refine below_set ?_ GE267.out | refine below_set ?_ GE268.out | refine below_set ?_ GE269.out) | exact HB.out)⟩
      · rw [if_neg c13] at H
        exact absurd H (by simp)
    · rw [if_neg c12] at H
      exact absurd H (by simp)

end Go.Proofs.Ytnlpipjdpmaggaa.PJournalReads
