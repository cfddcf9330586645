/- WRITTEN FOR THIS CLAIM by a program of the prover's own (the kit's printing program, with constructs added): for each Go function that the statement reaches a Lean function with the same answers, and the proof of that. Not trusted: Lean checks it. -/
import Derived.Test.YtnlpipjdpmaggaaPJournalReadsx0
import Derived.Test.YtnlpipjdpmaggaaPJournalReadsx9
import Derived.Test.YtnlpipjdpmaggaaPJournalReadsx10
import Derived.Test.YtnlpipjdpmaggaaPJournalReadsx11
namespace Go.Proofs.Ytnlpipjdpmaggaa.PJournalReads
open Go.RowKit Go.Proofs.YtnlpipjdpmaggaaW.PrintWords Go.Proofs.YtnlpipjdpmaggaaW.PrintLast Go.Proofs.YtnlpipjdpmaggaaW.PrintMore
attribute [local go_sem] max2_int min2_int max_two min_two max_three min_three max_four min_four   -- for this text's walks alone
set_option linter.unusedVariables false
set_option linter.unusedSimpArgs false

/-! ### strongboxref4_Decode: function 29 -/
mutual
def strongboxref4_Decode.j0 : Nat → List Int → Int → Int → Bool → Option (Int × ByteArray × (List (S72)) × Int)
  | 0, _, _, _, _ => none
  | k + 1, x0, x4, x5, x54 => if x54 = true then (some (0, (⟨#[]⟩ : ByteArray), ([] : List (S72)), 4)) else ((strongboxref4_get.f k x0 4 4).bind fun t250 => (if 10 ≤ (wrap64 (10 + x5)) then (if (wrap64 (10 + x5)) ≤ (x0.length : Int) then (strongboxref4_Decode.l0 k x0 x4 (wrap64 (11 + x5)) t250 (strOfNums ((x0.take ((wrap64 (10 + x5)) : Int).toNat).drop 10)) ([] : List (S72))) else (none)) else (none)))
def strongboxref4_Decode.l0 : Nat → List Int → Int → Int → Int → ByteArray → List (S72) → Option (Int × ByteArray × (List (S72)) × Int)
  | 0, _, _, _, _, _, _ => none
  | k + 1, x0, x4, x7, x256000, x256001, x256002 => if x7 < x4 then (if 0 ≤ (wrap64 (x7 + 4)) then (if (wrap64 (x7 + 4)) < (x0.length : Int) then (if (rd x0 (wrap64 (x7 + 4))) > 1 then (some (0, (⟨#[]⟩ : ByteArray), ([] : List (S72)), 4)) else ((strongboxref4_get.f k x0 x7 4).bind fun t258 => ((strongboxref4_get.f k x0 (wrap64 (x7 + 5)) 4).bind fun t260 => ((strongboxref4_get.f k x0 (wrap64 (x7 + 9)) 4).bind fun t261 => (if x256002.length < 4398046511104 then (strongboxref4_Decode.l0 k x0 x4 (wrap64 (x7 + 13)) x256000 x256001 (x256002 ++ [(⟨t258, ((rd x0 (wrap64 (x7 + 4))) == 1), t260, (t261) % 4294967296⟩ : S72)])) else (none)))))) else (none)) else (none)) else ((strongboxref4_May.f k x256000 x256001 x256002).bind fun t256 => (if t256 = true then (some (x256000, x256001, x256002, 0)) else (some (0, (⟨#[]⟩ : ByteArray), ([] : List (S72)), 4))))
end
def strongboxref4_Decode.f (k : Nat) (l0 : List Int) : Option (Int × ByteArray × (List (S72)) × Int) := if (l0.length : Int) > 262144 then (some (0, (⟨#[]⟩ : ByteArray), ([] : List (S72)), 3)) else (if (l0.length : Int) < 15 then (some (0, (⟨#[]⟩ : ByteArray), ([] : List (S72)), 2)) else ((strongboxref4_get.f k l0 (wrap64 ((l0.length : Int) - 4)) 4).bind fun t238 => (if 0 ≤ (wrap64 ((l0.length : Int) - 4)) then (if (wrap64 ((l0.length : Int) - 4)) ≤ (l0.length : Int) then ((strongboxref4_Sum.f k (l0.take ((wrap64 ((l0.length : Int) - 4)) : Int).toNat)).bind fun t243 => (if ((t238) % 4294967296) = t243 then ((strongboxref4_get.f k l0 8 2).bind fun t244 => (if 4 ≤ (l0.length : Int) then (if (strOfNums (l0.take 4)).toList = ([83, 66, 74, 49] : List UInt8) then (if (wrap64 ((l0.length : Int) - 4)) < (wrap64 (11 + t244)) then (strongboxref4_Decode.j0 k l0 (wrap64 ((l0.length : Int) - 4)) t244 true) else (if 0 ≤ (wrap64 (10 + t244)) then (if (wrap64 (10 + t244)) < (l0.length : Int) then (strongboxref4_Decode.j0 k l0 (wrap64 ((l0.length : Int) - 4)) t244 ((wrap64 ((l0.length : Int) - 4)) != (wrap64 ((wrap64 (11 + t244)) + (wrap64 (13 * (wrap64 (rd l0 (wrap64 (10 + t244)))))))))) else (none)) else (none))) else (strongboxref4_Decode.j0 k l0 (wrap64 ((l0.length : Int) - 4)) t244 true)) else (none))) else (some (0, (⟨#[]⟩ : ByteArray), ([] : List (S72)), 5)))) else (none)) else (none))))
theorem strongboxref4_Decode.mono_l : ∀ k, (∀ y0 y1 y2 y3, LeO (strongboxref4_Decode.j0 k y0 y1 y2 y3) (strongboxref4_Decode.j0 (k + 1) y0 y1 y2 y3)) ∧ (∀ y0 y1 y2 y3 y4 y5, LeO (strongboxref4_Decode.l0 k y0 y1 y2 y3 y4 y5) (strongboxref4_Decode.l0 (k + 1) y0 y1 y2 y3 y4 y5))
  | 0 => ⟨fun _ _ _ _ r h => by simp [strongboxref4_Decode.j0] at h, fun _ _ _ _ _ _ r h => by simp [strongboxref4_Decode.l0] at h⟩
  | k + 1 => by
    obtain ⟨ih0, ih1⟩ := strongboxref4_Decode.mono_l k
    refine ⟨?_, ?_⟩
    · intro y0 y1 y2 y3
      unfold strongboxref4_Decode.j0
      repeat' first
      | (with_reducible exact ih0 _ _ _ _)
      | (with_reducible exact ih1 _ _ _ _ _ _)
      | (with_reducible exact strongboxref4_May.mono _ _ _ _)
      | (with_reducible exact strongboxref4_Sum.mono _ _)
      | (with_reducible exact strongboxref4_get.mono _ _ _ _)
      | (with_reducible exact LeO.refl _)
      | (with_reducible exact LeO.none _)
      | (with_reducible refine LeO.ite ?_ ?_)
      | (with_reducible refine LeO.bind ?_ (fun _ => ?_))
      | exact ih0 _ _ _ _
      | exact ih1 _ _ _ _ _ _
      | exact strongboxref4_May.mono _ _ _ _
      | exact strongboxref4_Sum.mono _ _
      | exact strongboxref4_get.mono _ _ _ _
      | exact LeO.none _
      | refine LeO.ite ?_ ?_
      | refine LeO.bind ?_ (fun _ => ?_)
    · intro y0 y1 y2 y3 y4 y5
      unfold strongboxref4_Decode.l0
      repeat' first
      | (with_reducible exact ih0 _ _ _ _)
      | (with_reducible exact ih1 _ _ _ _ _ _)
      | (with_reducible exact strongboxref4_May.mono _ _ _ _)
      | (with_reducible exact strongboxref4_Sum.mono _ _)
      | (with_reducible exact strongboxref4_get.mono _ _ _ _)
      | (with_reducible exact LeO.refl _)
      | (with_reducible exact LeO.none _)
      | (with_reducible refine LeO.ite ?_ ?_)
      | (with_reducible refine LeO.bind ?_ (fun _ => ?_))
      | exact ih0 _ _ _ _
      | exact ih1 _ _ _ _ _ _
      | exact strongboxref4_May.mono _ _ _ _
      | exact strongboxref4_Sum.mono _ _
      | exact strongboxref4_get.mono _ _ _ _
      | exact LeO.none _
      | refine LeO.ite ?_ ?_
      | refine LeO.bind ?_ (fun _ => ?_)
theorem strongboxref4_Decode.mono : ∀ a0 k, LeO (strongboxref4_Decode.f k a0) (strongboxref4_Decode.f (k + 1) a0) := by
  intro a0 k
  obtain ⟨ih0, ih1⟩ := strongboxref4_Decode.mono_l k
  unfold strongboxref4_Decode.f
  repeat' first
      | (with_reducible exact ih0 _ _ _ _)
      | (with_reducible exact ih1 _ _ _ _ _ _)
      | (with_reducible exact strongboxref4_May.mono _ _ _ _)
      | (with_reducible exact strongboxref4_Sum.mono _ _)
      | (with_reducible exact strongboxref4_get.mono _ _ _ _)
      | (with_reducible exact LeO.refl _)
      | (with_reducible exact LeO.none _)
      | (with_reducible refine LeO.ite ?_ ?_)
      | (with_reducible refine LeO.bind ?_ (fun _ => ?_))
      | exact ih0 _ _ _ _
      | exact ih1 _ _ _ _ _ _
      | exact strongboxref4_May.mono _ _ _ _
      | exact strongboxref4_Sum.mono _ _
      | exact strongboxref4_get.mono _ _ _ _
      | exact LeO.none _
      | refine LeO.ite ?_ ?_
      | refine LeO.bind ?_ (fun _ => ?_)
def strongboxref4_Decode.T6 : Bool × List (List Nat × List Nat) := (true, [([], []), ([], []), ([0, 1], [0, 1]), ([2], [2]), ([], []), ([], []), ([4, 5], [4, 5]), ([6, 2], [6]), ([3, 7], [3, 7])])
def strongboxref4_Decode.B6 : List Nat := [0, 0, 3, 7, 0, 0, 48, 119, 255]
theorem strongboxref4_Decode.tab6 : rtab .any (opsOf Try.f29 6) = strongboxref4_Decode.T6 := by kernel_rfl
theorem strongboxref4_Decode.bits6 : waitsOk strongboxref4_Decode.T6.2 strongboxref4_Decode.B6 = true := by kernel_rfl
def strongboxref4_Decode.T11 : Bool × List (List Nat × List Nat) := (true, [([], []), ([0], [0]), ([], []), ([], []), ([3], [3]), ([2, 4], [2, 4]), ([5], [5]), ([1, 6], [1, 6]), ([], []), ([8, 7, 1, 0, 1, 2, 3, 4, 5, 6, 7, 8], [7, 8])])
def strongboxref4_Decode.B11 : List Nat := [0, 1, 0, 0, 8, 28, 60, 127, 0, 511]
theorem strongboxref4_Decode.tab11 : rtab .any (opsOf Try.f29 11) = strongboxref4_Decode.T11 := by kernel_rfl
theorem strongboxref4_Decode.bits11 : waitsOk strongboxref4_Decode.T11.2 strongboxref4_Decode.B11 = true := by kernel_rfl
def strongboxref4_Decode.T17 : Bool × List (List Nat × List Nat) := (true, [([], []), ([0], [0]), ([], []), ([], []), ([2, 3], [2, 3]), ([], []), ([], []), ([6], [6]), ([5, 7], [5, 7]), ([8], [8]), ([9], [9]), ([], []), ([], []), ([12], [12]), ([11, 13, 4], [11, 13]), ([], []), ([], []), ([16], [16]), ([15, 17, 14], [15, 17]), ([18], [18]), ([4, 10, 14, 19], [4, 10, 14, 19]), ([20], [20]), ([1, 21, 18], [1, 21]), ([0, 1, 2, 3, 4, 5, 6, 7, 8, 9, 10, 11, 12, 13, 14, 15, 16, 17, 18, 19, 20, 21, 22], []), ([23, 22, 22, 0, 1, 2, 3, 4, 5, 6, 7, 8, 9, 10, 11, 12, 13, 14, 15, 16, 17, 18, 19, 20, 21, 22], [22, 23])])
def strongboxref4_Decode.B17 : List Nat := [0, 1, 0, 0, 12, 0, 0, 64, 224, 480, 992, 0, 0, 4096, 14364, 0, 0, 65536, 260124, 522268, 1048572, 2097148, 4194303, 8388607, 16777215]
theorem strongboxref4_Decode.tab17 : rtab .any (opsOf Try.f29 17) = strongboxref4_Decode.T17 := by kernel_rfl
theorem strongboxref4_Decode.bits17 : waitsOk strongboxref4_Decode.T17.2 strongboxref4_Decode.B17 = true := by kernel_rfl
set_option maxHeartbeats 8000000 in
set_option maxRecDepth 100000 in
theorem strongboxref4_Decode.calls (k : Nat) (A0 : Option Addr) (c0 : Nat) (l0 : List Int) (r1 : Int) (r2 : ByteArray) (r3 : List (S72)) (r4 : Int) (w : World) (hr0 : Kd.C (Kd.int .u8) w A0 l0.length l0) (hc0 : l0.length ≤ c0) (h : strongboxref4_Decode.f k l0 = some (r1, r2, r3, r4)) :
    Calls Try.prog 29 #[.slice A0 l0.length c0] w fun e w' => ∃ v2_ : Value, e = .returned (.tuple #[.agg #[.int .i64 r1, .string r2, v2_], .int .i64 r4]) ∧ Kd.R k72 72 w' w.heap.size (fun _ => True) v2_ r3 ∧ Below w.heap.size w w' := by
  have hu45 := Try.underlying45
  have hu72 := Try.underlying72
  have HR0 := Aside0.mk hr0
  have HC0 := Aside0.mk hc0
  clear hr0 hc0
  have HB := Aside0.mk (Below.refl w.heap.size w)
  have H : (if (l0.length : Int) > 262144 then (some (0, (⟨#[]⟩ : ByteArray), ([] : List (S72)), 3)) else (if (l0.length : Int) < 15 then (some (0, (⟨#[]⟩ : ByteArray), ([] : List (S72)), 2)) else ((strongboxref4_get.f k l0 (wrap64 ((l0.length : Int) - 4)) 4).bind fun t238 => (if 0 ≤ (wrap64 ((l0.length : Int) - 4)) then (if (wrap64 ((l0.length : Int) - 4)) ≤ (l0.length : Int) then ((strongboxref4_Sum.f k (l0.take ((wrap64 ((l0.length : Int) - 4)) : Int).toNat)).bind fun t243 => (if ((t238) % 4294967296) = t243 then ((strongboxref4_get.f k l0 8 2).bind fun t244 => (if 4 ≤ (l0.length : Int) then (if (strOfNums (l0.take 4)).toList = ([83, 66, 74, 49] : List UInt8) then (if (wrap64 ((l0.length : Int) - 4)) < (wrap64 (11 + t244)) then (strongboxref4_Decode.j0 k l0 (wrap64 ((l0.length : Int) - 4)) t244 true) else (if 0 ≤ (wrap64 (10 + t244)) then (if (wrap64 (10 + t244)) < (l0.length : Int) then (strongboxref4_Decode.j0 k l0 (wrap64 ((l0.length : Int) - 4)) t244 ((wrap64 ((l0.length : Int) - 4)) != (wrap64 ((wrap64 (11 + t244)) + (wrap64 (13 * (wrap64 (rd l0 (wrap64 (10 + t244)))))))))) else (none)) else (none))) else (strongboxref4_Decode.j0 k l0 (wrap64 ((l0.length : Int) - 4)) t244 true)) else (none))) else (some (0, (⟨#[]⟩ : ByteArray), ([] : List (S72)), 5)))) else (none)) else (none))))) = some (r1, r2, r3, r4) := h
  clear h
  by_cases c2 : (l0.length : Int) > 262144
  · rw [if_pos c2] at H
    have c2b0 : decide (262144 < (l0.length : Int)) = true := decide_eq_true c2
    have c2b1 : decide (262144 < l0.length) = true := decide_eq_true (by omega)
    clear c2
    simp only [Option.some.injEq, Prod.mk.injEq] at H
    obtain ⟨rfl, rfl, rfl, rfl⟩ := H
    go_enter Try.func29, Try.ntmps29
    go_wp2_with (first | ((with_reducible refine gate_dst (N := 2) rfl ?_); refine box_event ?hg (N := 2) ?hd (cs := #[.int .i64 0, .string (⟨#[]⟩ : ByteArray), .slice none 0 0]) (t := 45) ?hr ?_; (case hd => rfl); (case hg => rfl); (case hr => first | (go_simp; done) | (go_simp; rfl)); intro gb237 hg w3 hbox hb; have n0_ := Aside0.mk (below_step (by repeat (first | (with_reducible first | exact HB.out | apply below_alloc | apply pw_below_drewN | apply below_drew1) | exact HB.out)) hb); have n1_ := Aside0.mk (hbox); have n2_ := Aside0.mk ((by rw [hg]; exact (below_size (by repeat (first | (with_reducible first | exact HB.out | apply below_alloc | apply pw_below_drewN | apply below_drew1) | exact HB.out))) : w.heap.size ≤ gb237)); have n3_ := Aside0.mk ((by rw [hg]; exact (below_size (by repeat (first | (with_reducible first | exact HB.out | apply below_alloc | apply pw_below_drewN | apply below_drew1) | exact HB.out))) : w.heap.size ≤ gb237)); clear HB; have HB := n0_; have BK237 := n1_; have GW237 := n2_; have GE237 := n3_; clear n0_ n1_ n2_ n3_; clear hb hbox hg; have hcz4_0 : w3.cell? ⟨gb237, 0, none⟩ = some (.int .i64 0) := (blk_cell BK237.out 0).trans rfl; have hcz4_1 : w3.cell? ⟨gb237, 1, none⟩ = some (.string (⟨#[]⟩ : ByteArray)) := (blk_cell BK237.out 1).trans rfl; have hcz4_2 : w3.cell? ⟨gb237, 2, none⟩ = some (.slice none 0 0) := (blk_cell BK237.out 2).trans rfl; have hfz4_0 := blk_frozen BK237.out 0; have hfz4_1 := blk_frozen BK237.out 1; have hfz4_2 := blk_frozen BK237.out 2))
    refine bodyPost_ret (results_ct rfl _ _ gb237 45 #[.int .i64 0, .string (⟨#[]⟩ : ByteArray), .slice none 0 0] (0, 0) _ rfl (by (with_reducible repeat (first | refine blk_drewN ?_ _ | refine blk_drew ?_ | refine blk_alloc ?_ _)); refine blk_put (cs := #[.int .i64 0, .string (⟨#[]⟩ : ByteArray), .slice none 0 0]) ?_ 2 _ rfl; (with_reducible repeat (first | refine blk_drewN ?_ _ | refine blk_drew ?_ | refine blk_alloc ?_ _)); refine blk_put (cs := #[.int .i64 0, .string (⟨#[]⟩ : ByteArray), .slice none 0 0]) ?_ 1 _ rfl; (with_reducible repeat (first | refine blk_drewN ?_ _ | refine blk_drew ?_ | refine blk_alloc ?_ _)); refine blk_put (cs := #[.int .i64 0, .string (⟨#[]⟩ : ByteArray), .slice none 0 0]) ?_ 0 _ rfl; (with_reducible repeat (first | refine blk_drewN ?_ _ | refine blk_drew ?_ | refine blk_alloc ?_ _)); exact BK237.out) Try.underlying45 rfl (by kernel_rfl)) rfl ?_
    exact ⟨_, by first | rfl | (simp [errW_none, errW_some] <;> rfl) | (simp [*, errW_none, errW_some] <;> rfl), by first | exact Kd.R_nil _ _ _ _ _ | exact Kd.N_nil _ _ _ _ _ | exact Kd.V_nil _ _ _ _ _ | exact Kd.Q_nil _ _ _ _ _ | exact Kd.S_nil _ _ _ _ _, by repeat (first | (with_reducible first | exact HB.out | apply below_alloc | apply pw_below_drewN | apply below_drew1 | refine below_set ?_ GE237.out) | exact HB.out)⟩
  · rw [if_neg c2] at H
    have c2b0 : decide (262144 < (l0.length : Int)) = false := decide_eq_false c2
    have c2b1 : decide (262144 < l0.length) = false := decide_eq_false (by omega)
    clear c2
    by_cases c5 : (l0.length : Int) < 15
    · rw [if_pos c5] at H
      have c5b0 : decide ((l0.length : Int) < 15) = true := decide_eq_true c5
      have c5b1 : decide (l0.length < 15) = true := decide_eq_true (by omega)
      clear c5
      simp only [Option.some.injEq, Prod.mk.injEq] at H
      obtain ⟨rfl, rfl, rfl, rfl⟩ := H
      go_enter Try.func29, Try.ntmps29
      go_wp2_with (first | ((with_reducible refine gate_dst (N := 2) rfl ?_); refine box_event ?hg (N := 2) ?hd (cs := #[.int .i64 0, .string (⟨#[]⟩ : ByteArray), .slice none 0 0]) (t := 45) ?hr ?_; (case hd => rfl); (case hg => rfl); (case hr => first | (go_simp; done) | (go_simp; rfl)); intro gb237 hg w6 hbox hb; have n0_ := Aside0.mk (below_step (by repeat (first | (with_reducible first | exact HB.out | apply below_alloc | apply pw_below_drewN | apply below_drew1) | exact HB.out)) hb); have n1_ := Aside0.mk (hbox); have n2_ := Aside0.mk ((by rw [hg]; exact (below_size (by repeat (first | (with_reducible first | exact HB.out | apply below_alloc | apply pw_below_drewN | apply below_drew1) | exact HB.out))) : w.heap.size ≤ gb237)); have n3_ := Aside0.mk ((by rw [hg]; exact (below_size (by repeat (first | (with_reducible first | exact HB.out | apply below_alloc | apply pw_below_drewN | apply below_drew1) | exact HB.out))) : w.heap.size ≤ gb237)); clear HB; have HB := n0_; have BK237 := n1_; have GW237 := n2_; have GE237 := n3_; clear n0_ n1_ n2_ n3_; clear hb hbox hg; have hcz7_0 : w6.cell? ⟨gb237, 0, none⟩ = some (.int .i64 0) := (blk_cell BK237.out 0).trans rfl; have hcz7_1 : w6.cell? ⟨gb237, 1, none⟩ = some (.string (⟨#[]⟩ : ByteArray)) := (blk_cell BK237.out 1).trans rfl; have hcz7_2 : w6.cell? ⟨gb237, 2, none⟩ = some (.slice none 0 0) := (blk_cell BK237.out 2).trans rfl; have hfz7_0 := blk_frozen BK237.out 0; have hfz7_1 := blk_frozen BK237.out 1; have hfz7_2 := blk_frozen BK237.out 2))
      refine bodyPost_ret (results_ct rfl _ _ gb237 45 #[.int .i64 0, .string (⟨#[]⟩ : ByteArray), .slice none 0 0] (0, 0) _ rfl (by (with_reducible repeat (first | refine blk_drewN ?_ _ | refine blk_drew ?_ | refine blk_alloc ?_ _)); refine blk_put (cs := #[.int .i64 0, .string (⟨#[]⟩ : ByteArray), .slice none 0 0]) ?_ 2 _ rfl; (with_reducible repeat (first | refine blk_drewN ?_ _ | refine blk_drew ?_ | refine blk_alloc ?_ _)); refine blk_put (cs := #[.int .i64 0, .string (⟨#[]⟩ : ByteArray), .slice none 0 0]) ?_ 1 _ rfl; (with_reducible repeat (first | refine blk_drewN ?_ _ | refine blk_drew ?_ | refine blk_alloc ?_ _)); refine blk_put (cs := #[.int .i64 0, .string (⟨#[]⟩ : ByteArray), .slice none 0 0]) ?_ 0 _ rfl; (with_reducible repeat (first | refine blk_drewN ?_ _ | refine blk_drew ?_ | refine blk_alloc ?_ _)); exact BK237.out) Try.underlying45 rfl (by kernel_rfl)) rfl ?_
      exact ⟨_, by first | rfl | (simp [errW_none, errW_some] <;> rfl) | (simp [*, errW_none, errW_some] <;> rfl), by first | exact Kd.R_nil _ _ _ _ _ | exact Kd.N_nil _ _ _ _ _ | exact Kd.V_nil _ _ _ _ _ | exact Kd.Q_nil _ _ _ _ _ | exact Kd.S_nil _ _ _ _ _, by repeat (first | (with_reducible first | exact HB.out | apply below_alloc | apply pw_below_drewN | apply below_drew1 | refine below_set ?_ GE237.out) | exact HB.out)⟩
    · rw [if_neg c5] at H
      have c5b0 : decide ((l0.length : Int) < 15) = false := decide_eq_false c5
      have c5b1 : decide (l0.length < 15) = false := decide_eq_false (by omega)
      clear c5
      replace H := Option.bind_eq_some_iff.mp H
      obtain ⟨t238, A80, H⟩ := H
      replace H : (if 0 ≤ (wrap64 ((l0.length : Int) - 4)) then (if (wrap64 ((l0.length : Int) - 4)) ≤ (l0.length : Int) then ((strongboxref4_Sum.f k (l0.take ((wrap64 ((l0.length : Int) - 4)) : Int).toNat)).bind fun t243 => (if ((t238) % 4294967296) = t243 then ((strongboxref4_get.f k l0 8 2).bind fun t244 => (if 4 ≤ (l0.length : Int) then (if (strOfNums (l0.take 4)).toList = ([83, 66, 74, 49] : List UInt8) then (if (wrap64 ((l0.length : Int) - 4)) < (wrap64 (11 + t244)) then (strongboxref4_Decode.j0 k l0 (wrap64 ((l0.length : Int) - 4)) t244 true) else (if 0 ≤ (wrap64 (10 + t244)) then (if (wrap64 (10 + t244)) < (l0.length : Int) then (strongboxref4_Decode.j0 k l0 (wrap64 ((l0.length : Int) - 4)) t244 ((wrap64 ((l0.length : Int) - 4)) != (wrap64 ((wrap64 (11 + t244)) + (wrap64 (13 * (wrap64 (rd l0 (wrap64 (10 + t244)))))))))) else (none)) else (none))) else (strongboxref4_Decode.j0 k l0 (wrap64 ((l0.length : Int) - 4)) t244 true)) else (none))) else (some (0, (⟨#[]⟩ : ByteArray), ([] : List (S72)), 5)))) else (none)) else (none)) = some (r1, r2, r3, r4) := H
      have A8 := Aside0.mk A80
      clear A80
      obtain ⟨ji9, hji9⟩ : ∃ j_ : Int, (wrap64 ((l0.length : Int) - 4)) = j_ := ⟨_, rfl⟩
      replace H : (if 0 ≤ (ji9) then (if (ji9) ≤ (l0.length : Int) then ((strongboxref4_Sum.f k (l0.take ((ji9) : Int).toNat)).bind fun t243 => (if ((t238) % 4294967296) = t243 then ((strongboxref4_get.f k l0 8 2).bind fun t244 => (if 4 ≤ (l0.length : Int) then (if (strOfNums (l0.take 4)).toList = ([83, 66, 74, 49] : List UInt8) then (if (ji9) < (wrap64 (11 + t244)) then (strongboxref4_Decode.j0 k l0 ji9 t244 true) else (if 0 ≤ (wrap64 (10 + t244)) then (if (wrap64 (10 + t244)) < (l0.length : Int) then (strongboxref4_Decode.j0 k l0 ji9 t244 ((ji9) != (wrap64 ((wrap64 (11 + t244)) + (wrap64 (13 * (wrap64 (rd l0 (wrap64 (10 + t244)))))))))) else (none)) else (none))) else (strongboxref4_Decode.j0 k l0 ji9 t244 true)) else (none))) else (some (0, (⟨#[]⟩ : ByteArray), ([] : List (S72)), 5)))) else (none)) else (none)) = some (r1, r2, r3, r4) := by first | (rw [hji9] at H; exact H) | (simp only [hji9] at H ⊢; exact H)
      (try rw [hji9] at A8)
      have hji9w : (IntKind.i64.wrap ((l0.length : Int) - 4)) = ji9 := (i64_w _).trans hji9
      by_cases c10 : 0 ≤ (ji9)
      · rw [if_pos c10] at H
        have c10b0 := eq_true c10
        have c10b1 : decide (0 ≤ (ji9)) = true := decide_eq_true c10
        clear c10
        by_cases c11 : (ji9) ≤ (l0.length : Int)
        · rw [if_pos c11] at H
          have c11b0 := eq_true c11
          have c11b1 : decide ((ji9) ≤ (l0.length : Int)) = true := decide_eq_true c11
          clear c11
          obtain ⟨y239, hy239⟩ : ∃ y_ : List Int, y_ = (l0.take ((ji9) : Int).toNat) := ⟨_, rfl⟩
          replace H : ((strongboxref4_Sum.f k y239).bind fun t243 => (if ((t238) % 4294967296) = t243 then ((strongboxref4_get.f k l0 8 2).bind fun t244 => (if 4 ≤ (l0.length : Int) then (if (strOfNums (l0.take 4)).toList = ([83, 66, 74, 49] : List UInt8) then (if (ji9) < (wrap64 (11 + t244)) then (strongboxref4_Decode.j0 k l0 ji9 t244 true) else (if 0 ≤ (wrap64 (10 + t244)) then (if (wrap64 (10 + t244)) < (l0.length : Int) then (strongboxref4_Decode.j0 k l0 ji9 t244 ((ji9) != (wrap64 ((wrap64 (11 + t244)) + (wrap64 (13 * (wrap64 (rd l0 (wrap64 (10 + t244)))))))))) else (none)) else (none))) else (strongboxref4_Decode.j0 k l0 ji9 t244 true)) else (none))) else (some (0, (⟨#[]⟩ : ByteArray), ([] : List (S72)), 5)))) = some (r1, r2, r3, r4) := by first | (rw [hy239]; with_reducible exact H) | (have H2_ := (Option.bind_some _ _).symm.trans H; rw [hy239]; with_reducible exact H2_) | (have H2_ := (Option.bind_some _ _).symm.trans H; with_reducible exact H2_) | with_reducible exact H | (rw [hy239]; exact H) | exact H
          have Ny239 := Aside0.mk hy239
          clear hy239
          replace H := Option.bind_eq_some_iff.mp H
          obtain ⟨t243, A120, H⟩ := H
          replace H : (if ((t238) % 4294967296) = t243 then ((strongboxref4_get.f k l0 8 2).bind fun t244 => (if 4 ≤ (l0.length : Int) then (if (strOfNums (l0.take 4)).toList = ([83, 66, 74, 49] : List UInt8) then (if (ji9) < (wrap64 (11 + t244)) then (strongboxref4_Decode.j0 k l0 ji9 t244 true) else (if 0 ≤ (wrap64 (10 + t244)) then (if (wrap64 (10 + t244)) < (l0.length : Int) then (strongboxref4_Decode.j0 k l0 ji9 t244 ((ji9) != (wrap64 ((wrap64 (11 + t244)) + (wrap64 (13 * (wrap64 (rd l0 (wrap64 (10 + t244)))))))))) else (none)) else (none))) else (strongboxref4_Decode.j0 k l0 ji9 t244 true)) else (none))) else (some (0, (⟨#[]⟩ : ByteArray), ([] : List (S72)), 5))) = some (r1, r2, r3, r4) := H
          have A12 := Aside0.mk A120
          clear A120
          by_cases c13 : ((t238) % 4294967296) = t243
          · rw [if_pos c13] at H
            have c13b0 : (((t238) % 4294967296) == t243) = true := beq_iff_eq.mpr c13
            have c13w0 : (IntKind.u32.wrap t238 == t243) = true := (by rw [IntKind.wrap_u32']; exact c13b0)
            have c13b1 : (((t238) % 4294967296) != t243) = false := bne_eq_false_iff_eq.mpr c13
            have c13w1 : (IntKind.u32.wrap t238 != t243) = false := (by rw [IntKind.wrap_u32']; exact c13b1)
            clear c13
            replace H := Option.bind_eq_some_iff.mp H
            obtain ⟨t244, A140, H⟩ := H
            replace H : (if 4 ≤ (l0.length : Int) then (if (strOfNums (l0.take 4)).toList = ([83, 66, 74, 49] : List UInt8) then (if (ji9) < (wrap64 (11 + t244)) then (strongboxref4_Decode.j0 k l0 ji9 t244 true) else (if 0 ≤ (wrap64 (10 + t244)) then (if (wrap64 (10 + t244)) < (l0.length : Int) then (strongboxref4_Decode.j0 k l0 ji9 t244 ((ji9) != (wrap64 ((wrap64 (11 + t244)) + (wrap64 (13 * (wrap64 (rd l0 (wrap64 (10 + t244)))))))))) else (none)) else (none))) else (strongboxref4_Decode.j0 k l0 ji9 t244 true)) else (none)) = some (r1, r2, r3, r4) := H
            have A14 := Aside0.mk A140
            clear A140
            have HC15 := Aside0.mk H
            clear H
            go_enter Try.func29, Try.ntmps29
            try go_wp2_with (first | ((with_reducible refine gate_dst (N := 2) rfl ?_); refine box_event ?hg (N := 2) ?hd (cs := #[.int .i64 0, .string (⟨#[]⟩ : ByteArray), .slice none 0 0]) (t := 45) ?hr ?_; (case hd => rfl); (case hg => rfl); (case hr => first | (go_simp; done) | (go_simp; rfl)); intro gb237 hg w16 hbox hb; have n0_ := Aside0.mk (below_step (by repeat (first | (with_reducible first | exact HB.out | apply below_alloc | apply pw_below_drewN | apply below_drew1) | exact HB.out)) hb); have n1_ := Aside0.mk (hbox); have n2_ := Aside0.mk ((by rw [hg]; exact (below_size (by repeat (first | (with_reducible first | exact HB.out | apply below_alloc | apply pw_below_drewN | apply below_drew1) | exact HB.out))) : w.heap.size ≤ gb237)); have n3_ := Aside0.mk ((by rw [hg]; exact (below_size (by repeat (first | (with_reducible first | exact HB.out | apply below_alloc | apply pw_below_drewN | apply below_drew1) | exact HB.out))) : w.heap.size ≤ gb237)); clear HB; have HB := n0_; have BK237 := n1_; have GW237 := n2_; have GE237 := n3_; clear n0_ n1_ n2_ n3_; clear hb hbox hg))
            have n0_ := Aside0.mk (blk_drew BK237.out)
            have n1_ := Aside0.mk (below_drew1 HB.out)
            clear BK237
            clear HB
            have BK237 := n0_
            have HB := n1_
            clear n0_ n1_
            have q18 : ((ji9) : Int) ≤ ((l0.length : Int) : Int) := of_decide_eq_true (by first | (with_reducible assumption) | assumption)
            obtain ⟨i018, hi018, _, hsz18, _⟩ := info_parts info5
            have hroom18 : l0.length ≤ c0 := HC0.out
            have hC18 : Kd.C (Kd.int .u8) _ A0 l0.length l0 := HR0.out
            have hcut18 := cut_to (P := Try.prog) 22 5 .i64 Try.underlying22 hi018 A0 l0.length c0 (ji9) (of_decide_eq_true (by first | (with_reducible assumption) | assumption)) q18 hroom18
            have hr18 := Kd.C_take (m := ((ji9) : Int).toNat) hC18 (by omega)
            have hy18 : y239.length = ((ji9) : Int).toNat := (by rw [Ny239.out, List.length_take]; omega)
            rw [← Ny239.out] at hr18
            rw [← hy18] at hcut18
            have HR242 := Aside0.mk hr18
            have HC242 := Aside0.mk (show y239.length ≤ c0 from by omega)
            clear hr18 hC18 hroom18 hi018 hsz18
            have KY18 := Aside0.mk hy18
            clear hy18
            replace q18 := eq_true q18
            refine start_ (n := 9) (S := fun w' => True) (ds := []) #[false, false, false, false, false, false, false, false, false] (by kernel_rfl) rfl rfl trivial (fun hHeld => ?_); refine with_tabW strongboxref4_Decode.tab6 strongboxref4_Decode.bits6 (fun HT_ HW_ => ?_)
            generalize w16.drew = w17 at BK237 HB HR242 hHeld ⊢
            refine pure_ (i := 0) (N := some 19) (v := ?_) (a' := ?_) #[true, false, false, false, false, false, false, false, false] rfl rfl (any_of HT_.out (by kernel_rfl)) (fun _ _ _ h => h) (Or.inl ⟨by rfl, ?_⟩) ?_ ?_
            rotate_left
            · intro w'
              go_simp
              with_reducible rfl
            rotate_left
            · simp only [Act.put, List.setIfInBounds_toArray, List.set_cons_zero, List.set_cons_succ, i64_w, i32_w]
              rfl
            refine pure_ (i := 1) (N := some 20) (v := ?_) (a' := ?_) #[true, true, false, false, false, false, false, false, false] rfl rfl (any_of HT_.out (by kernel_rfl)) (fun _ _ _ h => h) (Or.inl ⟨by rfl, ?_⟩) ?_ ?_
            rotate_left
            · intro w'
              go_simp
              with_reducible rfl
            rotate_left
            · simp only [Act.put, List.setIfInBounds_toArray, List.set_cons_zero, List.set_cons_succ, i64_w, i32_w]
              rfl
            refine pure_ (i := 4) (N := some 23) (v := ?_) (a' := ?_) #[true, true, false, false, true, false, false, false, false] rfl rfl (any_of HT_.out (by kernel_rfl)) (fun _ _ _ h => h) (Or.inl ⟨by rfl, ?_⟩) ?_ ?_
            rotate_left
            · intro w'
              go_simp
              with_reducible rfl
            rotate_left
            · simp only [Act.put, List.setIfInBounds_toArray, List.set_cons_zero, List.set_cons_succ, i64_w, i32_w]
              rfl
            refine pure_ (i := 5) (N := some 24) (v := ?_) (a' := ?_) #[true, true, false, false, true, true, false, false, false] rfl rfl (any_of HT_.out (by kernel_rfl)) (fun _ _ _ h => h) (Or.inl ⟨by rfl, ?_⟩) ?_ ?_
            rotate_left
            · intro w'
              go_simp
              with_reducible rfl
            rotate_left
            · simp only [Act.put, List.setIfInBounds_toArray, List.set_cons_zero, List.set_cons_succ, i64_w, i32_w]
              rfl
            refine pure_ (i := 6) (N := some 25) (v := ?_) (a' := ?_) #[true, true, false, false, true, true, true, false, false] rfl rfl (any_of HT_.out (by kernel_rfl)) (fun _ _ _ h => h) (Or.inl ⟨by rfl, ?_⟩) ?_ ?_
            rotate_left
            · intro w'
              go_simp
              with_reducible rfl
            rotate_left
            · simp only [Act.put, List.setIfInBounds_toArray, List.set_cons_zero, List.set_cons_succ, i64_w, i32_w]
              rfl
            refine one_ (i := 2) (N := some 21) #[true, true, true, false, true, true, true, false, false] rfl rfl (one_of HT_.out (by kernel_rfl)) (by decide) (fun K hK => ?_)
            refine goes_ Try.func61 (by kernel_rfl) rfl #[.slice A0 l0.length c0, .int .i64 ji9, .int .i64 4] (by rfl) rfl rfl (by (try simp only [List.map_toArray, List.map_cons, List.map_nil]); first | done | (simp only [hji9]; rfl) | rfl | (simp only [List.length_drop, List.length_take]; rfl)) ?_
            with_reducible refine (strongboxref4_get.calls k _ _ l0 ji9 4 t238 _ ?side1 ?side2 A8.out).mono ?_
            (case side1 => repeat (first | exact (Kd.C_below HR0.out HB.out) | (with_reducible refine Kd.C_alloc ?_ _) | (with_reducible refine Kd.C_drewN ?_ _) | (with_reducible refine Kd.C_drew ?_)))
            (case side2 => exact HC0.out)
            rintro e w' ⟨rfl, ⟨nd, rfl⟩⟩
            refine ⟨_, rfl, ?_⟩
            refine hK.out _ _ trivial (fun hHeld => ?_)
            clear hK K
            refine norm_ (a' := ?_) ?_ ?_
            rotate_left
            · show Act.put _ (some 21) _ = _
              simp only [Act.put, List.setIfInBounds_toArray, List.set_cons_zero, List.set_cons_succ, i64_w, i32_w]
              rfl
            refine pure_ (i := 3) (N := some 22) (v := ?_) (a' := ?_) #[true, true, true, true, true, true, true, false, false] rfl rfl (any_of HT_.out (by kernel_rfl)) (fun _ _ _ h => h) (Or.inl ⟨by rfl, ?_⟩) ?_ ?_
            rotate_left
            · intro w'
              go_simp
              with_reducible rfl
            rotate_left
            · simp only [Act.put, List.setIfInBounds_toArray, List.set_cons_zero, List.set_cons_succ, i64_w, i32_w]
              rfl
            refine one_ (i := 7) (N := some 26) #[true, true, true, true, true, true, true, true, false] rfl rfl (one_of HT_.out (by kernel_rfl)) (by decide) (fun K hK => ?_)
            refine goes_ Try.func20 (by kernel_rfl) rfl #[.slice A0 y239.length c0] (by rfl) rfl rfl (by (try simp only [List.map_toArray, List.map_cons, List.map_nil]); first | done | rfl | (simp only [List.length_drop, List.length_take]; rfl)) ?_
            with_reducible refine (strongboxref4_Sum.calls k _ _ y239 t243 _ ?side1 ?side2 A12.out).mono ?_
            (case side1 => repeat (first | exact (Kd.C_below HR242.out (by repeat (first | (with_reducible first | exact HB.out | apply below_alloc | apply pw_below_drewN | apply below_drew1 | refine below_set ?_ GE237.out) | exact HB.out))) | (with_reducible refine Kd.C_alloc ?_ _) | (with_reducible refine Kd.C_drewN ?_ _) | (with_reducible refine Kd.C_drew ?_)))
            (case side2 => exact HC242.out)
            rintro e w' ⟨rfl, ⟨nd, rfl⟩⟩
            refine ⟨_, rfl, ?_⟩
            refine hK.out _ _ trivial (fun hHeld => ?_)
            clear hK K
            refine norm_ (a' := ?_) ?_ ?_
            rotate_left
            · show Act.put _ (some 26) _ = _
              simp only [Act.put, List.setIfInBounds_toArray, List.set_cons_zero, List.set_cons_succ, i64_w, i32_w]
              rfl
            refine pure_ (i := 8) (N := some 27) (v := ?_) (a' := ?_) #[true, true, true, true, true, true, true, true, true] rfl rfl (any_of HT_.out (by kernel_rfl)) (fun _ _ _ h => h) (Or.inl ⟨by rfl, ?_⟩) ?_ ?_
            rotate_left
            · intro w'
              go_simp
              with_reducible rfl
            rotate_left
            · simp only [Act.put, List.setIfInBounds_toArray, List.set_cons_zero, List.set_cons_succ, i64_w, i32_w]
              rfl
            refine done_ (done_of HT_.out (by kernel_rfl)) ?_
            go_upto_region 9 with (first | ((with_reducible refine gate_callee (f := 61) rfl ?_); refine goesL_ (some 30) rfl rfl Try.func61 (by kernel_rfl) rfl #[.slice A0 l0.length c0, .int .i64 8, .int .i64 2] rfl (by (try simp only [List.map_toArray, List.map_cons, List.map_nil]); first | done | rfl | (simp only [List.length_drop, List.length_take]; rfl)) ?_; (with_reducible refine (strongboxref4_get.calls k _ _ l0 8 2 t244 _ ?side1 ?side2 A14.out).mono ?_); (case side1 => repeat (first | exact (Kd.C_below HR0.out (by repeat (first | (with_reducible first | exact HB.out | apply below_alloc | apply pw_below_drewN | apply below_drew1 | refine below_set ?_ GE237.out) | exact HB.out))) | (with_reducible refine Kd.C_alloc ?_ _) | (with_reducible refine Kd.C_drewN ?_ _) | (with_reducible refine Kd.C_drew ?_))); (case side2 => exact HC0.out); rintro e w' ⟨rfl, ⟨nd, rfl⟩⟩; refine ⟨_, rfl, ?_⟩))
            (try simp only [Act.put, List.setIfInBounds_toArray, List.set_cons_zero, List.set_cons_succ])
            go_cut [54] (fun v54 wc => ∃ (kq : Nat) (x54_14 : Bool), v54 = .bool x54_14 ∧ Aside0 (strongboxref4_Decode.j0 kq l0 ji9 t244 x54_14 = some (r1, r2, r3, r4)) ∧ Aside0 (kq ≤ k) ∧ Aside0 (wc.heap[gb237]? = some (.cells #[.int .i64 0, .string (⟨#[]⟩ : ByteArray), (.slice none 0 0)] 45 (0, 0))) ∧ Aside0 (Below w.heap.size w wc))
            case first =>
              have H := HC15.out
              clear HC15
              by_cases c19 : 4 ≤ (l0.length : Int)
              · rw [if_pos c19] at H
                have c19b0 := eq_true c19
                have c19b1 : decide (4 ≤ (l0.length : Int)) = true := decide_eq_true c19
                clear c19
                obtain ⟨y245, hy245⟩ : ∃ y_ : List Int, y_ = (l0.take 4) := ⟨_, rfl⟩
                replace H : (if (strOfNums y245).toList = ([83, 66, 74, 49] : List UInt8) then (if (ji9) < (wrap64 (11 + t244)) then (strongboxref4_Decode.j0 k l0 ji9 t244 true) else (if 0 ≤ (wrap64 (10 + t244)) then (if (wrap64 (10 + t244)) < (l0.length : Int) then (strongboxref4_Decode.j0 k l0 ji9 t244 ((ji9) != (wrap64 ((wrap64 (11 + t244)) + (wrap64 (13 * (wrap64 (rd l0 (wrap64 (10 + t244)))))))))) else (none)) else (none))) else (strongboxref4_Decode.j0 k l0 ji9 t244 true)) = some (r1, r2, r3, r4) := by first | (rw [hy245]; with_reducible exact H) | (have H2_ := (Option.bind_some _ _).symm.trans H; rw [hy245]; with_reducible exact H2_) | (have H2_ := (Option.bind_some _ _).symm.trans H; with_reducible exact H2_) | with_reducible exact H | (rw [hy245]; exact H) | exact H
                have Ny245 := Aside0.mk hy245
                clear hy245
                by_cases c20 : (strOfNums y245).toList = ([83, 66, 74, 49] : List UInt8)
                · rw [if_pos c20] at H
                  have c20b0 : ((strOfNums y245).toList == ([83, 66, 74, 49] : List UInt8)) = true := beq_iff_eq.mpr c20
                  have c20b1 : ((strOfNums y245).toList != ([83, 66, 74, 49] : List UInt8)) = false := bne_eq_false_iff_eq.mpr c20
                  clear c20
                  (first | rw [c20b0] | (simp only [i64_w, i32_w]; rw [c20b0]) | skip)
                  by_cases c21 : (ji9) < (wrap64 (11 + t244))
                  · rw [if_pos c21] at H
                    have c21b0 : decide ((ji9) < (wrap64 (11 + t244))) = true := decide_eq_true c21
                    clear c21
                    have H' := Aside0.mk H
                    clear H
                    have q22 : (4 : Int) ≤ ((l0.length : Int) : Int) := of_decide_eq_true (by first | (with_reducible assumption) | assumption)
                    obtain ⟨i022, hi022, _, hsz22, _⟩ := info_parts info5
                    have hroom22 : l0.length ≤ c0 := HC0.out
                    have hC22 : Kd.C (Kd.int .u8) _ A0 l0.length l0 := HR0.out
                    have hcut22 := cut_to (P := Try.prog) 22 5 .i64 Try.underlying22 hi022 A0 l0.length c0 4 (by omega) q22 hroom22
                    have hr22 := Kd.C_take (m := 4) hC22 (by omega)
                    have hy22 : y245.length = (4 : Int).toNat := (by rw [Ny245.out, List.length_take]; omega)
                    rw [← Ny245.out] at hr22
                    rw [← hy22] at hcut22
                    have HR248 := Aside0.mk hr22
                    have HC248 := Aside0.mk (show y245.length ≤ c0 from by omega)
                    clear hr22 hC22 hroom22 hi022 hsz22
                    have KY22 := Aside0.mk hy22
                    clear hy22
                    replace q22 := eq_true q22
                    have hcv23 := Kd.C_string (P := Try.prog) (A := A0) (c := c0) Try.underlying22 Try.underlying5 Try.underlying9 (Kd.C_below HR248.out HB.out)
                    have hcv23d := fun m_ => Kd.C_string (P := Try.prog) (A := A0) (c := c0) Try.underlying22 Try.underlying5 Try.underlying9 (Kd.C_drewN (Kd.C_below HR248.out HB.out) m_)
                    go_wp2
                    go_meet
                    case rel => exact ⟨_, (true), (by first | rfl | (simp; done) | (simp [*]; done)), H', ⟨by first | omega | exact Nat.le_refl _⟩, ⟨by (with_reducible repeat (first | refine blk_drewN ?_ _ | refine blk_drew ?_ | refine blk_alloc ?_ _)); exact BK237.out⟩, ⟨by repeat (first | (with_reducible first | exact HB.out | apply below_alloc | apply pw_below_drewN | apply below_drew1 | refine below_set ?_ GE237.out) | exact HB.out)⟩⟩
                  · rw [if_neg c21] at H
                    have c21b0 : decide ((ji9) < (wrap64 (11 + t244))) = false := decide_eq_false c21
                    clear c21
                    obtain ⟨ji24, hji24⟩ : ∃ j_ : Int, (wrap64 (10 + t244)) = j_ := ⟨_, rfl⟩
                    replace H : (if 0 ≤ (ji24) then (if (ji24) < (l0.length : Int) then (strongboxref4_Decode.j0 k l0 ji9 t244 ((ji9) != (wrap64 ((wrap64 (11 + t244)) + (wrap64 (13 * (wrap64 (rd l0 (ji24))))))))) else (none)) else (none)) = some (r1, r2, r3, r4) := by first | (rw [hji24] at H; exact H) | (simp only [hji24] at H ⊢; exact H)
                    have hji24w : (IntKind.i64.wrap (10 + t244)) = ji24 := (i64_w _).trans hji24
                    by_cases c25 : 0 ≤ (ji24)
                    · rw [if_pos c25] at H
                      have c25b0 : decide (0 ≤ (ji24)) = true := decide_eq_true c25
                      clear c25
                      by_cases c26 : (ji24) < (l0.length : Int)
                      · rw [if_pos c26] at H
                        have c26b0 : decide ((ji24) < (l0.length : Int)) = true := decide_eq_true c26
                        clear c26
                        have H' := Aside0.mk H
                        clear H
                        have q27 : (4 : Int) ≤ ((l0.length : Int) : Int) := of_decide_eq_true (by first | (with_reducible assumption) | assumption)
                        obtain ⟨i027, hi027, _, hsz27, _⟩ := info_parts info5
                        have hroom27 : l0.length ≤ c0 := HC0.out
                        have hC27 : Kd.C (Kd.int .u8) _ A0 l0.length l0 := HR0.out
                        have hcut27 := cut_to (P := Try.prog) 22 5 .i64 Try.underlying22 hi027 A0 l0.length c0 4 (by omega) q27 hroom27
                        have hr27 := Kd.C_take (m := 4) hC27 (by omega)
                        have hy27 : y245.length = (4 : Int).toNat := (by rw [Ny245.out, List.length_take]; omega)
                        rw [← Ny245.out] at hr27
                        rw [← hy27] at hcut27
                        have HR248 := Aside0.mk hr27
                        have HC248 := Aside0.mk (show y245.length ≤ c0 from by omega)
                        clear hr27 hC27 hroom27 hi027 hsz27
                        have KY27 := Aside0.mk hy27
                        clear hy27
                        replace q27 := eq_true q27
                        have hcv28 := Kd.C_string (P := Try.prog) (A := A0) (c := c0) Try.underlying22 Try.underlying5 Try.underlying9 (Kd.C_below HR248.out HB.out)
                        have hcv28d := fun m_ => Kd.C_string (P := Try.prog) (A := A0) (c := c0) Try.underlying22 Try.underlying5 Try.underlying9 (Kd.C_drewN (Kd.C_below HR248.out HB.out) m_)
                        have p249 : 0 ≤ ((ji24) : Int) := of_decide_eq_true (by first | (with_reducible assumption) | assumption)
                        have q249 : (ji24) < (l0.length : Int) := of_decide_eq_true (by first | (with_reducible assumption) | assumption)
                        obtain ⟨ad249, e249, hx249_0⟩ := Kd.at_int HR0.out (ji24) p249 q249
                        cases e249
                        replace hx249_0 := (HB.out.cell (World.block_lt_of_cell? w _ hx249_0)).trans hx249_0
                        replace p249 := eq_true p249
                        replace q249 := eq_true q249
                        go_wp2
                        go_meet
                        case rel => exact ⟨_, (((ji9) != (wrap64 ((wrap64 (11 + t244)) + (wrap64 (13 * (wrap64 (rd l0 (ji24))))))))), (by first | rfl | (simp; done) | (simp only [← hji9, ← hji24] <;> (first | rfl | simp)) | (simp [*]; done)), H', ⟨by first | omega | exact Nat.le_refl _⟩, ⟨by (with_reducible repeat (first | refine blk_drewN ?_ _ | refine blk_drew ?_ | refine blk_alloc ?_ _)); exact BK237.out⟩, ⟨by repeat (first | (with_reducible first | exact HB.out | apply below_alloc | apply pw_below_drewN | apply below_drew1 | refine below_set ?_ GE237.out) | exact HB.out)⟩⟩
                      · rw [if_neg c26] at H
                        exact absurd H (by simp)
                    · rw [if_neg c25] at H
                      exact absurd H (by simp)
                · rw [if_neg c20] at H
                  have c20b0 : ((strOfNums y245).toList == ([83, 66, 74, 49] : List UInt8)) = false := beq_eq_false_iff_ne.mpr c20
                  have c20b1 : ((strOfNums y245).toList != ([83, 66, 74, 49] : List UInt8)) = true := bne_iff_ne.mpr c20
                  (first | rw [c20b0] | (simp only [i64_w, i32_w]; rw [c20b0]) | skip)
                  have H' := Aside0.mk H
                  clear H
                  have q29 : (4 : Int) ≤ ((l0.length : Int) : Int) := of_decide_eq_true (by first | (with_reducible assumption) | assumption)
                  obtain ⟨i029, hi029, _, hsz29, _⟩ := info_parts info5
                  have hroom29 : l0.length ≤ c0 := HC0.out
                  have hC29 : Kd.C (Kd.int .u8) _ A0 l0.length l0 := HR0.out
                  have hcut29 := cut_to (P := Try.prog) 22 5 .i64 Try.underlying22 hi029 A0 l0.length c0 4 (by omega) q29 hroom29
                  have hr29 := Kd.C_take (m := 4) hC29 (by omega)
                  have hy29 : y245.length = (4 : Int).toNat := (by rw [Ny245.out, List.length_take]; omega)
                  rw [← Ny245.out] at hr29
                  rw [← hy29] at hcut29
                  have HR248 := Aside0.mk hr29
                  have HC248 := Aside0.mk (show y245.length ≤ c0 from by omega)
                  clear hr29 hC29 hroom29 hi029 hsz29
                  have KY29 := Aside0.mk hy29
                  clear hy29
                  replace q29 := eq_true q29
                  have hcv30 := Kd.C_string (P := Try.prog) (A := A0) (c := c0) Try.underlying22 Try.underlying5 Try.underlying9 (Kd.C_below HR248.out HB.out)
                  have hcv30d := fun m_ => Kd.C_string (P := Try.prog) (A := A0) (c := c0) Try.underlying22 Try.underlying5 Try.underlying9 (Kd.C_drewN (Kd.C_below HR248.out HB.out) m_)
                  go_wp2
                  go_meet
                  case rel => exact ⟨_, (true), (by first | rfl | (simp; done) | (simp [*]; done)), H', ⟨by first | omega | exact Nat.le_refl _⟩, ⟨by (with_reducible repeat (first | refine blk_drewN ?_ _ | refine blk_drew ?_ | refine blk_alloc ?_ _)); exact BK237.out⟩, ⟨by repeat (first | (with_reducible first | exact HB.out | apply below_alloc | apply pw_below_drewN | apply below_drew1 | refine below_set ?_ GE237.out) | exact HB.out)⟩⟩
              · rw [if_neg c19] at H
                exact absurd H (by simp)
            case rest =>
              clear HC15
              try clear c1
              try clear q1
              try clear c2
              try clear c2b0
              try clear c2b1
              try clear p2
              try clear q2
              try clear hx2
              try clear hcv2
              try clear hcv3
              try clear c5
              try clear c5b0
              try clear c5b1
              try clear c6
              try clear p6
              try clear c10
              try clear c10b0
              try clear c10b1
              try clear c11
              try clear c11b0
              try clear c11b1
              try clear c13
              try clear c13b0
              try clear c13b1
              try clear q18
              try clear c19
              try clear c19b0
              try clear c19b1
              try clear c20
              try clear c20b0
              try clear c20b1
              try clear c21
              try clear c21b0
              try clear q22
              try clear hcv23
              try clear p24
              try clear q24
              try clear hx24
              try clear c25
              try clear c25b0
              try clear c26
              try clear c26b0
              try clear q27
              try clear hcv28
              try clear c29
              try clear q29
              try clear hcv30
              try clear hcz4_0
              try clear hcz4_1
              try clear hcz4_2
              try clear hcz7_0
              try clear hcz7_1
              try clear hcz7_2
              try clear hfz4_0
              try clear hfz4_1
              try clear hfz4_2
              try clear hfz7_0
              try clear hfz7_1
              try clear hfz7_2
              try clear hx249_0
              try clear p249
              try clear q18
              try clear q22
              try clear q249
              try clear q27
              try clear q29
              obtain ⟨kq, x54_14, rfl, HA, HJ14, BK237, HB⟩ := hcut
              cases kq with
              | zero => exact absurd HA.out (by simp [strongboxref4_Decode.j0])
              | succ kj14 =>
                have H := HA.out
                clear HA
                simp only [strongboxref4_Decode.j0] at H
                by_cases c31 : x54_14 = true
                · subst c31
                  have H1 : (some (0, (⟨#[]⟩ : ByteArray), ([] : List (S72)), 4)) = some (r1, r2, r3, r4) := by rw [if_pos rfl] at H; exact H
                  clear H
                  have H := H1
                  clear H1
                  simp only [Option.some.injEq, Prod.mk.injEq] at H
                  obtain ⟨rfl, rfl, rfl, rfl⟩ := H
                  have hcz32_0 : wc.cell? ⟨gb237, 0, none⟩ = some (.int .i64 0) := (blk_cell BK237.out 0).trans rfl
                  have hcz32_1 : wc.cell? ⟨gb237, 1, none⟩ = some (.string (⟨#[]⟩ : ByteArray)) := (blk_cell BK237.out 1).trans rfl
                  have hcz32_2 : wc.cell? ⟨gb237, 2, none⟩ = some (.slice none 0 0) := (blk_cell BK237.out 2).trans rfl
                  have hfz32_0 := blk_frozen BK237.out 0
                  have hfz32_1 := blk_frozen BK237.out 1
                  have hfz32_2 := blk_frozen BK237.out 2
                  go_wp2
                  refine bodyPost_ret (results_ct rfl _ _ gb237 45 #[.int .i64 0, .string (⟨#[]⟩ : ByteArray), .slice none 0 0] (0, 0) _ rfl (by (with_reducible repeat (first | refine blk_drewN ?_ _ | refine blk_drew ?_ | refine blk_alloc ?_ _)); refine blk_put (cs := #[.int .i64 0, .string (⟨#[]⟩ : ByteArray), .slice none 0 0]) ?_ 2 _ rfl; (with_reducible repeat (first | refine blk_drewN ?_ _ | refine blk_drew ?_ | refine blk_alloc ?_ _)); refine blk_put (cs := #[.int .i64 0, .string (⟨#[]⟩ : ByteArray), .slice none 0 0]) ?_ 1 _ rfl; (with_reducible repeat (first | refine blk_drewN ?_ _ | refine blk_drew ?_ | refine blk_alloc ?_ _)); refine blk_put (cs := #[.int .i64 0, .string (⟨#[]⟩ : ByteArray), .slice none 0 0]) ?_ 0 _ rfl; (with_reducible repeat (first | refine blk_drewN ?_ _ | refine blk_drew ?_ | refine blk_alloc ?_ _)); exact BK237.out) Try.underlying45 rfl (by kernel_rfl)) rfl ?_
                  exact ⟨_, by first | rfl | (simp [errW_none, errW_some] <;> rfl) | (simp only [← hji9]; first | rfl | (simp [errW_none, errW_some] <;> rfl)) | (simp [*, errW_none, errW_some] <;> rfl), by first | exact Kd.R_nil _ _ _ _ _ | exact Kd.N_nil _ _ _ _ _ | exact Kd.V_nil _ _ _ _ _ | exact Kd.Q_nil _ _ _ _ _ | exact Kd.S_nil _ _ _ _ _, by repeat (first | (with_reducible first | exact HB.out | apply below_alloc | apply pw_below_drewN | apply below_drew1 | refine below_set ?_ GE237.out) | exact HB.out)⟩
                · replace c31 := Bool.eq_false_iff.mpr c31
                  subst c31
                  have H1 : ((strongboxref4_get.f kj14 l0 4 4).bind fun t250 => (if 10 ≤ (wrap64 (10 + t244)) then (if (wrap64 (10 + t244)) ≤ (l0.length : Int) then (strongboxref4_Decode.l0 kj14 l0 ji9 (wrap64 (11 + t244)) t250 (strOfNums ((l0.take ((wrap64 (10 + t244)) : Int).toNat).drop 10)) ([] : List (S72))) else (none)) else (none))) = some (r1, r2, r3, r4) := by rw [if_neg (show ¬ (false = true) by decide)] at H; exact H
                  clear H
                  have H := H1
                  clear H1
                  replace H := Option.bind_eq_some_iff.mp H
                  obtain ⟨t250, A330, H⟩ := H
                  replace H : (if 10 ≤ (wrap64 (10 + t244)) then (if (wrap64 (10 + t244)) ≤ (l0.length : Int) then (strongboxref4_Decode.l0 kj14 l0 ji9 (wrap64 (11 + t244)) t250 (strOfNums ((l0.take ((wrap64 (10 + t244)) : Int).toNat).drop 10)) ([] : List (S72))) else (none)) else (none)) = some (r1, r2, r3, r4) := H
                  have A33 := Aside0.mk A330
                  clear A330
                  by_cases c34 : 10 ≤ (wrap64 (10 + t244))
                  · rw [if_pos c34] at H
                    have c34b0 := eq_true c34
                    have c34b1 : decide (10 ≤ (wrap64 (10 + t244))) = true := decide_eq_true c34
                    by_cases c35 : (wrap64 (10 + t244)) ≤ (l0.length : Int)
                    · rw [if_pos c35] at H
                      have c35b0 := eq_true c35
                      have c35b1 : decide ((wrap64 (10 + t244)) ≤ (l0.length : Int)) = true := decide_eq_true c35
                      obtain ⟨y251, hy251⟩ : ∃ y_ : List Int, y_ = ((l0.take ((wrap64 (10 + t244)) : Int).toNat).drop 10) := ⟨_, rfl⟩
                      replace H : (strongboxref4_Decode.l0 kj14 l0 ji9 (wrap64 (11 + t244)) t250 (strOfNums y251) ([] : List (S72))) = some (r1, r2, r3, r4) := by first | (rw [hy251]; with_reducible exact H) | (have H2_ := (Option.bind_some _ _).symm.trans H; rw [hy251]; with_reducible exact H2_) | (have H2_ := (Option.bind_some _ _).symm.trans H; with_reducible exact H2_) | with_reducible exact H | (rw [hy251]; exact H) | exact H
                      have Ny251 := Aside0.mk hy251
                      clear hy251
                      have H' := Aside0.mk H
                      clear H
                      try go_wp2
                      have n0_ := Aside0.mk (blk_drew BK237.out)
                      have n1_ := Aside0.mk (below_drew1 HB.out)
                      clear BK237
                      clear HB
                      have BK237 := n0_
                      have HB := n1_
                      clear n0_ n1_
                      have q37 : ((wrap64 (10 + t244)) : Int) ≤ ((l0.length : Int) : Int) := of_decide_eq_true (by first | (with_reducible assumption) | assumption)
                      obtain ⟨i037, hi037, _, hsz37, _⟩ := info_parts info5
                      have hroom37 : l0.length ≤ c0 := HC0.out
                      have hC37 : Kd.C (Kd.int .u8) _ A0 l0.length l0 := HR0.out
                      have ql37 : (10 : Int) ≤ ((wrap64 (10 + t244)) : Int) := of_decide_eq_true (by first | (with_reducible assumption) | assumption)
                      have hcut37 := cut_mid (P := Try.prog) 22 5 .i64 .i64 Try.underlying22 hi037 1 hsz37 A0 l0.length c0 10 (wrap64 (10 + t244)) (by omega) ql37 q37 hroom37
                      have hr37 := Kd.C_mid (lo := (10 : Int).toNat) (hi := ((wrap64 (10 + t244)) : Int).toNat) (c := c0) hC37 (by omega) (by omega) hroom37
                      obtain ⟨A37, hA37⟩ : ∃ A1, A1 = (if c0 = (10 : Int).toNat then A0 else (A0 : Option Addr).map (·.add ((10 : Int).toNat * 1))) := ⟨_, rfl⟩
                      obtain ⟨c37, hc37⟩ : ∃ c1, c1 = c0 - (10 : Int).toNat := ⟨_, rfl⟩
                      have hy37 : y251.length = ((wrap64 (10 + t244)) : Int).toNat - (10 : Int).toNat := (by rw [Ny251.out, List.length_drop, List.length_take] <;> omega)
                      rw [show ((l0).take ((wrap64 (10 + t244)) : Int).toNat).drop (10 : Int).toNat = y251 from Ny251.out.symm] at hr37
                      replace hr37 : Kd.C (Kd.int .u8) _ A37 y251.length y251 := (by rw [hA37]; exact hr37)
                      rw [← hy37, ← hA37, ← hc37] at hcut37
                      have HR254 := Aside0.mk hr37
                      have HC254 := Aside0.mk (show y251.length ≤ c37 from by rw [hy37, hc37]; exact Nat.sub_le_sub_right (Nat.le_trans (by omega) hroom37) _)
                      clear hr37 hC37 hroom37 hi037 hsz37 hc37
                      have KY37 := Aside0.mk hy37
                      have KA37 := Aside0.mk hA37
                      clear hy37 hA37
                      replace q37 := eq_true q37
                      refine start_ (n := 10) (S := fun w' => (convert 22 9 (.slice A37 y251.length c37)).run Try.prog w' = .ok (.string (strOfNums y251)) w') (ds := []) #[false, false, false, false, false, false, false, false, false, false] (by kernel_rfl) rfl rfl ((Kd.C_string (P := Try.prog) (A := A37) (c := c37) Try.underlying22 Try.underlying5 Try.underlying9 (by first | exact (Kd.C_below HR254.out HB.out) | exact Kd.C_drewN (Kd.C_below HR254.out HB.out) _ | exact Kd.C_below HR254.out (by repeat (first | (with_reducible first | exact HB.out | apply below_alloc | apply pw_below_drewN | apply below_drew1 | refine below_set ?_ GE237.out | refine below_set ?_ GE255.out) | exact HB.out))))) (fun hHeld => ?_); refine with_tabW strongboxref4_Decode.tab11 strongboxref4_Decode.bits11 (fun HT_ HW_ => ?_)
                      generalize wc.drew = w36 at BK237 HB HR254 hHeld ⊢
                      refine pure_ (i := 0) (N := some 56) (v := ?_) (a' := ?_) #[true, false, false, false, false, false, false, false, false, false] rfl rfl (any_of HT_.out (by kernel_rfl)) (fun _ _ _ h => h) (Or.inl ⟨by rfl, ?_⟩) ?_ ?_
                      rotate_left
                      · intro w'
                        go_simp
                        with_reducible rfl
                      rotate_left
                      · simp only [Act.put, List.setIfInBounds_toArray, List.set_cons_zero, List.set_cons_succ, i64_w, i32_w]
                        rfl
                      refine pure_ (i := 2) (N := some 58) (v := ?_) (a' := ?_) #[true, false, true, false, false, false, false, false, false, false] rfl rfl (any_of HT_.out (by kernel_rfl)) (fun _ _ _ h => h) (Or.inl ⟨by rfl, ?_⟩) ?_ ?_
                      rotate_left
                      · intro w'
                        go_simp
                        with_reducible rfl
                      rotate_left
                      · simp only [Act.put, List.setIfInBounds_toArray, List.set_cons_zero, List.set_cons_succ, i64_w, i32_w]
                        rfl
                      refine pure_ (i := 3) (N := some 59) (v := ?_) (a' := ?_) #[true, false, true, true, false, false, false, false, false, false] rfl rfl (any_of HT_.out (by kernel_rfl)) (fun _ _ _ h => h) (Or.inl ⟨by rfl, ?_⟩) ?_ ?_
                      rotate_left
                      · intro w'
                        go_simp
                        with_reducible rfl
                      rotate_left
                      · simp only [Act.put, List.setIfInBounds_toArray, List.set_cons_zero, List.set_cons_succ, i64_w, i32_w]
                        rfl
                      refine pure_ (i := 4) (N := some 60) (v := ?_) (a' := ?_) #[true, false, true, true, true, false, false, false, false, false] rfl rfl (any_of HT_.out (by kernel_rfl)) (fun _ _ _ h => h) (Or.inl ⟨by rfl, ?_⟩) ?_ ?_
                      rotate_left
                      · intro w'
                        go_simp
                        with_reducible rfl
                      rotate_left
                      · simp only [Act.put, List.setIfInBounds_toArray, List.set_cons_zero, List.set_cons_succ, i64_w, i32_w]
                        rfl
                      refine pure_ (i := 5) (N := some 61) (v := ?_) (a' := ?_) #[true, false, true, true, true, true, false, false, false, false] rfl rfl (any_of HT_.out (by kernel_rfl)) (fun _ _ _ h => h) (Or.inl ⟨by rfl, ?_⟩) ?_ ?_
                      rotate_left
                      · intro w'
                        go_simp
                        with_reducible rfl
                      rotate_left
                      · simp only [Act.put, List.setIfInBounds_toArray, List.set_cons_zero, List.set_cons_succ, i64_w, i32_w]
                        rfl
                      refine take_ (i := 6) (N := some 62) (v := ?_) (a' := ?_) #[true, false, true, true, true, true, true, false, false, false] rfl rfl (take_ofW HT_.out HW_.out (by kernel_rfl)) (fun _ _ _ h => h) (Or.inl ⟨by rfl, ?_⟩) hHeld ?_ ?_
                      rotate_left
                      · intro w' s0
                        go_simp
                        with_reducible rfl
                      rotate_left
                      · simp only [Act.put, List.setIfInBounds_toArray, List.set_cons_zero, List.set_cons_succ, i64_w, i32_w]
                        rfl
                      refine join_ (σ := Nat) 1 #[true, true, true, true, true, true, true, true, true, false] (fun s_ => [(57, .int .i64 t250), (6, .pointer (some ⟨s_, 0, none⟩)), (63, .agg #[.int .i64 t250, .string (strOfNums y251), .slice none 0 0])]) (fun s_ w' => ((convert 22 9 (.slice A37 y251.length c37)).run Try.prog w' = .ok (.string (strOfNums y251)) w') ∧ (w'.heap[gb237]? = some (.cells #[.int .i64 0, .string (⟨#[]⟩ : ByteArray), .slice none 0 0] 45 (0, 0))) ∧ (w'.heap[s_]? = some (.cells #[.int .i64 0, .string (⟨#[]⟩ : ByteArray), .slice none 0 0] 45 (0, 0))) ∧ (w.heap.size ≤ s_) ∧ (w.heap.size ≤ s_) ∧ (gb237 ≠ s_) ∧ (s_ ≠ gb237) ∧ (Below w.heap.size w w')) ?_ ?_
                      rotate_left
                      · intro hCont
                        refine two_ (i := 1) (j := 8) (Ni := some 57) (Nj := some 6) #[true, true, true, true, true, true, true, false, false, false] #[true, false, true, true, true, true, true, false, true, false] rfl rfl rfl rfl (two_of HT_.out (by kernel_rfl)) (by decide) (by decide) (fun K hK => ?_) (fun K hK => ?_)
                        · skip
                          refine goes_ Try.func61 (by kernel_rfl) rfl #[.slice A0 l0.length c0, .int .i64 4, .int .i64 4] (by rfl) rfl rfl (by (try simp only [List.map_toArray, List.map_cons, List.map_nil]); first | done | rfl | (simp only [List.length_drop, List.length_take]; rfl)) ?_
                          with_reducible refine (strongboxref4_get.calls kj14 _ _ l0 4 4 t250 _ ?side1 ?side2 A33.out).mono ?_
                          (case side1 => repeat (first | exact (Kd.C_below HR0.out HB.out) | (with_reducible refine Kd.C_alloc ?_ _) | (with_reducible refine Kd.C_drewN ?_ _) | (with_reducible refine Kd.C_drew ?_)))
                          (case side2 => exact HC0.out)
                          rintro e w' ⟨rfl, ⟨nd, rfl⟩⟩
                          refine ⟨_, rfl, ?_⟩
                          refine hK.out _ _ ((Kd.C_string (P := Try.prog) (A := A37) (c := c37) Try.underlying22 Try.underlying5 Try.underlying9 (by first | exact (Kd.C_below HR254.out HB.out) | exact Kd.C_drewN (Kd.C_below HR254.out HB.out) _ | exact Kd.C_below HR254.out (by repeat (first | (with_reducible first | exact HB.out | apply below_alloc | apply pw_below_drewN | apply below_drew1 | refine below_set ?_ GE237.out | refine below_set ?_ GE255.out) | exact HB.out))))) (fun hHeld => ?_)
                          clear hK K
                          refine norm_ (a' := ?_) ?_ ?_
                          rotate_left
                          · show Act.put _ (some 57) _ = _
                            simp only [Act.put, List.setIfInBounds_toArray, List.set_cons_zero, List.set_cons_succ, i64_w, i32_w]
                            rfl
                          refine pure_ (i := 7) (N := some 63) (v := ?_) (a' := ?_) #[true, true, true, true, true, true, true, true, false, false] rfl rfl (any_of HT_.out (by kernel_rfl)) (fun _ _ _ h => h) (Or.inl ⟨by rfl, ?_⟩) ?_ ?_
                          rotate_left
                          · intro w'
                            go_simp
                            with_reducible rfl
                          rotate_left
                          · simp only [Act.put, List.setIfInBounds_toArray, List.set_cons_zero, List.set_cons_succ, i64_w, i32_w]
                            rfl
                          refine one_ (i := 8) (N := some 6) #[true, true, true, true, true, true, true, true, true, false] rfl rfl (one_of HT_.out (by kernel_rfl)) (by decide) (fun K hK => ?_)
                          refine box_step ?hg (N := 6) ?hd (cs := #[.int .i64 0, .string (⟨#[]⟩ : ByteArray), .slice none 0 0]) (t := 45) ?hr ?_; (case hd => rfl); (case hg => rfl); (case hr => first | (go_simp; done) | (go_simp; rfl))
                          intro gb255 hg w39 hbox hb
                          have n0_ := Aside0.mk (blk_below (g := gb237) (o := .cells #[.int .i64 0, .string (⟨#[]⟩ : ByteArray), .slice none 0 0] 45 (0, 0)) (by (with_reducible repeat (first | refine blk_drewN ?_ _ | refine blk_drew ?_ | refine blk_alloc ?_ _)); exact BK237.out) hb)
                          have n1_ := Aside0.mk (below_step (by repeat (first | (with_reducible first | exact HB.out | apply below_alloc | apply pw_below_drewN | apply below_drew1 | refine below_set ?_ GE237.out) | exact HB.out)) hb)
                          have n2_ := Aside0.mk (hbox)
                          have n3_ := Aside0.mk ((by rw [hg]; exact (below_size (by repeat (first | (with_reducible first | exact HB.out | apply below_alloc | apply pw_below_drewN | apply below_drew1 | refine below_set ?_ GE237.out) | exact HB.out))) : w.heap.size ≤ gb255))
                          have n4_ := Aside0.mk ((by rw [hg]; exact (below_size (by repeat (first | (with_reducible first | exact HB.out | apply below_alloc | apply pw_below_drewN | apply below_drew1 | refine below_set ?_ GE237.out) | exact HB.out))) : w.heap.size ≤ gb255))
                          have n5_ := Aside0.mk ((by rw [hg]; exact Nat.ne_of_lt (blk_lt (g := gb237) (o := .cells #[.int .i64 0, .string (⟨#[]⟩ : ByteArray), .slice none 0 0] 45 (0, 0)) (by (with_reducible repeat (first | refine blk_drewN ?_ _ | refine blk_drew ?_ | refine blk_alloc ?_ _)); exact BK237.out)) : gb237 ≠ gb255))
                          have n6_ := Aside0.mk ((by rw [hg]; exact Nat.ne_of_gt (blk_lt (g := gb237) (o := .cells #[.int .i64 0, .string (⟨#[]⟩ : ByteArray), .slice none 0 0] 45 (0, 0)) (by (with_reducible repeat (first | refine blk_drewN ?_ _ | refine blk_drew ?_ | refine blk_alloc ?_ _)); exact BK237.out)) : gb255 ≠ gb237))
                          clear BK237
                          clear HB
                          have BK237 := n0_
                          have HB := n1_
                          have BK255 := n2_
                          have GW255 := n3_
                          have GE255 := n4_
                          have NB237_255 := n5_
                          have NB255_237 := n6_
                          clear n0_ n1_ n2_ n3_ n4_ n5_ n6_
                          clear hb hbox hg
                          refine hK.out _ _ ((Kd.C_string (P := Try.prog) (A := A37) (c := c37) Try.underlying22 Try.underlying5 Try.underlying9 (by first | exact (Kd.C_below HR254.out HB.out) | exact Kd.C_drewN (Kd.C_below HR254.out HB.out) _ | exact Kd.C_below HR254.out (by repeat (first | (with_reducible first | exact HB.out | apply below_alloc | apply pw_below_drewN | apply below_drew1 | refine below_set ?_ GE237.out | refine below_set ?_ GE255.out) | exact HB.out))))) (fun hHeld => ?_)
                          clear hK K
                          refine norm_ (a' := ?_) ?_ ?_
                          rotate_left
                          · show Act.put _ (some 6) _ = _
                            simp only [Act.put, List.setIfInBounds_toArray, List.set_cons_zero, List.set_cons_succ, i64_w, i32_w]
                            rfl
                          exact norm_ (by simp only [putAll, Act.put, List.setIfInBounds_toArray, List.set_cons_zero, List.set_cons_succ]) (hCont (gb255) _ ⟨hHeld, (by (with_reducible repeat (first | refine blk_drewN ?_ _ | refine blk_drew ?_ | refine blk_alloc ?_ _)); exact BK237.out), (by (with_reducible repeat (first | refine blk_drewN ?_ _ | refine blk_drew ?_ | refine blk_alloc ?_ _)); exact BK255.out), GW255.out, GE255.out, NB237_255.out, NB255_237.out, (by repeat (first | (with_reducible first | exact HB.out | apply below_alloc | apply pw_below_drewN | apply below_drew1 | refine below_set ?_ GE237.out | refine below_set ?_ GE255.out) | exact HB.out))⟩)
                        · skip
                          refine box_step ?hg (N := 6) ?hd (cs := #[.int .i64 0, .string (⟨#[]⟩ : ByteArray), .slice none 0 0]) (t := 45) ?hr ?_; (case hd => rfl); (case hg => rfl); (case hr => first | (go_simp; done) | (go_simp; rfl))
                          intro gb255 hg w39 hbox hb
                          have n0_ := Aside0.mk (blk_below (g := gb237) (o := .cells #[.int .i64 0, .string (⟨#[]⟩ : ByteArray), .slice none 0 0] 45 (0, 0)) (by (with_reducible repeat (first | refine blk_drewN ?_ _ | refine blk_drew ?_ | refine blk_alloc ?_ _)); exact BK237.out) hb)
                          have n1_ := Aside0.mk (below_step (by repeat (first | (with_reducible first | exact HB.out | apply below_alloc | apply pw_below_drewN | apply below_drew1 | refine below_set ?_ GE237.out) | exact HB.out)) hb)
                          have n2_ := Aside0.mk (hbox)
                          have n3_ := Aside0.mk ((by rw [hg]; exact (below_size (by repeat (first | (with_reducible first | exact HB.out | apply below_alloc | apply pw_below_drewN | apply below_drew1 | refine below_set ?_ GE237.out) | exact HB.out))) : w.heap.size ≤ gb255))
                          have n4_ := Aside0.mk ((by rw [hg]; exact (below_size (by repeat (first | (with_reducible first | exact HB.out | apply below_alloc | apply pw_below_drewN | apply below_drew1 | refine below_set ?_ GE237.out) | exact HB.out))) : w.heap.size ≤ gb255))
                          have n5_ := Aside0.mk ((by rw [hg]; exact Nat.ne_of_lt (blk_lt (g := gb237) (o := .cells #[.int .i64 0, .string (⟨#[]⟩ : ByteArray), .slice none 0 0] 45 (0, 0)) (by (with_reducible repeat (first | refine blk_drewN ?_ _ | refine blk_drew ?_ | refine blk_alloc ?_ _)); exact BK237.out)) : gb237 ≠ gb255))
                          have n6_ := Aside0.mk ((by rw [hg]; exact Nat.ne_of_gt (blk_lt (g := gb237) (o := .cells #[.int .i64 0, .string (⟨#[]⟩ : ByteArray), .slice none 0 0] 45 (0, 0)) (by (with_reducible repeat (first | refine blk_drewN ?_ _ | refine blk_drew ?_ | refine blk_alloc ?_ _)); exact BK237.out)) : gb255 ≠ gb237))
                          clear BK237
                          clear HB
                          have BK237 := n0_
                          have HB := n1_
                          have BK255 := n2_
                          have GW255 := n3_
                          have GE255 := n4_
                          have NB237_255 := n5_
                          have NB255_237 := n6_
                          clear n0_ n1_ n2_ n3_ n4_ n5_ n6_
                          clear hb hbox hg
                          refine hK.out _ _ ((Kd.C_string (P := Try.prog) (A := A37) (c := c37) Try.underlying22 Try.underlying5 Try.underlying9 (by first | exact (Kd.C_below HR254.out HB.out) | exact Kd.C_drewN (Kd.C_below HR254.out HB.out) _ | exact Kd.C_below HR254.out (by repeat (first | (with_reducible first | exact HB.out | apply below_alloc | apply pw_below_drewN | apply below_drew1 | refine below_set ?_ GE237.out | refine below_set ?_ GE255.out) | exact HB.out))))) (fun hHeld => ?_)
                          clear hK K
                          refine norm_ (a' := ?_) ?_ ?_
                          rotate_left
                          · show Act.put _ (some 6) _ = _
                            simp only [Act.put, List.setIfInBounds_toArray, List.set_cons_zero, List.set_cons_succ, i64_w, i32_w]
                            rfl
                          refine one_ (i := 1) (N := some 57) #[true, true, true, true, true, true, true, false, true, false] rfl rfl (one_of HT_.out (by kernel_rfl)) (by decide) (fun K hK => ?_)
                          refine goes_ Try.func61 (by kernel_rfl) rfl #[.slice A0 l0.length c0, .int .i64 4, .int .i64 4] (by rfl) rfl rfl (by (try simp only [List.map_toArray, List.map_cons, List.map_nil]); first | done | rfl | (simp only [List.length_drop, List.length_take]; rfl)) ?_
                          with_reducible refine (strongboxref4_get.calls kj14 _ _ l0 4 4 t250 _ ?side1 ?side2 A33.out).mono ?_
                          (case side1 => repeat (first | exact (Kd.C_below HR0.out HB.out) | (with_reducible refine Kd.C_alloc ?_ _) | (with_reducible refine Kd.C_drewN ?_ _) | (with_reducible refine Kd.C_drew ?_)))
                          (case side2 => exact HC0.out)
                          rintro e w' ⟨rfl, ⟨nd, rfl⟩⟩
                          refine ⟨_, rfl, ?_⟩
                          refine hK.out _ _ ((Kd.C_string (P := Try.prog) (A := A37) (c := c37) Try.underlying22 Try.underlying5 Try.underlying9 (by first | exact (Kd.C_below HR254.out HB.out) | exact Kd.C_drewN (Kd.C_below HR254.out HB.out) _ | exact Kd.C_below HR254.out (by repeat (first | (with_reducible first | exact HB.out | apply below_alloc | apply pw_below_drewN | apply below_drew1 | refine below_set ?_ GE237.out | refine below_set ?_ GE255.out) | exact HB.out))))) (fun hHeld => ?_)
                          clear hK K
                          refine norm_ (a' := ?_) ?_ ?_
                          rotate_left
                          · show Act.put _ (some 57) _ = _
                            simp only [Act.put, List.setIfInBounds_toArray, List.set_cons_zero, List.set_cons_succ, i64_w, i32_w]
                            rfl
                          refine pure_ (i := 7) (N := some 63) (v := ?_) (a' := ?_) #[true, true, true, true, true, true, true, true, true, false] rfl rfl (any_of HT_.out (by kernel_rfl)) (fun _ _ _ h => h) (Or.inl ⟨by rfl, ?_⟩) ?_ ?_
                          rotate_left
                          · intro w'
                            go_simp
                            with_reducible rfl
                          rotate_left
                          · simp only [Act.put, List.setIfInBounds_toArray, List.set_cons_zero, List.set_cons_succ, i64_w, i32_w]
                            rfl
                          exact norm_ (by simp only [putAll, Act.put, List.setIfInBounds_toArray, List.set_cons_zero, List.set_cons_succ]) (hCont (gb255) _ ⟨hHeld, (by (with_reducible repeat (first | refine blk_drewN ?_ _ | refine blk_drew ?_ | refine blk_alloc ?_ _)); exact BK237.out), (by (with_reducible repeat (first | refine blk_drewN ?_ _ | refine blk_drew ?_ | refine blk_alloc ?_ _)); exact BK255.out), GW255.out, GE255.out, NB237_255.out, NB255_237.out, (by repeat (first | (with_reducible first | exact HB.out | apply below_alloc | apply pw_below_drewN | apply below_drew1 | refine below_set ?_ GE237.out | refine below_set ?_ GE255.out) | exact HB.out))⟩)
                      rintro gb255 w40 ⟨hS_, h0_, h1_, h2_, h3_, h4_, h5_, h6_⟩
                      have n0_ : Aside0 (w40.heap[gb237]? = some (.cells #[.int .i64 0, .string (⟨#[]⟩ : ByteArray), .slice none 0 0] 45 (0, 0))) := ⟨h0_⟩
                      have n1_ : Aside0 (w40.heap[gb255]? = some (.cells #[.int .i64 0, .string (⟨#[]⟩ : ByteArray), .slice none 0 0] 45 (0, 0))) := ⟨h1_⟩
                      have n2_ : Aside0 (w.heap.size ≤ gb255) := ⟨h2_⟩
                      have n3_ : Aside0 (w.heap.size ≤ gb255) := ⟨h3_⟩
                      have n4_ : Aside0 (gb237 ≠ gb255) := ⟨h4_⟩
                      have n5_ : Aside0 (gb255 ≠ gb237) := ⟨h5_⟩
                      have n6_ : Aside0 (Below w.heap.size w w40) := ⟨h6_⟩
                      clear BK237
                      clear HB
                      clear h0_ h1_ h2_ h3_ h4_ h5_ h6_
                      have BK237 := n0_
                      have BK255 := n1_
                      have GW255 := n2_
                      have GE255 := n3_
                      have NB237_255 := n4_
                      have NB255_237 := n5_
                      have HB := n6_
                      clear n0_ n1_ n2_ n3_ n4_ n5_ n6_
                      have hHeld : (convert 22 9 (.slice A37 y251.length c37)).run Try.prog w40 = .ok (.string (strOfNums y251)) w40 := hS_
                      refine norm_ (a' := ?_) ?_ ?_
                      rotate_left
                      · simp only [putAll, Act.put, List.setIfInBounds_toArray, List.set_cons_zero, List.set_cons_succ]
                        rfl
                      refine one_ (i := 9) (N := none) #[true, true, true, true, true, true, true, true, true, true] rfl rfl (one_of HT_.out (by kernel_rfl)) (by decide) (fun K hK => ?_)
                      have hs41 : w40.cell? ⟨gb255, 0, none⟩ = some (.int .i64 0) := (blk_cell BK255.out 0).trans rfl
                      have hfs41 := blk_frozen BK255.out 0
                      have hns41_0 := NB237_255.out
                      have hms41_0 := NB255_237.out
                      have hs42 : w40.cell? ⟨gb255, 1, none⟩ = some (.string (⟨#[]⟩ : ByteArray)) := (blk_cell BK255.out 1).trans rfl
                      have hfs42 := blk_frozen BK255.out 1
                      have hns42_0 := NB237_255.out
                      have hms42_0 := NB255_237.out
                      have hs43 : w40.cell? ⟨gb255, 2, none⟩ = some (.slice none 0 0) := (blk_cell BK255.out 2).trans rfl
                      have hfs43 := blk_frozen BK255.out 2
                      have hns43_0 := NB237_255.out
                      have hms43_0 := NB255_237.out
                      refine skip_ (w1 := ?_) (by rfl) rfl ?_ ?_
                      rotate_left
                      · go_simp
                        rfl
                      refine hK.out _ _ ((Kd.C_string (P := Try.prog) (A := A37) (c := c37) Try.underlying22 Try.underlying5 Try.underlying9 (by first | exact (Kd.C_below HR254.out HB.out) | exact Kd.C_drewN (Kd.C_below HR254.out HB.out) _ | exact Kd.C_below HR254.out (by repeat (first | (with_reducible first | exact HB.out | apply below_alloc | apply pw_below_drewN | apply below_drew1 | refine below_set ?_ GE237.out | refine below_set ?_ GE255.out) | exact HB.out))))) (fun hHeld => ?_)
                      clear hK K
                      refine done_ (done_of HT_.out (by kernel_rfl)) ?_
                      try go_wp2
                      go_loopg [7] kj14 (fun kq v7 w' => ∃ (x7_2 : Int) (x238000_2 : Int) (x238001_2 : ByteArray) (x256002_2 : List (S72)) (u256002 : Value), v7 = .int .i64 x7_2 ∧ Aside0 (strongboxref4_Decode.l0 kq l0 ji9 x7_2 t250 (strOfNums y251) x256002_2 = some (r1, r2, r3, r4)) ∧ Aside0 (kq ≤ kj14) ∧ Aside0 (Kd.R k72 72 w' w.heap.size (fun _ => True) u256002 x256002_2) ∧ Aside0 (w'.heap[gb237]? = some (.cells #[.int .i64 x238000_2, .string x238001_2, (.slice none 0 0)] 45 (0, 0))) ∧ Aside0 (w'.heap[gb255]? = some (.cells #[.int .i64 t250, .string (strOfNums y251), u256002] 45 (0, 0))) ∧ Aside0 (Below w.heap.size w w'))
                      case atStart => exact ⟨(wrap64 (11 + t244)), (0), ((⟨#[]⟩ : ByteArray)), (([] : List (S72))), (.slice none 0 0), (by first | rfl | (simp; done) | (simp [*]; done)), H', ⟨Nat.le_refl _⟩, ⟨by first | exact Kd.R_nil _ _ _ _ _ | exact Kd.N_nil _ _ _ _ _ | exact Kd.V_nil _ _ _ _ _ | exact Kd.Q_nil _ _ _ _ _ | exact Kd.S_nil _ _ _ _ _⟩, ⟨by (with_reducible repeat (first | refine blk_drewN ?_ _ | refine blk_drew ?_ | refine blk_alloc ?_ _)); refine blk_far ?_ NB237_255.out _; (with_reducible repeat (first | refine blk_drewN ?_ _ | refine blk_drew ?_ | refine blk_alloc ?_ _)); refine blk_far ?_ NB237_255.out _; (with_reducible repeat (first | refine blk_drewN ?_ _ | refine blk_drew ?_ | refine blk_alloc ?_ _)); refine blk_far ?_ NB237_255.out _; (with_reducible repeat (first | refine blk_drewN ?_ _ | refine blk_drew ?_ | refine blk_alloc ?_ _)); exact BK237.out⟩, ⟨by (with_reducible repeat (first | refine blk_drewN ?_ _ | refine blk_drew ?_ | refine blk_alloc ?_ _)); refine blk_put (cs := #[.int .i64 t250, .string (strOfNums y251), .slice none 0 0]) ?_ 2 _ rfl; (with_reducible repeat (first | refine blk_drewN ?_ _ | refine blk_drew ?_ | refine blk_alloc ?_ _)); refine blk_put (cs := #[.int .i64 t250, .string (⟨#[]⟩ : ByteArray), .slice none 0 0]) ?_ 1 _ rfl; (with_reducible repeat (first | refine blk_drewN ?_ _ | refine blk_drew ?_ | refine blk_alloc ?_ _)); refine blk_put (cs := #[.int .i64 0, .string (⟨#[]⟩ : ByteArray), .slice none 0 0]) ?_ 0 _ rfl; (with_reducible repeat (first | refine blk_drewN ?_ _ | refine blk_drew ?_ | refine blk_alloc ?_ _)); exact BK255.out⟩, ⟨by repeat (first | (with_reducible first | exact HB.out | apply below_alloc | apply pw_below_drewN | apply below_drew1 | refine below_set ?_ GE237.out | refine below_set ?_ GE255.out) | exact HB.out)⟩⟩
                      case round =>
                        clear H'
                        try clear c1
                        try clear q1
                        try clear c2
                        try clear c2b0
                        try clear c2b1
                        try clear p2
                        try clear q2
                        try clear hx2
                        try clear hcv2
                        try clear c3
                        try clear q3
                        try clear hcv3
                        try clear c5
                        try clear c5b0
                        try clear c5b1
                        try clear c6
                        try clear p6
                        try clear c10
                        try clear c10b0
                        try clear c10b1
                        try clear c11
                        try clear c11b0
                        try clear c11b1
                        try clear c13
                        try clear c13b0
                        try clear c13b1
                        try clear q18
                        try clear c19
                        try clear c19b0
                        try clear c19b1
                        try clear c20
                        try clear c20b0
                        try clear c20b1
                        try clear c21
                        try clear c21b0
                        try clear q22
                        try clear hcv23
                        try clear p24
                        try clear q24
                        try clear hx24
                        try clear c25
                        try clear c25b0
                        try clear c26
                        try clear c26b0
                        try clear q27
                        try clear hcv28
                        try clear c29
                        try clear q29
                        try clear hcv30
                        try clear c31
                        try clear c34
                        try clear c34b0
                        try clear c34b1
                        try clear c35
                        try clear c35b0
                        try clear c35b1
                        try clear c37
                        try clear q37
                        try clear hcz32_0
                        try clear hcz32_1
                        try clear hcz32_2
                        try clear hcz4_0
                        try clear hcz4_1
                        try clear hcz4_2
                        try clear hcz7_0
                        try clear hcz7_1
                        try clear hcz7_2
                        try clear hfz32_0
                        try clear hfz32_1
                        try clear hfz32_2
                        try clear hfz4_0
                        try clear hfz4_1
                        try clear hfz4_2
                        try clear hfz7_0
                        try clear hfz7_1
                        try clear hfz7_2
                        try clear hx249_0
                        try clear p2
                        try clear p24
                        try clear p249
                        try clear p6
                        try clear q1
                        try clear q18
                        try clear q2
                        try clear q22
                        try clear q24
                        try clear q249
                        try clear q27
                        try clear q29
                        try clear q37
                        obtain ⟨x7_2, x238000_2, x238001_2, x256002_2, u256002, rfl, HA, HK2, HO_256002, BK237, BK255, HB⟩ := hrel
                        cases gk with
                        | zero => exact absurd HA.out (by simp [strongboxref4_Decode.l0])
                        | succ k2 =>
                          have H := HA.out
                          clear HA
                          simp only [strongboxref4_Decode.l0] at H
                          by_cases c44 : x7_2 < ji9
                          · rw [if_pos c44] at H
                            have c44b0 : decide (x7_2 < ji9) = true := decide_eq_true c44
                            clear c44
                            obtain ⟨ji45, hji45⟩ : ∃ j_ : Int, (wrap64 (x7_2 + 4)) = j_ := ⟨_, rfl⟩
                            replace H : (if 0 ≤ (ji45) then (if (ji45) < (l0.length : Int) then (if (rd l0 (ji45)) > 1 then (some (0, (⟨#[]⟩ : ByteArray), ([] : List (S72)), 4)) else ((strongboxref4_get.f k2 l0 x7_2 4).bind fun t258 => ((strongboxref4_get.f k2 l0 (wrap64 (x7_2 + 5)) 4).bind fun t260 => ((strongboxref4_get.f k2 l0 (wrap64 (x7_2 + 9)) 4).bind fun t261 => (if x256002_2.length < 4398046511104 then (strongboxref4_Decode.l0 k2 l0 ji9 (wrap64 (x7_2 + 13)) t250 (strOfNums y251) (x256002_2 ++ [(⟨t258, ((rd l0 (ji45)) == 1), t260, (t261) % 4294967296⟩ : S72)])) else (none)))))) else (none)) else (none)) = some (r1, r2, r3, r4) := by first | (rw [hji45] at H; exact H) | (simp only [hji45] at H ⊢; exact H)
                            have hji45w : (IntKind.i64.wrap (x7_2 + 4)) = ji45 := (i64_w _).trans hji45
                            by_cases c46 : 0 ≤ (ji45)
                            · rw [if_pos c46] at H
                              have c46b0 : decide (0 ≤ (ji45)) = true := decide_eq_true c46
                              clear c46
                              by_cases c47 : (ji45) < (l0.length : Int)
                              · rw [if_pos c47] at H
                                have c47b0 : decide ((ji45) < (l0.length : Int)) = true := decide_eq_true c47
                                clear c47
                                by_cases c48 : (rd l0 (ji45)) > 1
                                · rw [if_pos c48] at H
                                  have c48b0 : decide (1 < (rd l0 (ji45))) = true := decide_eq_true c48
                                  clear c48
                                  simp only [Option.some.injEq, Prod.mk.injEq] at H
                                  obtain ⟨rfl, rfl, rfl, rfl⟩ := H
                                  have p257 : 0 ≤ ((ji45) : Int) := of_decide_eq_true (by first | (with_reducible assumption) | assumption)
                                  have q257 : (ji45) < (l0.length : Int) := of_decide_eq_true (by first | (with_reducible assumption) | assumption)
                                  obtain ⟨ad257, e257, hx257_0⟩ := Kd.at_int HR0.out (ji45) p257 q257
                                  cases e257
                                  replace hx257_0 := (HB.out.cell (World.block_lt_of_cell? w _ hx257_0)).trans hx257_0
                                  replace p257 := eq_true p257
                                  replace q257 := eq_true q257
                                  have hnb49 := NB237_255.out
                                  have hnc49 := NB255_237.out
                                  have hcz50_0 : wr.cell? ⟨gb237, 0, none⟩ = some (.int .i64 x238000_2) := (blk_cell BK237.out 0).trans rfl
                                  have hcz50_1 : wr.cell? ⟨gb237, 1, none⟩ = some (.string x238001_2) := (blk_cell BK237.out 1).trans rfl
                                  have hcz50_2 : wr.cell? ⟨gb237, 2, none⟩ = some (.slice none 0 0) := (blk_cell BK237.out 2).trans rfl
                                  have hfz50_0 := blk_frozen BK237.out 0
                                  have hfz50_1 := blk_frozen BK237.out 1
                                  have hfz50_2 := blk_frozen BK237.out 2
                                  go_wp2
                                  refine bodyPost_ret (results_ct rfl _ _ gb237 45 #[.int .i64 0, .string (⟨#[]⟩ : ByteArray), .slice none 0 0] (0, 0) _ rfl (by (with_reducible repeat (first | refine blk_drewN ?_ _ | refine blk_drew ?_ | refine blk_alloc ?_ _)); refine blk_put (cs := #[.int .i64 0, .string (⟨#[]⟩ : ByteArray), .slice none 0 0]) ?_ 2 _ rfl; (with_reducible repeat (first | refine blk_drewN ?_ _ | refine blk_drew ?_ | refine blk_alloc ?_ _)); refine blk_put (cs := #[.int .i64 0, .string x238001_2, .slice none 0 0]) ?_ 1 _ rfl; (with_reducible repeat (first | refine blk_drewN ?_ _ | refine blk_drew ?_ | refine blk_alloc ?_ _)); refine blk_put (cs := #[.int .i64 x238000_2, .string x238001_2, .slice none 0 0]) ?_ 0 _ rfl; (with_reducible repeat (first | refine blk_drewN ?_ _ | refine blk_drew ?_ | refine blk_alloc ?_ _)); exact BK237.out) Try.underlying45 rfl (by kernel_rfl)) rfl ?_
                                  exact ⟨_, by first | rfl | (simp [errW_none, errW_some] <;> rfl) | (simp only [← hji9, ← hji45]; first | rfl | (simp [errW_none, errW_some] <;> rfl)) | (simp [*, errW_none, errW_some] <;> rfl), by first | exact Kd.R_nil _ _ _ _ _ | exact Kd.N_nil _ _ _ _ _ | exact Kd.V_nil _ _ _ _ _ | exact Kd.Q_nil _ _ _ _ _ | exact Kd.S_nil _ _ _ _ _, by repeat (first | (with_reducible first | exact HB.out | apply below_alloc | apply pw_below_drewN | apply below_drew1 | refine below_set ?_ GE237.out | refine below_set ?_ GE255.out) | exact HB.out)⟩
                                · rw [if_neg c48] at H
                                  have c48b0 : decide (1 < (rd l0 (ji45))) = false := decide_eq_false c48
                                  clear c48
                                  replace H := Option.bind_eq_some_iff.mp H
                                  obtain ⟨t258, A510, H⟩ := H
                                  replace H : ((strongboxref4_get.f k2 l0 (wrap64 (x7_2 + 5)) 4).bind fun t260 => ((strongboxref4_get.f k2 l0 (wrap64 (x7_2 + 9)) 4).bind fun t261 => (if x256002_2.length < 4398046511104 then (strongboxref4_Decode.l0 k2 l0 ji9 (wrap64 (x7_2 + 13)) t250 (strOfNums y251) (x256002_2 ++ [(⟨t258, ((rd l0 (ji45)) == 1), t260, (t261) % 4294967296⟩ : S72)])) else (none)))) = some (r1, r2, r3, r4) := H
                                  have A51 := Aside0.mk A510
                                  clear A510
                                  replace H := Option.bind_eq_some_iff.mp H
                                  obtain ⟨t260, A520, H⟩ := H
                                  replace H : ((strongboxref4_get.f k2 l0 (wrap64 (x7_2 + 9)) 4).bind fun t261 => (if x256002_2.length < 4398046511104 then (strongboxref4_Decode.l0 k2 l0 ji9 (wrap64 (x7_2 + 13)) t250 (strOfNums y251) (x256002_2 ++ [(⟨t258, ((rd l0 (ji45)) == 1), t260, (t261) % 4294967296⟩ : S72)])) else (none))) = some (r1, r2, r3, r4) := H
                                  have A52 := Aside0.mk A520
                                  clear A520
                                  replace H := Option.bind_eq_some_iff.mp H
                                  obtain ⟨t261, A530, H⟩ := H
                                  replace H : (if x256002_2.length < 4398046511104 then (strongboxref4_Decode.l0 k2 l0 ji9 (wrap64 (x7_2 + 13)) t250 (strOfNums y251) (x256002_2 ++ [(⟨t258, ((rd l0 (ji45)) == 1), t260, (t261) % 4294967296⟩ : S72)])) else (none)) = some (r1, r2, r3, r4) := H
                                  have A53 := Aside0.mk A530
                                  clear A530
                                  by_cases c54 : x256002_2.length < 4398046511104
                                  · rw [if_pos c54] at H
                                    have LMc54 := Aside0.mk c54
                                    clear c54
                                    obtain ⟨y262, hy262⟩ : ∃ y_ : List (S72), y_ = (x256002_2 ++ [(⟨t258, ((rd l0 (ji45)) == 1), t260, (t261) % 4294967296⟩ : S72)]) := ⟨_, rfl⟩
                                    replace H : (strongboxref4_Decode.l0 k2 l0 ji9 (wrap64 (x7_2 + 13)) t250 (strOfNums y251) y262) = some (r1, r2, r3, r4) := by first | (rw [hy262]; with_reducible exact H) | (have H2_ := (Option.bind_some _ _).symm.trans H; rw [hy262]; with_reducible exact H2_) | (have H2_ := (Option.bind_some _ _).symm.trans H; with_reducible exact H2_) | with_reducible exact H | (rw [hy262]; exact H) | exact H
                                    have Ny262 := Aside0.mk hy262
                                    clear hy262
                                    have H' := Aside0.mk H
                                    clear H
                                    have p257 : 0 ≤ ((ji45) : Int) := of_decide_eq_true (by first | (with_reducible assumption) | assumption)
                                    have q257 : (ji45) < (l0.length : Int) := of_decide_eq_true (by first | (with_reducible assumption) | assumption)
                                    obtain ⟨ad257, e257, hx257_0⟩ := Kd.at_int HR0.out (ji45) p257 q257
                                    cases e257
                                    replace hx257_0 := (HB.out.cell (World.block_lt_of_cell? w _ hx257_0)).trans hx257_0
                                    replace p257 := eq_true p257
                                    replace q257 := eq_true q257
                                    try go_wp2
                                    have n0_ := Aside0.mk (Kd.R_drew HO_256002.out)
                                    have n1_ := Aside0.mk (blk_drew BK237.out)
                                    have n2_ := Aside0.mk (blk_drew BK255.out)
                                    have n3_ := Aside0.mk (below_drew1 HB.out)
                                    clear HO_256002
                                    clear BK237
                                    clear BK255
                                    clear HB
                                    have HO_256002 := n0_
                                    have BK237 := n1_
                                    have BK255 := n2_
                                    have HB := n3_
                                    clear n0_ n1_ n2_ n3_
                                    have p259 : 0 ≤ ((ji45) : Int) := of_decide_eq_true (by first | (with_reducible assumption) | assumption)
                                    have q259 : (ji45) < (l0.length : Int) := of_decide_eq_true (by first | (with_reducible assumption) | assumption)
                                    obtain ⟨ad259, e259, hx259_0⟩ := Kd.at_int HR0.out (ji45) p259 q259
                                    have hw259_0 := hx259_0
                                    obtain rfl : ad257 = ad259 := (by injection e259)
                                    replace hx259_0 := (HB.out.cell (World.block_lt_of_cell? w _ hx259_0)).trans hx259_0
                                    replace p259 := eq_true p259
                                    replace q259 := eq_true q259
                                    refine start_ (n := 25) (S := fun w' => w'.cell? ⟨gb255, 0, none⟩ = some (.int .i64 t250) ∧ w'.cell? ⟨gb255, 1, none⟩ = some (.string (strOfNums y251)) ∧ w'.cell? ⟨gb255, 2, none⟩ = some (u256002) ∧ w'.cell? (ad257.add ((ji45)).toNat) = some (.int .u8 (rd l0 (ji45)))) (ds := [24]) #[false, false, false, false, false, false, false, false, false, false, false, false, false, false, false, false, false, false, false, false, false, false, false, false, false] (by kernel_rfl) rfl rfl ⟨(blk_cell BK255.out 0).trans rfl, (blk_cell BK255.out 1).trans rfl, (blk_cell BK255.out 2).trans rfl, ((HB.out.cell (World.block_lt_of_cell? w _ hw259_0)).trans hw259_0)⟩ (fun hHeld => ?_); refine with_tabW strongboxref4_Decode.tab17 strongboxref4_Decode.bits17 (fun HT_ HW_ => ?_)
                                    generalize wr.drew = w55 at HO_256002 BK237 BK255 HB hx259_0 hHeld ⊢
                                    refine pure_ (i := 0) (N := some 78) (v := ?_) (a' := ?_) #[true, false, false, false, false, false, false, false, false, false, false, false, false, false, false, false, false, false, false, false, false, false, false, false, false] rfl rfl (any_of HT_.out (by kernel_rfl)) (fun _ _ _ h => h) (Or.inl ⟨by rfl, ?_⟩) ?_ ?_
                                    rotate_left
                                    · intro w'
                                      go_simp
                                      with_reducible rfl
                                    rotate_left
                                    · simp only [Act.put, List.setIfInBounds_toArray, List.set_cons_zero, List.set_cons_succ, i64_w, i32_w]
                                      rfl
                                    refine pure_ (i := 2) (N := some 80) (v := ?_) (a' := ?_) #[true, false, true, false, false, false, false, false, false, false, false, false, false, false, false, false, false, false, false, false, false, false, false, false, false] rfl rfl (any_of HT_.out (by kernel_rfl)) (fun _ _ _ h => h) (Or.inl ⟨by rfl, ?_⟩) ?_ ?_
                                    rotate_left
                                    · intro w'
                                      go_simp
                                      with_reducible rfl
                                    rotate_left
                                    · simp only [Act.put, List.setIfInBounds_toArray, List.set_cons_zero, List.set_cons_succ, i64_w, i32_w]
                                      rfl
                                    refine pure_ (i := 3) (N := some 81) (v := ?_) (a' := ?_) #[true, false, true, true, false, false, false, false, false, false, false, false, false, false, false, false, false, false, false, false, false, false, false, false, false] rfl rfl (any_of HT_.out (by kernel_rfl)) (fun _ _ _ h => h) (Or.inl ⟨by rfl, ?_⟩) ?_ ?_
                                    rotate_left
                                    · intro w'
                                      go_simp
                                      with_reducible rfl
                                    rotate_left
                                    · simp only [Act.put, List.setIfInBounds_toArray, List.set_cons_zero, List.set_cons_succ, i64_w, i32_w]
                                      rfl
                                    refine pure_ (i := 5) (N := some 83) (v := ?_) (a' := ?_) #[true, false, true, true, false, true, false, false, false, false, false, false, false, false, false, false, false, false, false, false, false, false, false, false, false] rfl rfl (any_of HT_.out (by kernel_rfl)) (fun _ _ _ h => h) (Or.inl ⟨by rfl, ?_⟩) ?_ ?_
                                    rotate_left
                                    · intro w'
                                      go_simp
                                      with_reducible rfl
                                    rotate_left
                                    · simp only [Act.put, List.setIfInBounds_toArray, List.set_cons_zero, List.set_cons_succ, i64_w, i32_w]
                                      rfl
                                    refine pure_ (i := 6) (N := some 84) (v := ?_) (a' := ?_) #[true, false, true, true, false, true, true, false, false, false, false, false, false, false, false, false, false, false, false, false, false, false, false, false, false] rfl rfl (any_of HT_.out (by kernel_rfl)) (fun _ _ _ h => h) (Or.inl ⟨by rfl, ?_⟩) ?_ ?_
                                    rotate_left
                                    · intro w'
                                      go_simp
                                      with_reducible rfl
                                    rotate_left
                                    · simp only [Act.put, List.setIfInBounds_toArray, List.set_cons_zero, List.set_cons_succ, i64_w, i32_w]
                                      rfl
                                    refine pure_ (i := 7) (N := some 85) (v := ?_) (a' := ?_) #[true, false, true, true, false, true, true, true, false, false, false, false, false, false, false, false, false, false, false, false, false, false, false, false, false] rfl rfl (any_of HT_.out (by kernel_rfl)) (fun _ _ _ h => h) (Or.inl ⟨by rfl, ?_⟩) ?_ ?_
                                    rotate_left
                                    · intro w'
                                      go_simp
                                      with_reducible rfl
                                    rotate_left
                                    · simp only [Act.put, List.setIfInBounds_toArray, List.set_cons_zero, List.set_cons_succ, i64_w, i32_w]
                                      rfl
                                    refine pure_ (i := 8) (N := some 86) (v := ?_) (a' := ?_) #[true, false, true, true, false, true, true, true, true, false, false, false, false, false, false, false, false, false, false, false, false, false, false, false, false] rfl rfl (any_of HT_.out (by kernel_rfl)) (fun _ _ _ h => h) (Or.inl ⟨by rfl, ?_⟩) ?_ ?_
                                    rotate_left
                                    · intro w'
                                      go_simp
                                      with_reducible rfl
                                    rotate_left
                                    · simp only [Act.put, List.setIfInBounds_toArray, List.set_cons_zero, List.set_cons_succ, i64_w, i32_w]
                                      rfl
                                    refine pure_ (i := 11) (N := some 89) (v := ?_) (a' := ?_) #[true, false, true, true, false, true, true, true, true, false, false, true, false, false, false, false, false, false, false, false, false, false, false, false, false] rfl rfl (any_of HT_.out (by kernel_rfl)) (fun _ _ _ h => h) (Or.inl ⟨by rfl, ?_⟩) ?_ ?_
                                    rotate_left
                                    · intro w'
                                      go_simp
                                      with_reducible rfl
                                    rotate_left
                                    · simp only [Act.put, List.setIfInBounds_toArray, List.set_cons_zero, List.set_cons_succ, i64_w, i32_w]
                                      rfl
                                    refine pure_ (i := 12) (N := some 90) (v := ?_) (a' := ?_) #[true, false, true, true, false, true, true, true, true, false, false, true, true, false, false, false, false, false, false, false, false, false, false, false, false] rfl rfl (any_of HT_.out (by kernel_rfl)) (fun _ _ _ h => h) (Or.inl ⟨by rfl, ?_⟩) ?_ ?_
                                    rotate_left
                                    · intro w'
                                      go_simp
                                      with_reducible rfl
                                    rotate_left
                                    · simp only [Act.put, List.setIfInBounds_toArray, List.set_cons_zero, List.set_cons_succ, i64_w, i32_w]
                                      rfl
                                    refine pure_ (i := 13) (N := some 91) (v := ?_) (a' := ?_) #[true, false, true, true, false, true, true, true, true, false, false, true, true, true, false, false, false, false, false, false, false, false, false, false, false] rfl rfl (any_of HT_.out (by kernel_rfl)) (fun _ _ _ h => h) (Or.inl ⟨by rfl, ?_⟩) ?_ ?_
                                    rotate_left
                                    · intro w'
                                      go_simp
                                      with_reducible rfl
                                    rotate_left
                                    · simp only [Act.put, List.setIfInBounds_toArray, List.set_cons_zero, List.set_cons_succ, i64_w, i32_w]
                                      rfl
                                    refine pure_ (i := 15) (N := some 93) (v := ?_) (a' := ?_) #[true, false, true, true, false, true, true, true, true, false, false, true, true, true, false, true, false, false, false, false, false, false, false, false, false] rfl rfl (any_of HT_.out (by kernel_rfl)) (fun _ _ _ h => h) (Or.inl ⟨by rfl, ?_⟩) ?_ ?_
                                    rotate_left
                                    · intro w'
                                      go_simp
                                      with_reducible rfl
                                    rotate_left
                                    · simp only [Act.put, List.setIfInBounds_toArray, List.set_cons_zero, List.set_cons_succ, i64_w, i32_w]
                                      rfl
                                    refine pure_ (i := 16) (N := some 94) (v := ?_) (a' := ?_) #[true, false, true, true, false, true, true, true, true, false, false, true, true, true, false, true, true, false, false, false, false, false, false, false, false] rfl rfl (any_of HT_.out (by kernel_rfl)) (fun _ _ _ h => h) (Or.inl ⟨by rfl, ?_⟩) ?_ ?_
                                    rotate_left
                                    · intro w'
                                      go_simp
                                      with_reducible rfl
                                    rotate_left
                                    · simp only [Act.put, List.setIfInBounds_toArray, List.set_cons_zero, List.set_cons_succ, i64_w, i32_w]
                                      rfl
                                    refine pure_ (i := 17) (N := some 95) (v := ?_) (a' := ?_) #[true, false, true, true, false, true, true, true, true, false, false, true, true, true, false, true, true, true, false, false, false, false, false, false, false] rfl rfl (any_of HT_.out (by kernel_rfl)) (fun _ _ _ h => h) (Or.inl ⟨by rfl, ?_⟩) ?_ ?_
                                    rotate_left
                                    · intro w'
                                      go_simp
                                      with_reducible rfl
                                    rotate_left
                                    · simp only [Act.put, List.setIfInBounds_toArray, List.set_cons_zero, List.set_cons_succ, i64_w, i32_w]
                                      rfl
                                    refine take_ (i := 1) (N := some 79) (v := ?_) (a' := ?_) #[true, true, true, true, false, true, true, true, true, false, false, true, true, true, false, true, true, true, false, false, false, false, false, false, false] rfl rfl (take_ofW HT_.out HW_.out (by kernel_rfl)) (fun _ _ _ h => h) (Or.inl ⟨by rfl, ?_⟩) hHeld ?_ ?_
                                    rotate_left
                                    · rintro w' ⟨s0, s1, s2, s3⟩
                                      go_simp
                                      with_reducible rfl
                                    rotate_left
                                    · simp only [Act.put, List.setIfInBounds_toArray, List.set_cons_zero, List.set_cons_succ, i64_w, i32_w]
                                      rfl
                                    refine take_ (i := 9) (N := some 87) (v := ?_) (a' := ?_) #[true, true, true, true, false, true, true, true, true, true, false, true, true, true, false, true, true, true, false, false, false, false, false, false, false] rfl rfl (take_ofW HT_.out HW_.out (by kernel_rfl)) (fun _ _ _ h => h) (Or.inl ⟨by rfl, ?_⟩) hHeld ?_ ?_
                                    rotate_left
                                    · rintro w' ⟨s0, s1, s2, s3⟩
                                      go_simp
                                      with_reducible rfl
                                    rotate_left
                                    · simp only [Act.put, List.setIfInBounds_toArray, List.set_cons_zero, List.set_cons_succ, i64_w, i32_w]
                                      rfl
                                    refine pure_ (i := 10) (N := some 88) (v := ?_) (a' := ?_) #[true, true, true, true, false, true, true, true, true, true, true, true, true, true, false, true, true, true, false, false, false, false, false, false, false] rfl rfl (any_of HT_.out (by kernel_rfl)) (fun _ _ _ h => h) (Or.inl ⟨by rfl, ?_⟩) ?_ ?_
                                    rotate_left
                                    · intro w'
                                      go_simp
                                      with_reducible rfl
                                    rotate_left
                                    · simp only [Act.put, List.setIfInBounds_toArray, List.set_cons_zero, List.set_cons_succ, i64_w, i32_w]
                                      rfl
                                    refine one_ (i := 4) (N := some 82) #[true, true, true, true, true, true, true, true, true, true, true, true, true, true, false, true, true, true, false, false, false, false, false, false, false] rfl rfl (one_of HT_.out (by kernel_rfl)) (by decide) (fun K hK => ?_)
                                    refine goes_ Try.func61 (by kernel_rfl) rfl #[.slice (some ad257) l0.length c0, .int .i64 x7_2, .int .i64 4] (by rfl) rfl rfl (by (try simp only [List.map_toArray, List.map_cons, List.map_nil]); first | done | rfl | (simp only [List.length_drop, List.length_take]; rfl)) ?_
                                    with_reducible refine (strongboxref4_get.calls k2 _ _ l0 x7_2 4 t258 _ ?side1 ?side2 A51.out).mono ?_
                                    (case side1 => repeat (first | exact (Kd.C_below HR0.out HB.out) | (with_reducible refine Kd.C_alloc ?_ _) | (with_reducible refine Kd.C_drewN ?_ _) | (with_reducible refine Kd.C_drew ?_)))
                                    (case side2 => exact HC0.out)
                                    rintro e w' ⟨rfl, ⟨nd, rfl⟩⟩
                                    refine ⟨_, rfl, ?_⟩
                                    refine hK.out _ _ ⟨(blk_cell BK255.out 0).trans rfl, (blk_cell BK255.out 1).trans rfl, (blk_cell BK255.out 2).trans rfl, ((HB.out.cell (World.block_lt_of_cell? w _ hw259_0)).trans hw259_0)⟩ (fun hHeld => ?_)
                                    clear hK K
                                    refine norm_ (a' := ?_) ?_ ?_
                                    rotate_left
                                    · show Act.put _ (some 82) _ = _
                                      simp only [Act.put, List.setIfInBounds_toArray, List.set_cons_zero, List.set_cons_succ, i64_w, i32_w]
                                      rfl
                                    refine one_ (i := 14) (N := some 92) #[true, true, true, true, true, true, true, true, true, true, true, true, true, true, true, true, true, true, false, false, false, false, false, false, false] rfl rfl (one_of HT_.out (by kernel_rfl)) (by decide) (fun K hK => ?_)
                                    refine goes_ Try.func61 (by kernel_rfl) rfl #[.slice (some ad257) l0.length c0, .int .i64 (wrap64 (x7_2 + 5)), .int .i64 4] (by rfl) rfl rfl (by (try simp only [List.map_toArray, List.map_cons, List.map_nil]); first | done | rfl | (simp only [List.length_drop, List.length_take]; rfl)) ?_
                                    with_reducible refine (strongboxref4_get.calls k2 _ _ l0 (wrap64 (x7_2 + 5)) 4 t260 _ ?side1 ?side2 A52.out).mono ?_
                                    (case side1 => repeat (first | exact (Kd.C_below HR0.out (by repeat (first | (with_reducible first | exact HB.out | apply below_alloc | apply pw_below_drewN | apply below_drew1 | refine below_set ?_ GE237.out | refine below_set ?_ GE255.out) | exact HB.out))) | (with_reducible refine Kd.C_alloc ?_ _) | (with_reducible refine Kd.C_drewN ?_ _) | (with_reducible refine Kd.C_drew ?_)))
                                    (case side2 => exact HC0.out)
                                    rintro e w' ⟨rfl, ⟨nd, rfl⟩⟩
                                    refine ⟨_, rfl, ?_⟩
                                    refine hK.out _ _ ⟨(blk_cell BK255.out 0).trans rfl, (blk_cell BK255.out 1).trans rfl, (blk_cell BK255.out 2).trans rfl, ((HB.out.cell (World.block_lt_of_cell? w _ hw259_0)).trans hw259_0)⟩ (fun hHeld => ?_)
                                    clear hK K
                                    refine norm_ (a' := ?_) ?_ ?_
                                    rotate_left
                                    · show Act.put _ (some 92) _ = _
                                      simp only [Act.put, List.setIfInBounds_toArray, List.set_cons_zero, List.set_cons_succ, i64_w, i32_w]
                                      rfl
                                    refine one_ (i := 18) (N := some 96) #[true, true, true, true, true, true, true, true, true, true, true, true, true, true, true, true, true, true, true, false, false, false, false, false, false] rfl rfl (one_of HT_.out (by kernel_rfl)) (by decide) (fun K hK => ?_)
                                    refine goes_ Try.func61 (by kernel_rfl) rfl #[.slice (some ad257) l0.length c0, .int .i64 (wrap64 (x7_2 + 9)), .int .i64 4] (by rfl) rfl rfl (by (try simp only [List.map_toArray, List.map_cons, List.map_nil]); first | done | rfl | (simp only [List.length_drop, List.length_take]; rfl)) ?_
                                    with_reducible refine (strongboxref4_get.calls k2 _ _ l0 (wrap64 (x7_2 + 9)) 4 t261 _ ?side1 ?side2 A53.out).mono ?_
                                    (case side1 => repeat (first | exact (Kd.C_below HR0.out (by repeat (first | (with_reducible first | exact HB.out | apply below_alloc | apply pw_below_drewN | apply below_drew1 | refine below_set ?_ GE237.out | refine below_set ?_ GE255.out) | exact HB.out))) | (with_reducible refine Kd.C_alloc ?_ _) | (with_reducible refine Kd.C_drewN ?_ _) | (with_reducible refine Kd.C_drew ?_)))
                                    (case side2 => exact HC0.out)
                                    rintro e w' ⟨rfl, ⟨nd, rfl⟩⟩
                                    refine ⟨_, rfl, ?_⟩
                                    refine hK.out _ _ ⟨(blk_cell BK255.out 0).trans rfl, (blk_cell BK255.out 1).trans rfl, (blk_cell BK255.out 2).trans rfl, ((HB.out.cell (World.block_lt_of_cell? w _ hw259_0)).trans hw259_0)⟩ (fun hHeld => ?_)
                                    clear hK K
                                    refine norm_ (a' := ?_) ?_ ?_
                                    rotate_left
                                    · show Act.put _ (some 96) _ = _
                                      simp only [Act.put, List.setIfInBounds_toArray, List.set_cons_zero, List.set_cons_succ, i64_w, i32_w]
                                      rfl
                                    refine pure_ (i := 19) (N := some 97) (v := ?_) (a' := ?_) #[true, true, true, true, true, true, true, true, true, true, true, true, true, true, true, true, true, true, true, true, false, false, false, false, false] rfl rfl (any_of HT_.out (by kernel_rfl)) (fun _ _ _ h => h) (Or.inl ⟨by rfl, ?_⟩) ?_ ?_
                                    rotate_left
                                    · intro w'
                                      go_simp
                                      with_reducible rfl
                                    rotate_left
                                    · simp only [Act.put, List.setIfInBounds_toArray, List.set_cons_zero, List.set_cons_succ, i64_w, i32_w]
                                      rfl
                                    refine pure_ (i := 20) (N := some 98) (v := ?_) (a' := ?_) #[true, true, true, true, true, true, true, true, true, true, true, true, true, true, true, true, true, true, true, true, true, false, false, false, false] rfl rfl (any_of HT_.out (by kernel_rfl)) (fun _ _ _ h => h) (Or.inl ⟨by rfl, ?_⟩) ?_ ?_
                                    rotate_left
                                    · intro w'
                                      go_simp
                                      with_reducible rfl
                                    rotate_left
                                    · simp only [Act.put, List.setIfInBounds_toArray, List.set_cons_zero, List.set_cons_succ, i64_w, i32_w]
                                      rfl
                                    refine one_ (i := 21) (N := some 99) #[true, true, true, true, true, true, true, true, true, true, true, true, true, true, true, true, true, true, true, true, true, true, false, false, false] rfl rfl (one_of HT_.out (by kernel_rfl)) (by decide) (fun K hK => ?_)
                                    refine value_ (w1 := ?_) (v := ?_) (by rfl) rfl ?_ ?_
                                    rotate_left 2
                                    · go_simp
                                      constructor
                                      · rfl
                                      · rfl
                                    refine hK.out _ _ ⟨(blk_cell (blk_alloc BK255.out _) 0).trans rfl, (blk_cell (blk_alloc BK255.out _) 1).trans rfl, (blk_cell (blk_alloc BK255.out _) 2).trans rfl, (World.cell?_alloc_lt _ _ _ (World.block_lt_of_cell? _ _ (((HB.out.cell (World.block_lt_of_cell? w _ hw259_0)).trans hw259_0)))).trans (((HB.out.cell (World.block_lt_of_cell? w _ hw259_0)).trans hw259_0))⟩ (fun hHeld => ?_)
                                    clear hK K
                                    refine norm_ (a' := ?_) ?_ ?_
                                    rotate_left
                                    · show Act.put _ (some 99) _ = _
                                      simp only [Act.put, List.setIfInBounds_toArray, List.set_cons_zero, List.set_cons_succ, i64_w, i32_w]
                                      rfl
                                    refine one_ (i := 22) (N := some 100) #[true, true, true, true, true, true, true, true, true, true, true, true, true, true, true, true, true, true, true, true, true, true, true, false, false] rfl rfl (one_of HT_.out (by kernel_rfl)) (by decide) (fun K hK => ?_)
                                    refine Kd.R_append_step k72 (w0 := w) w.heap.size (by rfl) (.tmp 79) (.tmp 99) 43 72 (.agg #[(.int .i64 0), (.bool false), (.int .i64 0), (.int .u32 0)]) 32 rfl Try.underlying43 info72 rfl (by decide) (by omega) u256002 x256002_2 (⟨t258, ((rd l0 (ji45)) == 1), t260, (t261) % 4294967296⟩ : S72) [.int .i64 t258, .bool ((rd l0 (ji45)) == 1), .int .i64 t260, .int .u32 ((t261) % 4294967296)] (fun _ => True) (fun _ => False) rfl rfl ?aP (fun _ hk => hk.elim) ?aF ?aO ?aB ?aS ?aL ?_
                                    (case aP => exact k72_mkM _ _ _ (⟨t258, ((rd l0 (ji45)) == 1), t260, (t261) % 4294967296⟩ : S72))
                                    (case aB => exact (by repeat (first | (with_reducible first | exact HB.out | apply below_alloc | apply pw_below_drewN | apply below_drew1 | refine below_set ?_ GE237.out | refine below_set ?_ GE255.out) | exact HB.out)))
                                    (case aF => exact (fun _ _ => trivial))
                                    (case aO => exact (by (with_reducible repeat (first | apply Kd.R_alloc | apply Kd.R_drewN | apply Kd.R_drew)); exact HO_256002.out))
                                    (case aS => exact (below_size (by repeat (first | (with_reducible first | exact HB.out | apply below_alloc | apply pw_below_drewN | apply below_drew1 | refine below_set ?_ GE237.out | refine below_set ?_ GE255.out) | exact HB.out))))
                                    (case aL => have := LMc54.out; omega)
                                    intro v263 w56 ho hb hg hat
                                    rw [← Ny262.out] at ho
                                    have n0_ := Aside0.mk (blk_grown (g := gb237) (o := .cells #[.int .i64 x238000_2, .string x238001_2, .slice none 0 0] 45 (0, 0)) (by (with_reducible repeat (first | refine blk_drewN ?_ _ | refine blk_drew ?_ | refine blk_alloc ?_ _)); exact BK237.out) hg (Kd.R_ne HO_256002.out BK237.out (by decide)))
                                    have n1_ := Aside0.mk (blk_grown (g := gb255) (o := .cells #[.int .i64 t250, .string (strOfNums y251), u256002] 45 (0, 0)) (by (with_reducible repeat (first | refine blk_drewN ?_ _ | refine blk_drew ?_ | refine blk_alloc ?_ _)); exact BK255.out) hg (Kd.R_ne HO_256002.out BK255.out (by decide)))
                                    have n2_ := Aside0.mk (hb)
                                    have n3_ := Aside0.mk (ho)
                                    clear BK237
                                    clear BK255
                                    clear HB
                                    clear HO_256002
                                    have BK237 := n0_
                                    have BK255 := n1_
                                    have HB := n2_
                                    have HO264 := n3_
                                    clear n0_ n1_ n2_ n3_
                                    clear ho hb hg hat
                                    obtain ⟨Ao57, co57, eo57⟩ := Kd.R_slice HO264.out
                                    (first | subst eo57 | (injection eo57 with f1_ f2_ f3_; have f4_ := f1_.symm; have f5_ := f3_.symm; clear f1_ f2_ f3_; subst f4_; subst f5_))
                                    refine hK.out _ _ ⟨(blk_cell BK255.out 0).trans rfl, (blk_cell BK255.out 1).trans rfl, (blk_cell BK255.out 2).trans rfl, ((HB.out.cell (World.block_lt_of_cell? w _ hw259_0)).trans hw259_0)⟩ (fun hHeld => ?_)
                                    clear hK K
                                    refine norm_ (a' := ?_) ?_ ?_
                                    rotate_left
                                    · show Act.put _ (some 100) _ = _
                                      simp only [Act.put, List.setIfInBounds_toArray, List.set_cons_zero, List.set_cons_succ, i64_w, i32_w]
                                      rfl
                                    refine pure_ (i := 23) (N := some 101) (v := ?_) (a' := ?_) #[true, true, true, true, true, true, true, true, true, true, true, true, true, true, true, true, true, true, true, true, true, true, true, true, false] rfl rfl (any_of HT_.out (by kernel_rfl)) (fun _ _ _ h => h) (Or.inl ⟨by rfl, ?_⟩) ?_ ?_
                                    rotate_left
                                    · intro w'
                                      go_simp
                                      with_reducible rfl
                                    rotate_left
                                    · simp only [Act.put, List.setIfInBounds_toArray, List.set_cons_zero, List.set_cons_succ, i64_w, i32_w]
                                      rfl
                                    refine last_ (i := 24) (N := none) #[true, true, true, true, true, true, true, true, true, true, true, true, true, true, true, true, true, true, true, true, true, true, true, true, true] rfl rfl (one_of HT_.out (by kernel_rfl)) (by decide) (fun K hK => ?_)
                                    have hs58 : w56.cell? ⟨gb255, 2, none⟩ = some (u256002) := (blk_cell BK255.out 2).trans rfl
                                    have hfs58 := blk_frozen BK255.out 2
                                    have hns58_0 := NB237_255.out
                                    have hms58_0 := NB255_237.out
                                    refine skip_ (w1 := ?_) (by rfl) rfl ?_ ?_
                                    rotate_left
                                    · go_simp
                                      rfl
                                    refine hK.out _ _ ?_
                                    clear hK K
                                    refine done_ (done_of HT_.out (by kernel_rfl)) ?_
                                    try go_wp2
                                    go_roundg k2
                                    case measure => have := HJ14.out; have := HK2.out; omega
                                    case rel => exact ⟨(wrap64 (x7_2 + 13)), (x238000_2), (x238001_2), (y262), (.slice Ao57 y262.length co57), (by first | rfl | (simp; done) | (simp [*]; done)), H', ⟨by have := HJ14.out; have := HK2.out; omega⟩, ⟨by (with_reducible repeat (first | apply Kd.R_alloc | apply Kd.R_drewN | apply Kd.R_drew)); exact Kd.R_mono (Kd.R_far (p := ⟨gb255, 2, none⟩) (Kd.R_types HO264.out BK255.out (by decide)) (fun _ hk => hk.2) (.slice Ao57 y262.length co57)) (fun _ hk => trivial)⟩, ⟨by (with_reducible repeat (first | refine blk_drewN ?_ _ | refine blk_drew ?_ | refine blk_alloc ?_ _)); refine blk_far ?_ NB237_255.out _; (with_reducible repeat (first | refine blk_drewN ?_ _ | refine blk_drew ?_ | refine blk_alloc ?_ _)); exact BK237.out⟩, ⟨by (with_reducible repeat (first | refine blk_drewN ?_ _ | refine blk_drew ?_ | refine blk_alloc ?_ _)); refine blk_put (cs := #[.int .i64 t250, .string (strOfNums y251), u256002]) ?_ 2 _ rfl; (with_reducible repeat (first | refine blk_drewN ?_ _ | refine blk_drew ?_ | refine blk_alloc ?_ _)); exact BK255.out⟩, ⟨by repeat (first | (with_reducible first | exact HB.out | apply below_alloc | apply pw_below_drewN | apply below_drew1 | refine below_set ?_ GE237.out | refine below_set ?_ GE255.out) | exact HB.out)⟩⟩
                                  · rw [if_neg c54] at H
                                    exact absurd H (by simp)
                              · rw [if_neg c47] at H
                                exact absurd H (by simp)
                            · rw [if_neg c46] at H
                              exact absurd H (by simp)
                          · rw [if_neg c44] at H
                            have c44b0 : decide (x7_2 < ji9) = false := decide_eq_false c44
                            clear c44
                            replace H := Option.bind_eq_some_iff.mp H
                            obtain ⟨t256, A590, H⟩ := H
                            replace H : (if t256 = true then (some (t250, (strOfNums y251), x256002_2, 0)) else (some (0, (⟨#[]⟩ : ByteArray), ([] : List (S72)), 4))) = some (r1, r2, r3, r4) := H
                            have A59 := Aside0.mk A590
                            clear A590
                            by_cases c60 : t256 = true
                            · subst c60
                              have H1 : (some (t250, (strOfNums y251), x256002_2, 0)) = some (r1, r2, r3, r4) := by rw [if_pos rfl] at H; exact H
                              clear H
                              have H := H1
                              clear H1
                              simp only [Option.some.injEq, Prod.mk.injEq] at H
                              obtain ⟨rfl, rfl, rfl, rfl⟩ := H
                              have hnb61 := NB255_237.out
                              have hnc61 := NB237_255.out
                              have hcz62_0 : wr.cell? ⟨gb255, 0, none⟩ = some (.int .i64 t250) := (blk_cell BK255.out 0).trans rfl
                              have hcz62_1 : wr.cell? ⟨gb255, 1, none⟩ = some (.string (strOfNums y251)) := (blk_cell BK255.out 1).trans rfl
                              have hcz62_2 : wr.cell? ⟨gb255, 2, none⟩ = some (u256002) := (blk_cell BK255.out 2).trans rfl
                              have hfz62_0 := blk_frozen BK255.out 0
                              have hfz62_1 := blk_frozen BK255.out 1
                              have hfz62_2 := blk_frozen BK255.out 2
                              obtain ⟨Ao63, co63, eo63⟩ := Kd.R_slice HO_256002.out
                              subst eo63
                              go_wp2_with (first | ((with_reducible refine gate_callee (f := 27) rfl ?_); refine goesL_ (some 103) rfl rfl Try.func27 (by kernel_rfl) rfl #[.agg #[.int .i64 t250, .string (strOfNums y251), .slice Ao63 x256002_2.length co63]] rfl (by (try simp only [List.map_toArray, List.map_cons, List.map_nil]); first | done | rfl | (simp only [List.length_drop, List.length_take]; rfl)) ?_; (with_reducible refine (strongboxref4_May.calls k2 t250 (strOfNums y251) _ _ x256002_2 true _ ?side1 ?side2 A59.out).mono ?_); (case side1 => repeat (first | exact (Kd.R_reads' HO_256002.out).2.2 | (with_reducible refine Kd.C_alloc ?_ _) | (with_reducible refine Kd.C_drewN ?_ _) | (with_reducible refine Kd.C_drew ?_))); (case side2 => exact (Kd.R_reads' HO_256002.out).2.1); rintro e w64 ⟨rfl, hb⟩; refine ⟨_, rfl, ?_⟩; have n0_ := Aside0.mk (Kd.R_below (by (with_reducible repeat (first | apply Kd.R_alloc | apply Kd.R_drewN | apply Kd.R_drew)); exact HO_256002.out) hb); have n1_ := Aside0.mk (blk_below (g := gb237) (o := .cells #[.int .i64 x238000_2, .string x238001_2, .slice none 0 0] 45 (0, 0)) (by (with_reducible repeat (first | refine blk_drewN ?_ _ | refine blk_drew ?_ | refine blk_alloc ?_ _)); exact BK237.out) hb); have n2_ := Aside0.mk (blk_below (g := gb255) (o := .cells #[.int .i64 t250, .string (strOfNums y251), .slice Ao63 x256002_2.length co63] 45 (0, 0)) (by (with_reducible repeat (first | refine blk_drewN ?_ _ | refine blk_drew ?_ | refine blk_alloc ?_ _)); exact BK255.out) hb); have n3_ := Aside0.mk (below_step (by repeat (first | (with_reducible first | exact HB.out | apply below_alloc | apply pw_below_drewN | apply below_drew1 | refine below_set ?_ GE237.out | refine below_set ?_ GE255.out) | exact HB.out)) hb); clear HO_256002; clear BK237; clear BK255; clear HB; have HO_256002 := n0_; have BK237 := n1_; have BK255 := n2_; have HB := n3_; clear n0_ n1_ n2_ n3_; (try clear hb); (try clear hb2); (try clear hk); (try clear hi); have hcz65_0 : w64.cell? ⟨gb255, 0, none⟩ = some (.int .i64 t250) := (blk_cell BK255.out 0).trans rfl; have hcz65_1 : w64.cell? ⟨gb255, 1, none⟩ = some (.string (strOfNums y251)) := (blk_cell BK255.out 1).trans rfl; have hcz65_2 : w64.cell? ⟨gb255, 2, none⟩ = some (.slice Ao63 x256002_2.length co63) := (blk_cell BK255.out 2).trans rfl; have hfz65_0 := blk_frozen BK255.out 0; have hfz65_1 := blk_frozen BK255.out 1; have hfz65_2 := blk_frozen BK255.out 2; have hcz66_0 : w64.cell? ⟨gb237, 0, none⟩ = some (.int .i64 x238000_2) := (blk_cell BK237.out 0).trans rfl; have hcz66_1 : w64.cell? ⟨gb237, 1, none⟩ = some (.string x238001_2) := (blk_cell BK237.out 1).trans rfl; have hcz66_2 : w64.cell? ⟨gb237, 2, none⟩ = some (.slice none 0 0) := (blk_cell BK237.out 2).trans rfl; have hfz66_0 := blk_frozen BK237.out 0; have hfz66_1 := blk_frozen BK237.out 1; have hfz66_2 := blk_frozen BK237.out 2))
                              refine bodyPost_ret (results_ct rfl _ _ gb237 45 #[.int .i64 t250, .string (strOfNums y251), .slice Ao63 x256002_2.length co63] (0, 0) _ rfl (by (with_reducible repeat (first | refine blk_drewN ?_ _ | refine blk_drew ?_ | refine blk_alloc ?_ _)); refine blk_put (cs := #[.int .i64 t250, .string (strOfNums y251), .slice none 0 0]) ?_ 2 _ rfl; (with_reducible repeat (first | refine blk_drewN ?_ _ | refine blk_drew ?_ | refine blk_alloc ?_ _)); refine blk_put (cs := #[.int .i64 t250, .string x238001_2, .slice none 0 0]) ?_ 1 _ rfl; (with_reducible repeat (first | refine blk_drewN ?_ _ | refine blk_drew ?_ | refine blk_alloc ?_ _)); refine blk_put (cs := #[.int .i64 x238000_2, .string x238001_2, .slice none 0 0]) ?_ 0 _ rfl; (with_reducible repeat (first | refine blk_drewN ?_ _ | refine blk_drew ?_ | refine blk_alloc ?_ _)); exact BK237.out) Try.underlying45 rfl (by kernel_rfl)) rfl ?_
                              exact ⟨_, by first | rfl | (simp [errW_none, errW_some] <;> rfl) | (simp only [← hji9]; first | rfl | (simp [errW_none, errW_some] <;> rfl)) | (simp [*, errW_none, errW_some] <;> rfl), by (with_reducible repeat (first | apply Kd.R_alloc | apply Kd.R_drewN | apply Kd.R_drew)); exact Kd.R_mono (Kd.R_far (p := ⟨gb237, 2, none⟩) (Kd.R_far (p := ⟨gb237, 1, none⟩) (Kd.R_far (p := ⟨gb237, 0, none⟩) (Kd.R_types HO_256002.out BK237.out (by decide)) (fun _ hk => hk.2) (.int .i64 t250)) (fun _ hk => hk.2) (.string (strOfNums y251))) (fun _ hk => hk.2) (.slice Ao63 x256002_2.length co63)) (fun _ hk => trivial), by repeat (first | (with_reducible first | exact HB.out | apply below_alloc | apply pw_below_drewN | apply below_drew1 | refine below_set ?_ GE237.out | refine below_set ?_ GE255.out) | exact HB.out)⟩
                            · replace c60 := Bool.eq_false_iff.mpr c60
                              subst c60
                              have H1 : (some (0, (⟨#[]⟩ : ByteArray), ([] : List (S72)), 4)) = some (r1, r2, r3, r4) := by rw [if_neg (show ¬ (false = true) by decide)] at H; exact H
                              clear H
                              have H := H1
                              clear H1
                              simp only [Option.some.injEq, Prod.mk.injEq] at H
                              obtain ⟨rfl, rfl, rfl, rfl⟩ := H
                              have hnb67 := NB255_237.out
                              have hnc67 := NB237_255.out
                              have hcz68_0 : wr.cell? ⟨gb255, 0, none⟩ = some (.int .i64 t250) := (blk_cell BK255.out 0).trans rfl
                              have hcz68_1 : wr.cell? ⟨gb255, 1, none⟩ = some (.string (strOfNums y251)) := (blk_cell BK255.out 1).trans rfl
                              have hcz68_2 : wr.cell? ⟨gb255, 2, none⟩ = some (u256002) := (blk_cell BK255.out 2).trans rfl
                              have hfz68_0 := blk_frozen BK255.out 0
                              have hfz68_1 := blk_frozen BK255.out 1
                              have hfz68_2 := blk_frozen BK255.out 2
                              obtain ⟨Ao69, co69, eo69⟩ := Kd.R_slice HO_256002.out
                              subst eo69
                              go_wp2_with (first | ((with_reducible refine gate_callee (f := 27) rfl ?_); refine goesL_ (some 103) rfl rfl Try.func27 (by kernel_rfl) rfl #[.agg #[.int .i64 t250, .string (strOfNums y251), .slice Ao69 x256002_2.length co69]] rfl (by (try simp only [List.map_toArray, List.map_cons, List.map_nil]); first | done | rfl | (simp only [List.length_drop, List.length_take]; rfl)) ?_; (with_reducible refine (strongboxref4_May.calls k2 t250 (strOfNums y251) _ _ x256002_2 false _ ?side1 ?side2 A59.out).mono ?_); (case side1 => repeat (first | exact (Kd.R_reads' HO_256002.out).2.2 | (with_reducible refine Kd.C_alloc ?_ _) | (with_reducible refine Kd.C_drewN ?_ _) | (with_reducible refine Kd.C_drew ?_))); (case side2 => exact (Kd.R_reads' HO_256002.out).2.1); rintro e w70 ⟨rfl, hb⟩; refine ⟨_, rfl, ?_⟩; have n0_ := Aside0.mk (Kd.R_below (by (with_reducible repeat (first | apply Kd.R_alloc | apply Kd.R_drewN | apply Kd.R_drew)); exact HO_256002.out) hb); have n1_ := Aside0.mk (blk_below (g := gb237) (o := .cells #[.int .i64 x238000_2, .string x238001_2, .slice none 0 0] 45 (0, 0)) (by (with_reducible repeat (first | refine blk_drewN ?_ _ | refine blk_drew ?_ | refine blk_alloc ?_ _)); exact BK237.out) hb); have n2_ := Aside0.mk (blk_below (g := gb255) (o := .cells #[.int .i64 t250, .string (strOfNums y251), .slice Ao69 x256002_2.length co69] 45 (0, 0)) (by (with_reducible repeat (first | refine blk_drewN ?_ _ | refine blk_drew ?_ | refine blk_alloc ?_ _)); exact BK255.out) hb); have n3_ := Aside0.mk (below_step (by repeat (first | (with_reducible first | exact HB.out | apply below_alloc | apply pw_below_drewN | apply below_drew1 | refine below_set ?_ GE237.out | refine below_set ?_ GE255.out) | exact HB.out)) hb); clear HO_256002; clear BK237; clear BK255; clear HB; have HO_256002 := n0_; have BK237 := n1_; have BK255 := n2_; have HB := n3_; clear n0_ n1_ n2_ n3_; (try clear hb); (try clear hb2); (try clear hk); (try clear hi); have hcz71_0 : w70.cell? ⟨gb237, 0, none⟩ = some (.int .i64 x238000_2) := (blk_cell BK237.out 0).trans rfl; have hcz71_1 : w70.cell? ⟨gb237, 1, none⟩ = some (.string x238001_2) := (blk_cell BK237.out 1).trans rfl; have hcz71_2 : w70.cell? ⟨gb237, 2, none⟩ = some (.slice none 0 0) := (blk_cell BK237.out 2).trans rfl; have hfz71_0 := blk_frozen BK237.out 0; have hfz71_1 := blk_frozen BK237.out 1; have hfz71_2 := blk_frozen BK237.out 2))
                              refine bodyPost_ret (results_ct rfl _ _ gb237 45 #[.int .i64 0, .string (⟨#[]⟩ : ByteArray), .slice none 0 0] (0, 0) _ rfl (by (with_reducible repeat (first | refine blk_drewN ?_ _ | refine blk_drew ?_ | refine blk_alloc ?_ _)); refine blk_put (cs := #[.int .i64 0, .string (⟨#[]⟩ : ByteArray), .slice none 0 0]) ?_ 2 _ rfl; (with_reducible repeat (first | refine blk_drewN ?_ _ | refine blk_drew ?_ | refine blk_alloc ?_ _)); refine blk_put (cs := #[.int .i64 0, .string x238001_2, .slice none 0 0]) ?_ 1 _ rfl; (with_reducible repeat (first | refine blk_drewN ?_ _ | refine blk_drew ?_ | refine blk_alloc ?_ _)); refine blk_put (cs := #[.int .i64 x238000_2, .string x238001_2, .slice none 0 0]) ?_ 0 _ rfl; (with_reducible repeat (first | refine blk_drewN ?_ _ | refine blk_drew ?_ | refine blk_alloc ?_ _)); exact BK237.out) Try.underlying45 rfl (by kernel_rfl)) rfl ?_
                              exact ⟨_, by first | rfl | (simp [errW_none, errW_some] <;> rfl) | (simp only [← hji9]; first | rfl | (simp [errW_none, errW_some] <;> rfl)) | (simp [*, errW_none, errW_some] <;> rfl), by first | exact Kd.R_nil _ _ _ _ _ | exact Kd.N_nil _ _ _ _ _ | exact Kd.V_nil _ _ _ _ _ | exact Kd.Q_nil _ _ _ _ _ | exact Kd.S_nil _ _ _ _ _, by repeat (first | (with_reducible first | exact HB.out | apply below_alloc | apply pw_below_drewN | apply below_drew1 | refine below_set ?_ GE237.out | refine below_set ?_ GE255.out) | exact HB.out)⟩
                    · rw [if_neg c35] at H
                      exact absurd H (by simp)
                  · rw [if_neg c34] at H
                    exact absurd H (by simp)
          · rw [if_neg c13] at H
            have c13b0 : (((t238) % 4294967296) == t243) = false := beq_eq_false_iff_ne.mpr c13
            have c13w0 : (IntKind.u32.wrap t238 == t243) = false := (by rw [IntKind.wrap_u32']; exact c13b0)
            have c13b1 : (((t238) % 4294967296) != t243) = true := bne_iff_ne.mpr c13
            have c13w1 : (IntKind.u32.wrap t238 != t243) = true := (by rw [IntKind.wrap_u32']; exact c13b1)
            simp only [Option.some.injEq, Prod.mk.injEq] at H
            obtain ⟨rfl, rfl, rfl, rfl⟩ := H
            go_enter Try.func29, Try.ntmps29
            try go_wp2_with (first | ((with_reducible refine gate_dst (N := 2) rfl ?_); refine box_event ?hg (N := 2) ?hd (cs := #[.int .i64 0, .string (⟨#[]⟩ : ByteArray), .slice none 0 0]) (t := 45) ?hr ?_; (case hd => rfl); (case hg => rfl); (case hr => first | (go_simp; done) | (go_simp; rfl)); intro gb237 hg w72 hbox hb; have n0_ := Aside0.mk (below_step (by repeat (first | (with_reducible first | exact HB.out | apply below_alloc | apply pw_below_drewN | apply below_drew1) | exact HB.out)) hb); have n1_ := Aside0.mk (hbox); have n2_ := Aside0.mk ((by rw [hg]; exact (below_size (by repeat (first | (with_reducible first | exact HB.out | apply below_alloc | apply pw_below_drewN | apply below_drew1) | exact HB.out))) : w.heap.size ≤ gb237)); have n3_ := Aside0.mk ((by rw [hg]; exact (below_size (by repeat (first | (with_reducible first | exact HB.out | apply below_alloc | apply pw_below_drewN | apply below_drew1) | exact HB.out))) : w.heap.size ≤ gb237)); clear HB; have HB := n0_; have BK237 := n1_; have GW237 := n2_; have GE237 := n3_; clear n0_ n1_ n2_ n3_; clear hb hbox hg))
            have n0_ := Aside0.mk (blk_drew BK237.out)
            have n1_ := Aside0.mk (below_drew1 HB.out)
            clear BK237
            clear HB
            have BK237 := n0_
            have HB := n1_
            clear n0_ n1_
            have q74 : ((ji9) : Int) ≤ ((l0.length : Int) : Int) := of_decide_eq_true (by first | (with_reducible assumption) | assumption)
            obtain ⟨i074, hi074, _, hsz74, _⟩ := info_parts info5
            have hroom74 : l0.length ≤ c0 := HC0.out
            have hC74 : Kd.C (Kd.int .u8) _ A0 l0.length l0 := HR0.out
            have hcut74 := cut_to (P := Try.prog) 22 5 .i64 Try.underlying22 hi074 A0 l0.length c0 (ji9) (of_decide_eq_true (by first | (with_reducible assumption) | assumption)) q74 hroom74
            have hr74 := Kd.C_take (m := ((ji9) : Int).toNat) hC74 (by omega)
            have hy74 : y239.length = ((ji9) : Int).toNat := (by rw [Ny239.out, List.length_take]; omega)
            rw [← Ny239.out] at hr74
            rw [← hy74] at hcut74
            have HR242 := Aside0.mk hr74
            have HC242 := Aside0.mk (show y239.length ≤ c0 from by omega)
            clear hr74 hC74 hroom74 hi074 hsz74
            have KY74 := Aside0.mk hy74
            clear hy74
            replace q74 := eq_true q74
            refine start_ (n := 9) (S := fun w' => True) (ds := []) #[false, false, false, false, false, false, false, false, false] (by kernel_rfl) rfl rfl trivial (fun hHeld => ?_); refine with_tabW strongboxref4_Decode.tab6 strongboxref4_Decode.bits6 (fun HT_ HW_ => ?_)
            generalize w72.drew = w73 at BK237 HB HR242 hHeld ⊢
            refine pure_ (i := 0) (N := some 19) (v := ?_) (a' := ?_) #[true, false, false, false, false, false, false, false, false] rfl rfl (any_of HT_.out (by kernel_rfl)) (fun _ _ _ h => h) (Or.inl ⟨by rfl, ?_⟩) ?_ ?_
            rotate_left
            · intro w'
              go_simp
              with_reducible rfl
            rotate_left
            · simp only [Act.put, List.setIfInBounds_toArray, List.set_cons_zero, List.set_cons_succ, i64_w, i32_w]
              rfl
            refine pure_ (i := 1) (N := some 20) (v := ?_) (a' := ?_) #[true, true, false, false, false, false, false, false, false] rfl rfl (any_of HT_.out (by kernel_rfl)) (fun _ _ _ h => h) (Or.inl ⟨by rfl, ?_⟩) ?_ ?_
            rotate_left
            · intro w'
              go_simp
              with_reducible rfl
            rotate_left
            · simp only [Act.put, List.setIfInBounds_toArray, List.set_cons_zero, List.set_cons_succ, i64_w, i32_w]
              rfl
            refine pure_ (i := 4) (N := some 23) (v := ?_) (a' := ?_) #[true, true, false, false, true, false, false, false, false] rfl rfl (any_of HT_.out (by kernel_rfl)) (fun _ _ _ h => h) (Or.inl ⟨by rfl, ?_⟩) ?_ ?_
            rotate_left
            · intro w'
              go_simp
              with_reducible rfl
            rotate_left
            · simp only [Act.put, List.setIfInBounds_toArray, List.set_cons_zero, List.set_cons_succ, i64_w, i32_w]
              rfl
            refine pure_ (i := 5) (N := some 24) (v := ?_) (a' := ?_) #[true, true, false, false, true, true, false, false, false] rfl rfl (any_of HT_.out (by kernel_rfl)) (fun _ _ _ h => h) (Or.inl ⟨by rfl, ?_⟩) ?_ ?_
            rotate_left
            · intro w'
              go_simp
              with_reducible rfl
            rotate_left
            · simp only [Act.put, List.setIfInBounds_toArray, List.set_cons_zero, List.set_cons_succ, i64_w, i32_w]
              rfl
            refine pure_ (i := 6) (N := some 25) (v := ?_) (a' := ?_) #[true, true, false, false, true, true, true, false, false] rfl rfl (any_of HT_.out (by kernel_rfl)) (fun _ _ _ h => h) (Or.inl ⟨by rfl, ?_⟩) ?_ ?_
            rotate_left
            · intro w'
              go_simp
              with_reducible rfl
            rotate_left
            · simp only [Act.put, List.setIfInBounds_toArray, List.set_cons_zero, List.set_cons_succ, i64_w, i32_w]
              rfl
            refine one_ (i := 2) (N := some 21) #[true, true, true, false, true, true, true, false, false] rfl rfl (one_of HT_.out (by kernel_rfl)) (by decide) (fun K hK => ?_)
            refine goes_ Try.func61 (by kernel_rfl) rfl #[.slice A0 l0.length c0, .int .i64 ji9, .int .i64 4] (by rfl) rfl rfl (by (try simp only [List.map_toArray, List.map_cons, List.map_nil]); first | done | (simp only [hji9]; rfl) | rfl | (simp only [List.length_drop, List.length_take]; rfl)) ?_
            with_reducible refine (strongboxref4_get.calls k _ _ l0 ji9 4 t238 _ ?side1 ?side2 A8.out).mono ?_
            (case side1 => repeat (first | exact (Kd.C_below HR0.out HB.out) | (with_reducible refine Kd.C_alloc ?_ _) | (with_reducible refine Kd.C_drewN ?_ _) | (with_reducible refine Kd.C_drew ?_)))
            (case side2 => exact HC0.out)
            rintro e w' ⟨rfl, ⟨nd, rfl⟩⟩
            refine ⟨_, rfl, ?_⟩
            refine hK.out _ _ trivial (fun hHeld => ?_)
            clear hK K
            refine norm_ (a' := ?_) ?_ ?_
            rotate_left
            · show Act.put _ (some 21) _ = _
              simp only [Act.put, List.setIfInBounds_toArray, List.set_cons_zero, List.set_cons_succ, i64_w, i32_w]
              rfl
            refine pure_ (i := 3) (N := some 22) (v := ?_) (a' := ?_) #[true, true, true, true, true, true, true, false, false] rfl rfl (any_of HT_.out (by kernel_rfl)) (fun _ _ _ h => h) (Or.inl ⟨by rfl, ?_⟩) ?_ ?_
            rotate_left
            · intro w'
              go_simp
              with_reducible rfl
            rotate_left
            · simp only [Act.put, List.setIfInBounds_toArray, List.set_cons_zero, List.set_cons_succ, i64_w, i32_w]
              rfl
            refine one_ (i := 7) (N := some 26) #[true, true, true, true, true, true, true, true, false] rfl rfl (one_of HT_.out (by kernel_rfl)) (by decide) (fun K hK => ?_)
            refine goes_ Try.func20 (by kernel_rfl) rfl #[.slice A0 y239.length c0] (by rfl) rfl rfl (by (try simp only [List.map_toArray, List.map_cons, List.map_nil]); first | done | rfl | (simp only [List.length_drop, List.length_take]; rfl)) ?_
            with_reducible refine (strongboxref4_Sum.calls k _ _ y239 t243 _ ?side1 ?side2 A12.out).mono ?_
            (case side1 => repeat (first | exact (Kd.C_below HR242.out (by repeat (first | (with_reducible first | exact HB.out | apply below_alloc | apply pw_below_drewN | apply below_drew1 | refine below_set ?_ GE237.out) | exact HB.out))) | (with_reducible refine Kd.C_alloc ?_ _) | (with_reducible refine Kd.C_drewN ?_ _) | (with_reducible refine Kd.C_drew ?_)))
            (case side2 => exact HC242.out)
            rintro e w' ⟨rfl, ⟨nd, rfl⟩⟩
            refine ⟨_, rfl, ?_⟩
            refine hK.out _ _ trivial (fun hHeld => ?_)
            clear hK K
            refine norm_ (a' := ?_) ?_ ?_
            rotate_left
            · show Act.put _ (some 26) _ = _
              simp only [Act.put, List.setIfInBounds_toArray, List.set_cons_zero, List.set_cons_succ, i64_w, i32_w]
              rfl
            refine pure_ (i := 8) (N := some 27) (v := ?_) (a' := ?_) #[true, true, true, true, true, true, true, true, true] rfl rfl (any_of HT_.out (by kernel_rfl)) (fun _ _ _ h => h) (Or.inl ⟨by rfl, ?_⟩) ?_ ?_
            rotate_left
            · intro w'
              go_simp
              with_reducible rfl
            rotate_left
            · simp only [Act.put, List.setIfInBounds_toArray, List.set_cons_zero, List.set_cons_succ, i64_w, i32_w]
              rfl
            refine done_ (done_of HT_.out (by kernel_rfl)) ?_
            have hcz75_0 : w73.cell? ⟨gb237, 0, none⟩ = some (.int .i64 0) := (blk_cell BK237.out 0).trans rfl
            have hcz75_1 : w73.cell? ⟨gb237, 1, none⟩ = some (.string (⟨#[]⟩ : ByteArray)) := (blk_cell BK237.out 1).trans rfl
            have hcz75_2 : w73.cell? ⟨gb237, 2, none⟩ = some (.slice none 0 0) := (blk_cell BK237.out 2).trans rfl
            have hfz75_0 := blk_frozen BK237.out 0
            have hfz75_1 := blk_frozen BK237.out 1
            have hfz75_2 := blk_frozen BK237.out 2
            try go_wp2
            refine bodyPost_ret (results_ct rfl _ _ gb237 45 #[.int .i64 0, .string (⟨#[]⟩ : ByteArray), .slice none 0 0] (0, 0) _ rfl (by (with_reducible repeat (first | refine blk_drewN ?_ _ | refine blk_drew ?_ | refine blk_alloc ?_ _)); refine blk_put (cs := #[.int .i64 0, .string (⟨#[]⟩ : ByteArray), .slice none 0 0]) ?_ 2 _ rfl; (with_reducible repeat (first | refine blk_drewN ?_ _ | refine blk_drew ?_ | refine blk_alloc ?_ _)); refine blk_put (cs := #[.int .i64 0, .string (⟨#[]⟩ : ByteArray), .slice none 0 0]) ?_ 1 _ rfl; (with_reducible repeat (first | refine blk_drewN ?_ _ | refine blk_drew ?_ | refine blk_alloc ?_ _)); refine blk_put (cs := #[.int .i64 0, .string (⟨#[]⟩ : ByteArray), .slice none 0 0]) ?_ 0 _ rfl; (with_reducible repeat (first | refine blk_drewN ?_ _ | refine blk_drew ?_ | refine blk_alloc ?_ _)); exact BK237.out) Try.underlying45 rfl (by kernel_rfl)) rfl ?_
            exact ⟨_, by first | rfl | (simp [errW_none, errW_some] <;> rfl) | (simp only [← hji9]; first | rfl | (simp [errW_none, errW_some] <;> rfl)) | (simp [*, errW_none, errW_some] <;> rfl), by first | exact Kd.R_nil _ _ _ _ _ | exact Kd.N_nil _ _ _ _ _ | exact Kd.V_nil _ _ _ _ _ | exact Kd.Q_nil _ _ _ _ _ | exact Kd.S_nil _ _ _ _ _, by repeat (first | (with_reducible first | exact HB.out | apply below_alloc | apply pw_below_drewN | apply below_drew1 | refine below_set ?_ GE237.out) | exact HB.out)⟩
        · rw [if_neg c11] at H
          exact absurd H (by simp)
      · rw [if_neg c10] at H
        exact absurd H (by simp)

end Go.Proofs.Ytnlpipjdpmaggaa.PJournalReads
