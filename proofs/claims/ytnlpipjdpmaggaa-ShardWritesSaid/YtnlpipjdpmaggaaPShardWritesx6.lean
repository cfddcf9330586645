/- WRITTEN FOR THIS CLAIM by a program of the prover's own (the kit's printing program, with constructs added): for each Go function that the statement reaches a Lean function with the same answers, and the proof of that. Not trusted: Lean checks it. -/
import Derived.Test.YtnlpipjdpmaggaaPShardWritesx0
import Derived.Test.YtnlpipjdpmaggaaPShardWritesx2
import Derived.Test.YtnlpipjdpmaggaaPShardWritesx4
import Derived.Test.YtnlpipjdpmaggaaPShardWritesx5
import Derived.Test.YtnlpipjdpmaggaaMore
namespace Go.Proofs.Ytnlpipjdpmaggaa.PShardWrites
open Go.RowKit Go.Proofs.YtnlpipjdpmaggaaW.PrintWords Go.Proofs.YtnlpipjdpmaggaaW.PrintLast Go.Proofs.YtnlpipjdpmaggaaW.PrintMore
attribute [local go_sem] max2_int min2_int max_two min_two max_three min_three max_four min_four   -- for this text's walks alone
set_option linter.unusedVariables false
set_option linter.unusedSimpArgs false

/-! ### shard_parse: function 50 -/
def shard_parse.l0 : Nat → List Int → List Int → Int → Int → Int → Int → Int → Int → Int → Option (Int × Int × Int × Int × Int × Int × List Int × Int × Int)
  | 0, _, _, _, _, _, _, _, _, _ => none
  | k + 1, x7, x10, x11, x180000, x180001, x180002, x180003, x180004, x180005 => if (x10.length : Int) < x180004 then (if (x7.length : Int) < (wrap64 ((mn x180003 (wrap64 (x180004 - (x10.length : Int)))) + 4)) then (some (0, 0, 0, 0, 0, 0, ([] : List Int), 0, 2)) else (if 0 ≤ (mn x180003 (wrap64 (x180004 - (x10.length : Int)))) then (if (mn x180003 (wrap64 (x180004 - (x10.length : Int)))) ≤ (wrap64 ((mn x180003 (wrap64 (x180004 - (x10.length : Int)))) + 4)) then (if (wrap64 ((mn x180003 (wrap64 (x180004 - (x10.length : Int)))) + 4)) ≤ (x7.length : Int) then ((crc_Read.f k ((x7.take ((wrap64 ((mn x180003 (wrap64 (x180004 - (x10.length : Int)))) + 4)) : Int).toNat).drop ((mn x180003 (wrap64 (x180004 - (x10.length : Int)))) : Int).toNat)).bind fun bt188 => (if (mn x180003 (wrap64 (x180004 - (x10.length : Int)))) ≤ (x7.length : Int) then ((crc_Sum.f k (x7.take ((mn x180003 (wrap64 (x180004 - (x10.length : Int)))) : Int).toNat)).bind fun t195 => (if bt188.1 = t195 then ((some (x7.take ((mn x180003 (wrap64 (x180004 - (x10.length : Int)))) : Int).toNat : List Int)).bind fun y196 => (if x10.length + y196.length < 140737488355328 then (if 0 ≤ (wrap64 ((mn x180003 (wrap64 (x180004 - (x10.length : Int)))) + 4)) then (shard_parse.l0 k (x7.drop ((wrap64 ((mn x180003 (wrap64 (x180004 - (x10.length : Int)))) + 4)) : Int).toNat) (x10 ++ y196) (wrap64 (x11 + 1)) x180000 x180001 x180002 x180003 x180004 x180005) else (none)) else (none))) else (some (0, 0, 0, 0, 0, 0, ([] : List Int), x11, 5)))) else (none))) else (none)) else (none)) else (none))) else (if (x7.length : Int) > 0 then (some (0, 0, 0, 0, 0, 0, ([] : List Int), 0, 4)) else (some (x180000, x180001, x180002, x180003, x180004, x180005, x10, 0, 0)))
def shard_parse.f (k : Nat) (l0 : List Int) : Option (Int × Int × Int × Int × Int × Int × List Int × Int × Int) := (shard_opened.f k l0).bind fun bt168 => (if bt168.2.2.2.2.2.2.2.2 = 0 then (if 0 ≤ (mn bt168.2.2.2.2.1 (bt168.2.2.2.2.2.2.1.length : Int)) then (if (mn bt168.2.2.2.2.1 (bt168.2.2.2.2.2.2.1.length : Int) : Int).toNat ≤ 281474976710656 then (shard_parse.l0 k bt168.2.2.2.2.2.2.1 (List.replicate 0 0) 0 bt168.1 bt168.2.1 bt168.2.2.1 bt168.2.2.2.1 bt168.2.2.2.2.1 bt168.2.2.2.2.2.1) else (none)) else (none)) else (some (0, 0, 0, 0, 0, 0, ([] : List Int), bt168.2.2.2.2.2.2.2.1, bt168.2.2.2.2.2.2.2.2)))
theorem shard_parse.mono_l : ∀ k, (∀ y0 y1 y2 y3 y4 y5 y6 y7 y8, LeO (shard_parse.l0 k y0 y1 y2 y3 y4 y5 y6 y7 y8) (shard_parse.l0 (k + 1) y0 y1 y2 y3 y4 y5 y6 y7 y8))
  | 0 => fun _ _ _ _ _ _ _ _ _ r h => by simp [shard_parse.l0] at h
  | k + 1 => by
    have ih0 := shard_parse.mono_l k
    · intro y0 y1 y2 y3 y4 y5 y6 y7 y8
      unfold shard_parse.l0
      repeat' first
      | (with_reducible exact ih0 _ _ _ _ _ _ _ _ _)
      | (with_reducible exact crc_Read.mono _ _)
      | (with_reducible exact crc_Sum.mono _ _)
      | (with_reducible exact shard_opened.mono _ _)
      | (with_reducible exact LeO.refl _)
      | (with_reducible exact LeO.none _)
      | (with_reducible refine LeO.ite ?_ ?_)
      | (with_reducible refine LeO.bind ?_ (fun _ => ?_))
      | exact ih0 _ _ _ _ _ _ _ _ _
      | exact crc_Read.mono _ _
      | exact crc_Sum.mono _ _
      | exact shard_opened.mono _ _
      | exact LeO.none _
      | refine LeO.ite ?_ ?_
      | refine LeO.bind ?_ (fun _ => ?_)
theorem shard_parse.mono : ∀ a0 k, LeO (shard_parse.f k a0) (shard_parse.f (k + 1) a0) := by
  intro a0 k
  have ih0 := shard_parse.mono_l k
  unfold shard_parse.f
  repeat' first
      | (with_reducible exact ih0 _ _ _ _ _ _ _ _ _)
      | (with_reducible exact crc_Read.mono _ _)
      | (with_reducible exact crc_Sum.mono _ _)
      | (with_reducible exact shard_opened.mono _ _)
      | (with_reducible exact LeO.refl _)
      | (with_reducible exact LeO.none _)
      | (with_reducible refine LeO.ite ?_ ?_)
      | (with_reducible refine LeO.bind ?_ (fun _ => ?_))
      | exact ih0 _ _ _ _ _ _ _ _ _
      | exact crc_Read.mono _ _
      | exact crc_Sum.mono _ _
      | exact shard_opened.mono _ _
      | exact LeO.none _
      | refine LeO.ite ?_ ?_
      | refine LeO.bind ?_ (fun _ => ?_)
def shard_parse.T14 : Bool × List (List Nat × List Nat) := (true, [([], []), ([], []), ([], []), ([1, 2], [1, 2]), ([0, 3], [0, 3]), ([], []), ([], []), ([6], [6]), ([5, 7], [5, 7]), ([4, 4, 0, 1, 2, 3, 4], [0, 4]), ([8, 9, 0, 1, 2, 3, 4, 5, 6, 7, 8, 9], [1, 5, 8])])
def shard_parse.B14 : List Nat := [0, 0, 0, 6, 15, 0, 0, 64, 224, 31, 1023]
theorem shard_parse.tab14 : rtab .any (opsOf Try.f50 14) = shard_parse.T14 := by kernel_rfl
theorem shard_parse.bits14 : waitsOk shard_parse.T14.2 shard_parse.B14 = true := by kernel_rfl
set_option maxHeartbeats 8000000 in
set_option maxRecDepth 100000 in
theorem shard_parse.calls (k : Nat) (A0 : Option Addr) (c0 : Nat) (l0 : List Int) (r1 : Int) (r2 : Int) (r3 : Int) (r4 : Int) (r5 : Int) (r6 : Int) (r7 : List Int) (r8 : Int) (r9 : Int) (w : World) (hr0 : Kd.C (Kd.int .u8) w A0 l0.length l0) (hc0 : l0.length ≤ c0) (h : shard_parse.f k l0 = some (r1, r2, r3, r4, r5, r6, r7, r8, r9)) :
    Calls Try.prog 50 #[.slice A0 l0.length c0] w fun e w' => ∃ v6_ : Value, e = .returned (.tuple #[.agg #[.int .i64 r1, .int .i64 r2, .int .i64 r3, .int .i64 r4, .int .i64 r5, .int .i64 r6], v6_, .int .i64 r8, .int .i64 r9]) ∧ Kd.R (Kd.int .u8) 5 w' w.heap.size (fun _ => True) v6_ r7 ∧ Below w.heap.size w w' := by
  have hu32 := Try.underlying32
  have HR0 := Aside0.mk hr0
  have HC0 := Aside0.mk hc0
  clear hr0 hc0
  have HB := Aside0.mk (Below.refl w.heap.size w)
  have H : ((shard_opened.f k l0).bind fun bt168 => (if bt168.2.2.2.2.2.2.2.2 = 0 then (if 0 ≤ (mn bt168.2.2.2.2.1 (bt168.2.2.2.2.2.2.1.length : Int)) then (if (mn bt168.2.2.2.2.1 (bt168.2.2.2.2.2.2.1.length : Int) : Int).toNat ≤ 281474976710656 then (shard_parse.l0 k bt168.2.2.2.2.2.2.1 (List.replicate 0 0) 0 bt168.1 bt168.2.1 bt168.2.2.1 bt168.2.2.2.1 bt168.2.2.2.2.1 bt168.2.2.2.2.2.1) else (none)) else (none)) else (some (0, 0, 0, 0, 0, 0, ([] : List Int), bt168.2.2.2.2.2.2.2.1, bt168.2.2.2.2.2.2.2.2)))) = some (r1, r2, r3, r4, r5, r6, r7, r8, r9) := h
  clear h
  replace H := Option.bind_eq_some_iff.mp H
  obtain ⟨⟨t168, t169, t170, t171, t172, t173, t174, t177, t178⟩, A20, H⟩ := H
  replace H : (if t178 = 0 then (if 0 ≤ (mn t172 (t174.length : Int)) then (if (mn t172 (t174.length : Int) : Int).toNat ≤ 281474976710656 then (shard_parse.l0 k t174 (List.replicate 0 0) 0 t168 t169 t170 t171 t172 t173) else (none)) else (none)) else (some (0, 0, 0, 0, 0, 0, ([] : List Int), t177, t178))) = some (r1, r2, r3, r4, r5, r6, r7, r8, r9) := H
  have A2 := Aside0.mk A20
  clear A20
  by_cases c3 : t178 = 0
  · rw [if_pos c3] at H
    have c3b0 : (t178 == 0) = true := beq_iff_eq.mpr c3
    have c3b1 : (t178 != 0) = false := bne_eq_false_iff_eq.mpr c3
    clear c3
    obtain ⟨ji4, hji4⟩ : ∃ j_ : Int, (mn t172 (t174.length : Int)) = j_ := ⟨_, rfl⟩
    replace H : (if 0 ≤ (ji4) then (if (ji4 : Int).toNat ≤ 281474976710656 then (shard_parse.l0 k t174 (List.replicate 0 0) 0 t168 t169 t170 t171 t172 t173) else (none)) else (none)) = some (r1, r2, r3, r4, r5, r6, r7, r8, r9) := by first | (rw [hji4] at H; exact H) | (simp only [hji4] at H ⊢; exact H)
    (try rw [hji4] at A2)
    have hji4_ : (if (t174.length : Int) < t172 then (t174.length : Int) else t172) = ji4 := hji4
    by_cases c5 : 0 ≤ (ji4)
    · rw [if_pos c5] at H
      have c5b0 := eq_true c5
      have c5b1 : decide (0 ≤ (ji4)) = true := decide_eq_true c5
      clear c5
      by_cases c6 : (ji4 : Int).toNat ≤ 281474976710656
      · rw [if_pos c6] at H
        have c6b0 := eq_true c6
        have c6b1 : decide ((ji4 : Int).toNat ≤ 281474976710656) = true := decide_eq_true c6
        clear c6
        obtain ⟨y180, hy180⟩ : ∃ y_ : List Int, y_ = (List.replicate 0 0) := ⟨_, rfl⟩
        replace H : (shard_parse.l0 k t174 y180 0 t168 t169 t170 t171 t172 t173) = some (r1, r2, r3, r4, r5, r6, r7, r8, r9) := by first | (rw [hy180]; with_reducible exact H) | (have H2_ := (Option.bind_some _ _).symm.trans H; rw [hy180]; with_reducible exact H2_) | (have H2_ := (Option.bind_some _ _).symm.trans H; with_reducible exact H2_) | with_reducible exact H | (rw [hy180]; exact H) | exact H
        have Ny180 := Aside0.mk hy180
        clear hy180
        have H' := Aside0.mk H
        clear H
        go_enter Try.func50, Try.ntmps50
        go_wp2_with (first | ((with_reducible refine gate_dst (N := 2) rfl ?_); refine box_event ?hg (N := 2) ?hd (cs := #[.int .i64 0, .int .i64 0, .int .i64 0, .int .i64 0, .int .i64 0, .int .i64 0]) (t := 32) ?hr ?_; (case hd => rfl); (case hg => rfl); (case hr => first | (go_simp; done) | (go_simp; rfl)); intro gb167 hg w7 hbox hb; have n0_ := Aside0.mk (below_step (by repeat (first | (with_reducible first | exact HB.out | apply below_alloc | apply pw_below_drewN | apply below_drew1) | exact HB.out)) hb); have n1_ := Aside0.mk (hbox); have n2_ := Aside0.mk ((by rw [hg]; exact (below_size (by repeat (first | (with_reducible first | exact HB.out | apply below_alloc | apply pw_below_drewN | apply below_drew1) | exact HB.out))) : w.heap.size ≤ gb167)); have n3_ := Aside0.mk ((by rw [hg]; exact (below_size (by repeat (first | (with_reducible first | exact HB.out | apply below_alloc | apply pw_below_drewN | apply below_drew1) | exact HB.out))) : w.heap.size ≤ gb167)); clear HB; have HB := n0_; have BK167 := n1_; have GW167 := n2_; have GE167 := n3_; clear n0_ n1_ n2_ n3_; clear hb hbox hg) | ((with_reducible refine gate_callee (f := 71) rfl ?_); refine goesL_ (some 17) rfl rfl Try.func71 (by kernel_rfl) rfl #[.slice A0 l0.length c0] rfl (by (try simp only [List.map_toArray, List.map_cons, List.map_nil]); first | done | rfl | (simp only [List.length_drop, List.length_take]; rfl)) ?_; (with_reducible refine (shard_opened.calls k (fun k_ => k_ < w.heap.size) _ _ l0 t168 t169 t170 t171 t172 t173 t174 t177 t178 _ ?side1 A2.out).mono ?_); (case side1 => exact Kd.V_mk HC0.out (Kd.F_below (Kd.C_F (Kd.heap_int .u8) HR0.out) (by repeat (first | (with_reducible first | exact HB.out | apply below_alloc | apply pw_below_drewN | apply below_drew1 | refine below_set ?_ GE167.out) | exact HB.out)))); rintro e w8 ⟨v175, rfl, ho0, hb⟩; refine ⟨_, rfl, ?_⟩; have n0_ := Aside0.mk (Kd.V_lower (Kd.V_mono (ok' := fun k_ => k_ ≠ gb167) ho0 (fun k_ hk_ => Or.elim hk_ (fun hs_ => fun e_ => Nat.not_le.2 hs_ (by rw [e_]; exact GW167.out)) (fun hn_ => (Kd.freshB (g := gb167) (o := .cells #[.int .i64 0, .int .i64 0, .int .i64 0, .int .i64 0, .int .i64 0, .int .i64 0] 32 (0, 0)) (by (with_reducible repeat (first | refine blk_drewN ?_ _ | refine blk_drew ?_ | refine blk_alloc ?_ _)); exact BK167.out) k_ hn_)))) (below_size (by repeat (first | (with_reducible first | exact HB.out | apply below_alloc | apply pw_below_drewN | apply below_drew1 | refine below_set ?_ GE167.out) | exact HB.out)))); have n1_ := Aside0.mk (blk_below (g := gb167) (o := .cells #[.int .i64 0, .int .i64 0, .int .i64 0, .int .i64 0, .int .i64 0, .int .i64 0] 32 (0, 0)) (by (with_reducible repeat (first | refine blk_drewN ?_ _ | refine blk_drew ?_ | refine blk_alloc ?_ _)); exact BK167.out) hb); have n2_ := Aside0.mk (below_step (by repeat (first | (with_reducible first | exact HB.out | apply below_alloc | apply pw_below_drewN | apply below_drew1 | refine below_set ?_ GE167.out) | exact HB.out)) hb); clear BK167; clear HB; have HO176 := n0_; have BK167 := n1_; have HB := n2_; clear n0_ n1_ n2_; (try clear hb); (try clear hb2); (try clear hk); (try clear hi); (try clear ho0)) | ((with_reducible refine gate_dst (N := 6) rfl ?_); refine box_event ?hg (N := 6) ?hd (cs := #[.int .i64 0, .int .i64 0, .int .i64 0, .int .i64 0, .int .i64 0, .int .i64 0]) (t := 32) ?hr ?_; (case hd => rfl); (case hg => rfl); (case hr => first | (go_simp; done) | (go_simp; rfl)); intro gb179 hg w9 hbox hb; have n0_ := Aside0.mk (Kd.V_below (Kd.V_elderB (by (with_reducible repeat (first | apply Kd.V_alloc | apply Kd.V_drewN | apply Kd.V_drew)); exact HO176.out) gb179 (Nat.le_of_eq hg.symm)) hb); have n1_ := Aside0.mk (blk_below (g := gb167) (o := .cells #[.int .i64 0, .int .i64 0, .int .i64 0, .int .i64 0, .int .i64 0, .int .i64 0] 32 (0, 0)) (by (with_reducible repeat (first | refine blk_drewN ?_ _ | refine blk_drew ?_ | refine blk_alloc ?_ _)); exact BK167.out) hb); have n2_ := Aside0.mk (below_step (by repeat (first | (with_reducible first | exact HB.out | apply below_alloc | apply pw_below_drewN | apply below_drew1 | refine below_set ?_ GE167.out) | exact HB.out)) hb); have n3_ := Aside0.mk (hbox); have n4_ := Aside0.mk ((by rw [hg]; exact (below_size (by repeat (first | (with_reducible first | exact HB.out | apply below_alloc | apply pw_below_drewN | apply below_drew1 | refine below_set ?_ GE167.out) | exact HB.out))) : w.heap.size ≤ gb179)); have n5_ := Aside0.mk ((by rw [hg]; exact (below_size (by repeat (first | (with_reducible first | exact HB.out | apply below_alloc | apply pw_below_drewN | apply below_drew1 | refine below_set ?_ GE167.out) | exact HB.out))) : w.heap.size ≤ gb179)); have n6_ := Aside0.mk ((by rw [hg]; exact Nat.ne_of_lt (blk_lt (g := gb167) (o := .cells #[.int .i64 0, .int .i64 0, .int .i64 0, .int .i64 0, .int .i64 0, .int .i64 0] 32 (0, 0)) (by (with_reducible repeat (first | refine blk_drewN ?_ _ | refine blk_drew ?_ | refine blk_alloc ?_ _)); exact BK167.out)) : gb167 ≠ gb179)); have n7_ := Aside0.mk ((by rw [hg]; exact Nat.ne_of_gt (blk_lt (g := gb167) (o := .cells #[.int .i64 0, .int .i64 0, .int .i64 0, .int .i64 0, .int .i64 0, .int .i64 0] 32 (0, 0)) (by (with_reducible repeat (first | refine blk_drewN ?_ _ | refine blk_drew ?_ | refine blk_alloc ?_ _)); exact BK167.out)) : gb179 ≠ gb167)); clear HO176; clear BK167; clear HB; have HO176 := n0_; have BK167 := n1_; have HB := n2_; have BK179 := n3_; have GW179 := n4_; have GE179 := n5_; have NB167_179 := n6_; have NB179_167 := n7_; clear n0_ n1_ n2_ n3_ n4_ n5_ n6_ n7_; clear hb hbox hg; have hnb10 := NB179_167.out; have hnc10 := NB167_179.out; have hcz11_0 : w9.cell? ⟨gb179, 0, none⟩ = some (.int .i64 0) := (blk_cell BK179.out 0).trans rfl; have hcz11_1 : w9.cell? ⟨gb179, 1, none⟩ = some (.int .i64 0) := (blk_cell BK179.out 1).trans rfl; have hcz11_2 : w9.cell? ⟨gb179, 2, none⟩ = some (.int .i64 0) := (blk_cell BK179.out 2).trans rfl; have hcz11_3 : w9.cell? ⟨gb179, 3, none⟩ = some (.int .i64 0) := (blk_cell BK179.out 3).trans rfl; have hcz11_4 : w9.cell? ⟨gb179, 4, none⟩ = some (.int .i64 0) := (blk_cell BK179.out 4).trans rfl; have hcz11_5 : w9.cell? ⟨gb179, 5, none⟩ = some (.int .i64 0) := (blk_cell BK179.out 5).trans rfl; have hfz11_0 := blk_frozen BK179.out 0; have hfz11_1 := blk_frozen BK179.out 1; have hfz11_2 := blk_frozen BK179.out 2; have hfz11_3 := blk_frozen BK179.out 3; have hfz11_4 := blk_frozen BK179.out 4; have hfz11_5 := blk_frozen BK179.out 5; obtain ⟨Ao12, co12, eo12⟩ := Kd.V_slice HO176.out; subst eo12) | ((with_reducible refine gate_dst (N := 32) rfl ?_); refine Go.Proofs.Ytnlpipjdpmaggaa.More.R_makec (Kd.int .u8) _ 5 rfl (N := 32) rfl 22 _ _ rfl ji4 rfl rfl Try.underlying22 (.int .u8 0) 1 info5 rfl (by decide) (by omega) 0 (ok := fun _ => True) (okp := fun _ => True) rfl (fun _ hk => hk) trivial (of_decide_eq_true (by first | (with_reducible assumption) | assumption)) (Nat.le_trans (Nat.mul_le_mul_right _ (of_decide_eq_true (by first | (with_reducible assumption) | assumption) : ji4.toNat ≤ 281474976710656)) (by omega)) (Below.refl _ _) (Nat.le_refl _) ?_; intro v181 w13 ho14 hb hg_ hnew_; clear hg_ hnew_; (first | rw [← Ny180.out] at ho14 | (simp only [Int.reduceToNat] at ho14; rw [← Ny180.out] at ho14)); have n0_ := Aside0.mk (Kd.V_elder' (by (with_reducible repeat (first | apply Kd.V_alloc | apply Kd.V_drewN | apply Kd.V_drew)); exact (Kd.V_mono (Kd.V_far (p := ⟨gb179, 5, none⟩) (Kd.V_far (p := ⟨gb179, 4, none⟩) (Kd.V_far (p := ⟨gb179, 3, none⟩) (Kd.V_far (p := ⟨gb179, 2, none⟩) (Kd.V_far (p := ⟨gb179, 1, none⟩) (Kd.V_far (p := ⟨gb179, 0, none⟩) (Kd.V_mono HO176.out (fun k_ hk => (⟨hk, hk.2⟩ : _ ∧ k_ ≠ gb179))) (fun _ hk => hk.2) (.int .i64 t168)) (fun _ hk => hk.2) (.int .i64 t169)) (fun _ hk => hk.2) (.int .i64 t170)) (fun _ hk => hk.2) (.int .i64 t171)) (fun _ hk => hk.2) (.int .i64 t172)) (fun _ hk => hk.2) (.int .i64 t173)) (fun _ h_ => h_.1))) (Kd.R_base ho14) hb); have n1_ := Aside0.mk (Kd.R_lower ho14 (below_size (by repeat (first | (with_reducible first | exact HB.out | apply below_alloc | apply pw_below_drewN | apply below_drew1 | refine below_set ?_ GE167.out | refine below_set ?_ GE179.out) | exact HB.out)))); have n2_ := Aside0.mk (blk_below (g := gb167) (o := .cells #[.int .i64 0, .int .i64 0, .int .i64 0, .int .i64 0, .int .i64 0, .int .i64 0] 32 (0, 0)) (by (with_reducible repeat (first | refine blk_drewN ?_ _ | refine blk_drew ?_ | refine blk_alloc ?_ _)); refine blk_far ?_ NB167_179.out _; (with_reducible repeat (first | refine blk_drewN ?_ _ | refine blk_drew ?_ | refine blk_alloc ?_ _)); refine blk_far ?_ NB167_179.out _; (with_reducible repeat (first | refine blk_drewN ?_ _ | refine blk_drew ?_ | refine blk_alloc ?_ _)); refine blk_far ?_ NB167_179.out _; (with_reducible repeat (first | refine blk_drewN ?_ _ | refine blk_drew ?_ | refine blk_alloc ?_ _)); refine blk_far ?_ NB167_179.out _; (with_reducible repeat (first | refine blk_drewN ?_ _ | refine blk_drew ?_ | refine blk_alloc ?_ _)); refine blk_far ?_ NB167_179.out _; (with_reducible repeat (first | refine blk_drewN ?_ _ | refine blk_drew ?_ | refine blk_alloc ?_ _)); refine blk_far ?_ NB167_179.out _; (with_reducible repeat (first | refine blk_drewN ?_ _ | refine blk_drew ?_ | refine blk_alloc ?_ _)); exact BK167.out) hb); have n3_ := Aside0.mk (blk_below (g := gb179) (o := .cells #[.int .i64 t168, .int .i64 t169, .int .i64 t170, .int .i64 t171, .int .i64 t172, .int .i64 t173] 32 (0, 0)) (by (with_reducible repeat (first | refine blk_drewN ?_ _ | refine blk_drew ?_ | refine blk_alloc ?_ _)); refine blk_put (cs := #[.int .i64 t168, .int .i64 t169, .int .i64 t170, .int .i64 t171, .int .i64 t172, .int .i64 0]) ?_ 5 _ rfl; (with_reducible repeat (first | refine blk_drewN ?_ _ | refine blk_drew ?_ | refine blk_alloc ?_ _)); refine blk_put (cs := #[.int .i64 t168, .int .i64 t169, .int .i64 t170, .int .i64 t171, .int .i64 0, .int .i64 0]) ?_ 4 _ rfl; (with_reducible repeat (first | refine blk_drewN ?_ _ | refine blk_drew ?_ | refine blk_alloc ?_ _)); refine blk_put (cs := #[.int .i64 t168, .int .i64 t169, .int .i64 t170, .int .i64 0, .int .i64 0, .int .i64 0]) ?_ 3 _ rfl; (with_reducible repeat (first | refine blk_drewN ?_ _ | refine blk_drew ?_ | refine blk_alloc ?_ _)); refine blk_put (cs := #[.int .i64 t168, .int .i64 t169, .int .i64 0, .int .i64 0, .int .i64 0, .int .i64 0]) ?_ 2 _ rfl; (with_reducible repeat (first | refine blk_drewN ?_ _ | refine blk_drew ?_ | refine blk_alloc ?_ _)); refine blk_put (cs := #[.int .i64 t168, .int .i64 0, .int .i64 0, .int .i64 0, .int .i64 0, .int .i64 0]) ?_ 1 _ rfl; (with_reducible repeat (first | refine blk_drewN ?_ _ | refine blk_drew ?_ | refine blk_alloc ?_ _)); refine blk_put (cs := #[.int .i64 0, .int .i64 0, .int .i64 0, .int .i64 0, .int .i64 0, .int .i64 0]) ?_ 0 _ rfl; (with_reducible repeat (first | refine blk_drewN ?_ _ | refine blk_drew ?_ | refine blk_alloc ?_ _)); exact BK179.out) hb); have n4_ := Aside0.mk (below_step (by repeat (first | (with_reducible first | exact HB.out | apply below_alloc | apply pw_below_drewN | apply below_drew1 | refine below_set ?_ GE167.out | refine below_set ?_ GE179.out) | exact HB.out)) hb); clear HO176; clear BK167; clear BK179; clear HB; have HO176 := n0_; have HO182 := n1_; have BK167 := n2_; have BK179 := n3_; have HB := n4_; clear n0_ n1_ n2_ n3_ n4_; clear hb ho14))
        go_loopg [7, 10, 11] k (fun kq v7 v10 v11 w' => ∃ (x7_1 : List Int) (x10_1 : List Int) (x11_1 : Int) (x168000_1 : Int) (x168001_1 : Int) (x168002_1 : Int) (x168003_1 : Int) (x168004_1 : Int) (x168005_1 : Int), v11 = .int .i64 x11_1 ∧ Aside0 (shard_parse.l0 kq x7_1 x10_1 x11_1 t168 t169 t170 t171 t172 t173 = some (r1, r2, r3, r4, r5, r6, r7, r8, r9)) ∧ Aside0 (kq ≤ k) ∧ Aside0 (Kd.V (Kd.int .u8) 5 w' w.heap.size (fun k_ => some k_ ≠ (v10 : Value).ownBlock ∧ k_ ≠ gb167 ∧ k_ ≠ gb179) v7 x7_1) ∧ Aside0 (Kd.R (Kd.int .u8) 5 w' w.heap.size (fun _ => True) v10 x10_1) ∧ Aside0 (w'.heap[gb167]? = some (.cells #[.int .i64 x168000_1, .int .i64 x168001_1, .int .i64 x168002_1, .int .i64 x168003_1, .int .i64 x168004_1, .int .i64 x168005_1] 32 (0, 0))) ∧ Aside0 (w'.heap[gb179]? = some (.cells #[.int .i64 t168, .int .i64 t169, .int .i64 t170, .int .i64 t171, .int .i64 t172, .int .i64 t173] 32 (0, 0))) ∧ Aside0 (Below w.heap.size w w'))
        case atStart => exact ⟨(t174), (y180), (0), (0), (0), (0), (0), (0), (0), (by first | rfl | (simp; done) | (simp [*]; done)), H', ⟨Nat.le_refl _⟩, ⟨by (with_reducible repeat (first | apply Kd.V_alloc | apply Kd.V_drewN | apply Kd.V_drew)); exact Kd.V_mono HO176.out (fun _ hk => ⟨hk.2, ⟨hk.1.1, hk.1.2⟩⟩)⟩, ⟨by (with_reducible repeat (first | apply Kd.R_alloc | apply Kd.R_drewN | apply Kd.R_drew)); exact HO182.out⟩, ⟨by (with_reducible repeat (first | refine blk_drewN ?_ _ | refine blk_drew ?_ | refine blk_alloc ?_ _)); exact BK167.out⟩, ⟨by (with_reducible repeat (first | refine blk_drewN ?_ _ | refine blk_drew ?_ | refine blk_alloc ?_ _)); exact BK179.out⟩, ⟨by repeat (first | (with_reducible first | exact HB.out | apply below_alloc | apply pw_below_drewN | apply below_drew1 | refine below_set ?_ GE167.out | refine below_set ?_ GE179.out) | exact HB.out)⟩⟩
        case round =>
          clear H'
          try clear c1
          try clear p2
          try clear c3
          try clear c3b0
          try clear c3b1
          try clear c5
          try clear c5b0
          try clear c5b1
          try clear c6
          try clear c6b0
          try clear c6b1
          try clear c7
          try clear c10
          try clear hcz11_0
          try clear hcz11_1
          try clear hcz11_2
          try clear hcz11_3
          try clear hcz11_4
          try clear hcz11_5
          try clear hfz11_0
          try clear hfz11_1
          try clear hfz11_2
          try clear hfz11_3
          try clear hfz11_4
          try clear hfz11_5
          obtain ⟨x7_1, x10_1, x11_1, x168000_1, x168001_1, x168002_1, x168003_1, x168004_1, x168005_1, rfl, HA, HK1, HO_7, HO_10, BK167, BK179, HB⟩ := hrel
          cases gk with
          | zero => exact absurd HA.out (by simp [shard_parse.l0])
          | succ k1 =>
            have H := HA.out
            clear HA
            simp only [shard_parse.l0] at H
            by_cases c15 : (x10_1.length : Int) < t172
            · rw [if_pos c15] at H
              have c15b0 : decide ((x10_1.length : Int) < t172) = true := decide_eq_true c15
              clear c15
              obtain ⟨ji16, hji16⟩ : ∃ j_ : Int, (mn t171 (wrap64 (t172 - (x10_1.length : Int)))) = j_ := ⟨_, rfl⟩
              replace H : (if (x7_1.length : Int) < (wrap64 ((ji16) + 4)) then (some (0, 0, 0, 0, 0, 0, ([] : List Int), 0, 2)) else (if 0 ≤ (ji16) then (if (ji16) ≤ (wrap64 ((ji16) + 4)) then (if (wrap64 ((ji16) + 4)) ≤ (x7_1.length : Int) then ((crc_Read.f k1 ((x7_1.take ((wrap64 ((ji16) + 4)) : Int).toNat).drop ((ji16) : Int).toNat)).bind fun bt188 => (if (ji16) ≤ (x7_1.length : Int) then ((crc_Sum.f k1 (x7_1.take ((ji16) : Int).toNat)).bind fun t195 => (if bt188.1 = t195 then ((some (x7_1.take ((ji16) : Int).toNat : List Int)).bind fun y196 => (if x10_1.length + y196.length < 140737488355328 then (if 0 ≤ (wrap64 ((ji16) + 4)) then (shard_parse.l0 k1 (x7_1.drop ((wrap64 ((ji16) + 4)) : Int).toNat) (x10_1 ++ y196) (wrap64 (x11_1 + 1)) t168 t169 t170 t171 t172 t173) else (none)) else (none))) else (some (0, 0, 0, 0, 0, 0, ([] : List Int), x11_1, 5)))) else (none))) else (none)) else (none)) else (none))) = some (r1, r2, r3, r4, r5, r6, r7, r8, r9) := by first | (rw [hji16] at H; exact H) | (simp only [hji16] at H ⊢; exact H)
              have hji16_ : (if (wrap64 (t172 - (x10_1.length : Int))) < t171 then (wrap64 (t172 - (x10_1.length : Int))) else t171) = ji16 := hji16
              by_cases c17 : (x7_1.length : Int) < (wrap64 ((ji16) + 4))
              · rw [if_pos c17] at H
                have c17b0 : decide ((x7_1.length : Int) < (wrap64 ((ji16) + 4))) = true := decide_eq_true c17
                clear c17
                simp only [Option.some.injEq, Prod.mk.injEq] at H
                obtain ⟨rfl, rfl, rfl, rfl, rfl, rfl, rfl, rfl, rfl⟩ := H
                obtain ⟨Ao18, co18, eo18⟩ := Kd.R_slice HO_10.out
                subst eo18
                have hnb19 := NB179_167.out
                have hnc19 := NB167_179.out
                have hcz20_0 : wr.cell? ⟨gb179, 0, none⟩ = some (.int .i64 t168) := (blk_cell BK179.out 0).trans rfl
                have hcz20_1 : wr.cell? ⟨gb179, 1, none⟩ = some (.int .i64 t169) := (blk_cell BK179.out 1).trans rfl
                have hcz20_2 : wr.cell? ⟨gb179, 2, none⟩ = some (.int .i64 t170) := (blk_cell BK179.out 2).trans rfl
                have hcz20_3 : wr.cell? ⟨gb179, 3, none⟩ = some (.int .i64 t171) := (blk_cell BK179.out 3).trans rfl
                have hcz20_4 : wr.cell? ⟨gb179, 4, none⟩ = some (.int .i64 t172) := (blk_cell BK179.out 4).trans rfl
                have hcz20_5 : wr.cell? ⟨gb179, 5, none⟩ = some (.int .i64 t173) := (blk_cell BK179.out 5).trans rfl
                have hfz20_0 := blk_frozen BK179.out 0
                have hfz20_1 := blk_frozen BK179.out 1
                have hfz20_2 := blk_frozen BK179.out 2
                have hfz20_3 := blk_frozen BK179.out 3
                have hfz20_4 := blk_frozen BK179.out 4
                have hfz20_5 := blk_frozen BK179.out 5
                obtain ⟨Ao21, co21, eo21⟩ := Kd.V_slice HO_7.out
                subst eo21
                have hcz22_0 : wr.cell? ⟨gb167, 0, none⟩ = some (.int .i64 x168000_1) := (blk_cell BK167.out 0).trans rfl
                have hcz22_1 : wr.cell? ⟨gb167, 1, none⟩ = some (.int .i64 x168001_1) := (blk_cell BK167.out 1).trans rfl
                have hcz22_2 : wr.cell? ⟨gb167, 2, none⟩ = some (.int .i64 x168002_1) := (blk_cell BK167.out 2).trans rfl
                have hcz22_3 : wr.cell? ⟨gb167, 3, none⟩ = some (.int .i64 x168003_1) := (blk_cell BK167.out 3).trans rfl
                have hcz22_4 : wr.cell? ⟨gb167, 4, none⟩ = some (.int .i64 x168004_1) := (blk_cell BK167.out 4).trans rfl
                have hcz22_5 : wr.cell? ⟨gb167, 5, none⟩ = some (.int .i64 x168005_1) := (blk_cell BK167.out 5).trans rfl
                have hfz22_0 := blk_frozen BK167.out 0
                have hfz22_1 := blk_frozen BK167.out 1
                have hfz22_2 := blk_frozen BK167.out 2
                have hfz22_3 := blk_frozen BK167.out 3
                have hfz22_4 := blk_frozen BK167.out 4
                have hfz22_5 := blk_frozen BK167.out 5
                go_wp2
                refine bodyPost_ret (results_list (rs := [.cell 2 32, .tmp 3, .tmp 4, .tmp 5]) rfl (by simp) (.cell gb167 32 #[.int .i64 0, .int .i64 0, .int .i64 0, .int .i64 0, .int .i64 0, .int .i64 0] (0, 0) _ rfl (by (with_reducible repeat (first | refine blk_drewN ?_ _ | refine blk_drew ?_ | refine blk_alloc ?_ _)); refine blk_put (cs := #[.int .i64 0, .int .i64 0, .int .i64 0, .int .i64 0, .int .i64 0, .int .i64 x168005_1]) ?_ 5 _ rfl; (with_reducible repeat (first | refine blk_drewN ?_ _ | refine blk_drew ?_ | refine blk_alloc ?_ _)); refine blk_put (cs := #[.int .i64 0, .int .i64 0, .int .i64 0, .int .i64 0, .int .i64 x168004_1, .int .i64 x168005_1]) ?_ 4 _ rfl; (with_reducible repeat (first | refine blk_drewN ?_ _ | refine blk_drew ?_ | refine blk_alloc ?_ _)); refine blk_put (cs := #[.int .i64 0, .int .i64 0, .int .i64 0, .int .i64 x168003_1, .int .i64 x168004_1, .int .i64 x168005_1]) ?_ 3 _ rfl; (with_reducible repeat (first | refine blk_drewN ?_ _ | refine blk_drew ?_ | refine blk_alloc ?_ _)); refine blk_put (cs := #[.int .i64 0, .int .i64 0, .int .i64 x168002_1, .int .i64 x168003_1, .int .i64 x168004_1, .int .i64 x168005_1]) ?_ 2 _ rfl; (with_reducible repeat (first | refine blk_drewN ?_ _ | refine blk_drew ?_ | refine blk_alloc ?_ _)); refine blk_put (cs := #[.int .i64 0, .int .i64 x168001_1, .int .i64 x168002_1, .int .i64 x168003_1, .int .i64 x168004_1, .int .i64 x168005_1]) ?_ 1 _ rfl; (with_reducible repeat (first | refine blk_drewN ?_ _ | refine blk_drew ?_ | refine blk_alloc ?_ _)); refine blk_put (cs := #[.int .i64 x168000_1, .int .i64 x168001_1, .int .i64 x168002_1, .int .i64 x168003_1, .int .i64 x168004_1, .int .i64 x168005_1]) ?_ 0 _ rfl; (with_reducible repeat (first | refine blk_drewN ?_ _ | refine blk_drew ?_ | refine blk_alloc ?_ _)); exact BK167.out) Try.underlying32 rfl (by kernel_rfl) (.tmp (.tmp (.tmp .nil))))) rfl ?_
                exact ⟨_, by first | rfl | (simp [errW_none, errW_some] <;> rfl) | (simp only [← hji4, ← hji16]; first | rfl | (simp [errW_none, errW_some] <;> rfl)) | (simp [*, errW_none, errW_some] <;> rfl), by first | exact Kd.R_nil _ _ _ _ _ | exact Kd.N_nil _ _ _ _ _ | exact Kd.V_nil _ _ _ _ _ | exact Kd.Q_nil _ _ _ _ _ | exact Kd.S_nil _ _ _ _ _, by repeat (first | (with_reducible first | exact HB.out | apply below_alloc | apply pw_below_drewN | apply below_drew1 | refine below_set ?_ GE167.out | refine below_set ?_ GE179.out) | exact HB.out)⟩
              · rw [if_neg c17] at H
                have c17b0 : decide ((x7_1.length : Int) < (wrap64 ((ji16) + 4))) = false := decide_eq_false c17
                clear c17
                by_cases c23 : 0 ≤ (ji16)
                · rw [if_pos c23] at H
                  have c23b0 := eq_true c23
                  have c23b1 : decide (0 ≤ (ji16)) = true := decide_eq_true c23
                  clear c23
                  by_cases c24 : (ji16) ≤ (wrap64 ((ji16) + 4))
                  · rw [if_pos c24] at H
                    have c24b0 := eq_true c24
                    have c24b1 : decide ((ji16) ≤ (wrap64 ((ji16) + 4))) = true := decide_eq_true c24
                    by_cases c25 : (wrap64 ((ji16) + 4)) ≤ (x7_1.length : Int)
                    · rw [if_pos c25] at H
                      have c25b0 := eq_true c25
                      have c25b1 : decide ((wrap64 ((ji16) + 4)) ≤ (x7_1.length : Int)) = true := decide_eq_true c25
                      obtain ⟨y183, hy183⟩ : ∃ y_ : List Int, y_ = ((x7_1.take ((wrap64 ((ji16) + 4)) : Int).toNat).drop ((ji16) : Int).toNat) := ⟨_, rfl⟩
                      replace H : ((crc_Read.f k1 y183).bind fun bt188 => (if (ji16) ≤ (x7_1.length : Int) then ((crc_Sum.f k1 (x7_1.take ((ji16) : Int).toNat)).bind fun t195 => (if bt188.1 = t195 then ((some (x7_1.take ((ji16) : Int).toNat : List Int)).bind fun y196 => (if x10_1.length + y196.length < 140737488355328 then (if 0 ≤ (wrap64 ((ji16) + 4)) then (shard_parse.l0 k1 (x7_1.drop ((wrap64 ((ji16) + 4)) : Int).toNat) (x10_1 ++ y196) (wrap64 (x11_1 + 1)) t168 t169 t170 t171 t172 t173) else (none)) else (none))) else (some (0, 0, 0, 0, 0, 0, ([] : List Int), x11_1, 5)))) else (none))) = some (r1, r2, r3, r4, r5, r6, r7, r8, r9) := by first | (rw [hy183]; with_reducible exact H) | (have H2_ := (Option.bind_some _ _).symm.trans H; rw [hy183]; with_reducible exact H2_) | (have H2_ := (Option.bind_some _ _).symm.trans H; with_reducible exact H2_) | with_reducible exact H | (rw [hy183]; exact H) | exact H
                      have Ny183 := Aside0.mk hy183
                      clear hy183
                      replace H := Option.bind_eq_some_iff.mp H
                      obtain ⟨⟨t188, t189⟩, A260, H⟩ := H
                      replace H : (if (ji16) ≤ (x7_1.length : Int) then ((crc_Sum.f k1 (x7_1.take ((ji16) : Int).toNat)).bind fun t195 => (if t188 = t195 then ((some (x7_1.take ((ji16) : Int).toNat : List Int)).bind fun y196 => (if x10_1.length + y196.length < 140737488355328 then (if 0 ≤ (wrap64 ((ji16) + 4)) then (shard_parse.l0 k1 (x7_1.drop ((wrap64 ((ji16) + 4)) : Int).toNat) (x10_1 ++ y196) (wrap64 (x11_1 + 1)) t168 t169 t170 t171 t172 t173) else (none)) else (none))) else (some (0, 0, 0, 0, 0, 0, ([] : List Int), x11_1, 5)))) else (none)) = some (r1, r2, r3, r4, r5, r6, r7, r8, r9) := H
                      have A26 := Aside0.mk A260
                      clear A260
                      have c27b0 := eq_true (of_decide_eq_true (by first | (with_reducible assumption) | assumption) : 0 ≤ (ji16))
                      by_cases c28 : (ji16) ≤ (x7_1.length : Int)
                      · rw [if_pos c28] at H
                        have c28b0 := eq_true c28
                        have c28b1 : decide ((ji16) ≤ (x7_1.length : Int)) = true := decide_eq_true c28
                        clear c28
                        obtain ⟨y190, hy190⟩ : ∃ y_ : List Int, y_ = (x7_1.take ((ji16) : Int).toNat) := ⟨_, rfl⟩
                        replace H : ((crc_Sum.f k1 y190).bind fun t195 => (if t188 = t195 then ((some (x7_1.take ((ji16) : Int).toNat : List Int)).bind fun y196 => (if x10_1.length + y196.length < 140737488355328 then (if 0 ≤ (wrap64 ((ji16) + 4)) then (shard_parse.l0 k1 (x7_1.drop ((wrap64 ((ji16) + 4)) : Int).toNat) (x10_1 ++ y196) (wrap64 (x11_1 + 1)) t168 t169 t170 t171 t172 t173) else (none)) else (none))) else (some (0, 0, 0, 0, 0, 0, ([] : List Int), x11_1, 5)))) = some (r1, r2, r3, r4, r5, r6, r7, r8, r9) := by first | (rw [hy190]; with_reducible exact H) | (have H2_ := (Option.bind_some _ _).symm.trans H; rw [hy190]; with_reducible exact H2_) | (have H2_ := (Option.bind_some _ _).symm.trans H; with_reducible exact H2_) | with_reducible exact H | (rw [hy190]; exact H) | exact H
                        have Ny190 := Aside0.mk hy190
                        clear hy190
                        replace H := Option.bind_eq_some_iff.mp H
                        obtain ⟨t195, A290, H⟩ := H
                        replace H : (if t188 = t195 then ((some (x7_1.take ((ji16) : Int).toNat : List Int)).bind fun y196 => (if x10_1.length + y196.length < 140737488355328 then (if 0 ≤ (wrap64 ((ji16) + 4)) then (shard_parse.l0 k1 (x7_1.drop ((wrap64 ((ji16) + 4)) : Int).toNat) (x10_1 ++ y196) (wrap64 (x11_1 + 1)) t168 t169 t170 t171 t172 t173) else (none)) else (none))) else (some (0, 0, 0, 0, 0, 0, ([] : List Int), x11_1, 5))) = some (r1, r2, r3, r4, r5, r6, r7, r8, r9) := H
                        have A29 := Aside0.mk A290
                        clear A290
                        by_cases c30 : t188 = t195
                        · rw [if_pos c30] at H
                          have c30b0 : (t188 == t195) = true := beq_iff_eq.mpr c30
                          have c30b1 : (t188 != t195) = false := bne_eq_false_iff_eq.mpr c30
                          clear c30
                          have c31b0 := eq_true (of_decide_eq_true (by first | (with_reducible assumption) | assumption) : 0 ≤ (ji16))
                          have c32b0 := eq_true (of_decide_eq_true (by first | (with_reducible assumption) | assumption) : (ji16) ≤ (x7_1.length : Int))
                          obtain ⟨y196, hy196⟩ : ∃ y_ : List Int, y_ = (x7_1.take ((ji16) : Int).toNat) := ⟨_, rfl⟩
                          replace H : (if x10_1.length + y196.length < 140737488355328 then (if 0 ≤ (wrap64 ((ji16) + 4)) then (shard_parse.l0 k1 (x7_1.drop ((wrap64 ((ji16) + 4)) : Int).toNat) (x10_1 ++ y196) (wrap64 (x11_1 + 1)) t168 t169 t170 t171 t172 t173) else (none)) else (none)) = some (r1, r2, r3, r4, r5, r6, r7, r8, r9) := by first | (rw [hy196]; with_reducible exact H) | (have H2_ := (Option.bind_some _ _).symm.trans H; rw [hy196]; with_reducible exact H2_) | (have H2_ := (Option.bind_some _ _).symm.trans H; with_reducible exact H2_) | with_reducible exact H | (rw [hy196]; exact H) | exact H
                          have Ny196 := Aside0.mk hy196
                          clear hy196
                          by_cases c33 : x10_1.length + y196.length < 140737488355328
                          · rw [if_pos c33] at H
                            have LMc33 := Aside0.mk c33
                            clear c33
                            obtain ⟨y201, hy201⟩ : ∃ y_ : List Int, y_ = (x10_1 ++ y196) := ⟨_, rfl⟩
                            replace H : (if 0 ≤ (wrap64 ((ji16) + 4)) then (shard_parse.l0 k1 (x7_1.drop ((wrap64 ((ji16) + 4)) : Int).toNat) y201 (wrap64 (x11_1 + 1)) t168 t169 t170 t171 t172 t173) else (none)) = some (r1, r2, r3, r4, r5, r6, r7, r8, r9) := by first | (rw [hy201]; with_reducible exact H) | (have H2_ := (Option.bind_some _ _).symm.trans H; rw [hy201]; with_reducible exact H2_) | (have H2_ := (Option.bind_some _ _).symm.trans H; with_reducible exact H2_) | with_reducible exact H | (rw [hy201]; exact H) | exact H
                            have Ny201 := Aside0.mk hy201
                            clear hy201
                            obtain ⟨ji34, hji34⟩ : ∃ j_ : Int, (wrap64 ((ji16) + 4)) = j_ := ⟨_, rfl⟩
                            replace H : (if 0 ≤ (ji34) then (shard_parse.l0 k1 (x7_1.drop ((ji34) : Int).toNat) y201 (wrap64 (x11_1 + 1)) t168 t169 t170 t171 t172 t173) else (none)) = some (r1, r2, r3, r4, r5, r6, r7, r8, r9) := by first | (rw [hji34] at H; exact H) | (simp only [hji34] at H ⊢; exact H)
                            (try rw [hji34] at c17b0)
                            (try rw [hji34] at c24b0)
                            (try rw [hji34] at c24b1)
                            (try rw [hji34] at c24)
                            (try rw [hji34] at c25b0)
                            (try rw [hji34] at c25b1)
                            (try rw [hji34] at c25)
                            (try rw [hji34] at Ny183)
                            (try rw [hji34] at A26)
                            (try rw [hji34] at A29)
                            have hji34w : (IntKind.i64.wrap ((ji16) + 4)) = ji34 := (i64_w _).trans hji34
                            by_cases c35 : 0 ≤ (ji34)
                            · rw [if_pos c35] at H
                              have c35b0 := eq_true c35
                              have c35b1 : decide (0 ≤ (ji34)) = true := decide_eq_true c35
                              clear c35
                              have c36b0 := eq_true (of_decide_eq_true (by first | (with_reducible assumption) | assumption) : (ji34) ≤ (x7_1.length : Int))
                              obtain ⟨y204, hy204⟩ : ∃ y_ : List Int, y_ = (x7_1.drop ((ji34) : Int).toNat) := ⟨_, rfl⟩
                              replace H : (shard_parse.l0 k1 y204 y201 (wrap64 (x11_1 + 1)) t168 t169 t170 t171 t172 t173) = some (r1, r2, r3, r4, r5, r6, r7, r8, r9) := by first | (rw [hy204]; with_reducible exact H) | (have H2_ := (Option.bind_some _ _).symm.trans H; rw [hy204]; with_reducible exact H2_) | (have H2_ := (Option.bind_some _ _).symm.trans H; with_reducible exact H2_) | with_reducible exact H | (rw [hy204]; exact H) | exact H
                              have Ny204 := Aside0.mk hy204
                              clear hy204
                              have H' := Aside0.mk H
                              clear H
                              obtain ⟨Ao37, co37, eo37⟩ := Kd.R_slice HO_10.out
                              subst eo37
                              have hnb38 := NB179_167.out
                              have hnc38 := NB167_179.out
                              have hcz39_0 : wr.cell? ⟨gb179, 0, none⟩ = some (.int .i64 t168) := (blk_cell BK179.out 0).trans rfl
                              have hcz39_1 : wr.cell? ⟨gb179, 1, none⟩ = some (.int .i64 t169) := (blk_cell BK179.out 1).trans rfl
                              have hcz39_2 : wr.cell? ⟨gb179, 2, none⟩ = some (.int .i64 t170) := (blk_cell BK179.out 2).trans rfl
                              have hcz39_3 : wr.cell? ⟨gb179, 3, none⟩ = some (.int .i64 t171) := (blk_cell BK179.out 3).trans rfl
                              have hcz39_4 : wr.cell? ⟨gb179, 4, none⟩ = some (.int .i64 t172) := (blk_cell BK179.out 4).trans rfl
                              have hcz39_5 : wr.cell? ⟨gb179, 5, none⟩ = some (.int .i64 t173) := (blk_cell BK179.out 5).trans rfl
                              have hfz39_0 := blk_frozen BK179.out 0
                              have hfz39_1 := blk_frozen BK179.out 1
                              have hfz39_2 := blk_frozen BK179.out 2
                              have hfz39_3 := blk_frozen BK179.out 3
                              have hfz39_4 := blk_frozen BK179.out 4
                              have hfz39_5 := blk_frozen BK179.out 5
                              obtain ⟨Ao40, co40, eo40⟩ := Kd.V_slice HO_7.out
                              subst eo40
                              have q41 : ((ji34) : Int) ≤ ((x7_1.length : Int) : Int) := of_decide_eq_true (by first | (with_reducible assumption) | assumption)
                              obtain ⟨i041, hi041, _, hsz41, _⟩ := info_parts info5
                              have hroom41 : x7_1.length ≤ co40 := (Kd.V_reads' HO_7.out).2.1
                              have hC41 : Kd.F (Kd.int .u8) _ _ Ao40 x7_1.length x7_1 := (Kd.V_at (base := w.heap.size) HO_7.out).2.2
                              have ql41 : ((ji16) : Int) ≤ ((ji34) : Int) := of_decide_eq_true (by first | (with_reducible assumption) | assumption)
                              have q041 : (0 : Int) ≤ ((ji16) : Int) := of_decide_eq_true (by first | (with_reducible assumption) | assumption)
                              have hcut41 := cut_mid (P := Try.prog) 22 5 .i64 .i64 Try.underlying22 hi041 1 hsz41 Ao40 x7_1.length co40 (ji16) (ji34) q041 ql41 q41 hroom41
                              have hr41 := Kd.F_mid (lo := ((ji16) : Int).toNat) (hi := ((ji34) : Int).toNat) (c := co40) hC41 (by omega) (by omega) hroom41
                              obtain ⟨A41, hA41⟩ : ∃ A1, A1 = (if co40 = ((ji16) : Int).toNat then Ao40 else (Ao40 : Option Addr).map (·.add (((ji16) : Int).toNat * 1))) := ⟨_, rfl⟩
                              obtain ⟨c41, hc41⟩ : ∃ c1, c1 = co40 - ((ji16) : Int).toNat := ⟨_, rfl⟩
                              have hy41 : y183.length = ((ji34) : Int).toNat - ((ji16) : Int).toNat := (by rw [Ny183.out, List.length_drop, List.length_take] <;> omega)
                              rw [show ((x7_1).take ((ji34) : Int).toNat).drop ((ji16) : Int).toNat = y183 from Ny183.out.symm] at hr41
                              replace hr41 : Kd.F (Kd.int .u8) _ _ A41 y183.length y183 := (by rw [hA41]; exact hr41)
                              rw [← hy41, ← hA41, ← hc41] at hcut41
                              have HO187 := Aside0.mk (show Kd.V (Kd.int .u8) 5 _ w.heap.size _ (.slice A41 y183.length c41) y183 from Kd.V_mk (by rw [hy41, hc41]; exact Nat.sub_le_sub_right (Nat.le_trans (by omega) hroom41) _) hr41)
                              have HC187 := Aside0.mk (show y183.length ≤ c41 from by rw [hy41, hc41]; exact Nat.sub_le_sub_right (Nat.le_trans (by omega) hroom41) _)
                              clear hr41 hC41 hroom41 hi041 hsz41 hc41
                              have KY41 := Aside0.mk hy41
                              have KA41 := Aside0.mk hA41
                              clear hy41 hA41
                              replace q41 := eq_true q41
                              try go_wp2_with (first | ((with_reducible refine gate_callee (f := 58) rfl ?_); refine goesL_ (some 60) rfl rfl Try.func58 (by kernel_rfl) rfl #[.slice A41 y183.length c41] rfl (by (try simp only [List.map_toArray, List.map_cons, List.map_nil]); first | done | rfl | (simp only [List.length_drop, List.length_take]; rfl)) ?_; (with_reducible refine (crc_Read.calls k1 _ _ y183 t188 t189 _ ?side1 ?side2 A26.out).mono ?_); (case side1 => repeat (first | exact (Kd.V_reads' HO187.out).2.2 | (with_reducible refine Kd.C_alloc ?_ _) | (with_reducible refine Kd.C_drewN ?_ _) | (with_reducible refine Kd.C_drew ?_))); (case side2 => exact (Kd.V_reads' HO187.out).2.1); rintro e w' ⟨rfl, ⟨nd, rfl⟩⟩; refine ⟨_, rfl, ?_⟩; have q42 : ((ji16) : Int) ≤ ((x7_1.length : Int) : Int) := of_decide_eq_true (by first | (with_reducible assumption) | assumption); obtain ⟨i042, hi042, _, hsz42, _⟩ := info_parts info5; have hroom42 : x7_1.length ≤ co40 := (Kd.V_reads' HO_7.out).2.1; have hC42 : Kd.F (Kd.int .u8) _ _ Ao40 x7_1.length x7_1 := (Kd.V_at (base := w.heap.size) HO_7.out).2.2; have hcut42 := cut_to (P := Try.prog) 22 5 .i64 Try.underlying22 hi042 Ao40 x7_1.length co40 (ji16) (of_decide_eq_true (by first | (with_reducible assumption) | assumption)) q42 hroom42; have hr42 := Kd.F_take (m := ((ji16) : Int).toNat) hC42 (by omega); have hy42 : y190.length = ((ji16) : Int).toNat := (by rw [Ny190.out, List.length_take]; omega); rw [← Ny190.out] at hr42; rw [← hy42] at hcut42; have HO194 := Aside0.mk (show Kd.V (Kd.int .u8) 5 _ w.heap.size _ (.slice Ao40 y190.length co40) y190 from Kd.V_mk (by omega) hr42); have HC194 := Aside0.mk (show y190.length ≤ co40 from by omega); clear hr42 hC42 hroom42 hi042 hsz42; have KY42 := Aside0.mk hy42; clear hy42; replace q42 := eq_true q42) | ((with_reducible refine gate_callee (f := 55) rfl ?_); refine goesL_ (some 67) rfl rfl Try.func55 (by kernel_rfl) rfl #[.slice Ao40 y190.length co40] rfl (by (try simp only [List.map_toArray, List.map_cons, List.map_nil]); first | done | rfl | (simp only [List.length_drop, List.length_take]; rfl)) ?_; (with_reducible refine (crc_Sum.calls k1 _ _ y190 t195 _ ?side1 ?side2 A29.out).mono ?_); (case side1 => repeat (first | exact (Kd.V_reads' HO194.out).2.2 | (with_reducible refine Kd.C_alloc ?_ _) | (with_reducible refine Kd.C_drewN ?_ _) | (with_reducible refine Kd.C_drew ?_))); (case side2 => exact (Kd.V_reads' HO194.out).2.1); rintro e w' ⟨rfl, ⟨nd, rfl⟩⟩; refine ⟨_, rfl, ?_⟩))
                              (try (rw [drewN_self wr]; generalize hq_ : World.drewN wr _ = wr; have n0_ : Aside0 (Kd.V (Kd.int .u8) 5 wr w.heap.size (fun k_ => some k_ ≠ (.slice Ao37 x10_1.length co37 : Value).ownBlock ∧ k_ ≠ gb167 ∧ k_ ≠ gb179) (.slice A41 y183.length c41) y183) := ⟨by rw [← hq_]; exact (by (with_reducible repeat (first | apply Kd.V_alloc | apply Kd.V_drewN | apply Kd.V_drew)); exact HO187.out)⟩; have n1_ : Aside0 (Kd.V (Kd.int .u8) 5 wr w.heap.size (fun k_ => some k_ ≠ (.slice Ao37 x10_1.length co37 : Value).ownBlock ∧ k_ ≠ gb167 ∧ k_ ≠ gb179) (.slice Ao40 y190.length co40) y190) := ⟨by rw [← hq_]; exact (by (with_reducible repeat (first | apply Kd.V_alloc | apply Kd.V_drewN | apply Kd.V_drew)); exact HO194.out)⟩; have n2_ : Aside0 (Kd.R (Kd.int .u8) 5 wr w.heap.size (fun _ => True) (.slice Ao37 x10_1.length co37) x10_1) := ⟨by rw [← hq_]; exact (by (with_reducible repeat (first | apply Kd.R_alloc | apply Kd.R_drewN | apply Kd.R_drew)); exact HO_10.out)⟩; have n3_ : Aside0 (Kd.V (Kd.int .u8) 5 wr w.heap.size (fun k_ => some k_ ≠ (.slice Ao37 x10_1.length co37 : Value).ownBlock ∧ k_ ≠ gb167 ∧ k_ ≠ gb179) (.slice Ao40 x7_1.length co40) x7_1) := ⟨by rw [← hq_]; exact (by (with_reducible repeat (first | apply Kd.V_alloc | apply Kd.V_drewN | apply Kd.V_drew)); exact HO_7.out)⟩; have n4_ : Aside0 (wr.heap[gb167]? = some (.cells #[.int .i64 x168000_1, .int .i64 x168001_1, .int .i64 x168002_1, .int .i64 x168003_1, .int .i64 x168004_1, .int .i64 x168005_1] 32 (0, 0))) := ⟨by rw [← hq_]; exact (by (with_reducible repeat (first | refine blk_drewN ?_ _ | refine blk_drew ?_ | refine blk_alloc ?_ _)); exact BK167.out)⟩; have n5_ : Aside0 (wr.heap[gb179]? = some (.cells #[.int .i64 t168, .int .i64 t169, .int .i64 t170, .int .i64 t171, .int .i64 t172, .int .i64 t173] 32 (0, 0))) := ⟨by rw [← hq_]; exact (by (with_reducible repeat (first | refine blk_drewN ?_ _ | refine blk_drew ?_ | refine blk_alloc ?_ _)); exact BK179.out)⟩; have n6_ : Aside0 (Below w.heap.size w wr) := ⟨by rw [← hq_]; exact (by repeat (first | (with_reducible first | exact HB.out | apply below_alloc | apply pw_below_drewN | apply below_drew1 | refine below_set ?_ GE167.out | refine below_set ?_ GE179.out) | exact HB.out))⟩; clear HO187 HO194 HO_10 HO_7 BK167 BK179 HB hq_; have HO187 := n0_; have HO194 := n1_; have HO_10 := n2_; have HO_7 := n3_; have BK167 := n4_; have BK179 := n5_; have HB := n6_; clear n0_ n1_ n2_ n3_ n4_ n5_ n6_))
                              have n0_ := Aside0.mk (Kd.V_drew HO_7.out)
                              have n1_ := Aside0.mk (Kd.R_drew HO_10.out)
                              have n2_ := Aside0.mk (Kd.V_drew HO187.out)
                              have n3_ := Aside0.mk (Kd.V_drew HO194.out)
                              have n4_ := Aside0.mk (blk_drew BK167.out)
                              have n5_ := Aside0.mk (blk_drew BK179.out)
                              have n6_ := Aside0.mk (below_drew1 HB.out)
                              clear HO_7
                              clear HO_10
                              clear HO187
                              clear HO194
                              clear BK167
                              clear BK179
                              clear HB
                              have HO_7 := n0_
                              have HO_10 := n1_
                              have HO187 := n2_
                              have HO194 := n3_
                              have BK167 := n4_
                              have BK179 := n5_
                              have HB := n6_
                              clear n0_ n1_ n2_ n3_ n4_ n5_ n6_
                              have q44 : ((ji16) : Int) ≤ ((x7_1.length : Int) : Int) := of_decide_eq_true (by first | (with_reducible assumption) | assumption)
                              obtain ⟨i044, hi044, _, hsz44, _⟩ := info_parts info5
                              have hroom44 : x7_1.length ≤ co40 := (Kd.V_reads' HO_7.out).2.1
                              have hC44 : Kd.F (Kd.int .u8) _ _ Ao40 x7_1.length x7_1 := (Kd.V_at (base := w.heap.size) HO_7.out).2.2
                              have hcut44 := cut_to (P := Try.prog) 22 5 .i64 Try.underlying22 hi044 Ao40 x7_1.length co40 (ji16) (of_decide_eq_true (by first | (with_reducible assumption) | assumption)) q44 hroom44
                              have hr44 := Kd.F_take (m := ((ji16) : Int).toNat) hC44 (by omega)
                              have hy44 : y196.length = ((ji16) : Int).toNat := (by rw [Ny196.out, List.length_take]; omega)
                              rw [← Ny196.out] at hr44
                              rw [← hy44] at hcut44
                              have HO200 := Aside0.mk (show Kd.V (Kd.int .u8) 5 _ w.heap.size _ (.slice Ao40 y196.length co40) y196 from Kd.V_mk (by omega) hr44)
                              have HC200 := Aside0.mk (show y196.length ≤ co40 from by omega)
                              clear hr44 hC44 hroom44 hi044 hsz44
                              have KY44 := Aside0.mk hy44
                              clear hy44
                              replace q44 := eq_true q44
                              have q45 : ((ji34) : Int) ≤ ((x7_1.length : Int) : Int) := of_decide_eq_true (by first | (with_reducible assumption) | assumption)
                              obtain ⟨i045, hi045, _, hsz45, _⟩ := info_parts info5
                              have hroom45 : x7_1.length ≤ co40 := (Kd.V_reads' HO_7.out).2.1
                              have hC45 : Kd.F (Kd.int .u8) _ _ Ao40 x7_1.length x7_1 := (Kd.V_at (base := w.heap.size) HO_7.out).2.2
                              have q045 : (0 : Int) ≤ ((ji34) : Int) := of_decide_eq_true (by first | (with_reducible assumption) | assumption)
                              have hcut45 := cut_from (P := Try.prog) 22 5 .i64 Try.underlying22 hi045 1 hsz45 Ao40 x7_1.length co40 (ji34) q045 q45
                              have hr45 := Kd.F_cut (m := ((ji34) : Int).toNat) (c := co40) hC45 (by omega) hroom45
                              obtain ⟨A45, hA45⟩ : ∃ A1, A1 = (if co40 = ((ji34) : Int).toNat then Ao40 else (Ao40 : Option Addr).map (·.add (((ji34) : Int).toNat * 1))) := ⟨_, rfl⟩
                              obtain ⟨c45, hc45⟩ : ∃ c1, c1 = co40 - ((ji34) : Int).toNat := ⟨_, rfl⟩
                              have hy45 : y204.length = x7_1.length - ((ji34) : Int).toNat := (by rw [Ny204.out, List.length_drop] <;> omega)
                              rw [show (x7_1).drop ((ji34) : Int).toNat = y204 from Ny204.out.symm] at hr45
                              replace hr45 : Kd.F (Kd.int .u8) _ _ A45 y204.length y204 := (by rw [hA45]; exact hr45)
                              rw [← hy45, ← hA45, ← hc45] at hcut45
                              have HO208 := Aside0.mk (show Kd.V (Kd.int .u8) 5 _ w.heap.size _ (.slice A45 y204.length c45) y204 from Kd.V_mk (by rw [hy45, hc45]; exact Nat.sub_le_sub_right hroom45 _) hr45)
                              have HC208 := Aside0.mk (show y204.length ≤ c45 from by rw [hy45, hc45]; exact Nat.sub_le_sub_right hroom45 _)
                              clear hr45 hC45 hroom45 hi045 hsz45 hc45
                              have KY45 := Aside0.mk hy45
                              have KA45 := Aside0.mk hA45
                              clear hy45 hA45
                              replace q45 := eq_true q45
                              refine start_ (n := 11) (S := fun w' => True) (ds := []) #[false, false, false, false, false, false, false, false, false, false, false] (by kernel_rfl) rfl rfl trivial (fun hHeld => ?_); refine with_tabW shard_parse.tab14 shard_parse.bits14 (fun HT_ HW_ => ?_)
                              generalize wr.drew = w43 at HO_7 HO_10 HO187 HO194 BK167 BK179 HB HO200 HO208 hHeld ⊢
                              refine pure_ (i := 0) (N := some 71) (v := ?_) (a' := ?_) #[true, false, false, false, false, false, false, false, false, false, false] rfl rfl (any_of HT_.out (by kernel_rfl)) (fun _ _ _ h => h) (Or.inl ⟨by rfl, ?_⟩) ?_ ?_
                              rotate_left
                              · intro w'
                                go_simp
                                with_reducible rfl
                              rotate_left
                              · simp only [Act.put, List.setIfInBounds_toArray, List.set_cons_zero, List.set_cons_succ, i64_w, i32_w]
                                rfl
                              refine pure_ (i := 1) (N := some 72) (v := ?_) (a' := ?_) #[true, true, false, false, false, false, false, false, false, false, false] rfl rfl (any_of HT_.out (by kernel_rfl)) (fun _ _ _ h => h) (Or.inl ⟨by rfl, ?_⟩) ?_ ?_
                              rotate_left
                              · intro w'
                                go_simp
                                with_reducible rfl
                              rotate_left
                              · simp only [Act.put, List.setIfInBounds_toArray, List.set_cons_zero, List.set_cons_succ, i64_w, i32_w]
                                rfl
                              refine pure_ (i := 2) (N := some 73) (v := ?_) (a' := ?_) #[true, true, true, false, false, false, false, false, false, false, false] rfl rfl (any_of HT_.out (by kernel_rfl)) (fun _ _ _ h => h) (Or.inl ⟨by rfl, ?_⟩) ?_ ?_
                              rotate_left
                              · intro w'
                                go_simp
                                with_reducible rfl
                              rotate_left
                              · simp only [Act.put, List.setIfInBounds_toArray, List.set_cons_zero, List.set_cons_succ, i64_w, i32_w]
                                rfl
                              refine pure_ (i := 3) (N := some 74) (v := ?_) (a' := ?_) #[true, true, true, true, false, false, false, false, false, false, false] rfl rfl (any_of HT_.out (by kernel_rfl)) (fun _ _ _ h => h) (Or.inl ⟨by rfl, ?_⟩) ?_ ?_
                              rotate_left
                              · intro w'
                                go_simp
                                with_reducible rfl
                              rotate_left
                              · simp only [Act.put, List.setIfInBounds_toArray, List.set_cons_zero, List.set_cons_succ, i64_w, i32_w]
                                rfl
                              refine pure_ (i := 5) (N := some 76) (v := ?_) (a' := ?_) #[true, true, true, true, false, true, false, false, false, false, false] rfl rfl (any_of HT_.out (by kernel_rfl)) (fun _ _ _ h => h) (Or.inl ⟨by rfl, ?_⟩) ?_ ?_
                              rotate_left
                              · intro w'
                                go_simp
                                with_reducible rfl
                              rotate_left
                              · simp only [Act.put, List.setIfInBounds_toArray, List.set_cons_zero, List.set_cons_succ, i64_w, i32_w]
                                rfl
                              refine pure_ (i := 6) (N := some 77) (v := ?_) (a' := ?_) #[true, true, true, true, false, true, true, false, false, false, false] rfl rfl (any_of HT_.out (by kernel_rfl)) (fun _ _ _ h => h) (Or.inl ⟨by rfl, ?_⟩) ?_ ?_
                              rotate_left
                              · intro w'
                                go_simp
                                with_reducible rfl
                              rotate_left
                              · simp only [Act.put, List.setIfInBounds_toArray, List.set_cons_zero, List.set_cons_succ, i64_w, i32_w]
                                rfl
                              refine pure_ (i := 7) (N := some 78) (v := ?_) (a' := ?_) #[true, true, true, true, false, true, true, true, false, false, false] rfl rfl (any_of HT_.out (by kernel_rfl)) (fun _ _ _ h => h) (Or.inl ⟨by rfl, ?_⟩) ?_ ?_
                              rotate_left
                              · intro w'
                                go_simp
                                with_reducible rfl
                              rotate_left
                              · simp only [Act.put, List.setIfInBounds_toArray, List.set_cons_zero, List.set_cons_succ, i64_w, i32_w]
                                rfl
                              refine pure_ (i := 8) (N := some 79) (v := ?_) (a' := ?_) #[true, true, true, true, false, true, true, true, true, false, false] rfl rfl (any_of HT_.out (by kernel_rfl)) (fun _ _ _ h => h) (Or.inl ⟨by rfl, ?_⟩) ?_ ?_
                              rotate_left
                              · intro w'
                                go_simp
                                with_reducible rfl
                              rotate_left
                              · simp only [Act.put, List.setIfInBounds_toArray, List.set_cons_zero, List.set_cons_succ, i64_w, i32_w]
                                rfl
                              refine one_ (i := 4) (N := some 75) #[true, true, true, true, true, true, true, true, true, false, false] rfl rfl (one_of HT_.out (by kernel_rfl)) (by decide) (fun K hK => ?_)
                              (try have twy190_ := KY42.out.trans KY44.out.symm)
                              refine Kd.R_append_rows_step (Kd.int .u8) (w0 := w) w.heap.size (by rfl) (.tmp 71) (.tmp 74) 22 5 (.int .u8 0) 1 rfl Try.underlying22 info5 rfl (by decide) (by omega) (.slice Ao37 x10_1.length co37) x10_1 y196 _ _ _ (fun _ => True) (fun _ => False) rfl rfl ?aO ?aR (fun _ _ h => h) (fun _ h => h.elim) ?aF ?aB ?aS ?aL ?_
                              (case aR => first | (rw [twy190_]; exact (Kd.V_reads' HO200.out).2.2) | repeat (first | exact (Kd.V_reads' HO200.out).2.2 | (with_reducible refine Kd.C_alloc ?_ _) | (with_reducible refine Kd.C_drewN ?_ _) | (with_reducible refine Kd.C_drew ?_)))
                              (case aB => exact (by repeat (first | (with_reducible first | exact HB.out | apply below_alloc | apply pw_below_drewN | apply below_drew1 | refine below_set ?_ GE167.out | refine below_set ?_ GE179.out) | exact HB.out)))
                              (case aF => exact (fun _ _ => trivial))
                              (case aO => exact (by (with_reducible repeat (first | apply Kd.R_alloc | apply Kd.R_drewN | apply Kd.R_drew)); exact HO_10.out))
                              (case aS => exact (below_size (by repeat (first | (with_reducible first | exact HB.out | apply below_alloc | apply pw_below_drewN | apply below_drew1 | refine below_set ?_ GE167.out | refine below_set ?_ GE179.out) | exact HB.out))))
                              (case aL => have := LMc33.out; (try have := twy190_); omega)
                              intro v202 w46 ho hb hg hat
                              rw [← Ny201.out] at ho
                              have n0_ := Aside0.mk (Kd.V_afterv (ok := (fun k_ => k_ ≠ gb167 ∧ k_ ≠ gb179)) (by (with_reducible repeat (first | apply Kd.V_alloc | apply Kd.V_drewN | apply Kd.V_drew)); exact Kd.V_mono HO_7.out (fun _ hk => ⟨⟨hk.2.1, hk.2.2⟩, hk.1⟩)) hg hat)
                              have n1_ := Aside0.mk (blk_grown (g := gb167) (o := .cells #[.int .i64 x168000_1, .int .i64 x168001_1, .int .i64 x168002_1, .int .i64 x168003_1, .int .i64 x168004_1, .int .i64 x168005_1] 32 (0, 0)) (by (with_reducible repeat (first | refine blk_drewN ?_ _ | refine blk_drew ?_ | refine blk_alloc ?_ _)); exact BK167.out) hg (Kd.R_ne HO_10.out BK167.out (by decide)))
                              have n2_ := Aside0.mk (blk_grown (g := gb179) (o := .cells #[.int .i64 t168, .int .i64 t169, .int .i64 t170, .int .i64 t171, .int .i64 t172, .int .i64 t173] 32 (0, 0)) (by (with_reducible repeat (first | refine blk_drewN ?_ _ | refine blk_drew ?_ | refine blk_alloc ?_ _)); exact BK179.out) hg (Kd.R_ne HO_10.out BK179.out (by decide)))
                              have n3_ := Aside0.mk (Kd.V_afterv (ok := (fun k_ => k_ ≠ gb167 ∧ k_ ≠ gb179)) (by (with_reducible repeat (first | apply Kd.V_alloc | apply Kd.V_drewN | apply Kd.V_drew)); exact Kd.V_mono HO187.out (fun _ hk => ⟨⟨hk.2.1, hk.2.2⟩, hk.1⟩)) hg hat)
                              have n4_ := Aside0.mk (Kd.V_afterv (ok := (fun k_ => k_ ≠ gb167 ∧ k_ ≠ gb179)) (by (with_reducible repeat (first | apply Kd.V_alloc | apply Kd.V_drewN | apply Kd.V_drew)); exact Kd.V_mono HO194.out (fun _ hk => ⟨⟨hk.2.1, hk.2.2⟩, hk.1⟩)) hg hat)
                              have n5_ := Aside0.mk (Kd.V_afterv (ok := (fun k_ => k_ ≠ gb167 ∧ k_ ≠ gb179)) (by (with_reducible repeat (first | apply Kd.V_alloc | apply Kd.V_drewN | apply Kd.V_drew)); exact Kd.V_mono HO200.out (fun _ hk => ⟨⟨hk.2.1, hk.2.2⟩, hk.1⟩)) hg hat)
                              have n6_ := Aside0.mk (Kd.V_afterv (ok := (fun k_ => k_ ≠ gb167 ∧ k_ ≠ gb179)) (by (with_reducible repeat (first | apply Kd.V_alloc | apply Kd.V_drewN | apply Kd.V_drew)); exact Kd.V_mono HO208.out (fun _ hk => ⟨⟨hk.2.1, hk.2.2⟩, hk.1⟩)) hg hat)
                              have n7_ := Aside0.mk (hb)
                              have n8_ := Aside0.mk (ho)
                              clear HO_7
                              clear BK167
                              clear BK179
                              clear HO187
                              clear HO194
                              clear HO200
                              clear HO208
                              clear HB
                              clear HO_10
                              have HO_7 := n0_
                              have BK167 := n1_
                              have BK179 := n2_
                              have HO187 := n3_
                              have HO194 := n4_
                              have HO200 := n5_
                              have HO208 := n6_
                              have HB := n7_
                              have HO203 := n8_
                              clear n0_ n1_ n2_ n3_ n4_ n5_ n6_ n7_ n8_
                              clear ho hb hg hat
                              refine hK.out _ _ trivial (fun hHeld => ?_)
                              clear hK K
                              refine norm_ (a' := ?_) ?_ ?_
                              rotate_left
                              · show Act.put _ (some 75) _ = _
                                simp only [Act.put, List.setIfInBounds_toArray, List.set_cons_zero, List.set_cons_succ, i64_w, i32_w]
                                rfl
                              refine pure_ (i := 9) (N := some 10) (v := ?_) (a' := ?_) #[true, true, true, true, true, true, true, true, true, true, false] rfl rfl (any_of HT_.out (by kernel_rfl)) (fun _ _ _ h => h) (Or.inl ⟨by rfl, ?_⟩) ?_ ?_
                              rotate_left
                              · intro w'
                                go_simp
                                with_reducible rfl
                              rotate_left
                              · simp only [Act.put, List.setIfInBounds_toArray, List.set_cons_zero, List.set_cons_succ, i64_w, i32_w]
                                rfl
                              refine pure_ (i := 10) (N := some 7) (v := ?_) (a' := ?_) #[true, true, true, true, true, true, true, true, true, true, true] rfl rfl (any_of HT_.out (by kernel_rfl)) (fun _ _ _ h => h) (Or.inl ⟨by rfl, ?_⟩) ?_ ?_
                              rotate_left
                              · intro w'
                                go_simp
                                with_reducible rfl
                              rotate_left
                              · simp only [Act.put, List.setIfInBounds_toArray, List.set_cons_zero, List.set_cons_succ, i64_w, i32_w]
                                rfl
                              refine done_ (done_of HT_.out (by kernel_rfl)) ?_
                              try go_wp2
                              go_roundg k1
                              case measure => have := HK1.out; omega
                              case rel => exact ⟨(y204), (y201), (wrap64 (x11_1 + 1)), (x168000_1), (x168001_1), (x168002_1), (x168003_1), (x168004_1), (x168005_1), (by first | rfl | (simp; done) | (simp [*]; done)), H', ⟨by have := HK1.out; omega⟩, ⟨by (with_reducible repeat (first | apply Kd.V_alloc | apply Kd.V_drewN | apply Kd.V_drew)); exact Kd.V_mono HO208.out (fun _ hk => ⟨hk.2, ⟨hk.1.1, hk.1.2⟩⟩)⟩, ⟨by (with_reducible repeat (first | apply Kd.R_alloc | apply Kd.R_drewN | apply Kd.R_drew)); exact HO203.out⟩, ⟨by (with_reducible repeat (first | refine blk_drewN ?_ _ | refine blk_drew ?_ | refine blk_alloc ?_ _)); exact BK167.out⟩, ⟨by (with_reducible repeat (first | refine blk_drewN ?_ _ | refine blk_drew ?_ | refine blk_alloc ?_ _)); exact BK179.out⟩, ⟨by repeat (first | (with_reducible first | exact HB.out | apply below_alloc | apply pw_below_drewN | apply below_drew1 | refine below_set ?_ GE167.out | refine below_set ?_ GE179.out) | exact HB.out)⟩⟩
                            · rw [if_neg c35] at H
                              exact absurd H (by simp)
                          · rw [if_neg c33] at H
                            exact absurd H (by simp)
                        · rw [if_neg c30] at H
                          have c30b0 : (t188 == t195) = false := beq_eq_false_iff_ne.mpr c30
                          have c30b1 : (t188 != t195) = true := bne_iff_ne.mpr c30
                          simp only [Option.some.injEq, Prod.mk.injEq] at H
                          obtain ⟨rfl, rfl, rfl, rfl, rfl, rfl, rfl, rfl, rfl⟩ := H
                          obtain ⟨Ao47, co47, eo47⟩ := Kd.R_slice HO_10.out
                          subst eo47
                          have hnb48 := NB179_167.out
                          have hnc48 := NB167_179.out
                          have hcz49_0 : wr.cell? ⟨gb179, 0, none⟩ = some (.int .i64 t168) := (blk_cell BK179.out 0).trans rfl
                          have hcz49_1 : wr.cell? ⟨gb179, 1, none⟩ = some (.int .i64 t169) := (blk_cell BK179.out 1).trans rfl
                          have hcz49_2 : wr.cell? ⟨gb179, 2, none⟩ = some (.int .i64 t170) := (blk_cell BK179.out 2).trans rfl
                          have hcz49_3 : wr.cell? ⟨gb179, 3, none⟩ = some (.int .i64 t171) := (blk_cell BK179.out 3).trans rfl
                          have hcz49_4 : wr.cell? ⟨gb179, 4, none⟩ = some (.int .i64 t172) := (blk_cell BK179.out 4).trans rfl
                          have hcz49_5 : wr.cell? ⟨gb179, 5, none⟩ = some (.int .i64 t173) := (blk_cell BK179.out 5).trans rfl
                          have hfz49_0 := blk_frozen BK179.out 0
                          have hfz49_1 := blk_frozen BK179.out 1
                          have hfz49_2 := blk_frozen BK179.out 2
                          have hfz49_3 := blk_frozen BK179.out 3
                          have hfz49_4 := blk_frozen BK179.out 4
                          have hfz49_5 := blk_frozen BK179.out 5
                          obtain ⟨Ao50, co50, eo50⟩ := Kd.V_slice HO_7.out
                          subst eo50
                          have q51 : ((wrap64 ((ji16) + 4)) : Int) ≤ ((x7_1.length : Int) : Int) := of_decide_eq_true (by first | (with_reducible assumption) | assumption)
                          obtain ⟨i051, hi051, _, hsz51, _⟩ := info_parts info5
                          have hroom51 : x7_1.length ≤ co50 := (Kd.V_reads' HO_7.out).2.1
                          have hC51 : Kd.F (Kd.int .u8) _ _ Ao50 x7_1.length x7_1 := (Kd.V_at (base := w.heap.size) HO_7.out).2.2
                          have ql51 : ((ji16) : Int) ≤ ((wrap64 ((ji16) + 4)) : Int) := of_decide_eq_true (by first | (with_reducible assumption) | assumption)
                          have q051 : (0 : Int) ≤ ((ji16) : Int) := of_decide_eq_true (by first | (with_reducible assumption) | assumption)
                          have hcut51 := cut_mid (P := Try.prog) 22 5 .i64 .i64 Try.underlying22 hi051 1 hsz51 Ao50 x7_1.length co50 (ji16) (wrap64 ((ji16) + 4)) q051 ql51 q51 hroom51
                          have hr51 := Kd.F_mid (lo := ((ji16) : Int).toNat) (hi := ((wrap64 ((ji16) + 4)) : Int).toNat) (c := co50) hC51 (by omega) (by omega) hroom51
                          obtain ⟨A51, hA51⟩ : ∃ A1, A1 = (if co50 = ((ji16) : Int).toNat then Ao50 else (Ao50 : Option Addr).map (·.add (((ji16) : Int).toNat * 1))) := ⟨_, rfl⟩
                          obtain ⟨c51, hc51⟩ : ∃ c1, c1 = co50 - ((ji16) : Int).toNat := ⟨_, rfl⟩
                          have hy51 : y183.length = ((wrap64 ((ji16) + 4)) : Int).toNat - ((ji16) : Int).toNat := (by rw [Ny183.out, List.length_drop, List.length_take] <;> omega)
                          rw [show ((x7_1).take ((wrap64 ((ji16) + 4)) : Int).toNat).drop ((ji16) : Int).toNat = y183 from Ny183.out.symm] at hr51
                          replace hr51 : Kd.F (Kd.int .u8) _ _ A51 y183.length y183 := (by rw [hA51]; exact hr51)
                          rw [← hy51, ← hA51, ← hc51] at hcut51
                          have HO187 := Aside0.mk (show Kd.V (Kd.int .u8) 5 _ w.heap.size _ (.slice A51 y183.length c51) y183 from Kd.V_mk (by rw [hy51, hc51]; exact Nat.sub_le_sub_right (Nat.le_trans (by omega) hroom51) _) hr51)
                          have HC187 := Aside0.mk (show y183.length ≤ c51 from by rw [hy51, hc51]; exact Nat.sub_le_sub_right (Nat.le_trans (by omega) hroom51) _)
                          clear hr51 hC51 hroom51 hi051 hsz51 hc51
                          have KY51 := Aside0.mk hy51
                          have KA51 := Aside0.mk hA51
                          clear hy51 hA51
                          replace q51 := eq_true q51
                          go_wp2_with (first | ((with_reducible refine gate_callee (f := 58) rfl ?_); refine goesL_ (some 60) rfl rfl Try.func58 (by kernel_rfl) rfl #[.slice A51 y183.length c51] rfl (by (try simp only [List.map_toArray, List.map_cons, List.map_nil]); first | done | rfl | (simp only [List.length_drop, List.length_take]; rfl)) ?_; (with_reducible refine (crc_Read.calls k1 _ _ y183 t188 t189 _ ?side1 ?side2 A26.out).mono ?_); (case side1 => repeat (first | exact (Kd.V_reads' HO187.out).2.2 | (with_reducible refine Kd.C_alloc ?_ _) | (with_reducible refine Kd.C_drewN ?_ _) | (with_reducible refine Kd.C_drew ?_))); (case side2 => exact (Kd.V_reads' HO187.out).2.1); rintro e w' ⟨rfl, ⟨nd, rfl⟩⟩; refine ⟨_, rfl, ?_⟩; (try (rw [drewN_self wr]; generalize hq_ : World.drewN wr _ = wr; have n0_ : Aside0 (Kd.V (Kd.int .u8) 5 wr w.heap.size (fun k_ => some k_ ≠ (.slice Ao47 x10_1.length co47 : Value).ownBlock ∧ k_ ≠ gb167 ∧ k_ ≠ gb179) (.slice A51 y183.length c51) y183) := ⟨by rw [← hq_]; exact (by (with_reducible repeat (first | apply Kd.V_alloc | apply Kd.V_drewN | apply Kd.V_drew)); exact HO187.out)⟩; have n1_ : Aside0 (Kd.R (Kd.int .u8) 5 wr w.heap.size (fun _ => True) (.slice Ao47 x10_1.length co47) x10_1) := ⟨by rw [← hq_]; exact (by (with_reducible repeat (first | apply Kd.R_alloc | apply Kd.R_drewN | apply Kd.R_drew)); exact HO_10.out)⟩; have n2_ : Aside0 (Kd.V (Kd.int .u8) 5 wr w.heap.size (fun k_ => some k_ ≠ (.slice Ao47 x10_1.length co47 : Value).ownBlock ∧ k_ ≠ gb167 ∧ k_ ≠ gb179) (.slice Ao50 x7_1.length co50) x7_1) := ⟨by rw [← hq_]; exact (by (with_reducible repeat (first | apply Kd.V_alloc | apply Kd.V_drewN | apply Kd.V_drew)); exact HO_7.out)⟩; have n3_ : Aside0 (wr.heap[gb167]? = some (.cells #[.int .i64 x168000_1, .int .i64 x168001_1, .int .i64 x168002_1, .int .i64 x168003_1, .int .i64 x168004_1, .int .i64 x168005_1] 32 (0, 0))) := ⟨by rw [← hq_]; exact (by (with_reducible repeat (first | refine blk_drewN ?_ _ | refine blk_drew ?_ | refine blk_alloc ?_ _)); exact BK167.out)⟩; have n4_ : Aside0 (wr.heap[gb179]? = some (.cells #[.int .i64 t168, .int .i64 t169, .int .i64 t170, .int .i64 t171, .int .i64 t172, .int .i64 t173] 32 (0, 0))) := ⟨by rw [← hq_]; exact (by (with_reducible repeat (first | refine blk_drewN ?_ _ | refine blk_drew ?_ | refine blk_alloc ?_ _)); exact BK179.out)⟩; have n5_ : Aside0 (Below w.heap.size w wr) := ⟨by rw [← hq_]; exact (by repeat (first | (with_reducible first | exact HB.out | apply below_alloc | apply pw_below_drewN | apply below_drew1 | refine below_set ?_ GE167.out | refine below_set ?_ GE179.out) | exact HB.out))⟩; clear HO187 HO_10 HO_7 BK167 BK179 HB hq_; have HO187 := n0_; have HO_10 := n1_; have HO_7 := n2_; have BK167 := n3_; have BK179 := n4_; have HB := n5_; clear n0_ n1_ n2_ n3_ n4_ n5_)); have q52 : ((ji16) : Int) ≤ ((x7_1.length : Int) : Int) := of_decide_eq_true (by first | (with_reducible assumption) | assumption); obtain ⟨i052, hi052, _, hsz52, _⟩ := info_parts info5; have hroom52 : x7_1.length ≤ co50 := (Kd.V_reads' HO_7.out).2.1; have hC52 : Kd.F (Kd.int .u8) _ _ Ao50 x7_1.length x7_1 := (Kd.V_at (base := w.heap.size) HO_7.out).2.2; have hcut52 := cut_to (P := Try.prog) 22 5 .i64 Try.underlying22 hi052 Ao50 x7_1.length co50 (ji16) (of_decide_eq_true (by first | (with_reducible assumption) | assumption)) q52 hroom52; have hr52 := Kd.F_take (m := ((ji16) : Int).toNat) hC52 (by omega); have hy52 : y190.length = ((ji16) : Int).toNat := (by rw [Ny190.out, List.length_take]; omega); rw [← Ny190.out] at hr52; rw [← hy52] at hcut52; have HO194 := Aside0.mk (show Kd.V (Kd.int .u8) 5 _ w.heap.size _ (.slice Ao50 y190.length co50) y190 from Kd.V_mk (by omega) hr52); have HC194 := Aside0.mk (show y190.length ≤ co50 from by omega); clear hr52 hC52 hroom52 hi052 hsz52; have KY52 := Aside0.mk hy52; clear hy52; replace q52 := eq_true q52) | ((with_reducible refine gate_callee (f := 55) rfl ?_); refine goesL_ (some 67) rfl rfl Try.func55 (by kernel_rfl) rfl #[.slice Ao50 y190.length co50] rfl (by (try simp only [List.map_toArray, List.map_cons, List.map_nil]); first | done | rfl | (simp only [List.length_drop, List.length_take]; rfl)) ?_; (with_reducible refine (crc_Sum.calls k1 _ _ y190 t195 _ ?side1 ?side2 A29.out).mono ?_); (case side1 => repeat (first | exact (Kd.V_reads' HO194.out).2.2 | (with_reducible refine Kd.C_alloc ?_ _) | (with_reducible refine Kd.C_drewN ?_ _) | (with_reducible refine Kd.C_drew ?_))); (case side2 => exact (Kd.V_reads' HO194.out).2.1); rintro e w' ⟨rfl, ⟨nd, rfl⟩⟩; refine ⟨_, rfl, ?_⟩; (try (rw [drewN_self wr]; generalize hq_ : World.drewN wr _ = wr; have n0_ : Aside0 (Kd.V (Kd.int .u8) 5 wr w.heap.size (fun k_ => some k_ ≠ (.slice Ao47 x10_1.length co47 : Value).ownBlock ∧ k_ ≠ gb167 ∧ k_ ≠ gb179) (.slice A51 y183.length c51) y183) := ⟨by rw [← hq_]; exact (by (with_reducible repeat (first | apply Kd.V_alloc | apply Kd.V_drewN | apply Kd.V_drew)); exact HO187.out)⟩; have n1_ : Aside0 (Kd.V (Kd.int .u8) 5 wr w.heap.size (fun k_ => some k_ ≠ (.slice Ao47 x10_1.length co47 : Value).ownBlock ∧ k_ ≠ gb167 ∧ k_ ≠ gb179) (.slice Ao50 y190.length co50) y190) := ⟨by rw [← hq_]; exact (by (with_reducible repeat (first | apply Kd.V_alloc | apply Kd.V_drewN | apply Kd.V_drew)); exact HO194.out)⟩; have n2_ : Aside0 (Kd.R (Kd.int .u8) 5 wr w.heap.size (fun _ => True) (.slice Ao47 x10_1.length co47) x10_1) := ⟨by rw [← hq_]; exact (by (with_reducible repeat (first | apply Kd.R_alloc | apply Kd.R_drewN | apply Kd.R_drew)); exact HO_10.out)⟩; have n3_ : Aside0 (Kd.V (Kd.int .u8) 5 wr w.heap.size (fun k_ => some k_ ≠ (.slice Ao47 x10_1.length co47 : Value).ownBlock ∧ k_ ≠ gb167 ∧ k_ ≠ gb179) (.slice Ao50 x7_1.length co50) x7_1) := ⟨by rw [← hq_]; exact (by (with_reducible repeat (first | apply Kd.V_alloc | apply Kd.V_drewN | apply Kd.V_drew)); exact HO_7.out)⟩; have n4_ : Aside0 (wr.heap[gb167]? = some (.cells #[.int .i64 x168000_1, .int .i64 x168001_1, .int .i64 x168002_1, .int .i64 x168003_1, .int .i64 x168004_1, .int .i64 x168005_1] 32 (0, 0))) := ⟨by rw [← hq_]; exact (by (with_reducible repeat (first | refine blk_drewN ?_ _ | refine blk_drew ?_ | refine blk_alloc ?_ _)); exact BK167.out)⟩; have n5_ : Aside0 (wr.heap[gb179]? = some (.cells #[.int .i64 t168, .int .i64 t169, .int .i64 t170, .int .i64 t171, .int .i64 t172, .int .i64 t173] 32 (0, 0))) := ⟨by rw [← hq_]; exact (by (with_reducible repeat (first | refine blk_drewN ?_ _ | refine blk_drew ?_ | refine blk_alloc ?_ _)); exact BK179.out)⟩; have n6_ : Aside0 (Below w.heap.size w wr) := ⟨by rw [← hq_]; exact (by repeat (first | (with_reducible first | exact HB.out | apply below_alloc | apply pw_below_drewN | apply below_drew1 | refine below_set ?_ GE167.out | refine below_set ?_ GE179.out) | exact HB.out))⟩; clear HO187 HO194 HO_10 HO_7 BK167 BK179 HB hq_; have HO187 := n0_; have HO194 := n1_; have HO_10 := n2_; have HO_7 := n3_; have BK167 := n4_; have BK179 := n5_; have HB := n6_; clear n0_ n1_ n2_ n3_ n4_ n5_ n6_)); have hcz53_0 : wr.cell? ⟨gb167, 0, none⟩ = some (.int .i64 x168000_1) := (blk_cell BK167.out 0).trans rfl; have hcz53_1 : wr.cell? ⟨gb167, 1, none⟩ = some (.int .i64 x168001_1) := (blk_cell BK167.out 1).trans rfl; have hcz53_2 : wr.cell? ⟨gb167, 2, none⟩ = some (.int .i64 x168002_1) := (blk_cell BK167.out 2).trans rfl; have hcz53_3 : wr.cell? ⟨gb167, 3, none⟩ = some (.int .i64 x168003_1) := (blk_cell BK167.out 3).trans rfl; have hcz53_4 : wr.cell? ⟨gb167, 4, none⟩ = some (.int .i64 x168004_1) := (blk_cell BK167.out 4).trans rfl; have hcz53_5 : wr.cell? ⟨gb167, 5, none⟩ = some (.int .i64 x168005_1) := (blk_cell BK167.out 5).trans rfl; have hfz53_0 := blk_frozen BK167.out 0; have hfz53_1 := blk_frozen BK167.out 1; have hfz53_2 := blk_frozen BK167.out 2; have hfz53_3 := blk_frozen BK167.out 3; have hfz53_4 := blk_frozen BK167.out 4; have hfz53_5 := blk_frozen BK167.out 5))
                          refine bodyPost_ret (results_list (rs := [.cell 2 32, .tmp 3, .tmp 4, .tmp 5]) rfl (by simp) (.cell gb167 32 #[.int .i64 0, .int .i64 0, .int .i64 0, .int .i64 0, .int .i64 0, .int .i64 0] (0, 0) _ rfl (by (with_reducible repeat (first | refine blk_drewN ?_ _ | refine blk_drew ?_ | refine blk_alloc ?_ _)); refine blk_put (cs := #[.int .i64 0, .int .i64 0, .int .i64 0, .int .i64 0, .int .i64 0, .int .i64 x168005_1]) ?_ 5 _ rfl; (with_reducible repeat (first | refine blk_drewN ?_ _ | refine blk_drew ?_ | refine blk_alloc ?_ _)); refine blk_put (cs := #[.int .i64 0, .int .i64 0, .int .i64 0, .int .i64 0, .int .i64 x168004_1, .int .i64 x168005_1]) ?_ 4 _ rfl; (with_reducible repeat (first | refine blk_drewN ?_ _ | refine blk_drew ?_ | refine blk_alloc ?_ _)); refine blk_put (cs := #[.int .i64 0, .int .i64 0, .int .i64 0, .int .i64 x168003_1, .int .i64 x168004_1, .int .i64 x168005_1]) ?_ 3 _ rfl; (with_reducible repeat (first | refine blk_drewN ?_ _ | refine blk_drew ?_ | refine blk_alloc ?_ _)); refine blk_put (cs := #[.int .i64 0, .int .i64 0, .int .i64 x168002_1, .int .i64 x168003_1, .int .i64 x168004_1, .int .i64 x168005_1]) ?_ 2 _ rfl; (with_reducible repeat (first | refine blk_drewN ?_ _ | refine blk_drew ?_ | refine blk_alloc ?_ _)); refine blk_put (cs := #[.int .i64 0, .int .i64 x168001_1, .int .i64 x168002_1, .int .i64 x168003_1, .int .i64 x168004_1, .int .i64 x168005_1]) ?_ 1 _ rfl; (with_reducible repeat (first | refine blk_drewN ?_ _ | refine blk_drew ?_ | refine blk_alloc ?_ _)); refine blk_put (cs := #[.int .i64 x168000_1, .int .i64 x168001_1, .int .i64 x168002_1, .int .i64 x168003_1, .int .i64 x168004_1, .int .i64 x168005_1]) ?_ 0 _ rfl; (with_reducible repeat (first | refine blk_drewN ?_ _ | refine blk_drew ?_ | refine blk_alloc ?_ _)); exact BK167.out) Try.underlying32 rfl (by kernel_rfl) (.tmp (.tmp (.tmp .nil))))) rfl ?_
                          exact ⟨_, by first | rfl | (simp [errW_none, errW_some] <;> rfl) | (simp only [← hji4, ← hji16]; first | rfl | (simp [errW_none, errW_some] <;> rfl)) | (simp [*, errW_none, errW_some] <;> rfl), by first | exact Kd.R_nil _ _ _ _ _ | exact Kd.N_nil _ _ _ _ _ | exact Kd.V_nil _ _ _ _ _ | exact Kd.Q_nil _ _ _ _ _ | exact Kd.S_nil _ _ _ _ _, by repeat (first | (with_reducible first | exact HB.out | apply below_alloc | apply pw_below_drewN | apply below_drew1 | refine below_set ?_ GE167.out | refine below_set ?_ GE179.out) | exact HB.out)⟩
                      · rw [if_neg c28] at H
                        exact absurd H (by simp)
                    · rw [if_neg c25] at H
                      exact absurd H (by simp)
                  · rw [if_neg c24] at H
                    exact absurd H (by simp)
                · rw [if_neg c23] at H
                  exact absurd H (by simp)
            · rw [if_neg c15] at H
              have c15b0 : decide ((x10_1.length : Int) < t172) = false := decide_eq_false c15
              clear c15
              by_cases c54 : (x7_1.length : Int) > 0
              · rw [if_pos c54] at H
                have c54b0 : decide (0 < (x7_1.length : Int)) = true := decide_eq_true c54
                have c54b1 : decide (0 < x7_1.length) = true := decide_eq_true (by omega)
                clear c54
                simp only [Option.some.injEq, Prod.mk.injEq] at H
                obtain ⟨rfl, rfl, rfl, rfl, rfl, rfl, rfl, rfl, rfl⟩ := H
                obtain ⟨Ao55, co55, eo55⟩ := Kd.R_slice HO_10.out
                subst eo55
                have hnb56 := NB179_167.out
                have hnc56 := NB167_179.out
                have hcz57_0 : wr.cell? ⟨gb179, 0, none⟩ = some (.int .i64 t168) := (blk_cell BK179.out 0).trans rfl
                have hcz57_1 : wr.cell? ⟨gb179, 1, none⟩ = some (.int .i64 t169) := (blk_cell BK179.out 1).trans rfl
                have hcz57_2 : wr.cell? ⟨gb179, 2, none⟩ = some (.int .i64 t170) := (blk_cell BK179.out 2).trans rfl
                have hcz57_3 : wr.cell? ⟨gb179, 3, none⟩ = some (.int .i64 t171) := (blk_cell BK179.out 3).trans rfl
                have hcz57_4 : wr.cell? ⟨gb179, 4, none⟩ = some (.int .i64 t172) := (blk_cell BK179.out 4).trans rfl
                have hcz57_5 : wr.cell? ⟨gb179, 5, none⟩ = some (.int .i64 t173) := (blk_cell BK179.out 5).trans rfl
                have hfz57_0 := blk_frozen BK179.out 0
                have hfz57_1 := blk_frozen BK179.out 1
                have hfz57_2 := blk_frozen BK179.out 2
                have hfz57_3 := blk_frozen BK179.out 3
                have hfz57_4 := blk_frozen BK179.out 4
                have hfz57_5 := blk_frozen BK179.out 5
                obtain ⟨Ao58, co58, eo58⟩ := Kd.V_slice HO_7.out
                subst eo58
                have hcz59_0 : wr.cell? ⟨gb167, 0, none⟩ = some (.int .i64 x168000_1) := (blk_cell BK167.out 0).trans rfl
                have hcz59_1 : wr.cell? ⟨gb167, 1, none⟩ = some (.int .i64 x168001_1) := (blk_cell BK167.out 1).trans rfl
                have hcz59_2 : wr.cell? ⟨gb167, 2, none⟩ = some (.int .i64 x168002_1) := (blk_cell BK167.out 2).trans rfl
                have hcz59_3 : wr.cell? ⟨gb167, 3, none⟩ = some (.int .i64 x168003_1) := (blk_cell BK167.out 3).trans rfl
                have hcz59_4 : wr.cell? ⟨gb167, 4, none⟩ = some (.int .i64 x168004_1) := (blk_cell BK167.out 4).trans rfl
                have hcz59_5 : wr.cell? ⟨gb167, 5, none⟩ = some (.int .i64 x168005_1) := (blk_cell BK167.out 5).trans rfl
                have hfz59_0 := blk_frozen BK167.out 0
                have hfz59_1 := blk_frozen BK167.out 1
                have hfz59_2 := blk_frozen BK167.out 2
                have hfz59_3 := blk_frozen BK167.out 3
                have hfz59_4 := blk_frozen BK167.out 4
                have hfz59_5 := blk_frozen BK167.out 5
                go_wp2
                refine bodyPost_ret (results_list (rs := [.cell 2 32, .tmp 3, .tmp 4, .tmp 5]) rfl (by simp) (.cell gb167 32 #[.int .i64 0, .int .i64 0, .int .i64 0, .int .i64 0, .int .i64 0, .int .i64 0] (0, 0) _ rfl (by (with_reducible repeat (first | refine blk_drewN ?_ _ | refine blk_drew ?_ | refine blk_alloc ?_ _)); refine blk_put (cs := #[.int .i64 0, .int .i64 0, .int .i64 0, .int .i64 0, .int .i64 0, .int .i64 x168005_1]) ?_ 5 _ rfl; (with_reducible repeat (first | refine blk_drewN ?_ _ | refine blk_drew ?_ | refine blk_alloc ?_ _)); refine blk_put (cs := #[.int .i64 0, .int .i64 0, .int .i64 0, .int .i64 0, .int .i64 x168004_1, .int .i64 x168005_1]) ?_ 4 _ rfl; (with_reducible repeat (first | refine blk_drewN ?_ _ | refine blk_drew ?_ | refine blk_alloc ?_ _)); refine blk_put (cs := #[.int .i64 0, .int .i64 0, .int .i64 0, .int .i64 x168003_1, .int .i64 x168004_1, .int .i64 x168005_1]) ?_ 3 _ rfl; (with_reducible repeat (first | refine blk_drewN ?_ _ | refine blk_drew ?_ | refine blk_alloc ?_ _)); refine blk_put (cs := #[.int .i64 0, .int .i64 0, .int .i64 x168002_1, .int .i64 x168003_1, .int .i64 x168004_1, .int .i64 x168005_1]) ?_ 2 _ rfl; (with_reducible repeat (first | refine blk_drewN ?_ _ | refine blk_drew ?_ | refine blk_alloc ?_ _)); refine blk_put (cs := #[.int .i64 0, .int .i64 x168001_1, .int .i64 x168002_1, .int .i64 x168003_1, .int .i64 x168004_1, .int .i64 x168005_1]) ?_ 1 _ rfl; (with_reducible repeat (first | refine blk_drewN ?_ _ | refine blk_drew ?_ | refine blk_alloc ?_ _)); refine blk_put (cs := #[.int .i64 x168000_1, .int .i64 x168001_1, .int .i64 x168002_1, .int .i64 x168003_1, .int .i64 x168004_1, .int .i64 x168005_1]) ?_ 0 _ rfl; (with_reducible repeat (first | refine blk_drewN ?_ _ | refine blk_drew ?_ | refine blk_alloc ?_ _)); exact BK167.out) Try.underlying32 rfl (by kernel_rfl) (.tmp (.tmp (.tmp .nil))))) rfl ?_
                exact ⟨_, by first | rfl | (simp [errW_none, errW_some] <;> rfl) | (simp only [← hji4]; first | rfl | (simp [errW_none, errW_some] <;> rfl)) | (simp [*, errW_none, errW_some] <;> rfl), by first | exact Kd.R_nil _ _ _ _ _ | exact Kd.N_nil _ _ _ _ _ | exact Kd.V_nil _ _ _ _ _ | exact Kd.Q_nil _ _ _ _ _ | exact Kd.S_nil _ _ _ _ _, by repeat (first | (with_reducible first | exact HB.out | apply below_alloc | apply pw_below_drewN | apply below_drew1 | refine below_set ?_ GE167.out | refine below_set ?_ GE179.out) | exact HB.out)⟩
              · rw [if_neg c54] at H
                have c54b0 : decide (0 < (x7_1.length : Int)) = false := decide_eq_false c54
                have c54b1 : decide (0 < x7_1.length) = false := decide_eq_false (by omega)
                clear c54
                simp only [Option.some.injEq, Prod.mk.injEq] at H
                obtain ⟨rfl, rfl, rfl, rfl, rfl, rfl, rfl, rfl, rfl⟩ := H
                obtain ⟨Ao60, co60, eo60⟩ := Kd.R_slice HO_10.out
                subst eo60
                have hnb61 := NB179_167.out
                have hnc61 := NB167_179.out
                have hcz62_0 : wr.cell? ⟨gb179, 0, none⟩ = some (.int .i64 t168) := (blk_cell BK179.out 0).trans rfl
                have hcz62_1 : wr.cell? ⟨gb179, 1, none⟩ = some (.int .i64 t169) := (blk_cell BK179.out 1).trans rfl
                have hcz62_2 : wr.cell? ⟨gb179, 2, none⟩ = some (.int .i64 t170) := (blk_cell BK179.out 2).trans rfl
                have hcz62_3 : wr.cell? ⟨gb179, 3, none⟩ = some (.int .i64 t171) := (blk_cell BK179.out 3).trans rfl
                have hcz62_4 : wr.cell? ⟨gb179, 4, none⟩ = some (.int .i64 t172) := (blk_cell BK179.out 4).trans rfl
                have hcz62_5 : wr.cell? ⟨gb179, 5, none⟩ = some (.int .i64 t173) := (blk_cell BK179.out 5).trans rfl
                have hfz62_0 := blk_frozen BK179.out 0
                have hfz62_1 := blk_frozen BK179.out 1
                have hfz62_2 := blk_frozen BK179.out 2
                have hfz62_3 := blk_frozen BK179.out 3
                have hfz62_4 := blk_frozen BK179.out 4
                have hfz62_5 := blk_frozen BK179.out 5
                obtain ⟨Ao63, co63, eo63⟩ := Kd.V_slice HO_7.out
                subst eo63
                have hcz64_0 : wr.cell? ⟨gb167, 0, none⟩ = some (.int .i64 x168000_1) := (blk_cell BK167.out 0).trans rfl
                have hcz64_1 : wr.cell? ⟨gb167, 1, none⟩ = some (.int .i64 x168001_1) := (blk_cell BK167.out 1).trans rfl
                have hcz64_2 : wr.cell? ⟨gb167, 2, none⟩ = some (.int .i64 x168002_1) := (blk_cell BK167.out 2).trans rfl
                have hcz64_3 : wr.cell? ⟨gb167, 3, none⟩ = some (.int .i64 x168003_1) := (blk_cell BK167.out 3).trans rfl
                have hcz64_4 : wr.cell? ⟨gb167, 4, none⟩ = some (.int .i64 x168004_1) := (blk_cell BK167.out 4).trans rfl
                have hcz64_5 : wr.cell? ⟨gb167, 5, none⟩ = some (.int .i64 x168005_1) := (blk_cell BK167.out 5).trans rfl
                have hfz64_0 := blk_frozen BK167.out 0
                have hfz64_1 := blk_frozen BK167.out 1
                have hfz64_2 := blk_frozen BK167.out 2
                have hfz64_3 := blk_frozen BK167.out 3
                have hfz64_4 := blk_frozen BK167.out 4
                have hfz64_5 := blk_frozen BK167.out 5
                go_wp2
                refine bodyPost_ret (results_list (rs := [.cell 2 32, .tmp 3, .tmp 4, .tmp 5]) rfl (by simp) (.cell gb167 32 #[.int .i64 t168, .int .i64 t169, .int .i64 t170, .int .i64 t171, .int .i64 t172, .int .i64 t173] (0, 0) _ rfl (by (with_reducible repeat (first | refine blk_drewN ?_ _ | refine blk_drew ?_ | refine blk_alloc ?_ _)); refine blk_put (cs := #[.int .i64 t168, .int .i64 t169, .int .i64 t170, .int .i64 t171, .int .i64 t172, .int .i64 x168005_1]) ?_ 5 _ rfl; (with_reducible repeat (first | refine blk_drewN ?_ _ | refine blk_drew ?_ | refine blk_alloc ?_ _)); refine blk_put (cs := #[.int .i64 t168, .int .i64 t169, .int .i64 t170, .int .i64 t171, .int .i64 x168004_1, .int .i64 x168005_1]) ?_ 4 _ rfl; (with_reducible repeat (first | refine blk_drewN ?_ _ | refine blk_drew ?_ | refine blk_alloc ?_ _)); refine blk_put (cs := #[.int .i64 t168, .int .i64 t169, .int .i64 t170, .int .i64 x168003_1, .int .i64 x168004_1, .int .i64 x168005_1]) ?_ 3 _ rfl; (with_reducible repeat (first | refine blk_drewN ?_ _ | refine blk_drew ?_ | refine blk_alloc ?_ _)); refine blk_put (cs := #[.int .i64 t168, .int .i64 t169, .int .i64 x168002_1, .int .i64 x168003_1, .int .i64 x168004_1, .int .i64 x168005_1]) ?_ 2 _ rfl; (with_reducible repeat (first | refine blk_drewN ?_ _ | refine blk_drew ?_ | refine blk_alloc ?_ _)); refine blk_put (cs := #[.int .i64 t168, .int .i64 x168001_1, .int .i64 x168002_1, .int .i64 x168003_1, .int .i64 x168004_1, .int .i64 x168005_1]) ?_ 1 _ rfl; (with_reducible repeat (first | refine blk_drewN ?_ _ | refine blk_drew ?_ | refine blk_alloc ?_ _)); refine blk_put (cs := #[.int .i64 x168000_1, .int .i64 x168001_1, .int .i64 x168002_1, .int .i64 x168003_1, .int .i64 x168004_1, .int .i64 x168005_1]) ?_ 0 _ rfl; (with_reducible repeat (first | refine blk_drewN ?_ _ | refine blk_drew ?_ | refine blk_alloc ?_ _)); exact BK167.out) Try.underlying32 rfl (by kernel_rfl) (.tmp (.tmp (.tmp .nil))))) rfl ?_
                exact ⟨_, by first | rfl | (simp [errW_none, errW_some] <;> rfl) | (simp only [← hji4]; first | rfl | (simp [errW_none, errW_some] <;> rfl)) | (simp [*, errW_none, errW_some] <;> rfl), by (with_reducible repeat (first | apply Kd.R_alloc | apply Kd.R_drewN | apply Kd.R_drew)); exact Kd.R_mono (Kd.R_far (p := ⟨gb167, 5, none⟩) (Kd.R_far (p := ⟨gb167, 4, none⟩) (Kd.R_far (p := ⟨gb167, 3, none⟩) (Kd.R_far (p := ⟨gb167, 2, none⟩) (Kd.R_far (p := ⟨gb167, 1, none⟩) (Kd.R_far (p := ⟨gb167, 0, none⟩) (Kd.R_types HO_10.out BK167.out (by decide)) (fun _ hk => hk.2) (.int .i64 t168)) (fun _ hk => hk.2) (.int .i64 t169)) (fun _ hk => hk.2) (.int .i64 t170)) (fun _ hk => hk.2) (.int .i64 t171)) (fun _ hk => hk.2) (.int .i64 t172)) (fun _ hk => hk.2) (.int .i64 t173)) (fun _ hk => trivial), by repeat (first | (with_reducible first | exact HB.out | apply below_alloc | apply pw_below_drewN | apply below_drew1 | refine below_set ?_ GE167.out | refine below_set ?_ GE179.out) | exact HB.out)⟩
      · rw [if_neg c6] at H
        exact absurd H (by simp)
    · rw [if_neg c5] at H
      exact absurd H (by simp)
  · rw [if_neg c3] at H
    have c3b0 : (t178 == 0) = false := beq_eq_false_iff_ne.mpr c3
    have c3b1 : (t178 != 0) = true := bne_iff_ne.mpr c3
    simp only [Option.some.injEq, Prod.mk.injEq] at H
    obtain ⟨rfl, rfl, rfl, rfl, rfl, rfl, rfl, rfl, rfl⟩ := H
    go_enter Try.func50, Try.ntmps50
    go_wp2_with (first | ((with_reducible refine gate_dst (N := 2) rfl ?_); refine box_event ?hg (N := 2) ?hd (cs := #[.int .i64 0, .int .i64 0, .int .i64 0, .int .i64 0, .int .i64 0, .int .i64 0]) (t := 32) ?hr ?_; (case hd => rfl); (case hg => rfl); (case hr => first | (go_simp; done) | (go_simp; rfl)); intro gb167 hg w65 hbox hb; have n0_ := Aside0.mk (below_step (by repeat (first | (with_reducible first | exact HB.out | apply below_alloc | apply pw_below_drewN | apply below_drew1) | exact HB.out)) hb); have n1_ := Aside0.mk (hbox); have n2_ := Aside0.mk ((by rw [hg]; exact (below_size (by repeat (first | (with_reducible first | exact HB.out | apply below_alloc | apply pw_below_drewN | apply below_drew1) | exact HB.out))) : w.heap.size ≤ gb167)); have n3_ := Aside0.mk ((by rw [hg]; exact (below_size (by repeat (first | (with_reducible first | exact HB.out | apply below_alloc | apply pw_below_drewN | apply below_drew1) | exact HB.out))) : w.heap.size ≤ gb167)); clear HB; have HB := n0_; have BK167 := n1_; have GW167 := n2_; have GE167 := n3_; clear n0_ n1_ n2_ n3_; clear hb hbox hg) | ((with_reducible refine gate_callee (f := 71) rfl ?_); refine goesL_ (some 17) rfl rfl Try.func71 (by kernel_rfl) rfl #[.slice A0 l0.length c0] rfl (by (try simp only [List.map_toArray, List.map_cons, List.map_nil]); first | done | rfl | (simp only [List.length_drop, List.length_take]; rfl)) ?_; (with_reducible refine (shard_opened.calls k (fun k_ => k_ < w.heap.size) _ _ l0 t168 t169 t170 t171 t172 t173 t174 t177 t178 _ ?side1 A2.out).mono ?_); (case side1 => exact Kd.V_mk HC0.out (Kd.F_below (Kd.C_F (Kd.heap_int .u8) HR0.out) (by repeat (first | (with_reducible first | exact HB.out | apply below_alloc | apply pw_below_drewN | apply below_drew1 | refine below_set ?_ GE167.out) | exact HB.out)))); rintro e w66 ⟨v175, rfl, ho0, hb⟩; refine ⟨_, rfl, ?_⟩; have n0_ := Aside0.mk (Kd.V_lower (Kd.V_mono (ok' := fun k_ => k_ ≠ gb167) ho0 (fun k_ hk_ => Or.elim hk_ (fun hs_ => fun e_ => Nat.not_le.2 hs_ (by rw [e_]; exact GW167.out)) (fun hn_ => (Kd.freshB (g := gb167) (o := .cells #[.int .i64 0, .int .i64 0, .int .i64 0, .int .i64 0, .int .i64 0, .int .i64 0] 32 (0, 0)) (by (with_reducible repeat (first | refine blk_drewN ?_ _ | refine blk_drew ?_ | refine blk_alloc ?_ _)); exact BK167.out) k_ hn_)))) (below_size (by repeat (first | (with_reducible first | exact HB.out | apply below_alloc | apply pw_below_drewN | apply below_drew1 | refine below_set ?_ GE167.out) | exact HB.out)))); have n1_ := Aside0.mk (blk_below (g := gb167) (o := .cells #[.int .i64 0, .int .i64 0, .int .i64 0, .int .i64 0, .int .i64 0, .int .i64 0] 32 (0, 0)) (by (with_reducible repeat (first | refine blk_drewN ?_ _ | refine blk_drew ?_ | refine blk_alloc ?_ _)); exact BK167.out) hb); have n2_ := Aside0.mk (below_step (by repeat (first | (with_reducible first | exact HB.out | apply below_alloc | apply pw_below_drewN | apply below_drew1 | refine below_set ?_ GE167.out) | exact HB.out)) hb); clear BK167; clear HB; have HO176 := n0_; have BK167 := n1_; have HB := n2_; clear n0_ n1_ n2_; (try clear hb); (try clear hb2); (try clear hk); (try clear hi); (try clear ho0)) | ((with_reducible refine gate_dst (N := 6) rfl ?_); refine box_event ?hg (N := 6) ?hd (cs := #[.int .i64 0, .int .i64 0, .int .i64 0, .int .i64 0, .int .i64 0, .int .i64 0]) (t := 32) ?hr ?_; (case hd => rfl); (case hg => rfl); (case hr => first | (go_simp; done) | (go_simp; rfl)); intro gb179 hg w67 hbox hb; have n0_ := Aside0.mk (Kd.V_below (Kd.V_elderB (by (with_reducible repeat (first | apply Kd.V_alloc | apply Kd.V_drewN | apply Kd.V_drew)); exact HO176.out) gb179 (Nat.le_of_eq hg.symm)) hb); have n1_ := Aside0.mk (blk_below (g := gb167) (o := .cells #[.int .i64 0, .int .i64 0, .int .i64 0, .int .i64 0, .int .i64 0, .int .i64 0] 32 (0, 0)) (by (with_reducible repeat (first | refine blk_drewN ?_ _ | refine blk_drew ?_ | refine blk_alloc ?_ _)); exact BK167.out) hb); have n2_ := Aside0.mk (below_step (by repeat (first | (with_reducible first | exact HB.out | apply below_alloc | apply pw_below_drewN | apply below_drew1 | refine below_set ?_ GE167.out) | exact HB.out)) hb); have n3_ := Aside0.mk (hbox); have n4_ := Aside0.mk ((by rw [hg]; exact (below_size (by repeat (first | (with_reducible first | exact HB.out | apply below_alloc | apply pw_below_drewN | apply below_drew1 | refine below_set ?_ GE167.out) | exact HB.out))) : w.heap.size ≤ gb179)); have n5_ := Aside0.mk ((by rw [hg]; exact (below_size (by repeat (first | (with_reducible first | exact HB.out | apply below_alloc | apply pw_below_drewN | apply below_drew1 | refine below_set ?_ GE167.out) | exact HB.out))) : w.heap.size ≤ gb179)); have n6_ := Aside0.mk ((by rw [hg]; exact Nat.ne_of_lt (blk_lt (g := gb167) (o := .cells #[.int .i64 0, .int .i64 0, .int .i64 0, .int .i64 0, .int .i64 0, .int .i64 0] 32 (0, 0)) (by (with_reducible repeat (first | refine blk_drewN ?_ _ | refine blk_drew ?_ | refine blk_alloc ?_ _)); exact BK167.out)) : gb167 ≠ gb179)); have n7_ := Aside0.mk ((by rw [hg]; exact Nat.ne_of_gt (blk_lt (g := gb167) (o := .cells #[.int .i64 0, .int .i64 0, .int .i64 0, .int .i64 0, .int .i64 0, .int .i64 0] 32 (0, 0)) (by (with_reducible repeat (first | refine blk_drewN ?_ _ | refine blk_drew ?_ | refine blk_alloc ?_ _)); exact BK167.out)) : gb179 ≠ gb167)); clear HO176; clear BK167; clear HB; have HO176 := n0_; have BK167 := n1_; have HB := n2_; have BK179 := n3_; have GW179 := n4_; have GE179 := n5_; have NB167_179 := n6_; have NB179_167 := n7_; clear n0_ n1_ n2_ n3_ n4_ n5_ n6_ n7_; clear hb hbox hg; have hnb68 := NB179_167.out; have hnc68 := NB167_179.out; have hcz69_0 : w67.cell? ⟨gb179, 0, none⟩ = some (.int .i64 0) := (blk_cell BK179.out 0).trans rfl; have hcz69_1 : w67.cell? ⟨gb179, 1, none⟩ = some (.int .i64 0) := (blk_cell BK179.out 1).trans rfl; have hcz69_2 : w67.cell? ⟨gb179, 2, none⟩ = some (.int .i64 0) := (blk_cell BK179.out 2).trans rfl; have hcz69_3 : w67.cell? ⟨gb179, 3, none⟩ = some (.int .i64 0) := (blk_cell BK179.out 3).trans rfl; have hcz69_4 : w67.cell? ⟨gb179, 4, none⟩ = some (.int .i64 0) := (blk_cell BK179.out 4).trans rfl; have hcz69_5 : w67.cell? ⟨gb179, 5, none⟩ = some (.int .i64 0) := (blk_cell BK179.out 5).trans rfl; have hfz69_0 := blk_frozen BK179.out 0; have hfz69_1 := blk_frozen BK179.out 1; have hfz69_2 := blk_frozen BK179.out 2; have hfz69_3 := blk_frozen BK179.out 3; have hfz69_4 := blk_frozen BK179.out 4; have hfz69_5 := blk_frozen BK179.out 5; have hcz70_0 : w67.cell? ⟨gb167, 0, none⟩ = some (.int .i64 0) := (blk_cell BK167.out 0).trans rfl; have hcz70_1 : w67.cell? ⟨gb167, 1, none⟩ = some (.int .i64 0) := (blk_cell BK167.out 1).trans rfl; have hcz70_2 : w67.cell? ⟨gb167, 2, none⟩ = some (.int .i64 0) := (blk_cell BK167.out 2).trans rfl; have hcz70_3 : w67.cell? ⟨gb167, 3, none⟩ = some (.int .i64 0) := (blk_cell BK167.out 3).trans rfl; have hcz70_4 : w67.cell? ⟨gb167, 4, none⟩ = some (.int .i64 0) := (blk_cell BK167.out 4).trans rfl; have hcz70_5 : w67.cell? ⟨gb167, 5, none⟩ = some (.int .i64 0) := (blk_cell BK167.out 5).trans rfl; have hfz70_0 := blk_frozen BK167.out 0; have hfz70_1 := blk_frozen BK167.out 1; have hfz70_2 := blk_frozen BK167.out 2; have hfz70_3 := blk_frozen BK167.out 3; have hfz70_4 := blk_frozen BK167.out 4; have hfz70_5 := blk_frozen BK167.out 5))
    refine bodyPost_ret (results_list (rs := [.cell 2 32, .tmp 3, .tmp 4, .tmp 5]) rfl (by simp) (.cell gb167 32 #[.int .i64 0, .int .i64 0, .int .i64 0, .int .i64 0, .int .i64 0, .int .i64 0] (0, 0) _ rfl (by (with_reducible repeat (first | refine blk_drewN ?_ _ | refine blk_drew ?_ | refine blk_alloc ?_ _)); refine blk_put (cs := #[.int .i64 0, .int .i64 0, .int .i64 0, .int .i64 0, .int .i64 0, .int .i64 0]) ?_ 5 _ rfl; (with_reducible repeat (first | refine blk_drewN ?_ _ | refine blk_drew ?_ | refine blk_alloc ?_ _)); refine blk_put (cs := #[.int .i64 0, .int .i64 0, .int .i64 0, .int .i64 0, .int .i64 0, .int .i64 0]) ?_ 4 _ rfl; (with_reducible repeat (first | refine blk_drewN ?_ _ | refine blk_drew ?_ | refine blk_alloc ?_ _)); refine blk_put (cs := #[.int .i64 0, .int .i64 0, .int .i64 0, .int .i64 0, .int .i64 0, .int .i64 0]) ?_ 3 _ rfl; (with_reducible repeat (first | refine blk_drewN ?_ _ | refine blk_drew ?_ | refine blk_alloc ?_ _)); refine blk_put (cs := #[.int .i64 0, .int .i64 0, .int .i64 0, .int .i64 0, .int .i64 0, .int .i64 0]) ?_ 2 _ rfl; (with_reducible repeat (first | refine blk_drewN ?_ _ | refine blk_drew ?_ | refine blk_alloc ?_ _)); refine blk_put (cs := #[.int .i64 0, .int .i64 0, .int .i64 0, .int .i64 0, .int .i64 0, .int .i64 0]) ?_ 1 _ rfl; (with_reducible repeat (first | refine blk_drewN ?_ _ | refine blk_drew ?_ | refine blk_alloc ?_ _)); refine blk_put (cs := #[.int .i64 0, .int .i64 0, .int .i64 0, .int .i64 0, .int .i64 0, .int .i64 0]) ?_ 0 _ rfl; (with_reducible repeat (first | refine blk_drewN ?_ _ | refine blk_drew ?_ | refine blk_alloc ?_ _)); refine blk_far ?_ NB167_179.out _; (with_reducible repeat (first | refine blk_drewN ?_ _ | refine blk_drew ?_ | refine blk_alloc ?_ _)); refine blk_far ?_ NB167_179.out _; (with_reducible repeat (first | refine blk_drewN ?_ _ | refine blk_drew ?_ | refine blk_alloc ?_ _)); refine blk_far ?_ NB167_179.out _; (with_reducible repeat (first | refine blk_drewN ?_ _ | refine blk_drew ?_ | refine blk_alloc ?_ _)); refine blk_far ?_ NB167_179.out _; (with_reducible repeat (first | refine blk_drewN ?_ _ | refine blk_drew ?_ | refine blk_alloc ?_ _)); refine blk_far ?_ NB167_179.out _; (with_reducible repeat (first | refine blk_drewN ?_ _ | refine blk_drew ?_ | refine blk_alloc ?_ _)); refine blk_far ?_ NB167_179.out _; (with_reducible repeat (first | refine blk_drewN ?_ _ | refine blk_drew ?_ | refine blk_alloc ?_ _)); exact BK167.out) Try.underlying32 rfl (by kernel_rfl) (.tmp (.tmp (.tmp .nil))))) rfl ?_
    exact ⟨_, by first | rfl | (simp [errW_none, errW_some] <;> rfl) | (simp [*, errW_none, errW_some] <;> rfl), by first | exact Kd.R_nil _ _ _ _ _ | exact Kd.N_nil _ _ _ _ _ | exact Kd.V_nil _ _ _ _ _ | exact Kd.Q_nil _ _ _ _ _ | exact Kd.S_nil _ _ _ _ _, by repeat (first | (with_reducible first | exact HB.out | apply below_alloc | apply pw_below_drewN | apply below_drew1 | refine below_set ?_ GE167.out | refine below_set ?_ GE179.out) | exact HB.out)⟩

/-! ### shard_Read: function 18 -/
def shard_Read.f (k : Nat) (l0 : List Int) : Option (Int × Int × Int × Int × Int × Int × List Int × Int) := (shard_parse.f k l0).bind fun bt210 => (some (bt210.1, bt210.2.1, bt210.2.2.1, bt210.2.2.2.1, bt210.2.2.2.2.1, bt210.2.2.2.2.2.1, bt210.2.2.2.2.2.2.1, bt210.2.2.2.2.2.2.2.2))
theorem shard_Read.mono : ∀ a0 k, LeO (shard_Read.f k a0) (shard_Read.f (k + 1) a0) := by
  intro a0 k
  unfold shard_Read.f
  repeat' first
      | (with_reducible exact shard_parse.mono _ _)
      | (with_reducible exact LeO.refl _)
      | (with_reducible exact LeO.none _)
      | (with_reducible refine LeO.ite ?_ ?_)
      | (with_reducible refine LeO.bind ?_ (fun _ => ?_))
      | exact shard_parse.mono _ _
      | exact LeO.none _
      | refine LeO.ite ?_ ?_
      | refine LeO.bind ?_ (fun _ => ?_)
set_option maxHeartbeats 8000000 in
set_option maxRecDepth 100000 in
theorem shard_Read.calls (k : Nat) (A0 : Option Addr) (c0 : Nat) (l0 : List Int) (r1 : Int) (r2 : Int) (r3 : Int) (r4 : Int) (r5 : Int) (r6 : Int) (r7 : List Int) (r8 : Int) (w : World) (hr0 : Kd.C (Kd.int .u8) w A0 l0.length l0) (hc0 : l0.length ≤ c0) (h : shard_Read.f k l0 = some (r1, r2, r3, r4, r5, r6, r7, r8)) :
    Calls Try.prog 18 #[.slice A0 l0.length c0] w fun e w' => ∃ v6_ : Value, e = .returned (.tuple #[.agg #[.int .i64 r1, .int .i64 r2, .int .i64 r3, .int .i64 r4, .int .i64 r5, .int .i64 r6], v6_, .int .i64 r8]) ∧ Kd.R (Kd.int .u8) 5 w' w.heap.size (fun _ => True) v6_ r7 ∧ Below w.heap.size w w' := by
  have hu32 := Try.underlying32
  have HR0 := Aside0.mk hr0
  have HC0 := Aside0.mk hc0
  clear hr0 hc0
  have HB := Aside0.mk (Below.refl w.heap.size w)
  have H : ((shard_parse.f k l0).bind fun bt210 => (some (bt210.1, bt210.2.1, bt210.2.2.1, bt210.2.2.2.1, bt210.2.2.2.2.1, bt210.2.2.2.2.2.1, bt210.2.2.2.2.2.2.1, bt210.2.2.2.2.2.2.2.2))) = some (r1, r2, r3, r4, r5, r6, r7, r8) := h
  clear h
  replace H := Option.bind_eq_some_iff.mp H
  obtain ⟨⟨t210, t211, t212, t213, t214, t215, t216, t219, t220⟩, A20, H⟩ := H
  replace H : (some (t210, t211, t212, t213, t214, t215, t216, t220)) = some (r1, r2, r3, r4, r5, r6, r7, r8) := H
  have A2 := Aside0.mk A20
  clear A20
  simp only [Option.some.injEq, Prod.mk.injEq] at H
  obtain ⟨rfl, rfl, rfl, rfl, rfl, rfl, rfl, rfl⟩ := H
  go_enter Try.func18, Try.ntmps18
  go_wp2_with (first | ((with_reducible refine gate_dst (N := 2) rfl ?_); refine box_event ?hg (N := 2) ?hd (cs := #[.int .i64 0, .int .i64 0, .int .i64 0, .int .i64 0, .int .i64 0, .int .i64 0]) (t := 32) ?hr ?_; (case hd => rfl); (case hg => rfl); (case hr => first | (go_simp; done) | (go_simp; rfl)); intro gb209 hg w3 hbox hb; have n0_ := Aside0.mk (below_step (by repeat (first | (with_reducible first | exact HB.out | apply below_alloc | apply pw_below_drewN | apply below_drew1) | exact HB.out)) hb); have n1_ := Aside0.mk (hbox); have n2_ := Aside0.mk ((by rw [hg]; exact (below_size (by repeat (first | (with_reducible first | exact HB.out | apply below_alloc | apply pw_below_drewN | apply below_drew1) | exact HB.out))) : w.heap.size ≤ gb209)); have n3_ := Aside0.mk ((by rw [hg]; exact (below_size (by repeat (first | (with_reducible first | exact HB.out | apply below_alloc | apply pw_below_drewN | apply below_drew1) | exact HB.out))) : w.heap.size ≤ gb209)); clear HB; have HB := n0_; have BK209 := n1_; have GW209 := n2_; have GE209 := n3_; clear n0_ n1_ n2_ n3_; clear hb hbox hg) | ((with_reducible refine gate_callee (f := 50) rfl ?_); refine goesL_ (some 11) rfl rfl Try.func50 (by kernel_rfl) rfl #[.slice A0 l0.length c0] rfl (by (try simp only [List.map_toArray, List.map_cons, List.map_nil]); first | done | rfl | (simp only [List.length_drop, List.length_take]; rfl)) ?_; (with_reducible refine (shard_parse.calls k _ _ l0 t210 t211 t212 t213 t214 t215 t216 t219 t220 _ ?side1 ?side2 A2.out).mono ?_); (case side1 => repeat (first | exact (Kd.C_below HR0.out HB.out) | (with_reducible refine Kd.C_alloc ?_ _) | (with_reducible refine Kd.C_drewN ?_ _) | (with_reducible refine Kd.C_drew ?_))); (case side2 => exact HC0.out); rintro e w4 ⟨v217, rfl, ho0, hb⟩; refine ⟨_, rfl, ?_⟩; have n0_ := Aside0.mk (Kd.R_lower ho0 (below_size (by repeat (first | (with_reducible first | exact HB.out | apply below_alloc | apply pw_below_drewN | apply below_drew1 | refine below_set ?_ GE209.out) | exact HB.out)))); have n1_ := Aside0.mk (blk_below (g := gb209) (o := .cells #[.int .i64 0, .int .i64 0, .int .i64 0, .int .i64 0, .int .i64 0, .int .i64 0] 32 (0, 0)) (by (with_reducible repeat (first | refine blk_drewN ?_ _ | refine blk_drew ?_ | refine blk_alloc ?_ _)); exact BK209.out) hb); have n2_ := Aside0.mk (below_step (by repeat (first | (with_reducible first | exact HB.out | apply below_alloc | apply pw_below_drewN | apply below_drew1 | refine below_set ?_ GE209.out) | exact HB.out)) hb); clear BK209; clear HB; have HO218 := n0_; have BK209 := n1_; have HB := n2_; clear n0_ n1_ n2_; (try clear hb); (try clear hb2); (try clear hk); (try clear hi); (try clear ho0)) | ((with_reducible refine gate_dst (N := 5) rfl ?_); refine box_event ?hg (N := 5) ?hd (cs := #[.int .i64 0, .int .i64 0, .int .i64 0, .int .i64 0, .int .i64 0, .int .i64 0]) (t := 32) ?hr ?_; (case hd => rfl); (case hg => rfl); (case hr => first | (go_simp; done) | (go_simp; rfl)); intro gb221 hg w5 hbox hb; have n0_ := Aside0.mk (Kd.R_below (by (with_reducible repeat (first | apply Kd.R_alloc | apply Kd.R_drewN | apply Kd.R_drew)); exact HO218.out) hb); have n1_ := Aside0.mk (blk_below (g := gb209) (o := .cells #[.int .i64 0, .int .i64 0, .int .i64 0, .int .i64 0, .int .i64 0, .int .i64 0] 32 (0, 0)) (by (with_reducible repeat (first | refine blk_drewN ?_ _ | refine blk_drew ?_ | refine blk_alloc ?_ _)); exact BK209.out) hb); have n2_ := Aside0.mk (below_step (by repeat (first | (with_reducible first | exact HB.out | apply below_alloc | apply pw_below_drewN | apply below_drew1 | refine below_set ?_ GE209.out) | exact HB.out)) hb); have n3_ := Aside0.mk (hbox); have n4_ := Aside0.mk ((by rw [hg]; exact (below_size (by repeat (first | (with_reducible first | exact HB.out | apply below_alloc | apply pw_below_drewN | apply below_drew1 | refine below_set ?_ GE209.out) | exact HB.out))) : w.heap.size ≤ gb221)); have n5_ := Aside0.mk ((by rw [hg]; exact (below_size (by repeat (first | (with_reducible first | exact HB.out | apply below_alloc | apply pw_below_drewN | apply below_drew1 | refine below_set ?_ GE209.out) | exact HB.out))) : w.heap.size ≤ gb221)); have n6_ := Aside0.mk ((by rw [hg]; exact Nat.ne_of_lt (blk_lt (g := gb209) (o := .cells #[.int .i64 0, .int .i64 0, .int .i64 0, .int .i64 0, .int .i64 0, .int .i64 0] 32 (0, 0)) (by (with_reducible repeat (first | refine blk_drewN ?_ _ | refine blk_drew ?_ | refine blk_alloc ?_ _)); exact BK209.out)) : gb209 ≠ gb221)); have n7_ := Aside0.mk ((by rw [hg]; exact Nat.ne_of_gt (blk_lt (g := gb209) (o := .cells #[.int .i64 0, .int .i64 0, .int .i64 0, .int .i64 0, .int .i64 0, .int .i64 0] 32 (0, 0)) (by (with_reducible repeat (first | refine blk_drewN ?_ _ | refine blk_drew ?_ | refine blk_alloc ?_ _)); exact BK209.out)) : gb221 ≠ gb209)); clear HO218; clear BK209; clear HB; have HO218 := n0_; have BK209 := n1_; have HB := n2_; have BK221 := n3_; have GW221 := n4_; have GE221 := n5_; have NB209_221 := n6_; have NB221_209 := n7_; clear n0_ n1_ n2_ n3_ n4_ n5_ n6_ n7_; clear hb hbox hg; have hnb6 := NB221_209.out; have hnc6 := NB209_221.out; have hcz7_0 : w5.cell? ⟨gb221, 0, none⟩ = some (.int .i64 0) := (blk_cell BK221.out 0).trans rfl; have hcz7_1 : w5.cell? ⟨gb221, 1, none⟩ = some (.int .i64 0) := (blk_cell BK221.out 1).trans rfl; have hcz7_2 : w5.cell? ⟨gb221, 2, none⟩ = some (.int .i64 0) := (blk_cell BK221.out 2).trans rfl; have hcz7_3 : w5.cell? ⟨gb221, 3, none⟩ = some (.int .i64 0) := (blk_cell BK221.out 3).trans rfl; have hcz7_4 : w5.cell? ⟨gb221, 4, none⟩ = some (.int .i64 0) := (blk_cell BK221.out 4).trans rfl; have hcz7_5 : w5.cell? ⟨gb221, 5, none⟩ = some (.int .i64 0) := (blk_cell BK221.out 5).trans rfl; have hfz7_0 := blk_frozen BK221.out 0; have hfz7_1 := blk_frozen BK221.out 1; have hfz7_2 := blk_frozen BK221.out 2; have hfz7_3 := blk_frozen BK221.out 3; have hfz7_4 := blk_frozen BK221.out 4; have hfz7_5 := blk_frozen BK221.out 5; have hcz8_0 : w5.cell? ⟨gb209, 0, none⟩ = some (.int .i64 0) := (blk_cell BK209.out 0).trans rfl; have hcz8_1 : w5.cell? ⟨gb209, 1, none⟩ = some (.int .i64 0) := (blk_cell BK209.out 1).trans rfl; have hcz8_2 : w5.cell? ⟨gb209, 2, none⟩ = some (.int .i64 0) := (blk_cell BK209.out 2).trans rfl; have hcz8_3 : w5.cell? ⟨gb209, 3, none⟩ = some (.int .i64 0) := (blk_cell BK209.out 3).trans rfl; have hcz8_4 : w5.cell? ⟨gb209, 4, none⟩ = some (.int .i64 0) := (blk_cell BK209.out 4).trans rfl; have hcz8_5 : w5.cell? ⟨gb209, 5, none⟩ = some (.int .i64 0) := (blk_cell BK209.out 5).trans rfl; have hfz8_0 := blk_frozen BK209.out 0; have hfz8_1 := blk_frozen BK209.out 1; have hfz8_2 := blk_frozen BK209.out 2; have hfz8_3 := blk_frozen BK209.out 3; have hfz8_4 := blk_frozen BK209.out 4; have hfz8_5 := blk_frozen BK209.out 5))
  refine bodyPost_ret (results_ctt rfl _ _ gb209 32 #[.int .i64 t210, .int .i64 t211, .int .i64 t212, .int .i64 t213, .int .i64 t214, .int .i64 t215] (0, 0) _ rfl (by (with_reducible repeat (first | refine blk_drewN ?_ _ | refine blk_drew ?_ | refine blk_alloc ?_ _)); refine blk_put (cs := #[.int .i64 t210, .int .i64 t211, .int .i64 t212, .int .i64 t213, .int .i64 t214, .int .i64 0]) ?_ 5 _ rfl; (with_reducible repeat (first | refine blk_drewN ?_ _ | refine blk_drew ?_ | refine blk_alloc ?_ _)); refine blk_put (cs := #[.int .i64 t210, .int .i64 t211, .int .i64 t212, .int .i64 t213, .int .i64 0, .int .i64 0]) ?_ 4 _ rfl; (with_reducible repeat (first | refine blk_drewN ?_ _ | refine blk_drew ?_ | refine blk_alloc ?_ _)); refine blk_put (cs := #[.int .i64 t210, .int .i64 t211, .int .i64 t212, .int .i64 0, .int .i64 0, .int .i64 0]) ?_ 3 _ rfl; (with_reducible repeat (first | refine blk_drewN ?_ _ | refine blk_drew ?_ | refine blk_alloc ?_ _)); refine blk_put (cs := #[.int .i64 t210, .int .i64 t211, .int .i64 0, .int .i64 0, .int .i64 0, .int .i64 0]) ?_ 2 _ rfl; (with_reducible repeat (first | refine blk_drewN ?_ _ | refine blk_drew ?_ | refine blk_alloc ?_ _)); refine blk_put (cs := #[.int .i64 t210, .int .i64 0, .int .i64 0, .int .i64 0, .int .i64 0, .int .i64 0]) ?_ 1 _ rfl; (with_reducible repeat (first | refine blk_drewN ?_ _ | refine blk_drew ?_ | refine blk_alloc ?_ _)); refine blk_put (cs := #[.int .i64 0, .int .i64 0, .int .i64 0, .int .i64 0, .int .i64 0, .int .i64 0]) ?_ 0 _ rfl; (with_reducible repeat (first | refine blk_drewN ?_ _ | refine blk_drew ?_ | refine blk_alloc ?_ _)); refine blk_far ?_ NB209_221.out _; (with_reducible repeat (first | refine blk_drewN ?_ _ | refine blk_drew ?_ | refine blk_alloc ?_ _)); refine blk_far ?_ NB209_221.out _; (with_reducible repeat (first | refine blk_drewN ?_ _ | refine blk_drew ?_ | refine blk_alloc ?_ _)); refine blk_far ?_ NB209_221.out _; (with_reducible repeat (first | refine blk_drewN ?_ _ | refine blk_drew ?_ | refine blk_alloc ?_ _)); refine blk_far ?_ NB209_221.out _; (with_reducible repeat (first | refine blk_drewN ?_ _ | refine blk_drew ?_ | refine blk_alloc ?_ _)); refine blk_far ?_ NB209_221.out _; (with_reducible repeat (first | refine blk_drewN ?_ _ | refine blk_drew ?_ | refine blk_alloc ?_ _)); refine blk_far ?_ NB209_221.out _; (with_reducible repeat (first | refine blk_drewN ?_ _ | refine blk_drew ?_ | refine blk_alloc ?_ _)); exact BK209.out) Try.underlying32 rfl (by kernel_rfl)) rfl ?_
  exact ⟨_, by first | rfl | (simp [errW_none, errW_some] <;> rfl) | (simp [*, errW_none, errW_some] <;> rfl), by (with_reducible repeat (first | apply Kd.R_alloc | apply Kd.R_drewN | apply Kd.R_drew)); exact Kd.R_mono (Kd.R_far (p := ⟨gb209, 5, none⟩) (Kd.R_far (p := ⟨gb209, 4, none⟩) (Kd.R_far (p := ⟨gb209, 3, none⟩) (Kd.R_far (p := ⟨gb209, 2, none⟩) (Kd.R_far (p := ⟨gb209, 1, none⟩) (Kd.R_far (p := ⟨gb209, 0, none⟩) (Kd.R_far (p := ⟨gb221, 5, none⟩) (Kd.R_far (p := ⟨gb221, 4, none⟩) (Kd.R_far (p := ⟨gb221, 3, none⟩) (Kd.R_far (p := ⟨gb221, 2, none⟩) (Kd.R_far (p := ⟨gb221, 1, none⟩) (Kd.R_far (p := ⟨gb221, 0, none⟩) (Kd.R_types (Kd.R_types HO218.out BK221.out (by decide)) BK209.out (by decide)) (fun _ hk => hk.1.2) (.int .i64 t210)) (fun _ hk => hk.1.2) (.int .i64 t211)) (fun _ hk => hk.1.2) (.int .i64 t212)) (fun _ hk => hk.1.2) (.int .i64 t213)) (fun _ hk => hk.1.2) (.int .i64 t214)) (fun _ hk => hk.1.2) (.int .i64 t215)) (fun _ hk => hk.2) (.int .i64 t210)) (fun _ hk => hk.2) (.int .i64 t211)) (fun _ hk => hk.2) (.int .i64 t212)) (fun _ hk => hk.2) (.int .i64 t213)) (fun _ hk => hk.2) (.int .i64 t214)) (fun _ hk => hk.2) (.int .i64 t215)) (fun _ hk => trivial), by repeat (first | (with_reducible first | exact HB.out | apply below_alloc | apply pw_below_drewN | apply below_drew1 | refine below_set ?_ GE209.out | refine below_set ?_ GE221.out) | exact HB.out)⟩

end Go.Proofs.Ytnlpipjdpmaggaa.PShardWrites
