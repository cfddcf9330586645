/- WRITTEN FOR THIS CLAIM by a program of the prover's own (the kit's printing program, with constructs added): for each Go function that the statement reaches a Lean function with the same answers, and the proof of that. Not trusted: Lean checks it. -/
import Derived.Test.YtnlpipjdpmaggaaPShardWritesx0
import Derived.Test.YtnlpipjdpmaggaaPShardWritesx1
import Derived.Test.YtnlpipjdpmaggaaPShardWritesx2
import Derived.Test.YtnlpipjdpmaggaaPShardWritesx3
import Derived.Test.YtnlpipjdpmaggaaPShardWritesx6
namespace Go.Proofs.Ytnlpipjdpmaggaa.PShardWrites
open Go.RowKit Go.Proofs.YtnlpipjdpmaggaaW.PrintWords Go.Proofs.YtnlpipjdpmaggaaW.PrintLast Go.Proofs.YtnlpipjdpmaggaaW.PrintMore
attribute [local go_sem] max2_int min2_int max_two min_two max_three min_three max_four min_four   -- for this text's walks alone
set_option linter.unusedVariables false
set_option linter.unusedSimpArgs false

attribute [local go_sem high] eqA32
/-! ### strongboxlaw5_awake: function 14 -/
def strongboxlaw5_awake.f (k : Nat)  : Option (Bool) := (strongboxlaw5_One.f 17 0).bind fun bt222 => (if 17 ≤ 281474976710656 then ((some (List.replicate 17 0 : List Int)).bind fun y229 => (if 16 < (y229.length : Int) then ((some (y229.set (16 : Int).toNat 9 : List Int)).bind fun y232 => ((strongboxlaw5_Head.f bt222.1 bt222.2.1 bt222.2.2.1 bt222.2.2.2.1 bt222.2.2.2.2.1 bt222.2.2.2.2.2).bind fun bt233 => ((shard_Write.f k bt233.1 bt233.2.1 bt233.2.2.1 bt233.2.2.2.1 bt233.2.2.2.2.1 bt233.2.2.2.2.2 y232).bind fun bt239 => ((shard_Read.f k bt239.1).bind fun bt243 => (if bt239.2 = 0 then (if (bt239.1.length : Int) = 49 then (if bt243.2.2.2.2.2.2.2 = 0 then ((strongboxlaw5_Head.f bt222.1 bt222.2.1 bt222.2.2.1 bt222.2.2.2.1 bt222.2.2.2.2.1 bt222.2.2.2.2.2).bind fun bt254 => (if (bt243.1 == bt254.1 && (bt243.2.1 == bt254.2.1 && (bt243.2.2.1 == bt254.2.2.1 && (bt243.2.2.2.1 == bt254.2.2.2.1 && (bt243.2.2.2.2.1 == bt254.2.2.2.2.1 && (bt243.2.2.2.2.2.1 == bt254.2.2.2.2.2)))))) = true then (some ((strOfNums bt243.2.2.2.2.2.2.1).toList == (strOfNums y232).toList)) else (none))) else (none)) else (none)) else (none)))))) else (none))) else (none))
theorem strongboxlaw5_awake.mono : ∀ k, LeO (strongboxlaw5_awake.f k ) (strongboxlaw5_awake.f (k + 1) ) := by
  intro  k
  unfold strongboxlaw5_awake.f
  repeat' first
      | (with_reducible exact shard_Read.mono _ _)
      | (with_reducible exact shard_Write.mono _ _ _ _ _ _ _ _)
      | (with_reducible exact LeO.refl _)
      | (with_reducible exact LeO.none _)
      | (with_reducible refine LeO.ite ?_ ?_)
      | (with_reducible refine LeO.bind ?_ (fun _ => ?_))
      | exact shard_Read.mono _ _
      | exact shard_Write.mono _ _ _ _ _ _ _ _
      | exact LeO.none _
      | refine LeO.ite ?_ ?_
      | refine LeO.bind ?_ (fun _ => ?_)
def strongboxlaw5_awake.T6 : Bool × List (List Nat × List Nat) := (true, [([], []), ([0], [0]), ([1], [1]), ([2], [2]), ([3, 2], [2, 3]), ([4, 2], [2, 4]), ([2, 5], [2, 5]), ([6, 2], [6]), ([7], [7]), ([8, 7], [7, 8]), ([7, 9], [7, 9]), ([10, 7], [10]), ([11], [11]), ([11], [11]), ([13, 11, 11], [11, 13]), ([12, 14, 11], [11, 12, 14]), ([11, 15], [11, 15]), ([16, 14], [16]), ([17], [17]), ([18, 17], [17, 18]), ([17], [17]), ([20, 17], [17, 20]), ([19, 21, 17], [17, 19, 21]), ([17, 22], [17, 22]), ([23, 17, 0, 1, 2, 3, 4, 5, 6, 7, 8, 9, 10, 11, 12, 13, 14, 15, 16, 17, 18, 19, 20, 21, 22, 23], [23])])
def strongboxlaw5_awake.B6 : List Nat := [0, 1, 3, 7, 15, 31, 63, 127, 255, 511, 1023, 2047, 4095, 4095, 12287, 32767, 65535, 131071, 262143, 524287, 262143, 1310719, 4194303, 8388607, 16777215]
theorem strongboxlaw5_awake.tab6 : rtab .any (opsOf Try.f14 6) = strongboxlaw5_awake.T6 := by kernel_rfl
theorem strongboxlaw5_awake.bits6 : waitsOk strongboxlaw5_awake.T6.2 strongboxlaw5_awake.B6 = true := by kernel_rfl
set_option maxHeartbeats 8000000 in
set_option maxRecDepth 100000 in
theorem strongboxlaw5_awake.calls (k : Nat)  (r : Bool) (w : World) (h : strongboxlaw5_awake.f k  = some r) :
    Calls Try.prog 14 #[] w fun e w' => e = .returned (.bool r) ∧ Below w.heap.size w w' := by
  have hu27 := Try.underlying27
  have hu32 := Try.underlying32
  have HB := Aside0.mk (Below.refl w.heap.size w)
  have H : ((strongboxlaw5_One.f 17 0).bind fun bt222 => (if 17 ≤ 281474976710656 then ((some (List.replicate 17 0 : List Int)).bind fun y229 => (if 16 < (y229.length : Int) then ((some (y229.set (16 : Int).toNat 9 : List Int)).bind fun y232 => ((strongboxlaw5_Head.f bt222.1 bt222.2.1 bt222.2.2.1 bt222.2.2.2.1 bt222.2.2.2.2.1 bt222.2.2.2.2.2).bind fun bt233 => ((shard_Write.f k bt233.1 bt233.2.1 bt233.2.2.1 bt233.2.2.2.1 bt233.2.2.2.2.1 bt233.2.2.2.2.2 y232).bind fun bt239 => ((shard_Read.f k bt239.1).bind fun bt243 => (if bt239.2 = 0 then (if (bt239.1.length : Int) = 49 then (if bt243.2.2.2.2.2.2.2 = 0 then ((strongboxlaw5_Head.f bt222.1 bt222.2.1 bt222.2.2.1 bt222.2.2.2.1 bt222.2.2.2.2.1 bt222.2.2.2.2.2).bind fun bt254 => (if (bt243.1 == bt254.1 && (bt243.2.1 == bt254.2.1 && (bt243.2.2.1 == bt254.2.2.1 && (bt243.2.2.2.1 == bt254.2.2.2.1 && (bt243.2.2.2.2.1 == bt254.2.2.2.2.1 && (bt243.2.2.2.2.2.1 == bt254.2.2.2.2.2)))))) = true then (some ((strOfNums bt243.2.2.2.2.2.2.1).toList == (strOfNums y232).toList)) else (none))) else (none)) else (none)) else (none)))))) else (none))) else (none))) = some r := h
  clear h
  replace H := Option.bind_eq_some_iff.mp H
  obtain ⟨⟨t222, t223, t224, t225, t226, t227⟩, A10, H⟩ := H
  replace H : (if 17 ≤ 281474976710656 then ((some (List.replicate 17 0 : List Int)).bind fun y229 => (if 16 < (y229.length : Int) then ((some (y229.set (16 : Int).toNat 9 : List Int)).bind fun y232 => ((strongboxlaw5_Head.f t222 t223 t224 t225 t226 t227).bind fun bt233 => ((shard_Write.f k bt233.1 bt233.2.1 bt233.2.2.1 bt233.2.2.2.1 bt233.2.2.2.2.1 bt233.2.2.2.2.2 y232).bind fun bt239 => ((shard_Read.f k bt239.1).bind fun bt243 => (if bt239.2 = 0 then (if (bt239.1.length : Int) = 49 then (if bt243.2.2.2.2.2.2.2 = 0 then ((strongboxlaw5_Head.f t222 t223 t224 t225 t226 t227).bind fun bt254 => (if (bt243.1 == bt254.1 && (bt243.2.1 == bt254.2.1 && (bt243.2.2.1 == bt254.2.2.1 && (bt243.2.2.2.1 == bt254.2.2.2.1 && (bt243.2.2.2.2.1 == bt254.2.2.2.2.1 && (bt243.2.2.2.2.2.1 == bt254.2.2.2.2.2)))))) = true then (some ((strOfNums bt243.2.2.2.2.2.2.1).toList == (strOfNums y232).toList)) else (none))) else (none)) else (none)) else (none)))))) else (none))) else (none)) = some r := H
  have A1 := Aside0.mk A10
  clear A10
  by_cases c2 : 17 ≤ 281474976710656
  · rw [if_pos c2] at H
    have c2b0 := eq_true c2
    have c2b1 : decide (17 ≤ 281474976710656) = true := decide_eq_true c2
    clear c2
    obtain ⟨y229, hy229⟩ : ∃ y_ : List Int, y_ = (List.replicate 17 0) := ⟨_, rfl⟩
    replace H : (if 16 < (y229.length : Int) then ((some (y229.set (16 : Int).toNat 9 : List Int)).bind fun y232 => ((strongboxlaw5_Head.f t222 t223 t224 t225 t226 t227).bind fun bt233 => ((shard_Write.f k bt233.1 bt233.2.1 bt233.2.2.1 bt233.2.2.2.1 bt233.2.2.2.2.1 bt233.2.2.2.2.2 y232).bind fun bt239 => ((shard_Read.f k bt239.1).bind fun bt243 => (if bt239.2 = 0 then (if (bt239.1.length : Int) = 49 then (if bt243.2.2.2.2.2.2.2 = 0 then ((strongboxlaw5_Head.f t222 t223 t224 t225 t226 t227).bind fun bt254 => (if (bt243.1 == bt254.1 && (bt243.2.1 == bt254.2.1 && (bt243.2.2.1 == bt254.2.2.1 && (bt243.2.2.2.1 == bt254.2.2.2.1 && (bt243.2.2.2.2.1 == bt254.2.2.2.2.1 && (bt243.2.2.2.2.2.1 == bt254.2.2.2.2.2)))))) = true then (some ((strOfNums bt243.2.2.2.2.2.2.1).toList == (strOfNums y232).toList)) else (none))) else (none)) else (none)) else (none)))))) else (none)) = some r := by first | (rw [hy229]; with_reducible exact H) | (have H2_ := (Option.bind_some _ _).symm.trans H; rw [hy229]; with_reducible exact H2_) | (have H2_ := (Option.bind_some _ _).symm.trans H; with_reducible exact H2_) | with_reducible exact H | (rw [hy229]; exact H) | exact H
    have Ny229 := Aside0.mk hy229
    clear hy229
    by_cases c3 : 16 < (y229.length : Int)
    · rw [if_pos c3] at H
      have c3b0 : decide (16 < (y229.length : Int)) = true := decide_eq_true c3
      have c3b1 : decide (16 < y229.length) = true := decide_eq_true (by omega)
      clear c3
      obtain ⟨y232, hy232⟩ : ∃ y_ : List Int, y_ = (y229.set (16 : Int).toNat 9) := ⟨_, rfl⟩
      replace H : ((strongboxlaw5_Head.f t222 t223 t224 t225 t226 t227).bind fun bt233 => ((shard_Write.f k bt233.1 bt233.2.1 bt233.2.2.1 bt233.2.2.2.1 bt233.2.2.2.2.1 bt233.2.2.2.2.2 y232).bind fun bt239 => ((shard_Read.f k bt239.1).bind fun bt243 => (if bt239.2 = 0 then (if (bt239.1.length : Int) = 49 then (if bt243.2.2.2.2.2.2.2 = 0 then ((strongboxlaw5_Head.f t222 t223 t224 t225 t226 t227).bind fun bt254 => (if (bt243.1 == bt254.1 && (bt243.2.1 == bt254.2.1 && (bt243.2.2.1 == bt254.2.2.1 && (bt243.2.2.2.1 == bt254.2.2.2.1 && (bt243.2.2.2.2.1 == bt254.2.2.2.2.1 && (bt243.2.2.2.2.2.1 == bt254.2.2.2.2.2)))))) = true then (some ((strOfNums bt243.2.2.2.2.2.2.1).toList == (strOfNums y232).toList)) else (none))) else (none)) else (none)) else (none))))) = some r := by first | (rw [hy232]; with_reducible exact H) | (have H2_ := (Option.bind_some _ _).symm.trans H; rw [hy232]; with_reducible exact H2_) | (have H2_ := (Option.bind_some _ _).symm.trans H; with_reducible exact H2_) | with_reducible exact H | (rw [hy232]; exact H) | exact H
      have Ny232 := Aside0.mk hy232
      clear hy232
      replace H := Option.bind_eq_some_iff.mp H
      obtain ⟨⟨t233, t234, t235, t236, t237, t238⟩, A50, H⟩ := H
      replace H : ((shard_Write.f k t233 t234 t235 t236 t237 t238 y232).bind fun bt239 => ((shard_Read.f k bt239.1).bind fun bt243 => (if bt239.2 = 0 then (if (bt239.1.length : Int) = 49 then (if bt243.2.2.2.2.2.2.2 = 0 then ((strongboxlaw5_Head.f t222 t223 t224 t225 t226 t227).bind fun bt254 => (if (bt243.1 == bt254.1 && (bt243.2.1 == bt254.2.1 && (bt243.2.2.1 == bt254.2.2.1 && (bt243.2.2.2.1 == bt254.2.2.2.1 && (bt243.2.2.2.2.1 == bt254.2.2.2.2.1 && (bt243.2.2.2.2.2.1 == bt254.2.2.2.2.2)))))) = true then (some ((strOfNums bt243.2.2.2.2.2.2.1).toList == (strOfNums y232).toList)) else (none))) else (none)) else (none)) else (none)))) = some r := H
      have A5 := Aside0.mk A50
      clear A50
      replace H := Option.bind_eq_some_iff.mp H
      obtain ⟨⟨t239, t242⟩, A60, H⟩ := H
      replace H : ((shard_Read.f k t239).bind fun bt243 => (if t242 = 0 then (if (t239.length : Int) = 49 then (if bt243.2.2.2.2.2.2.2 = 0 then ((strongboxlaw5_Head.f t222 t223 t224 t225 t226 t227).bind fun bt254 => (if (bt243.1 == bt254.1 && (bt243.2.1 == bt254.2.1 && (bt243.2.2.1 == bt254.2.2.1 && (bt243.2.2.2.1 == bt254.2.2.2.1 && (bt243.2.2.2.2.1 == bt254.2.2.2.2.1 && (bt243.2.2.2.2.2.1 == bt254.2.2.2.2.2)))))) = true then (some ((strOfNums bt243.2.2.2.2.2.2.1).toList == (strOfNums y232).toList)) else (none))) else (none)) else (none)) else (none))) = some r := H
      have A6 := Aside0.mk A60
      clear A60
      replace H := Option.bind_eq_some_iff.mp H
      obtain ⟨⟨t243, t244, t245, t246, t247, t248, t249, t252⟩, A70, H⟩ := H
      replace H : (if t242 = 0 then (if (t239.length : Int) = 49 then (if t252 = 0 then ((strongboxlaw5_Head.f t222 t223 t224 t225 t226 t227).bind fun bt254 => (if (t243 == bt254.1 && (t244 == bt254.2.1 && (t245 == bt254.2.2.1 && (t246 == bt254.2.2.2.1 && (t247 == bt254.2.2.2.2.1 && (t248 == bt254.2.2.2.2.2)))))) = true then (some ((strOfNums t249).toList == (strOfNums y232).toList)) else (none))) else (none)) else (none)) else (none)) = some r := H
      have A7 := Aside0.mk A70
      clear A70
      by_cases c8 : t242 = 0
      · rw [if_pos c8] at H
        have c8b0 : (t242 == 0) = true := beq_iff_eq.mpr c8
        have c8b1 : (t242 != 0) = false := bne_eq_false_iff_eq.mpr c8
        clear c8
        by_cases c9 : (t239.length : Int) = 49
        · rw [if_pos c9] at H
          have c9b0 : ((t239.length : Int) == 49) = true := beq_iff_eq.mpr c9
          have c9b1 : ((t239.length : Int) != 49) = false := bne_eq_false_iff_eq.mpr c9
          clear c9
          by_cases c10 : t252 = 0
          · rw [if_pos c10] at H
            have c10b0 : (t252 == 0) = true := beq_iff_eq.mpr c10
            have c10b1 : (t252 != 0) = false := bne_eq_false_iff_eq.mpr c10
            clear c10
            replace H := Option.bind_eq_some_iff.mp H
            obtain ⟨⟨t254, t255, t256, t257, t258, t259⟩, A110, H⟩ := H
            replace H : (if (t243 == t254 && (t244 == t255 && (t245 == t256 && (t246 == t257 && (t247 == t258 && (t248 == t259)))))) = true then (some ((strOfNums t249).toList == (strOfNums y232).toList)) else (none)) = some r := H
            have A11 := Aside0.mk A110
            clear A110
            by_cases c12 : (t243 == t254 && (t244 == t255 && (t245 == t256 && (t246 == t257 && (t247 == t258 && (t248 == t259)))))) = true
            · rw [if_pos c12] at H
              have c12b0 : (t243 == t254 && (t244 == t255 && (t245 == t256 && (t246 == t257 && (t247 == t258 && (t248 == t259)))))) = true := c12
              (try (have c12b1 : decide (t243 = t254 && (t244 == t255 && (t245 == t256 && (t246 == t257 && (t247 == t258 && (t248 == t259)))))) = true := by simpa using c12))
              (try (have c12b2 : (t243 == t254 && (t244 == t255 && (t245 == t256 && (t246 == t257 && (t247 == t258 && (t248 == t259)))))) = true := by simpa using c12))
              clear c12
              obtain rfl := Option.some.inj H
              go_enter Try.func14, Try.ntmps14
              try go_wp2_with (first | ((with_reducible refine gate_callee (f := 15) rfl ?_); refine goesL_ (some 8) rfl rfl Try.func15 (by kernel_rfl) rfl #[.int .i64 17, .int .u8 0] rfl (by (try simp only [List.map_toArray, List.map_cons, List.map_nil]); first | done | rfl | (simp only [List.length_drop, List.length_take]; rfl)) ?_; (with_reducible refine (strongboxlaw5_One.calls 17 0 t222 t223 t224 t225 t226 t227 _ A1.out).mono ?_); rintro e w13 ⟨rfl, hb⟩; refine ⟨_, rfl, ?_⟩; have n0_ := Aside0.mk (below_step (by repeat (first | (with_reducible first | exact HB.out | apply below_alloc | apply pw_below_drewN | apply below_drew1) | exact HB.out)) hb); clear HB; have HB := n0_; clear n0_; (try clear hb); (try clear hb2); (try clear hk); (try clear hi)) | ((with_reducible refine gate_dst (N := 1) rfl ?_); (try (refine gate_guard (by rfl) ?_; dsimp only)); refine box_event ?hg (N := 1) ?hd (cs := #[.int .i64 0, .int .i64 0, .int .i64 0, .int .i64 0, .int .i64 0, .int .i64 0]) (t := 27) ?hr ?_; (case hd => rfl); (case hg => rfl); (case hr => first | (go_simp; done) | (go_simp; rfl)); intro gb228 hg w14 hbox hb; have n0_ := Aside0.mk (below_step (by repeat (first | (with_reducible first | exact HB.out | apply below_alloc | apply pw_below_drewN | apply below_drew1) | exact HB.out)) hb); have n1_ := Aside0.mk (hbox); have n2_ := Aside0.mk ((by rw [hg]; exact (below_size (by repeat (first | (with_reducible first | exact HB.out | apply below_alloc | apply pw_below_drewN | apply below_drew1) | exact HB.out))) : w.heap.size ≤ gb228)); have n3_ := Aside0.mk ((by rw [hg]; exact (below_size (by repeat (first | (with_reducible first | exact HB.out | apply below_alloc | apply pw_below_drewN | apply below_drew1) | exact HB.out))) : w.heap.size ≤ gb228)); clear HB; have HB := n0_; have BK228 := n1_; have GW228 := n2_; have GE228 := n3_; clear n0_ n1_ n2_ n3_; clear hb hbox hg; have hcz15_0 : w14.cell? ⟨gb228, 0, none⟩ = some (.int .i64 0) := (blk_cell BK228.out 0).trans rfl; have hcz15_1 : w14.cell? ⟨gb228, 1, none⟩ = some (.int .i64 0) := (blk_cell BK228.out 1).trans rfl; have hcz15_2 : w14.cell? ⟨gb228, 2, none⟩ = some (.int .i64 0) := (blk_cell BK228.out 2).trans rfl; have hcz15_3 : w14.cell? ⟨gb228, 3, none⟩ = some (.int .i64 0) := (blk_cell BK228.out 3).trans rfl; have hcz15_4 : w14.cell? ⟨gb228, 4, none⟩ = some (.int .i64 0) := (blk_cell BK228.out 4).trans rfl; have hcz15_5 : w14.cell? ⟨gb228, 5, none⟩ = some (.int .i64 0) := (blk_cell BK228.out 5).trans rfl; have hfz15_0 := blk_frozen BK228.out 0; have hfz15_1 := blk_frozen BK228.out 1; have hfz15_2 := blk_frozen BK228.out 2; have hfz15_3 := blk_frozen BK228.out 3; have hfz15_4 := blk_frozen BK228.out 4; have hfz15_5 := blk_frozen BK228.out 5) | ((with_reducible refine gate_dst (N := 9) rfl ?_); (try (refine gate_guard (by rfl) ?_; dsimp only)); refine Kd.R_make (Kd.int .u8) _ 5 rfl (N := 9) rfl 22 _ _ rfl 17 rfl rfl Try.underlying22 (.int .u8 0) 1 info5 rfl (by decide) (by omega) 0 (ok := fun _ => True) (okp := fun _ => True) rfl (fun _ hk => hk) trivial (by omega) (by omega) (Below.refl _ _) (Nat.le_refl _) ?_; intro v230 w16 ho17 hb hg_ hnew_; clear hg_ hnew_; (first | rw [← Ny229.out] at ho17 | (simp only [Int.reduceToNat] at ho17; rw [← Ny229.out] at ho17)); have n0_ := Aside0.mk (Kd.R_lower ho17 (below_size (by repeat (first | (with_reducible first | exact HB.out | apply below_alloc | apply pw_below_drewN | apply below_drew1 | refine below_set ?_ GE228.out) | exact HB.out)))); have n1_ := Aside0.mk (blk_below (g := gb228) (o := .cells #[.int .i64 t222, .int .i64 t223, .int .i64 t224, .int .i64 t225, .int .i64 t226, .int .i64 t227] 27 (0, 0)) (by (with_reducible repeat (first | refine blk_drewN ?_ _ | refine blk_drew ?_ | refine blk_alloc ?_ _)); refine blk_put (cs := #[.int .i64 t222, .int .i64 t223, .int .i64 t224, .int .i64 t225, .int .i64 t226, .int .i64 0]) ?_ 5 _ rfl; (with_reducible repeat (first | refine blk_drewN ?_ _ | refine blk_drew ?_ | refine blk_alloc ?_ _)); refine blk_put (cs := #[.int .i64 t222, .int .i64 t223, .int .i64 t224, .int .i64 t225, .int .i64 0, .int .i64 0]) ?_ 4 _ rfl; (with_reducible repeat (first | refine blk_drewN ?_ _ | refine blk_drew ?_ | refine blk_alloc ?_ _)); refine blk_put (cs := #[.int .i64 t222, .int .i64 t223, .int .i64 t224, .int .i64 0, .int .i64 0, .int .i64 0]) ?_ 3 _ rfl; (with_reducible repeat (first | refine blk_drewN ?_ _ | refine blk_drew ?_ | refine blk_alloc ?_ _)); refine blk_put (cs := #[.int .i64 t222, .int .i64 t223, .int .i64 0, .int .i64 0, .int .i64 0, .int .i64 0]) ?_ 2 _ rfl; (with_reducible repeat (first | refine blk_drewN ?_ _ | refine blk_drew ?_ | refine blk_alloc ?_ _)); refine blk_put (cs := #[.int .i64 t222, .int .i64 0, .int .i64 0, .int .i64 0, .int .i64 0, .int .i64 0]) ?_ 1 _ rfl; (with_reducible repeat (first | refine blk_drewN ?_ _ | refine blk_drew ?_ | refine blk_alloc ?_ _)); refine blk_put (cs := #[.int .i64 0, .int .i64 0, .int .i64 0, .int .i64 0, .int .i64 0, .int .i64 0]) ?_ 0 _ rfl; (with_reducible repeat (first | refine blk_drewN ?_ _ | refine blk_drew ?_ | refine blk_alloc ?_ _)); exact BK228.out) hb); have n2_ := Aside0.mk (below_step (by repeat (first | (with_reducible first | exact HB.out | apply below_alloc | apply pw_below_drewN | apply below_drew1 | refine below_set ?_ GE228.out) | exact HB.out)) hb); clear BK228; clear HB; have HO231 := n0_; have BK228 := n1_; have HB := n2_; clear n0_ n1_ n2_; clear hb ho17; have p4 : 0 ≤ (16 : Int) := (by omega); have q4 : (16 : Int) < ((y229.length : Int) : Int) := of_decide_eq_true (by first | (with_reducible assumption) | assumption); have qi4 : (16 < y229.length) = True := eq_true (by omega); obtain ⟨go4, co4, eo4, gb4, gl4, cl4, HG4⟩ := Kd.R_form HO231.out (by omega); (first | cases eo4 | (injection eo4 with ea_ en_ ec_; (first | subst ea_ | (injection ea_ with ea_; subst ea_)); subst ec_; clear en_)); have GB4 := Aside0.mk gb4; have GG4 := Aside0.mk HG4; clear gb4 gl4 HG4; obtain ⟨hx4_0, hf4_0⟩ := Kd.R_celln 0 HO231.out (16 : Int) p4 q4; (try rw [show ((16 : Int)).toNat = 16 from rfl] at hx4_0); (try simp only [Nat.reduceMul, Nat.zero_mul, Nat.zero_add, Nat.reduceAdd] at hx4_0); (try rw [show ((16 : Int)).toNat = 16 from rfl] at hf4_0); (try simp only [Nat.reduceMul, Nat.zero_mul, Nat.zero_add, Nat.reduceAdd] at hf4_0); replace p4 := eq_true p4; replace q4 := eq_true q4; obtain ⟨hy18_, hz18_⟩ := Kd.R_celln 0 HO231.out (16 : Int) (by omega) (of_decide_eq_true (by first | (with_reducible assumption) | assumption)); (try simp only [Int.reduceToNat, Int.toNat_zero, Int.toNat_ofNat, Nat.reduceMul, Nat.zero_mul, Nat.zero_add] at hy18_ hz18_); (try rw [show ((16 : Int)).toNat = 16 from rfl] at hy18_); (try rw [show ((16 : Int)).toNat = 16 from rfl] at hz18_); have HP18 := Kd.R_putg HO231.out (16 : Int) 9) | ((with_reducible refine gate_store (t := 5) (p := 11) rfl ?_); refine store_event (t := 5) (p := 11) (v := ?vo_w19) (w1 := (w16.setCell ⟨go4, (16 : Int).toNat, none⟩ (.int .u8 9))) ?hg ?ho ?hn ?hr ?_; (case ho => rfl); (case hg => rfl); (case hn => rfl); (case hr => first | (go_simp; done) | (go_simp; rfl)); intro w19 hw; have hg : w16.grownBy w19 (some go4) := (by rw [hw]; exact HP18.2); have hp_ : Kd.R (Kd.int .u8) 5 w19 w.heap.size (fun _ => True) (.slice (some ⟨go4, 0, none⟩) y229.length co4) y232 := (by rw [hw, Ny232.out]; exact HP18.1); clear HP18; have n0_ := Aside0.mk (blk_grown (g := gb228) (o := .cells #[.int .i64 t222, .int .i64 t223, .int .i64 t224, .int .i64 t225, .int .i64 t226, .int .i64 t227] 27 (0, 0)) (by (with_reducible repeat (first | refine blk_drewN ?_ _ | refine blk_drew ?_ | refine blk_alloc ?_ _)); exact BK228.out) hg (Kd.R_ne HO231.out BK228.out (by decide))); have n1_ := Aside0.mk (hp_); have n2_ := Aside0.mk ((by rw [hw]; exact below_set (HB.out) GB4.out : Below w.heap.size w w19)); clear BK228; clear HO231; clear HB; have BK228 := n0_; have HO231 := n1_; have HB := n2_; clear n0_ n1_ n2_; clear hg hw hp_; have hcz20_0 : w19.cell? ⟨gb228, 0, none⟩ = some (.int .i64 t222) := (blk_cell BK228.out 0).trans rfl; have hcz20_1 : w19.cell? ⟨gb228, 1, none⟩ = some (.int .i64 t223) := (blk_cell BK228.out 1).trans rfl; have hcz20_2 : w19.cell? ⟨gb228, 2, none⟩ = some (.int .i64 t224) := (blk_cell BK228.out 2).trans rfl; have hcz20_3 : w19.cell? ⟨gb228, 3, none⟩ = some (.int .i64 t225) := (blk_cell BK228.out 3).trans rfl; have hcz20_4 : w19.cell? ⟨gb228, 4, none⟩ = some (.int .i64 t226) := (blk_cell BK228.out 4).trans rfl; have hcz20_5 : w19.cell? ⟨gb228, 5, none⟩ = some (.int .i64 t227) := (blk_cell BK228.out 5).trans rfl; have hfz20_0 := blk_frozen BK228.out 0; have hfz20_1 := blk_frozen BK228.out 1; have hfz20_2 := blk_frozen BK228.out 2; have hfz20_3 := blk_frozen BK228.out 3; have hfz20_4 := blk_frozen BK228.out 4; have hfz20_5 := blk_frozen BK228.out 5) | ((with_reducible refine gate_callee (f := 17) rfl ?_); refine goesL_ (some 14) rfl rfl Try.func17 (by kernel_rfl) rfl #[.agg #[.int .i64 t222, .int .i64 t223, .int .i64 t224, .int .i64 t225, .int .i64 t226, .int .i64 t227]] rfl (by (try simp only [List.map_toArray, List.map_cons, List.map_nil]); first | done | rfl | (simp only [List.length_drop, List.length_take]; rfl)) ?_; (with_reducible refine (strongboxlaw5_Head.calls t222 t223 t224 t225 t226 t227 t233 t234 t235 t236 t237 t238 _ A5.out).mono ?_); rintro e w21 ⟨rfl, hb⟩; refine ⟨_, rfl, ?_⟩; have n0_ := Aside0.mk (Kd.R_below (by (with_reducible repeat (first | apply Kd.R_alloc | apply Kd.R_drewN | apply Kd.R_drew)); exact HO231.out) hb); have n1_ := Aside0.mk (blk_below (g := gb228) (o := .cells #[.int .i64 t222, .int .i64 t223, .int .i64 t224, .int .i64 t225, .int .i64 t226, .int .i64 t227] 27 (0, 0)) (by (with_reducible repeat (first | refine blk_drewN ?_ _ | refine blk_drew ?_ | refine blk_alloc ?_ _)); exact BK228.out) hb); have n2_ := Aside0.mk (below_step (by repeat (first | (with_reducible first | exact HB.out | apply below_alloc | apply pw_below_drewN | apply below_drew1 | refine below_set ?_ GE228.out) | exact HB.out)) hb); clear HO231; clear BK228; clear HB; have HO231 := n0_; have BK228 := n1_; have HB := n2_; clear n0_ n1_ n2_; (try clear hb); (try clear hb2); (try clear hk); (try clear hi)) | ((with_reducible refine gate_callee (f := 16) rfl ?_); refine goesL_ (some 16) rfl rfl Try.func16 (by kernel_rfl) rfl #[.agg #[.int .i64 t233, .int .i64 t234, .int .i64 t235, .int .i64 t236, .int .i64 t237, .int .i64 t238], .slice (some ⟨go4, 0, none⟩) y232.length co4] rfl (by (try simp only [List.map_toArray, List.map_cons, List.map_nil]); first | done | (rw [show y232.length = y229.length from (Kd.R_reads' HO231.out).1.symm] <;> rfl) | rfl | (simp only [List.length_drop, List.length_take]; rfl)) ?_; (with_reducible refine (shard_Write.calls k t233 t234 t235 t236 t237 t238 _ _ y232 t239 t242 _ ?side1 ?side2 A6.out).mono ?_); (case side1 => repeat (first | exact (Kd.R_reads' HO231.out).2.2 | (with_reducible refine Kd.C_alloc ?_ _) | (with_reducible refine Kd.C_drewN ?_ _) | (with_reducible refine Kd.C_drew ?_))); (case side2 => rw [show y232.length = y229.length from (Kd.R_reads' HO231.out).1.symm]; exact (Kd.R_reads' HO231.out).2.1); rintro e w22 ⟨v240, rfl, ho0, hb⟩; refine ⟨_, rfl, ?_⟩; have n0_ := Aside0.mk (Kd.R_elder' (by (with_reducible repeat (first | apply Kd.R_alloc | apply Kd.R_drewN | apply Kd.R_drew)); exact HO231.out) (Kd.R_base ho0) hb); have n1_ := Aside0.mk (Kd.R_lower (Kd.R_new' ho0 (Kd.R_lt (by (with_reducible repeat (first | apply Kd.R_alloc | apply Kd.R_drewN | apply Kd.R_drew)); exact HO231.out))) (below_size (by repeat (first | (with_reducible first | exact HB.out | apply below_alloc | apply pw_below_drewN | apply below_drew1 | refine below_set ?_ GE228.out) | exact HB.out)))); have n2_ := Aside0.mk (blk_below (g := gb228) (o := .cells #[.int .i64 t222, .int .i64 t223, .int .i64 t224, .int .i64 t225, .int .i64 t226, .int .i64 t227] 27 (0, 0)) (by (with_reducible repeat (first | refine blk_drewN ?_ _ | refine blk_drew ?_ | refine blk_alloc ?_ _)); exact BK228.out) hb); have n3_ := Aside0.mk (below_step (by repeat (first | (with_reducible first | exact HB.out | apply below_alloc | apply pw_below_drewN | apply below_drew1 | refine below_set ?_ GE228.out) | exact HB.out)) hb); clear HO231; clear BK228; clear HB; have HO231 := n0_; have HO241 := n1_; have BK228 := n2_; have HB := n3_; clear n0_ n1_ n2_ n3_; (try clear hb); (try clear hb2); (try clear hk); (try clear hi); (try clear ho0); obtain ⟨Ao23, co23, eo23⟩ := Kd.R_slice HO241.out; subst eo23) | ((with_reducible refine gate_callee (f := 18) rfl ?_); refine goesL_ (some 21) rfl rfl Try.func18 (by kernel_rfl) rfl #[.slice Ao23 t239.length co23] rfl (by (try simp only [List.map_toArray, List.map_cons, List.map_nil]); first | done | rfl | (simp only [List.length_drop, List.length_take]; rfl)) ?_; (with_reducible refine (shard_Read.calls k _ _ t239 t243 t244 t245 t246 t247 t248 t249 t252 _ ?side1 ?side2 A7.out).mono ?_); (case side1 => repeat (first | exact (Kd.R_reads' HO241.out).2.2 | (with_reducible refine Kd.C_alloc ?_ _) | (with_reducible refine Kd.C_drewN ?_ _) | (with_reducible refine Kd.C_drew ?_))); (case side2 => exact (Kd.R_reads' HO241.out).2.1); rintro e w24 ⟨v250, rfl, ho0, hb⟩; refine ⟨_, rfl, ?_⟩; have n0_ := Aside0.mk (Kd.R_elder' (by (with_reducible repeat (first | apply Kd.R_alloc | apply Kd.R_drewN | apply Kd.R_drew)); exact HO231.out) (Kd.R_base ho0) hb); have n1_ := Aside0.mk (Kd.R_elder' (by (with_reducible repeat (first | apply Kd.R_alloc | apply Kd.R_drewN | apply Kd.R_drew)); exact HO241.out) (Kd.R_base ho0) hb); have n2_ := Aside0.mk (Kd.R_lower (Kd.R_new' (Kd.R_new' ho0 (Kd.R_lt (by (with_reducible repeat (first | apply Kd.R_alloc | apply Kd.R_drewN | apply Kd.R_drew)); exact HO231.out))) (Kd.R_lt (by (with_reducible repeat (first | apply Kd.R_alloc | apply Kd.R_drewN | apply Kd.R_drew)); exact HO241.out))) (below_size (by repeat (first | (with_reducible first | exact HB.out | apply below_alloc | apply pw_below_drewN | apply below_drew1 | refine below_set ?_ GE228.out) | exact HB.out)))); have n3_ := Aside0.mk (blk_below (g := gb228) (o := .cells #[.int .i64 t222, .int .i64 t223, .int .i64 t224, .int .i64 t225, .int .i64 t226, .int .i64 t227] 27 (0, 0)) (by (with_reducible repeat (first | refine blk_drewN ?_ _ | refine blk_drew ?_ | refine blk_alloc ?_ _)); exact BK228.out) hb); have n4_ := Aside0.mk (below_step (by repeat (first | (with_reducible first | exact HB.out | apply below_alloc | apply pw_below_drewN | apply below_drew1 | refine below_set ?_ GE228.out) | exact HB.out)) hb); clear HO231; clear HO241; clear BK228; clear HB; have HO231 := n0_; have HO241 := n1_; have HO251 := n2_; have BK228 := n3_; have HB := n4_; clear n0_ n1_ n2_ n3_ n4_; (try clear hb); (try clear hb2); (try clear hk); (try clear hi); (try clear ho0)) | ((with_reducible refine gate_dst (N := 5) rfl ?_); (try (refine gate_guard (by rfl) ?_; dsimp only)); refine box_event ?hg (N := 5) ?hd (cs := #[.int .i64 0, .int .i64 0, .int .i64 0, .int .i64 0, .int .i64 0, .int .i64 0]) (t := 32) ?hr ?_; (case hd => rfl); (case hg => rfl); (case hr => first | (go_simp; done) | (go_simp; rfl)); intro gb253 hg w25 hbox hb; have n0_ := Aside0.mk (Kd.R_below (by (with_reducible repeat (first | apply Kd.R_alloc | apply Kd.R_drewN | apply Kd.R_drew)); exact HO231.out) hb); have n1_ := Aside0.mk (Kd.R_below (by (with_reducible repeat (first | apply Kd.R_alloc | apply Kd.R_drewN | apply Kd.R_drew)); exact HO241.out) hb); have n2_ := Aside0.mk (Kd.R_below (by (with_reducible repeat (first | apply Kd.R_alloc | apply Kd.R_drewN | apply Kd.R_drew)); exact HO251.out) hb); have n3_ := Aside0.mk (blk_below (g := gb228) (o := .cells #[.int .i64 t222, .int .i64 t223, .int .i64 t224, .int .i64 t225, .int .i64 t226, .int .i64 t227] 27 (0, 0)) (by (with_reducible repeat (first | refine blk_drewN ?_ _ | refine blk_drew ?_ | refine blk_alloc ?_ _)); exact BK228.out) hb); have n4_ := Aside0.mk (below_step (by repeat (first | (with_reducible first | exact HB.out | apply below_alloc | apply pw_below_drewN | apply below_drew1 | refine below_set ?_ GE228.out) | exact HB.out)) hb); have n5_ := Aside0.mk (hbox); have n6_ := Aside0.mk ((by rw [hg]; exact (below_size (by repeat (first | (with_reducible first | exact HB.out | apply below_alloc | apply pw_below_drewN | apply below_drew1 | refine below_set ?_ GE228.out) | exact HB.out))) : w.heap.size ≤ gb253)); have n7_ := Aside0.mk ((by rw [hg]; exact (below_size (by repeat (first | (with_reducible first | exact HB.out | apply below_alloc | apply pw_below_drewN | apply below_drew1 | refine below_set ?_ GE228.out) | exact HB.out))) : w.heap.size ≤ gb253)); have n8_ := Aside0.mk ((by rw [hg]; exact Nat.ne_of_lt (blk_lt (g := gb228) (o := .cells #[.int .i64 t222, .int .i64 t223, .int .i64 t224, .int .i64 t225, .int .i64 t226, .int .i64 t227] 27 (0, 0)) (by (with_reducible repeat (first | refine blk_drewN ?_ _ | refine blk_drew ?_ | refine blk_alloc ?_ _)); exact BK228.out)) : gb228 ≠ gb253)); have n9_ := Aside0.mk ((by rw [hg]; exact Nat.ne_of_gt (blk_lt (g := gb228) (o := .cells #[.int .i64 t222, .int .i64 t223, .int .i64 t224, .int .i64 t225, .int .i64 t226, .int .i64 t227] 27 (0, 0)) (by (with_reducible repeat (first | refine blk_drewN ?_ _ | refine blk_drew ?_ | refine blk_alloc ?_ _)); exact BK228.out)) : gb253 ≠ gb228)); clear HO231; clear HO241; clear HO251; clear BK228; clear HB; have HO231 := n0_; have HO241 := n1_; have HO251 := n2_; have BK228 := n3_; have HB := n4_; have BK253 := n5_; have GW253 := n6_; have GE253 := n7_; have NB228_253 := n8_; have NB253_228 := n9_; clear n0_ n1_ n2_ n3_ n4_ n5_ n6_ n7_ n8_ n9_; clear hb hbox hg; have hnb26 := NB253_228.out; have hnc26 := NB228_253.out; have hcz27_0 : w25.cell? ⟨gb253, 0, none⟩ = some (.int .i64 0) := (blk_cell BK253.out 0).trans rfl; have hcz27_1 : w25.cell? ⟨gb253, 1, none⟩ = some (.int .i64 0) := (blk_cell BK253.out 1).trans rfl; have hcz27_2 : w25.cell? ⟨gb253, 2, none⟩ = some (.int .i64 0) := (blk_cell BK253.out 2).trans rfl; have hcz27_3 : w25.cell? ⟨gb253, 3, none⟩ = some (.int .i64 0) := (blk_cell BK253.out 3).trans rfl; have hcz27_4 : w25.cell? ⟨gb253, 4, none⟩ = some (.int .i64 0) := (blk_cell BK253.out 4).trans rfl; have hcz27_5 : w25.cell? ⟨gb253, 5, none⟩ = some (.int .i64 0) := (blk_cell BK253.out 5).trans rfl; have hfz27_0 := blk_frozen BK253.out 0; have hfz27_1 := blk_frozen BK253.out 1; have hfz27_2 := blk_frozen BK253.out 2; have hfz27_3 := blk_frozen BK253.out 3; have hfz27_4 := blk_frozen BK253.out 4; have hfz27_5 := blk_frozen BK253.out 5))
              have n0_ : Aside0 (Kd.R (Kd.int .u8) 5 ((((((w25.setCell ⟨gb253, 0, none⟩ (.int .i64 t243)).setCell ⟨gb253, 1, none⟩ (.int .i64 t244)).setCell ⟨gb253, 2, none⟩ (.int .i64 t245)).setCell ⟨gb253, 3, none⟩ (.int .i64 t246)).setCell ⟨gb253, 4, none⟩ (.int .i64 t247)).setCell ⟨gb253, 5, none⟩ (.int .i64 t248)) w.heap.size (fun k_ => some k_ ≠ (.slice Ao23 t239.length co23 : Value).ownBlock ∧ some k_ ≠ (v250 : Value).ownBlock) (.slice (some ⟨go4, 0, none⟩) y229.length co4) y232) := ⟨by (with_reducible repeat (first | apply Kd.R_alloc | apply Kd.R_drewN | apply Kd.R_drew)); exact Kd.R_mono (Kd.R_far (p := ⟨gb253, 5, none⟩) (Kd.R_far (p := ⟨gb253, 4, none⟩) (Kd.R_far (p := ⟨gb253, 3, none⟩) (Kd.R_far (p := ⟨gb253, 2, none⟩) (Kd.R_far (p := ⟨gb253, 1, none⟩) (Kd.R_far (p := ⟨gb253, 0, none⟩) (Kd.R_types HO231.out BK253.out (by decide)) (fun _ hk => hk.2) (.int .i64 t243)) (fun _ hk => hk.2) (.int .i64 t244)) (fun _ hk => hk.2) (.int .i64 t245)) (fun _ hk => hk.2) (.int .i64 t246)) (fun _ hk => hk.2) (.int .i64 t247)) (fun _ hk => hk.2) (.int .i64 t248)) (fun _ hk => ⟨hk.1.1.2, hk.1.2⟩)⟩
              have n1_ : Aside0 (Kd.R (Kd.int .u8) 5 ((((((w25.setCell ⟨gb253, 0, none⟩ (.int .i64 t243)).setCell ⟨gb253, 1, none⟩ (.int .i64 t244)).setCell ⟨gb253, 2, none⟩ (.int .i64 t245)).setCell ⟨gb253, 3, none⟩ (.int .i64 t246)).setCell ⟨gb253, 4, none⟩ (.int .i64 t247)).setCell ⟨gb253, 5, none⟩ (.int .i64 t248)) w.heap.size (fun k_ => some k_ ≠ (.slice (some ⟨go4, 0, none⟩) y229.length co4 : Value).ownBlock ∧ some k_ ≠ (v250 : Value).ownBlock) (.slice Ao23 t239.length co23) t239) := ⟨by (with_reducible repeat (first | apply Kd.R_alloc | apply Kd.R_drewN | apply Kd.R_drew)); exact Kd.R_mono (Kd.R_far (p := ⟨gb253, 5, none⟩) (Kd.R_far (p := ⟨gb253, 4, none⟩) (Kd.R_far (p := ⟨gb253, 3, none⟩) (Kd.R_far (p := ⟨gb253, 2, none⟩) (Kd.R_far (p := ⟨gb253, 1, none⟩) (Kd.R_far (p := ⟨gb253, 0, none⟩) (Kd.R_types HO241.out BK253.out (by decide)) (fun _ hk => hk.2) (.int .i64 t243)) (fun _ hk => hk.2) (.int .i64 t244)) (fun _ hk => hk.2) (.int .i64 t245)) (fun _ hk => hk.2) (.int .i64 t246)) (fun _ hk => hk.2) (.int .i64 t247)) (fun _ hk => hk.2) (.int .i64 t248)) (fun _ hk => ⟨hk.1.1.2, hk.1.2⟩)⟩
              have n2_ : Aside0 (Kd.R (Kd.int .u8) 5 ((((((w25.setCell ⟨gb253, 0, none⟩ (.int .i64 t243)).setCell ⟨gb253, 1, none⟩ (.int .i64 t244)).setCell ⟨gb253, 2, none⟩ (.int .i64 t245)).setCell ⟨gb253, 3, none⟩ (.int .i64 t246)).setCell ⟨gb253, 4, none⟩ (.int .i64 t247)).setCell ⟨gb253, 5, none⟩ (.int .i64 t248)) w.heap.size (fun k_ => some k_ ≠ (.slice (some ⟨go4, 0, none⟩) y229.length co4 : Value).ownBlock ∧ some k_ ≠ (.slice Ao23 t239.length co23 : Value).ownBlock) v250 t249) := ⟨by (with_reducible repeat (first | apply Kd.R_alloc | apply Kd.R_drewN | apply Kd.R_drew)); exact Kd.R_mono (Kd.R_far (p := ⟨gb253, 5, none⟩) (Kd.R_far (p := ⟨gb253, 4, none⟩) (Kd.R_far (p := ⟨gb253, 3, none⟩) (Kd.R_far (p := ⟨gb253, 2, none⟩) (Kd.R_far (p := ⟨gb253, 1, none⟩) (Kd.R_far (p := ⟨gb253, 0, none⟩) (Kd.R_types HO251.out BK253.out (by decide)) (fun _ hk => hk.2) (.int .i64 t243)) (fun _ hk => hk.2) (.int .i64 t244)) (fun _ hk => hk.2) (.int .i64 t245)) (fun _ hk => hk.2) (.int .i64 t246)) (fun _ hk => hk.2) (.int .i64 t247)) (fun _ hk => hk.2) (.int .i64 t248)) (fun _ hk => ⟨hk.1.1.2, hk.1.2⟩)⟩
              have n3_ : Aside0 (((((((w25.setCell ⟨gb253, 0, none⟩ (.int .i64 t243)).setCell ⟨gb253, 1, none⟩ (.int .i64 t244)).setCell ⟨gb253, 2, none⟩ (.int .i64 t245)).setCell ⟨gb253, 3, none⟩ (.int .i64 t246)).setCell ⟨gb253, 4, none⟩ (.int .i64 t247)).setCell ⟨gb253, 5, none⟩ (.int .i64 t248)).heap[gb228]? = some (.cells #[.int .i64 t222, .int .i64 t223, .int .i64 t224, .int .i64 t225, .int .i64 t226, .int .i64 t227] 27 (0, 0))) := ⟨by (with_reducible repeat (first | refine blk_drewN ?_ _ | refine blk_drew ?_ | refine blk_alloc ?_ _)); refine blk_far ?_ NB228_253.out _; (with_reducible repeat (first | refine blk_drewN ?_ _ | refine blk_drew ?_ | refine blk_alloc ?_ _)); refine blk_far ?_ NB228_253.out _; (with_reducible repeat (first | refine blk_drewN ?_ _ | refine blk_drew ?_ | refine blk_alloc ?_ _)); refine blk_far ?_ NB228_253.out _; (with_reducible repeat (first | refine blk_drewN ?_ _ | refine blk_drew ?_ | refine blk_alloc ?_ _)); refine blk_far ?_ NB228_253.out _; (with_reducible repeat (first | refine blk_drewN ?_ _ | refine blk_drew ?_ | refine blk_alloc ?_ _)); refine blk_far ?_ NB228_253.out _; (with_reducible repeat (first | refine blk_drewN ?_ _ | refine blk_drew ?_ | refine blk_alloc ?_ _)); refine blk_far ?_ NB228_253.out _; (with_reducible repeat (first | refine blk_drewN ?_ _ | refine blk_drew ?_ | refine blk_alloc ?_ _)); exact BK228.out⟩
              have n4_ : Aside0 (((((((w25.setCell ⟨gb253, 0, none⟩ (.int .i64 t243)).setCell ⟨gb253, 1, none⟩ (.int .i64 t244)).setCell ⟨gb253, 2, none⟩ (.int .i64 t245)).setCell ⟨gb253, 3, none⟩ (.int .i64 t246)).setCell ⟨gb253, 4, none⟩ (.int .i64 t247)).setCell ⟨gb253, 5, none⟩ (.int .i64 t248)).heap[gb253]? = some (.cells #[.int .i64 t243, .int .i64 t244, .int .i64 t245, .int .i64 t246, .int .i64 t247, .int .i64 t248] 32 (0, 0))) := ⟨by (with_reducible repeat (first | refine blk_drewN ?_ _ | refine blk_drew ?_ | refine blk_alloc ?_ _)); refine blk_put (cs := #[.int .i64 t243, .int .i64 t244, .int .i64 t245, .int .i64 t246, .int .i64 t247, .int .i64 0]) ?_ 5 _ rfl; (with_reducible repeat (first | refine blk_drewN ?_ _ | refine blk_drew ?_ | refine blk_alloc ?_ _)); refine blk_put (cs := #[.int .i64 t243, .int .i64 t244, .int .i64 t245, .int .i64 t246, .int .i64 0, .int .i64 0]) ?_ 4 _ rfl; (with_reducible repeat (first | refine blk_drewN ?_ _ | refine blk_drew ?_ | refine blk_alloc ?_ _)); refine blk_put (cs := #[.int .i64 t243, .int .i64 t244, .int .i64 t245, .int .i64 0, .int .i64 0, .int .i64 0]) ?_ 3 _ rfl; (with_reducible repeat (first | refine blk_drewN ?_ _ | refine blk_drew ?_ | refine blk_alloc ?_ _)); refine blk_put (cs := #[.int .i64 t243, .int .i64 t244, .int .i64 0, .int .i64 0, .int .i64 0, .int .i64 0]) ?_ 2 _ rfl; (with_reducible repeat (first | refine blk_drewN ?_ _ | refine blk_drew ?_ | refine blk_alloc ?_ _)); refine blk_put (cs := #[.int .i64 t243, .int .i64 0, .int .i64 0, .int .i64 0, .int .i64 0, .int .i64 0]) ?_ 1 _ rfl; (with_reducible repeat (first | refine blk_drewN ?_ _ | refine blk_drew ?_ | refine blk_alloc ?_ _)); refine blk_put (cs := #[.int .i64 0, .int .i64 0, .int .i64 0, .int .i64 0, .int .i64 0, .int .i64 0]) ?_ 0 _ rfl; (with_reducible repeat (first | refine blk_drewN ?_ _ | refine blk_drew ?_ | refine blk_alloc ?_ _)); exact BK253.out⟩
              have n5_ : Aside0 (Below w.heap.size w ((((((w25.setCell ⟨gb253, 0, none⟩ (.int .i64 t243)).setCell ⟨gb253, 1, none⟩ (.int .i64 t244)).setCell ⟨gb253, 2, none⟩ (.int .i64 t245)).setCell ⟨gb253, 3, none⟩ (.int .i64 t246)).setCell ⟨gb253, 4, none⟩ (.int .i64 t247)).setCell ⟨gb253, 5, none⟩ (.int .i64 t248))) := ⟨by repeat (first | (with_reducible first | exact HB.out | apply below_alloc | apply pw_below_drewN | apply below_drew1 | refine below_set ?_ GE228.out | refine below_set ?_ GE253.out) | exact HB.out)⟩
              (try clear HO231)
              (try clear HO241)
              (try clear HO251)
              (try clear BK228)
              (try clear BK253)
              (try clear HB)
              generalize ((((((w25.setCell ⟨gb253, 0, none⟩ (.int .i64 t243)).setCell ⟨gb253, 1, none⟩ (.int .i64 t244)).setCell ⟨gb253, 2, none⟩ (.int .i64 t245)).setCell ⟨gb253, 3, none⟩ (.int .i64 t246)).setCell ⟨gb253, 4, none⟩ (.int .i64 t247)).setCell ⟨gb253, 5, none⟩ (.int .i64 t248)) = w28 at n0_ n1_ n2_ n3_ n4_ n5_ ⊢
              have HO231 := n0_
              have HO241 := n1_
              have HO251 := n2_
              have BK228 := n3_
              have BK253 := n4_
              have HB := n5_
              clear n0_ n1_ n2_ n3_ n4_ n5_
              have n0_ := Aside0.mk (Kd.R_drew HO231.out)
              have n1_ := Aside0.mk (Kd.R_drew HO241.out)
              have n2_ := Aside0.mk (Kd.R_drew HO251.out)
              have n3_ := Aside0.mk (blk_drew BK228.out)
              have n4_ := Aside0.mk (blk_drew BK253.out)
              have n5_ := Aside0.mk (below_drew1 HB.out)
              clear HO231
              clear HO241
              clear HO251
              clear BK228
              clear BK253
              clear HB
              have HO231 := n0_
              have HO241 := n1_
              have HO251 := n2_
              have BK228 := n3_
              have BK253 := n4_
              have HB := n5_
              clear n0_ n1_ n2_ n3_ n4_ n5_
              refine start_ (n := 25) (S := fun w' => w'.cell? ⟨gb253, 0, none⟩ = some (.int .i64 t243) ∧ w'.cell? ⟨gb253, 1, none⟩ = some (.int .i64 t244) ∧ w'.cell? ⟨gb253, 2, none⟩ = some (.int .i64 t245) ∧ w'.cell? ⟨gb253, 3, none⟩ = some (.int .i64 t246) ∧ w'.cell? ⟨gb253, 4, none⟩ = some (.int .i64 t247) ∧ w'.cell? ⟨gb253, 5, none⟩ = some (.int .i64 t248) ∧ w'.cell? ⟨gb228, 0, none⟩ = some (.int .i64 t222) ∧ w'.cell? ⟨gb228, 1, none⟩ = some (.int .i64 t223) ∧ w'.cell? ⟨gb228, 2, none⟩ = some (.int .i64 t224) ∧ w'.cell? ⟨gb228, 3, none⟩ = some (.int .i64 t225) ∧ w'.cell? ⟨gb228, 4, none⟩ = some (.int .i64 t226) ∧ w'.cell? ⟨gb228, 5, none⟩ = some (.int .i64 t227) ∧ (convert 22 9 v250).run Try.prog w' = .ok (.string (strOfNums t249)) w' ∧ (convert 22 9 (.slice (some ⟨go4, 0, none⟩) y229.length co4)).run Try.prog w' = .ok (.string (strOfNums y232)) w') (ds := []) #[false, false, false, false, false, false, false, false, false, false, false, false, false, false, false, false, false, false, false, false, false, false, false, false, false] (by kernel_rfl) rfl rfl ⟨(blk_cell BK253.out 0).trans rfl, (blk_cell BK253.out 1).trans rfl, (blk_cell BK253.out 2).trans rfl, (blk_cell BK253.out 3).trans rfl, (blk_cell BK253.out 4).trans rfl, (blk_cell BK253.out 5).trans rfl, (blk_cell BK228.out 0).trans rfl, (blk_cell BK228.out 1).trans rfl, (blk_cell BK228.out 2).trans rfl, (blk_cell BK228.out 3).trans rfl, (blk_cell BK228.out 4).trans rfl, (blk_cell BK228.out 5).trans rfl, (own_string (P := Try.prog) Try.underlying22 Try.underlying5 Try.underlying9 (Kd.own_of_R HO251.out)), (own_string (P := Try.prog) Try.underlying22 Try.underlying5 Try.underlying9 (Kd.own_of_R HO231.out))⟩ (fun hHeld => ?_); refine with_tabW strongboxlaw5_awake.tab6 strongboxlaw5_awake.bits6 (fun HT_ HW_ => ?_)
              generalize w28.drew = w29 at HO231 HO241 HO251 BK228 BK253 HB hHeld ⊢
              refine pure_ (i := 0) (N := some 25) (v := ?_) (a' := ?_) #[true, false, false, false, false, false, false, false, false, false, false, false, false, false, false, false, false, false, false, false, false, false, false, false, false] rfl rfl (any_of HT_.out (by kernel_rfl)) (fun _ _ _ h => h) (Or.inl ⟨by rfl, ?_⟩) ?_ ?_
              rotate_left
              · intro w'
                go_simp
                with_reducible rfl
              rotate_left
              · simp only [Act.put, List.setIfInBounds_toArray, List.set_cons_zero, List.set_cons_succ, i64_w, i32_w]
                rfl
              refine pure_ (i := 1) (N := some 26) (v := ?_) (a' := ?_) #[true, true, false, false, false, false, false, false, false, false, false, false, false, false, false, false, false, false, false, false, false, false, false, false, false] rfl rfl (any_of HT_.out (by kernel_rfl)) (fun _ _ _ h => h) (Or.inl ⟨by rfl, ?_⟩) ?_ ?_
              rotate_left
              · intro w'
                go_simp
                with_reducible rfl
              rotate_left
              · simp only [Act.put, List.setIfInBounds_toArray, List.set_cons_zero, List.set_cons_succ, i64_w, i32_w]
                rfl
              refine pure_ (i := 2) (N := some 27) (v := ?_) (a' := ?_) #[true, true, true, false, false, false, false, false, false, false, false, false, false, false, false, false, false, false, false, false, false, false, false, false, false] rfl rfl (any_of HT_.out (by kernel_rfl)) (fun _ _ _ h => h) (Or.inl ⟨by rfl, ?_⟩) ?_ ?_
              rotate_left
              · intro w'
                go_simp
                with_reducible rfl
              rotate_left
              · simp only [Act.put, List.setIfInBounds_toArray, List.set_cons_zero, List.set_cons_succ, i64_w, i32_w]
                rfl
              refine pure_ (i := 3) (N := some 28) (v := ?_) (a' := ?_) #[true, true, true, true, false, false, false, false, false, false, false, false, false, false, false, false, false, false, false, false, false, false, false, false, false] rfl rfl (any_of HT_.out (by kernel_rfl)) (fun _ _ _ h => h) (Or.inl ⟨by rfl, ?_⟩) ?_ ?_
              rotate_left
              · intro w'
                go_simp
                with_reducible rfl
              rotate_left
              · simp only [Act.put, List.setIfInBounds_toArray, List.set_cons_zero, List.set_cons_succ, i64_w, i32_w]
                rfl
              refine pure_ (i := 4) (N := some 29) (v := ?_) (a' := ?_) #[true, true, true, true, true, false, false, false, false, false, false, false, false, false, false, false, false, false, false, false, false, false, false, false, false] rfl rfl (any_of HT_.out (by kernel_rfl)) (fun _ _ _ h => h) (Or.inl ⟨by rfl, ?_⟩) ?_ ?_
              rotate_left
              · intro w'
                go_simp
                with_reducible rfl
              rotate_left
              · simp only [Act.put, List.setIfInBounds_toArray, List.set_cons_zero, List.set_cons_succ, i64_w, i32_w]
                rfl
              refine pure_ (i := 5) (N := some 30) (v := ?_) (a' := ?_) #[true, true, true, true, true, true, false, false, false, false, false, false, false, false, false, false, false, false, false, false, false, false, false, false, false] rfl rfl (any_of HT_.out (by kernel_rfl)) (fun _ _ _ h => h) (Or.inl ⟨by rfl, ?_⟩) ?_ ?_
              rotate_left
              · intro w'
                go_simp
                with_reducible rfl
              rotate_left
              · simp only [Act.put, List.setIfInBounds_toArray, List.set_cons_zero, List.set_cons_succ, i64_w, i32_w]
                rfl
              refine pure_ (i := 6) (N := some 31) (v := ?_) (a' := ?_) #[true, true, true, true, true, true, true, false, false, false, false, false, false, false, false, false, false, false, false, false, false, false, false, false, false] rfl rfl (any_of HT_.out (by kernel_rfl)) (fun _ _ _ h => h) (Or.inl ⟨by rfl, ?_⟩) ?_ ?_
              rotate_left
              · intro w'
                go_simp
                with_reducible rfl
              rotate_left
              · simp only [Act.put, List.setIfInBounds_toArray, List.set_cons_zero, List.set_cons_succ, i64_w, i32_w]
                rfl
              refine pure_ (i := 7) (N := some 32) (v := ?_) (a' := ?_) #[true, true, true, true, true, true, true, true, false, false, false, false, false, false, false, false, false, false, false, false, false, false, false, false, false] rfl rfl (any_of HT_.out (by kernel_rfl)) (fun _ _ _ h => h) (Or.inl ⟨by rfl, ?_⟩) ?_ ?_
              rotate_left
              · intro w'
                go_simp
                with_reducible rfl
              rotate_left
              · simp only [Act.put, List.setIfInBounds_toArray, List.set_cons_zero, List.set_cons_succ, i64_w, i32_w]
                rfl
              refine pure_ (i := 8) (N := some 33) (v := ?_) (a' := ?_) #[true, true, true, true, true, true, true, true, true, false, false, false, false, false, false, false, false, false, false, false, false, false, false, false, false] rfl rfl (any_of HT_.out (by kernel_rfl)) (fun _ _ _ h => h) (Or.inl ⟨by rfl, ?_⟩) ?_ ?_
              rotate_left
              · intro w'
                go_simp
                with_reducible rfl
              rotate_left
              · simp only [Act.put, List.setIfInBounds_toArray, List.set_cons_zero, List.set_cons_succ, i64_w, i32_w]
                rfl
              refine pure_ (i := 9) (N := some 34) (v := ?_) (a' := ?_) #[true, true, true, true, true, true, true, true, true, true, false, false, false, false, false, false, false, false, false, false, false, false, false, false, false] rfl rfl (any_of HT_.out (by kernel_rfl)) (fun _ _ _ h => h) (Or.inl ⟨by rfl, ?_⟩) ?_ ?_
              rotate_left
              · intro w'
                go_simp
                with_reducible rfl
              rotate_left
              · simp only [Act.put, List.setIfInBounds_toArray, List.set_cons_zero, List.set_cons_succ, i64_w, i32_w]
                rfl
              refine pure_ (i := 10) (N := some 35) (v := ?_) (a' := ?_) #[true, true, true, true, true, true, true, true, true, true, true, false, false, false, false, false, false, false, false, false, false, false, false, false, false] rfl rfl (any_of HT_.out (by kernel_rfl)) (fun _ _ _ h => h) (Or.inl ⟨by rfl, ?_⟩) ?_ ?_
              rotate_left
              · intro w'
                go_simp
                with_reducible rfl
              rotate_left
              · simp only [Act.put, List.setIfInBounds_toArray, List.set_cons_zero, List.set_cons_succ, i64_w, i32_w]
                rfl
              refine pure_ (i := 11) (N := some 36) (v := ?_) (a' := ?_) #[true, true, true, true, true, true, true, true, true, true, true, true, false, false, false, false, false, false, false, false, false, false, false, false, false] rfl rfl (any_of HT_.out (by kernel_rfl)) (fun _ _ _ h => h) (Or.inl ⟨by rfl, ?_⟩) ?_ ?_
              rotate_left
              · intro w'
                go_simp
                with_reducible rfl
              rotate_left
              · simp only [Act.put, List.setIfInBounds_toArray, List.set_cons_zero, List.set_cons_succ, i64_w, i32_w]
                rfl
              refine take_ (i := 12) (N := some 37) (v := ?_) (a' := ?_) #[true, true, true, true, true, true, true, true, true, true, true, true, true, false, false, false, false, false, false, false, false, false, false, false, false] rfl rfl (take_ofW HT_.out HW_.out (by kernel_rfl)) (fun _ _ _ h => h) (Or.inl ⟨by rfl, ?_⟩) hHeld ?_ ?_
              rotate_left
              · rintro w' ⟨s0, s1, s2, s3, s4, s5, s6, s7, s8, s9, s10, s11, s12, s13⟩
                go_simp
                with_reducible rfl
              rotate_left
              · simp only [Act.put, List.setIfInBounds_toArray, List.set_cons_zero, List.set_cons_succ, i64_w, i32_w]
                rfl
              refine take_ (i := 13) (N := some 38) (v := ?_) (a' := ?_) #[true, true, true, true, true, true, true, true, true, true, true, true, true, true, false, false, false, false, false, false, false, false, false, false, false] rfl rfl (take_ofW HT_.out HW_.out (by kernel_rfl)) (fun _ _ _ h => h) (Or.inl ⟨by rfl, ?_⟩) hHeld ?_ ?_
              rotate_left
              · rintro w' ⟨s0, s1, s2, s3, s4, s5, s6, s7, s8, s9, s10, s11, s12, s13⟩
                go_simp
                with_reducible rfl
              rotate_left
              · simp only [Act.put, List.setIfInBounds_toArray, List.set_cons_zero, List.set_cons_succ, i64_w, i32_w]
                rfl
              refine one_ (i := 14) (N := some 39) #[true, true, true, true, true, true, true, true, true, true, true, true, true, true, true, false, false, false, false, false, false, false, false, false, false] rfl rfl (one_of HT_.out (by kernel_rfl)) (by decide) (fun K hK => ?_)
              refine goes_ Try.func17 (by kernel_rfl) rfl #[.agg #[.int .i64 t222, .int .i64 t223, .int .i64 t224, .int .i64 t225, .int .i64 t226, .int .i64 t227]] (by rfl) rfl rfl (by (try simp only [List.map_toArray, List.map_cons, List.map_nil]); first | done | rfl | (simp only [List.length_drop, List.length_take]; rfl)) ?_
              with_reducible refine (strongboxlaw5_Head.calls t222 t223 t224 t225 t226 t227 t254 t255 t256 t257 t258 t259 _ A11.out).mono ?_
              rintro e w30 ⟨rfl, hb⟩
              refine ⟨_, rfl, ?_⟩
              have n0_ := Aside0.mk (Kd.R_below (by (with_reducible repeat (first | apply Kd.R_alloc | apply Kd.R_drewN | apply Kd.R_drew)); exact HO231.out) hb)
              have n1_ := Aside0.mk (Kd.R_below (by (with_reducible repeat (first | apply Kd.R_alloc | apply Kd.R_drewN | apply Kd.R_drew)); exact HO241.out) hb)
              have n2_ := Aside0.mk (Kd.R_below (by (with_reducible repeat (first | apply Kd.R_alloc | apply Kd.R_drewN | apply Kd.R_drew)); exact HO251.out) hb)
              have n3_ := Aside0.mk (blk_below (g := gb228) (o := .cells #[.int .i64 t222, .int .i64 t223, .int .i64 t224, .int .i64 t225, .int .i64 t226, .int .i64 t227] 27 (0, 0)) (by (with_reducible repeat (first | refine blk_drewN ?_ _ | refine blk_drew ?_ | refine blk_alloc ?_ _)); exact BK228.out) hb)
              have n4_ := Aside0.mk (blk_below (g := gb253) (o := .cells #[.int .i64 t243, .int .i64 t244, .int .i64 t245, .int .i64 t246, .int .i64 t247, .int .i64 t248] 32 (0, 0)) (by (with_reducible repeat (first | refine blk_drewN ?_ _ | refine blk_drew ?_ | refine blk_alloc ?_ _)); exact BK253.out) hb)
              have n5_ := Aside0.mk (below_step (by repeat (first | (with_reducible first | exact HB.out | apply below_alloc | apply pw_below_drewN | apply below_drew1 | refine below_set ?_ GE228.out | refine below_set ?_ GE253.out) | exact HB.out)) hb)
              clear HO231
              clear HO241
              clear HO251
              clear BK228
              clear BK253
              clear HB
              have HO231 := n0_
              have HO241 := n1_
              have HO251 := n2_
              have BK228 := n3_
              have BK253 := n4_
              have HB := n5_
              clear n0_ n1_ n2_ n3_ n4_ n5_
              (try clear hb)
              (try clear hb2)
              (try clear hk)
              (try clear hi)
              refine hK.out _ _ ⟨(blk_cell BK253.out 0).trans rfl, (blk_cell BK253.out 1).trans rfl, (blk_cell BK253.out 2).trans rfl, (blk_cell BK253.out 3).trans rfl, (blk_cell BK253.out 4).trans rfl, (blk_cell BK253.out 5).trans rfl, (blk_cell BK228.out 0).trans rfl, (blk_cell BK228.out 1).trans rfl, (blk_cell BK228.out 2).trans rfl, (blk_cell BK228.out 3).trans rfl, (blk_cell BK228.out 4).trans rfl, (blk_cell BK228.out 5).trans rfl, (own_string (P := Try.prog) Try.underlying22 Try.underlying5 Try.underlying9 (Kd.own_of_R HO251.out)), (own_string (P := Try.prog) Try.underlying22 Try.underlying5 Try.underlying9 (Kd.own_of_R HO231.out))⟩ (fun hHeld => ?_)
              clear hK K
              refine norm_ (a' := ?_) ?_ ?_
              rotate_left
              · show Act.put _ (some 39) _ = _
                simp only [Act.put, List.setIfInBounds_toArray, List.set_cons_zero, List.set_cons_succ, i64_w, i32_w]
                rfl
              refine pure_ (i := 15) (N := some 40) (v := ?_) (a' := ?_) #[true, true, true, true, true, true, true, true, true, true, true, true, true, true, true, true, false, false, false, false, false, false, false, false, false] rfl rfl (any_of HT_.out (by kernel_rfl)) (fun _ _ _ h => h) (Or.inl ⟨by rfl, ?_⟩) ?_ ?_
              rotate_left
              · intro w'
                go_simp
                with_reducible rfl
              rotate_left
              · simp only [Act.put, List.setIfInBounds_toArray, List.set_cons_zero, List.set_cons_succ, i64_w, i32_w]
                rfl
              refine pure_ (i := 16) (N := some 41) (v := ?_) (a' := ?_) #[true, true, true, true, true, true, true, true, true, true, true, true, true, true, true, true, true, false, false, false, false, false, false, false, false] rfl rfl (any_of HT_.out (by kernel_rfl)) (fun _ _ _ h => h) (Or.inl ⟨by rfl, ?_⟩) ?_ ?_
              rotate_left
              · intro w'
                go_simp
                with_reducible rfl
              rotate_left
              · simp only [Act.put, List.setIfInBounds_toArray, List.set_cons_zero, List.set_cons_succ, i64_w, i32_w]
                rfl
              refine pure_ (i := 17) (N := some 42) (v := ?_) (a' := ?_) #[true, true, true, true, true, true, true, true, true, true, true, true, true, true, true, true, true, true, false, false, false, false, false, false, false] rfl rfl (any_of HT_.out (by kernel_rfl)) (fun _ _ _ h => h) (Or.inl ⟨by rfl, ?_⟩) ?_ ?_
              rotate_left
              · intro w'
                go_simp
                with_reducible rfl
              rotate_left
              · simp only [Act.put, List.setIfInBounds_toArray, List.set_cons_zero, List.set_cons_succ, i64_w, i32_w]
                rfl
              refine pure_ (i := 18) (N := some 43) (v := ?_) (a' := ?_) #[true, true, true, true, true, true, true, true, true, true, true, true, true, true, true, true, true, true, true, false, false, false, false, false, false] rfl rfl (any_of HT_.out (by kernel_rfl)) (fun _ _ _ h => h) (Or.inl ⟨by rfl, ?_⟩) ?_ ?_
              rotate_left
              · intro w'
                go_simp
                with_reducible rfl
              rotate_left
              · simp only [Act.put, List.setIfInBounds_toArray, List.set_cons_zero, List.set_cons_succ, i64_w, i32_w]
                rfl
              refine pure_ (i := 20) (N := some 45) (v := ?_) (a' := ?_) #[true, true, true, true, true, true, true, true, true, true, true, true, true, true, true, true, true, true, true, false, true, false, false, false, false] rfl rfl (any_of HT_.out (by kernel_rfl)) (fun _ _ _ h => h) (Or.inl ⟨by rfl, ?_⟩) ?_ ?_
              rotate_left
              · intro w'
                go_simp
                with_reducible rfl
              rotate_left
              · simp only [Act.put, List.setIfInBounds_toArray, List.set_cons_zero, List.set_cons_succ, i64_w, i32_w]
                rfl
              refine take_ (i := 19) (N := some 44) (v := ?_) (a' := ?_) #[true, true, true, true, true, true, true, true, true, true, true, true, true, true, true, true, true, true, true, true, true, false, false, false, false] rfl rfl (take_ofW HT_.out HW_.out (by kernel_rfl)) (fun _ _ _ h => h) (Or.inl ⟨by rfl, ?_⟩) hHeld ?_ ?_
              rotate_left
              · rintro w' ⟨s0, s1, s2, s3, s4, s5, s6, s7, s8, s9, s10, s11, s12, s13⟩
                go_simp
                with_reducible rfl
              rotate_left
              · simp only [Act.put, List.setIfInBounds_toArray, List.set_cons_zero, List.set_cons_succ, i64_w, i32_w]
                rfl
              refine take_ (i := 21) (N := some 46) (v := ?_) (a' := ?_) #[true, true, true, true, true, true, true, true, true, true, true, true, true, true, true, true, true, true, true, true, true, true, false, false, false] rfl rfl (take_ofW HT_.out HW_.out (by kernel_rfl)) (fun _ _ _ h => h) (Or.inl ⟨by rfl, ?_⟩) hHeld ?_ ?_
              rotate_left
              · rintro w' ⟨s0, s1, s2, s3, s4, s5, s6, s7, s8, s9, s10, s11, s12, s13⟩
                go_simp
                with_reducible rfl
              rotate_left
              · simp only [Act.put, List.setIfInBounds_toArray, List.set_cons_zero, List.set_cons_succ, i64_w, i32_w]
                rfl
              refine pure_ (i := 22) (N := some 47) (v := ?_) (a' := ?_) #[true, true, true, true, true, true, true, true, true, true, true, true, true, true, true, true, true, true, true, true, true, true, true, false, false] rfl rfl (any_of HT_.out (by kernel_rfl)) (fun _ _ _ h => h) (Or.inl ⟨by rfl, ?_⟩) ?_ ?_
              rotate_left
              · intro w'
                go_simp
                with_reducible rfl
              rotate_left
              · simp only [Act.put, List.setIfInBounds_toArray, List.set_cons_zero, List.set_cons_succ, i64_w, i32_w]
                rfl
              refine pure_ (i := 23) (N := some 48) (v := ?_) (a' := ?_) #[true, true, true, true, true, true, true, true, true, true, true, true, true, true, true, true, true, true, true, true, true, true, true, true, false] rfl rfl (any_of HT_.out (by kernel_rfl)) (fun _ _ _ h => h) (Or.inl ⟨by rfl, ?_⟩) ?_ ?_
              rotate_left
              · intro w'
                go_simp
                with_reducible rfl
              rotate_left
              · simp only [Act.put, List.setIfInBounds_toArray, List.set_cons_zero, List.set_cons_succ, i64_w, i32_w]
                rfl
              refine pure_ (i := 24) (N := some 0) (v := ?_) (a' := ?_) #[true, true, true, true, true, true, true, true, true, true, true, true, true, true, true, true, true, true, true, true, true, true, true, true, true] rfl rfl (any_of HT_.out (by kernel_rfl)) (fun _ _ _ h => h) (Or.inl ⟨by rfl, ?_⟩) ?_ ?_
              rotate_left
              · intro w'
                go_simp
                with_reducible rfl
              rotate_left
              · simp only [Act.put, List.setIfInBounds_toArray, List.set_cons_zero, List.set_cons_succ, i64_w, i32_w]
                rfl
              refine done_ (done_of HT_.out (by kernel_rfl)) ?_
              try go_wp2
              go_ret
              exact ⟨by first | rfl | (simp [errW_none, errW_some] <;> rfl) | (simp [*, errW_none, errW_some] <;> rfl), by repeat (first | (with_reducible first | exact HB.out | apply below_alloc | apply pw_below_drewN | apply below_drew1 | refine below_set ?_ GE228.out | refine below_set ?_ GE253.out) | exact HB.out)⟩
            · rw [if_neg c12] at H
              exact absurd H (by simp)
          · rw [if_neg c10] at H
            exact absurd H (by simp)
        · rw [if_neg c9] at H
          exact absurd H (by simp)
      · rw [if_neg c8] at H
        exact absurd H (by simp)
    · rw [if_neg c3] at H
      exact absurd H (by simp)
  · rw [if_neg c2] at H
    exact absurd H (by simp)

end Go.Proofs.Ytnlpipjdpmaggaa.PShardWrites
