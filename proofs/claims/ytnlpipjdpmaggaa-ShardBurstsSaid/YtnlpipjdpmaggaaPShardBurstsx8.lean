/- WRITTEN FOR THIS CLAIM by a program of the prover's own (the kit's printing program, with constructs added): for each Go function that the statement reaches a Lean function with the same answers, and the proof of that. Not trusted: Lean checks it. -/
import Derived.Test.YtnlpipjdpmaggaaPShardCutsx0
import Derived.Test.YtnlpipjdpmaggaaPShardCutsx2
import Derived.Test.YtnlpipjdpmaggaaPShardCutsx3
import Derived.Test.YtnlpipjdpmaggaaPShardCutsx6
import Derived.Test.YtnlpipjdpmaggaaPShardCutsx7
namespace Go.Proofs.Ytnlpipjdpmaggaa.PShardCuts
open Go.RowKit Go.Proofs.YtnlpipjdpmaggaaW.PrintWords Go.Proofs.YtnlpipjdpmaggaaW.PrintLast Go.Proofs.YtnlpipjdpmaggaaW.PrintMore
attribute [local go_sem] max2_int min2_int max_two min_two max_three min_three max_four min_four   -- for this text's walks alone
set_option linter.unusedVariables false
set_option linter.unusedSimpArgs false

/-! ### strongboxlaw5_ShardBursts: function 3 -/
mutual
def strongboxlaw5_ShardBursts.j0 : Nat → List Int → Int → Bool → Int → Int → Option (Bool)
  | 0, _, _, _, _, _ => none
  | k + 1, x0, x1, x24, x261000, x261001 => if x24 = true then (some true) else ((strongboxlaw5_One.f (x0.length : Int) x1).bind fun bt262 => ((strongboxlaw5_Head.f bt262.1 bt262.2.1 bt262.2.2.1 bt262.2.2.2.1 bt262.2.2.2.2.1 bt262.2.2.2.2.2).bind fun bt269 => ((shard_Write.f k bt269.1 bt269.2.1 bt269.2.2.1 bt269.2.2.2.1 bt269.2.2.2.2.1 bt269.2.2.2.2.2 x0).bind fun bt275 => (if bt275.2 = 0 then (strongboxlaw5_ShardBursts.j1 k bt275.1 (decide ((bt275.1.length : Int) < 24)) x261000 x261001) else (strongboxlaw5_ShardBursts.j1 k bt275.1 true x261000 x261001)))))
def strongboxlaw5_ShardBursts.j1 : Nat → List Int → Bool → Int → Int → Option (Bool)
  | 0, _, _, _, _ => none
  | k + 1, x8, x42, x261000, x261001 => if x42 = true then (some false) else (if (wrap64 ((wrap64 (8 * (x8.length : Int))) - 31)) = 0 then (none) else (strongboxlaw5_ShardBursts.l0 k x8 (Int.tmod (wrap64 (x261000)) (wrap64 ((wrap64 (8 * (x8.length : Int))) - 31))) 0 x261000 x261001))
def strongboxlaw5_ShardBursts.l0 : Nat → List Int → Int → Int → Int → Int → Option (Bool)
  | 0, _, _, _, _, _ => none
  | k + 1, x8, x10, x11, x261000, x261001 => if x11 < 32 then (if 0 ≤ (IntKind.u64.wrap (x11)) then (if (Go.bits .and .u32 (shr .u32 x261001 (IntKind.u64.wrap (x11))) 1) = 1 then (if 0 ≤ (wrap64 (Int.tdiv (wrap64 (x10 + x11)) 8)) then (if (wrap64 (Int.tdiv (wrap64 (x10 + x11)) 8)) < (x8.length : Int) then (if 0 ≤ (IntKind.u64.wrap (Int.tmod (wrap64 (x10 + x11)) 8)) then (strongboxlaw5_ShardBursts.l0 k (x8.set ((wrap64 (Int.tdiv (wrap64 (x10 + x11)) 8)) : Int).toNat (Go.bits .xor .u8 (rd x8 (wrap64 (Int.tdiv (wrap64 (x10 + x11)) 8))) (shl .u8 1 (IntKind.u64.wrap (Int.tmod (wrap64 (x10 + x11)) 8))))) x10 (wrap64 (x11 + 1)) x261000 x261001) else (none)) else (none)) else (none)) else (strongboxlaw5_ShardBursts.l0 k x8 x10 (wrap64 (x11 + 1)) x261000 x261001)) else (none)) else ((shard_Read.f k x8).bind fun bt281 => (if bt281.2.2.2.2.2.2.2 = 0 then (some false) else (some ((bt281.2.2.2.2.2.2.1.length : Int) == 0))))
end
def strongboxlaw5_ShardBursts.f (k : Nat) (l0 : List Int) (a1 : Int) (a2_0 : Int) (a2_1 : Int) : Option (Bool) := (strongboxlaw5_awake.f k).bind fun t261 => (if t261 = true then (if (l0.length : Int) > 4000 then (strongboxlaw5_ShardBursts.j0 k l0 a1 true a2_0 a2_1) else (strongboxlaw5_ShardBursts.j0 k l0 a1 (a2_1 == 0) a2_0 a2_1)) else (some false))
theorem strongboxlaw5_ShardBursts.mono_l : ∀ k, (∀ y0 y1 y2 y3 y4, LeO (strongboxlaw5_ShardBursts.j0 k y0 y1 y2 y3 y4) (strongboxlaw5_ShardBursts.j0 (k + 1) y0 y1 y2 y3 y4)) ∧ (∀ y0 y1 y2 y3, LeO (strongboxlaw5_ShardBursts.j1 k y0 y1 y2 y3) (strongboxlaw5_ShardBursts.j1 (k + 1) y0 y1 y2 y3)) ∧ (∀ y0 y1 y2 y3 y4, LeO (strongboxlaw5_ShardBursts.l0 k y0 y1 y2 y3 y4) (strongboxlaw5_ShardBursts.l0 (k + 1) y0 y1 y2 y3 y4))
  | 0 => ⟨fun _ _ _ _ _ r h => by simp [strongboxlaw5_ShardBursts.j0] at h, fun _ _ _ _ r h => by simp [strongboxlaw5_ShardBursts.j1] at h, fun _ _ _ _ _ r h => by simp [strongboxlaw5_ShardBursts.l0] at h⟩
  | k + 1 => by
    obtain ⟨ih0, ih1, ih2⟩ := strongboxlaw5_ShardBursts.mono_l k
    refine ⟨?_, ?_, ?_⟩
    · intro y0 y1 y2 y3 y4
      unfold strongboxlaw5_ShardBursts.j0
      repeat' first
      | (with_reducible exact ih0 _ _ _ _ _)
      | (with_reducible exact ih1 _ _ _ _)
      | (with_reducible exact ih2 _ _ _ _ _)
      | (with_reducible exact shard_Read.mono _ _)
      | (with_reducible exact shard_Write.mono _ _ _ _ _ _ _ _)
      | (with_reducible exact strongboxlaw5_awake.mono _)
      | (with_reducible exact LeO.refl _)
      | (with_reducible exact LeO.none _)
      | (with_reducible refine LeO.ite ?_ ?_)
      | (with_reducible refine LeO.bind ?_ (fun _ => ?_))
      | exact ih0 _ _ _ _ _
      | exact ih1 _ _ _ _
      | exact ih2 _ _ _ _ _
      | exact shard_Read.mono _ _
      | exact shard_Write.mono _ _ _ _ _ _ _ _
      | exact strongboxlaw5_awake.mono _
      | exact LeO.none _
      | refine LeO.ite ?_ ?_
      | refine LeO.bind ?_ (fun _ => ?_)
    · intro y0 y1 y2 y3
      unfold strongboxlaw5_ShardBursts.j1
      repeat' first
      | (with_reducible exact ih0 _ _ _ _ _)
      | (with_reducible exact ih1 _ _ _ _)
      | (with_reducible exact ih2 _ _ _ _ _)
      | (with_reducible exact shard_Read.mono _ _)
      | (with_reducible exact shard_Write.mono _ _ _ _ _ _ _ _)
      | (with_reducible exact strongboxlaw5_awake.mono _)
      | (with_reducible exact LeO.refl _)
      | (with_reducible exact LeO.none _)
      | (with_reducible refine LeO.ite ?_ ?_)
      | (with_reducible refine LeO.bind ?_ (fun _ => ?_))
      | exact ih0 _ _ _ _ _
      | exact ih1 _ _ _ _
      | exact ih2 _ _ _ _ _
      | exact shard_Read.mono _ _
      | exact shard_Write.mono _ _ _ _ _ _ _ _
      | exact strongboxlaw5_awake.mono _
      | exact LeO.none _
      | refine LeO.ite ?_ ?_
      | refine LeO.bind ?_ (fun _ => ?_)
    · intro y0 y1 y2 y3 y4
      unfold strongboxlaw5_ShardBursts.l0
      repeat' first
      | (with_reducible exact ih0 _ _ _ _ _)
      | (with_reducible exact ih1 _ _ _ _)
      | (with_reducible exact ih2 _ _ _ _ _)
      | (with_reducible exact shard_Read.mono _ _)
      | (with_reducible exact shard_Write.mono _ _ _ _ _ _ _ _)
      | (with_reducible exact strongboxlaw5_awake.mono _)
      | (with_reducible exact LeO.refl _)
      | (with_reducible exact LeO.none _)
      | (with_reducible refine LeO.ite ?_ ?_)
      | (with_reducible refine LeO.bind ?_ (fun _ => ?_))
      | exact ih0 _ _ _ _ _
      | exact ih1 _ _ _ _
      | exact ih2 _ _ _ _ _
      | exact shard_Read.mono _ _
      | exact shard_Write.mono _ _ _ _ _ _ _ _
      | exact strongboxlaw5_awake.mono _
      | exact LeO.none _
      | refine LeO.ite ?_ ?_
      | refine LeO.bind ?_ (fun _ => ?_)
theorem strongboxlaw5_ShardBursts.mono : ∀ a0 a1 a2 a3 k, LeO (strongboxlaw5_ShardBursts.f k a0 a1 a2 a3) (strongboxlaw5_ShardBursts.f (k + 1) a0 a1 a2 a3) := by
  intro a0 a1 a2 a3 k
  obtain ⟨ih0, ih1, ih2⟩ := strongboxlaw5_ShardBursts.mono_l k
  unfold strongboxlaw5_ShardBursts.f
  repeat' first
      | (with_reducible exact ih0 _ _ _ _ _)
      | (with_reducible exact ih1 _ _ _ _)
      | (with_reducible exact ih2 _ _ _ _ _)
      | (with_reducible exact shard_Read.mono _ _)
      | (with_reducible exact shard_Write.mono _ _ _ _ _ _ _ _)
      | (with_reducible exact strongboxlaw5_awake.mono _)
      | (with_reducible exact LeO.refl _)
      | (with_reducible exact LeO.none _)
      | (with_reducible refine LeO.ite ?_ ?_)
      | (with_reducible refine LeO.bind ?_ (fun _ => ?_))
      | exact ih0 _ _ _ _ _
      | exact ih1 _ _ _ _
      | exact ih2 _ _ _ _ _
      | exact shard_Read.mono _ _
      | exact shard_Write.mono _ _ _ _ _ _ _ _
      | exact strongboxlaw5_awake.mono _
      | exact LeO.none _
      | refine LeO.ite ?_ ?_
      | refine LeO.bind ?_ (fun _ => ?_)
set_option maxHeartbeats 8000000 in
set_option maxRecDepth 100000 in
theorem strongboxlaw5_ShardBursts.calls (k : Nat) (A0 : Option Addr) (c0 : Nat) (l0 : List Int) (a1 : Int) (a2_0 : Int) (a2_1 : Int) (r : Bool) (w : World) (hr0 : Kd.C (Kd.int .u8) w A0 l0.length l0) (hc0 : l0.length ≤ c0) (h : strongboxlaw5_ShardBursts.f k l0 a1 a2_0 a2_1 = some r) :
    Calls Try.prog 3 #[.slice A0 l0.length c0, .int .u8 a1, .agg #[.int .u32 a2_0, .int .u32 a2_1]] w fun e w' => e = .returned (.bool r) ∧ Below w.heap.size w w' := by
  have hu24 := Try.underlying24
  have hu27 := Try.underlying27
  have hu32 := Try.underlying32
  have HR0 := Aside0.mk hr0
  have HC0 := Aside0.mk hc0
  clear hr0 hc0
  have HB := Aside0.mk (Below.refl w.heap.size w)
  have H : ((strongboxlaw5_awake.f k).bind fun t261 => (if t261 = true then (if (l0.length : Int) > 4000 then (strongboxlaw5_ShardBursts.j0 k l0 a1 true a2_0 a2_1) else (strongboxlaw5_ShardBursts.j0 k l0 a1 (a2_1 == 0) a2_0 a2_1)) else (some false))) = some r := h
  clear h
  replace H := Option.bind_eq_some_iff.mp H
  obtain ⟨t261, A40, H⟩ := H
  replace H : (if t261 = true then (if (l0.length : Int) > 4000 then (strongboxlaw5_ShardBursts.j0 k l0 a1 true a2_0 a2_1) else (strongboxlaw5_ShardBursts.j0 k l0 a1 (a2_1 == 0) a2_0 a2_1)) else (some false)) = some r := H
  have A4 := Aside0.mk A40
  clear A40
  by_cases c5 : t261 = true
  · subst c5
    have H1 : (if (l0.length : Int) > 4000 then (strongboxlaw5_ShardBursts.j0 k l0 a1 true a2_0 a2_1) else (strongboxlaw5_ShardBursts.j0 k l0 a1 (a2_1 == 0) a2_0 a2_1)) = some r := by rw [if_pos rfl] at H; exact H
    clear H
    have H := H1
    clear H1
    have HC6 := Aside0.mk H
    clear H
    go_enter Try.func3, Try.ntmps3
    go_upto_region 3 with (first | ((with_reducible refine gate_dst (N := 5) rfl ?_); (try (refine gate_guard (by rfl) ?_; dsimp only)); refine box_event ?hg (N := 5) ?hd (cs := #[.int .u32 a2_0, .int .u32 a2_1]) (t := 24) ?hr ?_; (case hd => rfl); (case hg => rfl); (case hr => first | (go_simp; done) | (go_simp; rfl)); intro gb260 hg w7 hbox hb; have n0_ := Aside0.mk (below_step (by repeat (first | (with_reducible first | exact HB.out | apply below_alloc | apply pw_below_drewN | apply below_drew1) | exact HB.out)) hb); have n1_ := Aside0.mk (hbox); have n2_ := Aside0.mk ((by rw [hg]; exact (below_size (by repeat (first | (with_reducible first | exact HB.out | apply below_alloc | apply pw_below_drewN | apply below_drew1) | exact HB.out))) : w.heap.size ≤ gb260)); have n3_ := Aside0.mk ((by rw [hg]; exact (below_size (by repeat (first | (with_reducible first | exact HB.out | apply below_alloc | apply pw_below_drewN | apply below_drew1) | exact HB.out))) : w.heap.size ≤ gb260)); clear HB; have HB := n0_; have BK260 := n1_; have GW260 := n2_; have GE260 := n3_; clear n0_ n1_ n2_ n3_; clear hb hbox hg) | ((with_reducible refine gate_callee (f := 14) rfl ?_); refine goesL_ (some 15) rfl rfl Try.func14 (by kernel_rfl) rfl #[] rfl (by (try simp only [List.map_toArray, List.map_cons, List.map_nil]); first | done | rfl | (simp only [List.length_drop, List.length_take]; rfl)) ?_; (with_reducible refine (strongboxlaw5_awake.calls k  true _ A4.out).mono ?_); rintro e w8 ⟨rfl, hb⟩; refine ⟨_, rfl, ?_⟩; have n0_ := Aside0.mk (blk_below (g := gb260) (o := .cells #[.int .u32 a2_0, .int .u32 a2_1] 24 (0, 0)) (by (with_reducible repeat (first | refine blk_drewN ?_ _ | refine blk_drew ?_ | refine blk_alloc ?_ _)); exact BK260.out) hb); have n1_ := Aside0.mk (below_step (by repeat (first | (with_reducible first | exact HB.out | apply below_alloc | apply pw_below_drewN | apply below_drew1 | refine below_set ?_ GE260.out) | exact HB.out)) hb); clear BK260; clear HB; have BK260 := n0_; have HB := n1_; clear n0_ n1_; (try clear hb); (try clear hb2); (try clear hk); (try clear hi)))
    (try simp only [Act.put, List.setIfInBounds_toArray, List.set_cons_zero, List.set_cons_succ])
    go_cut [24] (fun v24 wc => ∃ (kq : Nat) (x24_5 : Bool), v24 = .bool x24_5 ∧ Aside0 (strongboxlaw5_ShardBursts.j0 kq l0 a1 x24_5 a2_0 a2_1 = some r) ∧ Aside0 (kq ≤ k) ∧ Aside0 (wc.heap[gb260]? = some (.cells #[.int .u32 a2_0, .int .u32 a2_1] 24 (0, 0))) ∧ Aside0 (Below w.heap.size w wc))
    case first =>
      have H := HC6.out
      clear HC6
      by_cases c9 : (l0.length : Int) > 4000
      · rw [if_pos c9] at H
        have c9b0 : decide (4000 < (l0.length : Int)) = true := decide_eq_true c9
        have c9b1 : decide (4000 < l0.length) = true := decide_eq_true (by omega)
        clear c9
        (first | rw [c9b0] | (simp only [i64_w, i32_w]; rw [c9b0]) | skip)
        have H' := Aside0.mk H
        clear H
        go_wp2
        go_meet
        case rel => exact ⟨_, (true), (by first | rfl | (simp; done) | (simp [*]; done)), H', ⟨by first | omega | exact Nat.le_refl _⟩, ⟨by (with_reducible repeat (first | refine blk_drewN ?_ _ | refine blk_drew ?_ | refine blk_alloc ?_ _)); exact BK260.out⟩, ⟨by repeat (first | (with_reducible first | exact HB.out | apply below_alloc | apply pw_below_drewN | apply below_drew1 | refine below_set ?_ GE260.out) | exact HB.out)⟩⟩
      · rw [if_neg c9] at H
        have c9b0 : decide (4000 < (l0.length : Int)) = false := decide_eq_false c9
        have c9b1 : decide (4000 < l0.length) = false := decide_eq_false (by omega)
        clear c9
        (first | rw [c9b0] | (simp only [i64_w, i32_w]; rw [c9b0]) | skip)
        have H' := Aside0.mk H
        clear H
        have hcz10_0 : w8.cell? ⟨gb260, 0, none⟩ = some (.int .u32 a2_0) := (blk_cell BK260.out 0).trans rfl
        have hcz10_1 : w8.cell? ⟨gb260, 1, none⟩ = some (.int .u32 a2_1) := (blk_cell BK260.out 1).trans rfl
        have hfz10_0 := blk_frozen BK260.out 0
        have hfz10_1 := blk_frozen BK260.out 1
        go_wp2
        go_meet
        case rel => exact ⟨_, ((a2_1 == 0)), (by first | rfl | (simp; done) | (simp [*]; done)), H', ⟨by first | omega | exact Nat.le_refl _⟩, ⟨by (with_reducible repeat (first | refine blk_drewN ?_ _ | refine blk_drew ?_ | refine blk_alloc ?_ _)); exact BK260.out⟩, ⟨by repeat (first | (with_reducible first | exact HB.out | apply below_alloc | apply pw_below_drewN | apply below_drew1 | refine below_set ?_ GE260.out) | exact HB.out)⟩⟩
    case rest =>
      clear HC6
      try clear c1
      try clear p2
      try clear c3
      try clear c5
      try clear c9
      try clear c9b0
      try clear c9b1
      try clear hcz10_0
      try clear hcz10_1
      try clear hfz10_0
      try clear hfz10_1
      obtain ⟨kq, x24_5, rfl, HA, HJ5, BK260, HB⟩ := hcut
      cases kq with
      | zero => exact absurd HA.out (by simp [strongboxlaw5_ShardBursts.j0])
      | succ kj5 =>
        have H := HA.out
        clear HA
        simp only [strongboxlaw5_ShardBursts.j0] at H
        by_cases c11 : x24_5 = true
        · subst c11
          have H1 : (some true) = some r := by rw [if_pos rfl] at H; exact H
          clear H
          have H := H1
          clear H1
          obtain rfl := Option.some.inj H
          go_wp2
          go_ret
          exact ⟨by first | rfl | (simp [errW_none, errW_some] <;> rfl) | (simp [*, errW_none, errW_some] <;> rfl), by repeat (first | (with_reducible first | exact HB.out | apply below_alloc | apply pw_below_drewN | apply below_drew1 | refine below_set ?_ GE260.out) | exact HB.out)⟩
        · replace c11 := Bool.eq_false_iff.mpr c11
          subst c11
          have H1 : ((strongboxlaw5_One.f (l0.length : Int) a1).bind fun bt262 => ((strongboxlaw5_Head.f bt262.1 bt262.2.1 bt262.2.2.1 bt262.2.2.2.1 bt262.2.2.2.2.1 bt262.2.2.2.2.2).bind fun bt269 => ((shard_Write.f kj5 bt269.1 bt269.2.1 bt269.2.2.1 bt269.2.2.2.1 bt269.2.2.2.2.1 bt269.2.2.2.2.2 l0).bind fun bt275 => (if bt275.2 = 0 then (strongboxlaw5_ShardBursts.j1 kj5 bt275.1 (decide ((bt275.1.length : Int) < 24)) a2_0 a2_1) else (strongboxlaw5_ShardBursts.j1 kj5 bt275.1 true a2_0 a2_1))))) = some r := by rw [if_neg (show ¬ (false = true) by decide)] at H; exact H
          clear H
          have H := H1
          clear H1
          replace H := Option.bind_eq_some_iff.mp H
          obtain ⟨⟨t262, t263, t264, t265, t266, t267⟩, A120, H⟩ := H
          replace H : ((strongboxlaw5_Head.f t262 t263 t264 t265 t266 t267).bind fun bt269 => ((shard_Write.f kj5 bt269.1 bt269.2.1 bt269.2.2.1 bt269.2.2.2.1 bt269.2.2.2.2.1 bt269.2.2.2.2.2 l0).bind fun bt275 => (if bt275.2 = 0 then (strongboxlaw5_ShardBursts.j1 kj5 bt275.1 (decide ((bt275.1.length : Int) < 24)) a2_0 a2_1) else (strongboxlaw5_ShardBursts.j1 kj5 bt275.1 true a2_0 a2_1)))) = some r := H
          have A12 := Aside0.mk A120
          clear A120
          replace H := Option.bind_eq_some_iff.mp H
          obtain ⟨⟨t269, t270, t271, t272, t273, t274⟩, A130, H⟩ := H
          replace H : ((shard_Write.f kj5 t269 t270 t271 t272 t273 t274 l0).bind fun bt275 => (if bt275.2 = 0 then (strongboxlaw5_ShardBursts.j1 kj5 bt275.1 (decide ((bt275.1.length : Int) < 24)) a2_0 a2_1) else (strongboxlaw5_ShardBursts.j1 kj5 bt275.1 true a2_0 a2_1))) = some r := H
          have A13 := Aside0.mk A130
          clear A130
          replace H := Option.bind_eq_some_iff.mp H
          obtain ⟨⟨t275, t278⟩, A140, H⟩ := H
          replace H : (if t278 = 0 then (strongboxlaw5_ShardBursts.j1 kj5 t275 (decide ((t275.length : Int) < 24)) a2_0 a2_1) else (strongboxlaw5_ShardBursts.j1 kj5 t275 true a2_0 a2_1)) = some r := H
          have A14 := Aside0.mk A140
          clear A140
          have HC15 := Aside0.mk H
          clear H
          go_upto_region 7 with (first | ((with_reducible refine gate_callee (f := 15) rfl ?_); refine goesL_ (some 28) rfl rfl Try.func15 (by kernel_rfl) rfl #[.int .i64 (l0.length : Int), .int .u8 a1] rfl (by (try simp only [List.map_toArray, List.map_cons, List.map_nil]); first | done | rfl | (simp only [List.length_drop, List.length_take]; rfl)) ?_; (with_reducible refine (strongboxlaw5_One.calls (l0.length : Int) a1 t262 t263 t264 t265 t266 t267 _ A12.out).mono ?_); rintro e w16 ⟨rfl, hb⟩; refine ⟨_, rfl, ?_⟩; have n0_ := Aside0.mk (blk_below (g := gb260) (o := .cells #[.int .u32 a2_0, .int .u32 a2_1] 24 (0, 0)) (by (with_reducible repeat (first | refine blk_drewN ?_ _ | refine blk_drew ?_ | refine blk_alloc ?_ _)); exact BK260.out) hb); have n1_ := Aside0.mk (below_step (by repeat (first | (with_reducible first | exact HB.out | apply below_alloc | apply pw_below_drewN | apply below_drew1 | refine below_set ?_ GE260.out) | exact HB.out)) hb); clear BK260; clear HB; have BK260 := n0_; have HB := n1_; clear n0_ n1_; (try clear hb); (try clear hb2); (try clear hk); (try clear hi)) | ((with_reducible refine gate_dst (N := 7) rfl ?_); (try (refine gate_guard (by rfl) ?_; dsimp only)); refine box_event ?hg (N := 7) ?hd (cs := #[.int .i64 0, .int .i64 0, .int .i64 0, .int .i64 0, .int .i64 0, .int .i64 0]) (t := 27) ?hr ?_; (case hd => rfl); (case hg => rfl); (case hr => first | (go_simp; done) | (go_simp; rfl)); intro gb268 hg w17 hbox hb; have n0_ := Aside0.mk (blk_below (g := gb260) (o := .cells #[.int .u32 a2_0, .int .u32 a2_1] 24 (0, 0)) (by (with_reducible repeat (first | refine blk_drewN ?_ _ | refine blk_drew ?_ | refine blk_alloc ?_ _)); exact BK260.out) hb); have n1_ := Aside0.mk (below_step (by repeat (first | (with_reducible first | exact HB.out | apply below_alloc | apply pw_below_drewN | apply below_drew1 | refine below_set ?_ GE260.out) | exact HB.out)) hb); have n2_ := Aside0.mk (hbox); have n3_ := Aside0.mk ((by rw [hg]; exact (below_size (by repeat (first | (with_reducible first | exact HB.out | apply below_alloc | apply pw_below_drewN | apply below_drew1 | refine below_set ?_ GE260.out) | exact HB.out))) : w.heap.size ≤ gb268)); have n4_ := Aside0.mk ((by rw [hg]; exact (below_size (by repeat (first | (with_reducible first | exact HB.out | apply below_alloc | apply pw_below_drewN | apply below_drew1 | refine below_set ?_ GE260.out) | exact HB.out))) : w.heap.size ≤ gb268)); have n5_ := Aside0.mk ((by rw [hg]; exact Nat.ne_of_lt (blk_lt (g := gb260) (o := .cells #[.int .u32 a2_0, .int .u32 a2_1] 24 (0, 0)) (by (with_reducible repeat (first | refine blk_drewN ?_ _ | refine blk_drew ?_ | refine blk_alloc ?_ _)); exact BK260.out)) : gb260 ≠ gb268)); have n6_ := Aside0.mk ((by rw [hg]; exact Nat.ne_of_gt (blk_lt (g := gb260) (o := .cells #[.int .u32 a2_0, .int .u32 a2_1] 24 (0, 0)) (by (with_reducible repeat (first | refine blk_drewN ?_ _ | refine blk_drew ?_ | refine blk_alloc ?_ _)); exact BK260.out)) : gb268 ≠ gb260)); clear BK260; clear HB; have BK260 := n0_; have HB := n1_; have BK268 := n2_; have GW268 := n3_; have GE268 := n4_; have NB260_268 := n5_; have NB268_260 := n6_; clear n0_ n1_ n2_ n3_ n4_ n5_ n6_; clear hb hbox hg; have hnb18 := NB268_260.out; have hnc18 := NB260_268.out; have hcz19_0 : w17.cell? ⟨gb268, 0, none⟩ = some (.int .i64 0) := (blk_cell BK268.out 0).trans rfl; have hcz19_1 : w17.cell? ⟨gb268, 1, none⟩ = some (.int .i64 0) := (blk_cell BK268.out 1).trans rfl; have hcz19_2 : w17.cell? ⟨gb268, 2, none⟩ = some (.int .i64 0) := (blk_cell BK268.out 2).trans rfl; have hcz19_3 : w17.cell? ⟨gb268, 3, none⟩ = some (.int .i64 0) := (blk_cell BK268.out 3).trans rfl; have hcz19_4 : w17.cell? ⟨gb268, 4, none⟩ = some (.int .i64 0) := (blk_cell BK268.out 4).trans rfl; have hcz19_5 : w17.cell? ⟨gb268, 5, none⟩ = some (.int .i64 0) := (blk_cell BK268.out 5).trans rfl; have hfz19_0 := blk_frozen BK268.out 0; have hfz19_1 := blk_frozen BK268.out 1; have hfz19_2 := blk_frozen BK268.out 2; have hfz19_3 := blk_frozen BK268.out 3; have hfz19_4 := blk_frozen BK268.out 4; have hfz19_5 := blk_frozen BK268.out 5) | ((with_reducible refine gate_callee (f := 17) rfl ?_); refine goesL_ (some 31) rfl rfl Try.func17 (by kernel_rfl) rfl #[.agg #[.int .i64 t262, .int .i64 t263, .int .i64 t264, .int .i64 t265, .int .i64 t266, .int .i64 t267]] rfl (by (try simp only [List.map_toArray, List.map_cons, List.map_nil]); first | done | rfl | (simp only [List.length_drop, List.length_take]; rfl)) ?_; (with_reducible refine (strongboxlaw5_Head.calls t262 t263 t264 t265 t266 t267 t269 t270 t271 t272 t273 t274 _ A13.out).mono ?_); rintro e w20 ⟨rfl, hb⟩; refine ⟨_, rfl, ?_⟩; have n0_ := Aside0.mk (blk_below (g := gb260) (o := .cells #[.int .u32 a2_0, .int .u32 a2_1] 24 (0, 0)) (by (with_reducible repeat (first | refine blk_drewN ?_ _ | refine blk_drew ?_ | refine blk_alloc ?_ _)); refine blk_far ?_ NB260_268.out _; (with_reducible repeat (first | refine blk_drewN ?_ _ | refine blk_drew ?_ | refine blk_alloc ?_ _)); refine blk_far ?_ NB260_268.out _; (with_reducible repeat (first | refine blk_drewN ?_ _ | refine blk_drew ?_ | refine blk_alloc ?_ _)); refine blk_far ?_ NB260_268.out _; (with_reducible repeat (first | refine blk_drewN ?_ _ | refine blk_drew ?_ | refine blk_alloc ?_ _)); refine blk_far ?_ NB260_268.out _; (with_reducible repeat (first | refine blk_drewN ?_ _ | refine blk_drew ?_ | refine blk_alloc ?_ _)); refine blk_far ?_ NB260_268.out _; (with_reducible repeat (first | refine blk_drewN ?_ _ | refine blk_drew ?_ | refine blk_alloc ?_ _)); refine blk_far ?_ NB260_268.out _; (with_reducible repeat (first | refine blk_drewN ?_ _ | refine blk_drew ?_ | refine blk_alloc ?_ _)); exact BK260.out) hb); have n1_ := Aside0.mk (blk_below (g := gb268) (o := .cells #[.int .i64 t262, .int .i64 t263, .int .i64 t264, .int .i64 t265, .int .i64 t266, .int .i64 t267] 27 (0, 0)) (by (with_reducible repeat (first | refine blk_drewN ?_ _ | refine blk_drew ?_ | refine blk_alloc ?_ _)); refine blk_put (cs := #[.int .i64 t262, .int .i64 t263, .int .i64 t264, .int .i64 t265, .int .i64 t266, .int .i64 0]) ?_ 5 _ rfl; (with_reducible repeat (first | refine blk_drewN ?_ _ | refine blk_drew ?_ | refine blk_alloc ?_ _)); refine blk_put (cs := #[.int .i64 t262, .int .i64 t263, .int .i64 t264, .int .i64 t265, .int .i64 0, .int .i64 0]) ?_ 4 _ rfl; (with_reducible repeat (first | refine blk_drewN ?_ _ | refine blk_drew ?_ | refine blk_alloc ?_ _)); refine blk_put (cs := #[.int .i64 t262, .int .i64 t263, .int .i64 t264, .int .i64 0, .int .i64 0, .int .i64 0]) ?_ 3 _ rfl; (with_reducible repeat (first | refine blk_drewN ?_ _ | refine blk_drew ?_ | refine blk_alloc ?_ _)); refine blk_put (cs := #[.int .i64 t262, .int .i64 t263, .int .i64 0, .int .i64 0, .int .i64 0, .int .i64 0]) ?_ 2 _ rfl; (with_reducible repeat (first | refine blk_drewN ?_ _ | refine blk_drew ?_ | refine blk_alloc ?_ _)); refine blk_put (cs := #[.int .i64 t262, .int .i64 0, .int .i64 0, .int .i64 0, .int .i64 0, .int .i64 0]) ?_ 1 _ rfl; (with_reducible repeat (first | refine blk_drewN ?_ _ | refine blk_drew ?_ | refine blk_alloc ?_ _)); refine blk_put (cs := #[.int .i64 0, .int .i64 0, .int .i64 0, .int .i64 0, .int .i64 0, .int .i64 0]) ?_ 0 _ rfl; (with_reducible repeat (first | refine blk_drewN ?_ _ | refine blk_drew ?_ | refine blk_alloc ?_ _)); exact BK268.out) hb); have n2_ := Aside0.mk (below_step (by repeat (first | (with_reducible first | exact HB.out | apply below_alloc | apply pw_below_drewN | apply below_drew1 | refine below_set ?_ GE260.out | refine below_set ?_ GE268.out) | exact HB.out)) hb); clear BK260; clear BK268; clear HB; have BK260 := n0_; have BK268 := n1_; have HB := n2_; clear n0_ n1_ n2_; (try clear hb); (try clear hb2); (try clear hk); (try clear hi)) | ((with_reducible refine gate_callee (f := 16) rfl ?_); refine goesL_ (some 33) rfl rfl Try.func16 (by kernel_rfl) rfl #[.agg #[.int .i64 t269, .int .i64 t270, .int .i64 t271, .int .i64 t272, .int .i64 t273, .int .i64 t274], .slice A0 l0.length c0] rfl (by (try simp only [List.map_toArray, List.map_cons, List.map_nil]); first | done | rfl | (simp only [List.length_drop, List.length_take]; rfl)) ?_; (with_reducible refine (shard_Write.calls kj5 t269 t270 t271 t272 t273 t274 _ _ l0 t275 t278 _ ?side1 ?side2 A14.out).mono ?_); (case side1 => repeat (first | exact (Kd.C_below HR0.out HB.out) | (with_reducible refine Kd.C_alloc ?_ _) | (with_reducible refine Kd.C_drewN ?_ _) | (with_reducible refine Kd.C_drew ?_))); (case side2 => exact HC0.out); rintro e w21 ⟨v276, rfl, ho0, hb⟩; refine ⟨_, rfl, ?_⟩; have n0_ := Aside0.mk (Kd.R_lower ho0 (below_size (by repeat (first | (with_reducible first | exact HB.out | apply below_alloc | apply pw_below_drewN | apply below_drew1 | refine below_set ?_ GE260.out | refine below_set ?_ GE268.out) | exact HB.out)))); have n1_ := Aside0.mk (blk_below (g := gb260) (o := .cells #[.int .u32 a2_0, .int .u32 a2_1] 24 (0, 0)) (by (with_reducible repeat (first | refine blk_drewN ?_ _ | refine blk_drew ?_ | refine blk_alloc ?_ _)); exact BK260.out) hb); have n2_ := Aside0.mk (blk_below (g := gb268) (o := .cells #[.int .i64 t262, .int .i64 t263, .int .i64 t264, .int .i64 t265, .int .i64 t266, .int .i64 t267] 27 (0, 0)) (by (with_reducible repeat (first | refine blk_drewN ?_ _ | refine blk_drew ?_ | refine blk_alloc ?_ _)); exact BK268.out) hb); have n3_ := Aside0.mk (below_step (by repeat (first | (with_reducible first | exact HB.out | apply below_alloc | apply pw_below_drewN | apply below_drew1 | refine below_set ?_ GE260.out | refine below_set ?_ GE268.out) | exact HB.out)) hb); clear BK260; clear BK268; clear HB; have HO277 := n0_; have BK260 := n1_; have BK268 := n2_; have HB := n3_; clear n0_ n1_ n2_ n3_; (try clear hb); (try clear hb2); (try clear hk); (try clear hi); (try clear ho0)))
          (try simp only [Act.put, List.setIfInBounds_toArray, List.set_cons_zero, List.set_cons_succ])
          go_cut [42] (fun v42 wc => ∃ (kq : Nat) (x42_14 : Bool), v42 = .bool x42_14 ∧ Aside0 (strongboxlaw5_ShardBursts.j1 kq t275 x42_14 a2_0 a2_1 = some r) ∧ Aside0 (kq ≤ kj5) ∧ Aside0 (Kd.R (Kd.int .u8) 5 wc w.heap.size (fun _ => True) v276 t275) ∧ Aside0 (wc.heap[gb260]? = some (.cells #[.int .u32 a2_0, .int .u32 a2_1] 24 (0, 0))) ∧ Aside0 (wc.heap[gb268]? = some (.cells #[.int .i64 t262, .int .i64 t263, .int .i64 t264, .int .i64 t265, .int .i64 t266, .int .i64 t267] 27 (0, 0))) ∧ Aside0 (Below w.heap.size w wc))
          case first =>
            have H := HC15.out
            clear HC15
            by_cases c22 : t278 = 0
            · rw [if_pos c22] at H
              have c22b0 : (t278 == 0) = true := beq_iff_eq.mpr c22
              have c22b1 : (t278 != 0) = false := bne_eq_false_iff_eq.mpr c22
              clear c22
              (first | rw [c22b0] | (simp only [i64_w, i32_w]; rw [c22b0]) | skip)
              have H' := Aside0.mk H
              clear H
              obtain ⟨Ao23, co23, eo23⟩ := Kd.R_slice HO277.out
              subst eo23
              go_wp2
              go_meet
              case rel => exact ⟨_, (decide ((t275.length : Int) < 24)), (by first | rfl | (simp; done) | (simp [*]; done)), H', ⟨by have := HJ5.out; first | omega | exact Nat.le_refl _⟩, ⟨by (with_reducible repeat (first | apply Kd.R_alloc | apply Kd.R_drewN | apply Kd.R_drew)); exact HO277.out⟩, ⟨by (with_reducible repeat (first | refine blk_drewN ?_ _ | refine blk_drew ?_ | refine blk_alloc ?_ _)); exact BK260.out⟩, ⟨by (with_reducible repeat (first | refine blk_drewN ?_ _ | refine blk_drew ?_ | refine blk_alloc ?_ _)); exact BK268.out⟩, ⟨by repeat (first | (with_reducible first | exact HB.out | apply below_alloc | apply pw_below_drewN | apply below_drew1 | refine below_set ?_ GE260.out | refine below_set ?_ GE268.out) | exact HB.out)⟩⟩
            · rw [if_neg c22] at H
              have c22b0 : (t278 == 0) = false := beq_eq_false_iff_ne.mpr c22
              have c22b1 : (t278 != 0) = true := bne_iff_ne.mpr c22
              (first | rw [c22b0] | (simp only [i64_w, i32_w]; rw [c22b0]) | skip)
              have H' := Aside0.mk H
              clear H
              go_wp2
              go_meet
              case rel => exact ⟨_, (true), (by first | rfl | (simp; done) | (simp [*]; done)), H', ⟨by have := HJ5.out; first | omega | exact Nat.le_refl _⟩, ⟨by (with_reducible repeat (first | apply Kd.R_alloc | apply Kd.R_drewN | apply Kd.R_drew)); exact HO277.out⟩, ⟨by (with_reducible repeat (first | refine blk_drewN ?_ _ | refine blk_drew ?_ | refine blk_alloc ?_ _)); exact BK260.out⟩, ⟨by (with_reducible repeat (first | refine blk_drewN ?_ _ | refine blk_drew ?_ | refine blk_alloc ?_ _)); exact BK268.out⟩, ⟨by repeat (first | (with_reducible first | exact HB.out | apply below_alloc | apply pw_below_drewN | apply below_drew1 | refine below_set ?_ GE260.out | refine below_set ?_ GE268.out) | exact HB.out)⟩⟩
          case rest =>
            clear HC15
            try clear c1
            try clear c2
            try clear p2
            try clear c3
            try clear c5
            try clear c9
            try clear c9b0
            try clear c9b1
            try clear c11
            try clear c14
            try clear c15
            try clear c16
            try clear c17
            try clear c18
            try clear c22
            try clear c22b0
            try clear c22b1
            try clear hcz10_0
            try clear hcz10_1
            try clear hcz19_0
            try clear hcz19_1
            try clear hcz19_2
            try clear hcz19_3
            try clear hcz19_4
            try clear hcz19_5
            try clear hfz10_0
            try clear hfz10_1
            try clear hfz19_0
            try clear hfz19_1
            try clear hfz19_2
            try clear hfz19_3
            try clear hfz19_4
            try clear hfz19_5
            try clear p2
            obtain ⟨kq, x42_14, rfl, HA, HJ14, HO_8, BK260, BK268, HB⟩ := hcut
            cases kq with
            | zero => exact absurd HA.out (by simp [strongboxlaw5_ShardBursts.j1])
            | succ kj14 =>
              have H := HA.out
              clear HA
              simp only [strongboxlaw5_ShardBursts.j1] at H
              by_cases c24 : x42_14 = true
              · subst c24
                have H1 : (some false) = some r := by rw [if_pos rfl] at H; exact H
                clear H
                have H := H1
                clear H1
                obtain rfl := Option.some.inj H
                go_wp2
                go_ret
                exact ⟨by first | rfl | (simp [errW_none, errW_some] <;> rfl) | (simp [*, errW_none, errW_some] <;> rfl), by repeat (first | (with_reducible first | exact HB.out | apply below_alloc | apply pw_below_drewN | apply below_drew1 | refine below_set ?_ GE260.out | refine below_set ?_ GE268.out) | exact HB.out)⟩
              · replace c24 := Bool.eq_false_iff.mpr c24
                subst c24
                have H1 : (if (wrap64 ((wrap64 (8 * (t275.length : Int))) - 31)) = 0 then (none) else (strongboxlaw5_ShardBursts.l0 kj14 t275 (Int.tmod (wrap64 (a2_0)) (wrap64 ((wrap64 (8 * (t275.length : Int))) - 31))) 0 a2_0 a2_1)) = some r := by rw [if_neg (show ¬ (false = true) by decide)] at H; exact H
                clear H
                have H := H1
                clear H1
                by_cases c25 : (wrap64 ((wrap64 (8 * (t275.length : Int))) - 31)) = 0
                · rw [if_pos c25] at H
                  exact absurd H (by simp)
                · rw [if_neg c25] at H
                  have c25b0 : ((wrap64 ((wrap64 (8 * (t275.length : Int))) - 31)) == 0) = false := beq_eq_false_iff_ne.mpr c25
                  have c25b1 : ((wrap64 ((wrap64 (8 * (t275.length : Int))) - 31)) != 0) = true := bne_iff_ne.mpr c25
                  have H' := Aside0.mk H
                  clear H
                  have hnb26 := NB260_268.out
                  have hnc26 := NB268_260.out
                  have hcz27_0 : wc.cell? ⟨gb260, 0, none⟩ = some (.int .u32 a2_0) := (blk_cell BK260.out 0).trans rfl
                  have hcz27_1 : wc.cell? ⟨gb260, 1, none⟩ = some (.int .u32 a2_1) := (blk_cell BK260.out 1).trans rfl
                  have hfz27_0 := blk_frozen BK260.out 0
                  have hfz27_1 := blk_frozen BK260.out 1
                  obtain ⟨Ao28, co28, eo28⟩ := Kd.R_slice HO_8.out
                  subst eo28
                  go_wp2
                  go_loopg [11] kj14 (fun kq v11 w' => ∃ (x8_3 : List Int) (x11_3 : Int), v11 = .int .i64 x11_3 ∧ Aside0 (strongboxlaw5_ShardBursts.l0 kq x8_3 (Int.tmod (wrap64 (a2_0)) (wrap64 ((wrap64 (8 * (t275.length : Int))) - 31))) x11_3 a2_0 a2_1 = some r) ∧ Aside0 (kq ≤ kj14) ∧ Aside0 (Kd.R (Kd.int .u8) 5 w' w.heap.size (fun _ => True) (.slice Ao28 t275.length co28) x8_3) ∧ Aside0 (w'.heap[gb260]? = some (.cells #[.int .u32 a2_0, .int .u32 a2_1] 24 (0, 0))) ∧ Aside0 (w'.heap[gb268]? = some (.cells #[.int .i64 t262, .int .i64 t263, .int .i64 t264, .int .i64 t265, .int .i64 t266, .int .i64 t267] 27 (0, 0))) ∧ Aside0 (Below w.heap.size w w'))
                  case atStart => exact ⟨(t275), (0), (by first | rfl | (simp; done) | (simp [*]; done)), H', ⟨Nat.le_refl _⟩, ⟨by (with_reducible repeat (first | apply Kd.R_alloc | apply Kd.R_drewN | apply Kd.R_drew)); exact HO_8.out⟩, ⟨by (with_reducible repeat (first | refine blk_drewN ?_ _ | refine blk_drew ?_ | refine blk_alloc ?_ _)); exact BK260.out⟩, ⟨by (with_reducible repeat (first | refine blk_drewN ?_ _ | refine blk_drew ?_ | refine blk_alloc ?_ _)); exact BK268.out⟩, ⟨by repeat (first | (with_reducible first | exact HB.out | apply below_alloc | apply pw_below_drewN | apply below_drew1 | refine below_set ?_ GE260.out | refine below_set ?_ GE268.out) | exact HB.out)⟩⟩
                  case round =>
                    clear H'
                    try clear c1
                    try clear c2
                    try clear p2
                    try clear c3
                    try clear c5
                    try clear p6
                    try clear c9
                    try clear c9b0
                    try clear c9b1
                    try clear c11
                    try clear c14
                    try clear c15
                    try clear c16
                    try clear c17
                    try clear c18
                    try clear c22
                    try clear c22b0
                    try clear c22b1
                    try clear c24
                    try clear c25
                    try clear c25b0
                    try clear c25b1
                    try clear c26
                    try clear hcz10_0
                    try clear hcz10_1
                    try clear hcz19_0
                    try clear hcz19_1
                    try clear hcz19_2
                    try clear hcz19_3
                    try clear hcz19_4
                    try clear hcz19_5
                    try clear hcz27_0
                    try clear hcz27_1
                    try clear hfz10_0
                    try clear hfz10_1
                    try clear hfz19_0
                    try clear hfz19_1
                    try clear hfz19_2
                    try clear hfz19_3
                    try clear hfz19_4
                    try clear hfz19_5
                    try clear hfz27_0
                    try clear hfz27_1
                    try clear p2
                    obtain ⟨x8_3, x11_3, rfl, HA, HK3, HO_8, BK260, BK268, HB⟩ := hrel
                    have hl8_3 := (Kd.R_reads' HO_8.out).1
                    rw [hl8_3] at HO_8
                    (try simp only [hl8_3])
                    (try simp only [hl8_3] at BK260)
                    (try simp only [hl8_3] at BK268)
                    cases gk with
                    | zero => exact absurd HA.out (by simp [strongboxlaw5_ShardBursts.l0])
                    | succ k3 =>
                      have H := HA.out
                      clear HA
                      simp only [strongboxlaw5_ShardBursts.l0] at H
                      by_cases c29 : x11_3 < 32
                      · rw [if_pos c29] at H
                        have c29b0 : decide (x11_3 < 32) = true := decide_eq_true c29
                        clear c29
                        obtain ⟨ji30, hji30⟩ : ∃ j_ : Int, (IntKind.u64.wrap (x11_3)) = j_ := ⟨_, rfl⟩
                        replace H : (if 0 ≤ (ji30) then (if (Go.bits .and .u32 (shr .u32 a2_1 (ji30)) 1) = 1 then (if 0 ≤ (wrap64 (Int.tdiv (wrap64 ((Int.tmod (wrap64 (a2_0)) (wrap64 ((wrap64 (8 * (t275.length : Int))) - 31))) + x11_3)) 8)) then (if (wrap64 (Int.tdiv (wrap64 ((Int.tmod (wrap64 (a2_0)) (wrap64 ((wrap64 (8 * (t275.length : Int))) - 31))) + x11_3)) 8)) < (x8_3.length : Int) then (if 0 ≤ (IntKind.u64.wrap (Int.tmod (wrap64 ((Int.tmod (wrap64 (a2_0)) (wrap64 ((wrap64 (8 * (t275.length : Int))) - 31))) + x11_3)) 8)) then (strongboxlaw5_ShardBursts.l0 k3 (x8_3.set ((wrap64 (Int.tdiv (wrap64 ((Int.tmod (wrap64 (a2_0)) (wrap64 ((wrap64 (8 * (t275.length : Int))) - 31))) + x11_3)) 8)) : Int).toNat (Go.bits .xor .u8 (rd x8_3 (wrap64 (Int.tdiv (wrap64 ((Int.tmod (wrap64 (a2_0)) (wrap64 ((wrap64 (8 * (t275.length : Int))) - 31))) + x11_3)) 8))) (shl .u8 1 (IntKind.u64.wrap (Int.tmod (wrap64 ((Int.tmod (wrap64 (a2_0)) (wrap64 ((wrap64 (8 * (t275.length : Int))) - 31))) + x11_3)) 8))))) (Int.tmod (wrap64 (a2_0)) (wrap64 ((wrap64 (8 * (t275.length : Int))) - 31))) (wrap64 (x11_3 + 1)) a2_0 a2_1) else (none)) else (none)) else (none)) else (strongboxlaw5_ShardBursts.l0 k3 x8_3 (Int.tmod (wrap64 (a2_0)) (wrap64 ((wrap64 (8 * (t275.length : Int))) - 31))) (wrap64 (x11_3 + 1)) a2_0 a2_1)) else (none)) = some r := by first | (rw [hji30] at H; exact H) | (simp only [hji30] at H ⊢; exact H)
                        (try (have hji30K := hji30; simp only [hl8_3] at hji30K))
                        (try (have hji30wK := hji30w; simp only [hl8_3] at hji30wK))
                        (try (have hji30_K := hji30_; simp only [hl8_3] at hji30_K))
                        (try (have hji30zK := hji30z; simp only [hl8_3] at hji30zK))
                        (try (have hji30uK := hji30u; simp only [hl8_3] at hji30uK))
                        (try (have hji30vK := hji30v; simp only [hl8_3] at hji30vK))
                        (try (have hji30yK := hji30y; simp only [hl8_3] at hji30yK))
                        (try (have hji30xK := hji30x; simp only [hl8_3] at hji30xK))
                        by_cases c31 : 0 ≤ (ji30)
                        · rw [if_pos c31] at H
                          have c31b0 := eq_true c31
                          have c31b1 : decide (0 ≤ (ji30)) = true := decide_eq_true c31
                          clear c31
                          obtain ⟨ji32, hji32⟩ : ∃ j_ : Int, (shr .u32 a2_1 (ji30)) = j_ := ⟨_, rfl⟩
                          replace H : (if (Go.bits .and .u32 (ji32) 1) = 1 then (if 0 ≤ (wrap64 (Int.tdiv (wrap64 ((Int.tmod (wrap64 (a2_0)) (wrap64 ((wrap64 (8 * (t275.length : Int))) - 31))) + x11_3)) 8)) then (if (wrap64 (Int.tdiv (wrap64 ((Int.tmod (wrap64 (a2_0)) (wrap64 ((wrap64 (8 * (t275.length : Int))) - 31))) + x11_3)) 8)) < (x8_3.length : Int) then (if 0 ≤ (IntKind.u64.wrap (Int.tmod (wrap64 ((Int.tmod (wrap64 (a2_0)) (wrap64 ((wrap64 (8 * (t275.length : Int))) - 31))) + x11_3)) 8)) then (strongboxlaw5_ShardBursts.l0 k3 (x8_3.set ((wrap64 (Int.tdiv (wrap64 ((Int.tmod (wrap64 (a2_0)) (wrap64 ((wrap64 (8 * (t275.length : Int))) - 31))) + x11_3)) 8)) : Int).toNat (Go.bits .xor .u8 (rd x8_3 (wrap64 (Int.tdiv (wrap64 ((Int.tmod (wrap64 (a2_0)) (wrap64 ((wrap64 (8 * (t275.length : Int))) - 31))) + x11_3)) 8))) (shl .u8 1 (IntKind.u64.wrap (Int.tmod (wrap64 ((Int.tmod (wrap64 (a2_0)) (wrap64 ((wrap64 (8 * (t275.length : Int))) - 31))) + x11_3)) 8))))) (Int.tmod (wrap64 (a2_0)) (wrap64 ((wrap64 (8 * (t275.length : Int))) - 31))) (wrap64 (x11_3 + 1)) a2_0 a2_1) else (none)) else (none)) else (none)) else (strongboxlaw5_ShardBursts.l0 k3 x8_3 (Int.tmod (wrap64 (a2_0)) (wrap64 ((wrap64 (8 * (t275.length : Int))) - 31))) (wrap64 (x11_3 + 1)) a2_0 a2_1)) = some r := by first | (rw [hji32] at H; exact H) | (simp only [hji32] at H ⊢; exact H)
                          have hji32_ : (a2_1 / 2 ^ min (ji30).toNat 32) = ji32 := hji32
                          have hji32z : (ji30) ≤ 32 → (a2_1 / 2 ^ (ji30).toNat) = ji32 := shr_small hji32
                          (try (have hji32K := hji32; simp only [hl8_3] at hji32K))
                          (try (have hji32wK := hji32w; simp only [hl8_3] at hji32wK))
                          (try (have hji32_K := hji32_; simp only [hl8_3] at hji32_K))
                          (try (have hji32zK := hji32z; simp only [hl8_3] at hji32zK))
                          (try (have hji32uK := hji32u; simp only [hl8_3] at hji32uK))
                          (try (have hji32vK := hji32v; simp only [hl8_3] at hji32vK))
                          (try (have hji32yK := hji32y; simp only [hl8_3] at hji32yK))
                          (try (have hji32xK := hji32x; simp only [hl8_3] at hji32xK))
                          by_cases c33 : (Go.bits .and .u32 (ji32) 1) = 1
                          · rw [if_pos c33] at H
                            have c33b0 : ((Go.bits .and .u32 (ji32) 1) == 1) = true := beq_iff_eq.mpr c33
                            have c33b1 : ((Go.bits .and .u32 (ji32) 1) != 1) = false := bne_eq_false_iff_eq.mpr c33
                            clear c33
                            obtain ⟨ji34, hji34⟩ : ∃ j_ : Int, (wrap64 (Int.tdiv (wrap64 ((Int.tmod (wrap64 (a2_0)) (wrap64 ((wrap64 (8 * (t275.length : Int))) - 31))) + x11_3)) 8)) = j_ := ⟨_, rfl⟩
                            replace H : (if 0 ≤ (ji34) then (if (ji34) < (x8_3.length : Int) then (if 0 ≤ (IntKind.u64.wrap (Int.tmod (wrap64 ((Int.tmod (wrap64 (a2_0)) (wrap64 ((wrap64 (8 * (t275.length : Int))) - 31))) + x11_3)) 8)) then (strongboxlaw5_ShardBursts.l0 k3 (x8_3.set ((ji34) : Int).toNat (Go.bits .xor .u8 (rd x8_3 (ji34)) (shl .u8 1 (IntKind.u64.wrap (Int.tmod (wrap64 ((Int.tmod (wrap64 (a2_0)) (wrap64 ((wrap64 (8 * (t275.length : Int))) - 31))) + x11_3)) 8))))) (Int.tmod (wrap64 (a2_0)) (wrap64 ((wrap64 (8 * (t275.length : Int))) - 31))) (wrap64 (x11_3 + 1)) a2_0 a2_1) else (none)) else (none)) else (none)) = some r := by first | (rw [hji34] at H; exact H) | (simp only [hji34] at H ⊢; exact H)
                            have hji34w : (IntKind.i64.wrap (Int.tdiv (wrap64 ((Int.tmod (wrap64 (a2_0)) (wrap64 ((wrap64 (8 * (t275.length : Int))) - 31))) + x11_3)) 8)) = ji34 := (i64_w _).trans hji34
                            (try (have hji34K := hji34; simp only [hl8_3] at hji34K))
                            (try (have hji34wK := hji34w; simp only [hl8_3] at hji34wK))
                            (try (have hji34_K := hji34_; simp only [hl8_3] at hji34_K))
                            (try (have hji34zK := hji34z; simp only [hl8_3] at hji34zK))
                            (try (have hji34uK := hji34u; simp only [hl8_3] at hji34uK))
                            (try (have hji34vK := hji34v; simp only [hl8_3] at hji34vK))
                            (try (have hji34yK := hji34y; simp only [hl8_3] at hji34yK))
                            (try (have hji34xK := hji34x; simp only [hl8_3] at hji34xK))
                            by_cases c35 : 0 ≤ (ji34)
                            · rw [if_pos c35] at H
                              have c35b0 : decide (0 ≤ (ji34)) = true := decide_eq_true c35
                              clear c35
                              by_cases c36 : (ji34) < (x8_3.length : Int)
                              · rw [if_pos c36] at H
                                have c36b0 : decide ((ji34) < (x8_3.length : Int)) = true := decide_eq_true c36
                                clear c36
                                obtain ⟨ji37, hji37⟩ : ∃ j_ : Int, (IntKind.u64.wrap (Int.tmod (wrap64 ((Int.tmod (wrap64 (a2_0)) (wrap64 ((wrap64 (8 * (t275.length : Int))) - 31))) + x11_3)) 8)) = j_ := ⟨_, rfl⟩
                                replace H : (if 0 ≤ (ji37) then (strongboxlaw5_ShardBursts.l0 k3 (x8_3.set ((ji34) : Int).toNat (Go.bits .xor .u8 (rd x8_3 (ji34)) (shl .u8 1 (ji37)))) (Int.tmod (wrap64 (a2_0)) (wrap64 ((wrap64 (8 * (t275.length : Int))) - 31))) (wrap64 (x11_3 + 1)) a2_0 a2_1) else (none)) = some r := by first | (rw [hji37] at H; exact H) | (simp only [hji37] at H ⊢; exact H)
                                (try (have hji37K := hji37; simp only [hl8_3] at hji37K))
                                (try (have hji37wK := hji37w; simp only [hl8_3] at hji37wK))
                                (try (have hji37_K := hji37_; simp only [hl8_3] at hji37_K))
                                (try (have hji37zK := hji37z; simp only [hl8_3] at hji37zK))
                                (try (have hji37uK := hji37u; simp only [hl8_3] at hji37uK))
                                (try (have hji37vK := hji37v; simp only [hl8_3] at hji37vK))
                                (try (have hji37yK := hji37y; simp only [hl8_3] at hji37yK))
                                (try (have hji37xK := hji37x; simp only [hl8_3] at hji37xK))
                                by_cases c38 : 0 ≤ (ji37)
                                · rw [if_pos c38] at H
                                  have c38b0 := eq_true c38
                                  have c38b1 : decide (0 ≤ (ji37)) = true := decide_eq_true c38
                                  clear c38
                                  obtain ⟨ji39, hji39⟩ : ∃ j_ : Int, (shl .u8 1 (ji37)) = j_ := ⟨_, rfl⟩
                                  replace H : (strongboxlaw5_ShardBursts.l0 k3 (x8_3.set ((ji34) : Int).toNat (Go.bits .xor .u8 (rd x8_3 (ji34)) (ji39))) (Int.tmod (wrap64 (a2_0)) (wrap64 ((wrap64 (8 * (t275.length : Int))) - 31))) (wrap64 (x11_3 + 1)) a2_0 a2_1) = some r := by first | (rw [hji39] at H; exact H) | (simp only [hji39] at H ⊢; exact H)
                                  have hji39_ : (IntKind.u8.wrap (1 * 2 ^ min (ji37).toNat 8)) = ji39 := hji39
                                  have hji39z : (ji37) ≤ 8 → (IntKind.u8.wrap (1 * 2 ^ (ji37).toNat)) = ji39 := shl_small hji39
                                  have hji39u : (IntKind.u8.wrap (2 ^ min (ji37).toNat 8)) = ji39 := by have h_ := hji39_; rw [Int.one_mul] at h_; exact h_
                                  have hji39v : (ji37) ≤ 8 → (IntKind.u8.wrap (2 ^ (ji37).toNat)) = ji39 := fun hle_ => by have h_ := hji39z hle_; rw [Int.one_mul] at h_; exact h_
                                  (try (have hji39K := hji39; simp only [hl8_3] at hji39K))
                                  (try (have hji39wK := hji39w; simp only [hl8_3] at hji39wK))
                                  (try (have hji39_K := hji39_; simp only [hl8_3] at hji39_K))
                                  (try (have hji39zK := hji39z; simp only [hl8_3] at hji39zK))
                                  (try (have hji39uK := hji39u; simp only [hl8_3] at hji39uK))
                                  (try (have hji39vK := hji39v; simp only [hl8_3] at hji39vK))
                                  (try (have hji39yK := hji39y; simp only [hl8_3] at hji39yK))
                                  (try (have hji39xK := hji39x; simp only [hl8_3] at hji39xK))
                                  obtain ⟨y280, hy280⟩ : ∃ y_ : List Int, y_ = (x8_3.set ((ji34) : Int).toNat (Go.bits .xor .u8 (rd x8_3 (ji34)) (ji39))) := ⟨_, rfl⟩
                                  replace H : (strongboxlaw5_ShardBursts.l0 k3 y280 (Int.tmod (wrap64 (a2_0)) (wrap64 ((wrap64 (8 * (t275.length : Int))) - 31))) (wrap64 (x11_3 + 1)) a2_0 a2_1) = some r := by first | (rw [hy280]; with_reducible exact H) | (have H2_ := (Option.bind_some _ _).symm.trans H; rw [hy280]; with_reducible exact H2_) | (have H2_ := (Option.bind_some _ _).symm.trans H; with_reducible exact H2_) | with_reducible exact H | (rw [hy280]; exact H) | exact H
                                  have Ny280 := Aside0.mk hy280
                                  clear hy280
                                  have H' := Aside0.mk H
                                  clear H
                                  have hnb41 := NB260_268.out
                                  have hnc41 := NB268_260.out
                                  have hcz42_0 : wr.cell? ⟨gb260, 0, none⟩ = some (.int .u32 a2_0) := (blk_cell BK260.out 0).trans rfl
                                  have hcz42_1 : wr.cell? ⟨gb260, 1, none⟩ = some (.int .u32 a2_1) := (blk_cell BK260.out 1).trans rfl
                                  have hfz42_0 := blk_frozen BK260.out 0
                                  have hfz42_1 := blk_frozen BK260.out 1
                                  have p279 : 0 ≤ ((ji34) : Int) := of_decide_eq_true (by first | (with_reducible assumption) | assumption)
                                  have q279 : (ji34) < (x8_3.length : Int) := of_decide_eq_true (by first | (with_reducible assumption) | assumption)
                                  obtain ⟨ad279, e279, hx279_0⟩ := Kd.at_int (Kd.R_reads' HO_8.out).2.2 (ji34) p279 q279
                                  cases e279
                                  replace p279 := eq_true p279
                                  replace q279 := eq_true q279
                                  have p40 : 0 ≤ ((ji34) : Int) := of_decide_eq_true (by first | (with_reducible assumption) | assumption)
                                  have q40 : ((ji34) : Int) < ((x8_3.length : Int) : Int) := of_decide_eq_true (by first | (with_reducible assumption) | assumption)
                                  obtain ⟨go40, co40, eo40, gb40, gl40, cl40, HG40⟩ := Kd.R_form HO_8.out (by omega)
                                  (first | cases eo40 | (injection eo40 with ea_ en_ ec_; (first | subst ea_ | (injection ea_ with ea_; subst ea_)); subst ec_; clear en_))
                                  have GB40 := Aside0.mk gb40
                                  have GG40 := Aside0.mk HG40
                                  clear gb40 gl40 HG40
                                  (first | simp only [add_plain] at hx279_0 | skip)
                                  obtain ⟨hx40_0, hf40_0⟩ := Kd.R_celln 0 HO_8.out ((ji34) : Int) p40 q40
                                  replace p40 := eq_true p40
                                  replace q40 := eq_true q40
                                  have HP43 := Kd.R_putg HO_8.out ((ji34) : Int) (Go.bits .xor .u8 (rd x8_3 (ji34)) (ji39))
                                  go_wp2_with (first | ((with_reducible refine gate_store (t := 5) (p := 76) rfl ?_); refine store_event (t := 5) (p := 76) (v := ?vo_w44) (w1 := (wr.setCell ⟨go40, ((ji34) : Int).toNat, none⟩ (.int .u8 (Go.bits .xor .u8 (rd x8_3 (ji34)) (ji39))))) ?hg ?ho ?hn ?hr ?_; (case ho => rfl); (case hg => rfl); (case hn => rfl); (case hr => first | (go_simp; done) | (go_simp; rfl)); intro w44 hw; have hg : wr.grownBy w44 (some go40) := (by rw [hw]; exact HP43.2); have hp_ : Kd.R (Kd.int .u8) 5 w44 w.heap.size (fun _ => True) (.slice (some ⟨go40, 0, none⟩) x8_3.length co28) y280 := (by rw [hw, Ny280.out]; exact HP43.1); clear HP43; have n0_ := Aside0.mk (hp_); have n1_ := Aside0.mk (blk_grown (g := gb260) (o := .cells #[.int .u32 a2_0, .int .u32 a2_1] 24 (0, 0)) (by (with_reducible repeat (first | refine blk_drewN ?_ _ | refine blk_drew ?_ | refine blk_alloc ?_ _)); exact BK260.out) hg (Kd.R_ne HO_8.out BK260.out (by decide))); have n2_ := Aside0.mk (blk_grown (g := gb268) (o := .cells #[.int .i64 t262, .int .i64 t263, .int .i64 t264, .int .i64 t265, .int .i64 t266, .int .i64 t267] 27 (0, 0)) (by (with_reducible repeat (first | refine blk_drewN ?_ _ | refine blk_drew ?_ | refine blk_alloc ?_ _)); exact BK268.out) hg (Kd.R_ne HO_8.out BK268.out (by decide))); have n3_ := Aside0.mk ((by rw [hw]; exact below_set (HB.out) GB40.out : Below w.heap.size w w44)); clear HO_8; clear BK260; clear BK268; clear HB; have HO_8 := n0_; have BK260 := n1_; have BK268 := n2_; have HB := n3_; clear n0_ n1_ n2_ n3_; clear hg hw hp_))
                                  (try simp only [← hl8_3])
                                  go_roundg k3
                                  case measure => have := HJ5.out; have := HJ14.out; have := HK3.out; omega
                                  case rel => exact ⟨(y280), (wrap64 (x11_3 + 1)), (by first | rfl | (simp; done) | (simp [*]; done)), H', ⟨by have := HJ5.out; have := HJ14.out; have := HK3.out; omega⟩, ⟨by (try simp only [hl8_3]); (with_reducible repeat (first | apply Kd.R_alloc | apply Kd.R_drewN | apply Kd.R_drew)); exact HO_8.out⟩, ⟨by (try simp only [hl8_3]); (with_reducible repeat (first | refine blk_drewN ?_ _ | refine blk_drew ?_ | refine blk_alloc ?_ _)); exact BK260.out⟩, ⟨by (try simp only [hl8_3]); (with_reducible repeat (first | refine blk_drewN ?_ _ | refine blk_drew ?_ | refine blk_alloc ?_ _)); exact BK268.out⟩, ⟨by repeat (first | (with_reducible first | exact HB.out | apply below_alloc | apply pw_below_drewN | apply below_drew1 | refine below_set ?_ GE260.out | refine below_set ?_ GE268.out) | exact HB.out)⟩⟩
                                · rw [if_neg c38] at H
                                  exact absurd H (by simp)
                              · rw [if_neg c36] at H
                                exact absurd H (by simp)
                            · rw [if_neg c35] at H
                              exact absurd H (by simp)
                          · rw [if_neg c33] at H
                            have c33b0 : ((Go.bits .and .u32 (ji32) 1) == 1) = false := beq_eq_false_iff_ne.mpr c33
                            have c33b1 : ((Go.bits .and .u32 (ji32) 1) != 1) = true := bne_iff_ne.mpr c33
                            have H' := Aside0.mk H
                            clear H
                            have hnb45 := NB260_268.out
                            have hnc45 := NB268_260.out
                            have hcz46_0 : wr.cell? ⟨gb260, 0, none⟩ = some (.int .u32 a2_0) := (blk_cell BK260.out 0).trans rfl
                            have hcz46_1 : wr.cell? ⟨gb260, 1, none⟩ = some (.int .u32 a2_1) := (blk_cell BK260.out 1).trans rfl
                            have hfz46_0 := blk_frozen BK260.out 0
                            have hfz46_1 := blk_frozen BK260.out 1
                            go_wp2
                            (try simp only [← hl8_3])
                            go_roundg k3
                            case measure => have := HJ5.out; have := HJ14.out; have := HK3.out; omega
                            case rel => exact ⟨(x8_3), (wrap64 (x11_3 + 1)), (by first | rfl | (simp; done) | (simp [*]; done)), H', ⟨by have := HJ5.out; have := HJ14.out; have := HK3.out; omega⟩, ⟨by (try simp only [hl8_3]); (with_reducible repeat (first | apply Kd.R_alloc | apply Kd.R_drewN | apply Kd.R_drew)); exact HO_8.out⟩, ⟨by (try simp only [hl8_3]); (with_reducible repeat (first | refine blk_drewN ?_ _ | refine blk_drew ?_ | refine blk_alloc ?_ _)); exact BK260.out⟩, ⟨by (try simp only [hl8_3]); (with_reducible repeat (first | refine blk_drewN ?_ _ | refine blk_drew ?_ | refine blk_alloc ?_ _)); exact BK268.out⟩, ⟨by repeat (first | (with_reducible first | exact HB.out | apply below_alloc | apply pw_below_drewN | apply below_drew1 | refine below_set ?_ GE260.out | refine below_set ?_ GE268.out) | exact HB.out)⟩⟩
                        · rw [if_neg c31] at H
                          exact absurd H (by simp)
                      · rw [if_neg c29] at H
                        have c29b0 : decide (x11_3 < 32) = false := decide_eq_false c29
                        clear c29
                        replace H := Option.bind_eq_some_iff.mp H
                        obtain ⟨⟨t281, t282, t283, t284, t285, t286, t287, t290⟩, A470, H⟩ := H
                        replace H : (if t290 = 0 then (some false) else (some ((t287.length : Int) == 0))) = some r := H
                        have A47 := Aside0.mk A470
                        clear A470
                        by_cases c48 : t290 = 0
                        · rw [if_pos c48] at H
                          have c48b0 : (t290 == 0) = true := beq_iff_eq.mpr c48
                          have c48b1 : (t290 != 0) = false := bne_eq_false_iff_eq.mpr c48
                          clear c48
                          obtain rfl := Option.some.inj H
                          go_wp2_with (first | ((with_reducible refine gate_callee (f := 18) rfl ?_); refine goesL_ (some 79) rfl rfl Try.func18 (by kernel_rfl) rfl #[.slice Ao28 x8_3.length co28] rfl (by (try simp only [List.map_toArray, List.map_cons, List.map_nil]); first | done | rfl | (simp only [List.length_drop, List.length_take]; rfl)) ?_; (with_reducible refine (shard_Read.calls k3 _ _ x8_3 t281 t282 t283 t284 t285 t286 t287 t290 _ ?side1 ?side2 A47.out).mono ?_); (case side1 => repeat (first | exact (Kd.R_reads' HO_8.out).2.2 | (with_reducible refine Kd.C_alloc ?_ _) | (with_reducible refine Kd.C_drewN ?_ _) | (with_reducible refine Kd.C_drew ?_))); (case side2 => exact (Kd.R_reads' HO_8.out).2.1); rintro e w49 ⟨v288, rfl, ho0, hb⟩; refine ⟨_, rfl, ?_⟩; have n0_ := Aside0.mk (Kd.R_elder' (by (with_reducible repeat (first | apply Kd.R_alloc | apply Kd.R_drewN | apply Kd.R_drew)); exact HO_8.out) (Kd.R_base ho0) hb); have n1_ := Aside0.mk (Kd.R_lower (Kd.R_new' ho0 (Kd.R_lt (by (with_reducible repeat (first | apply Kd.R_alloc | apply Kd.R_drewN | apply Kd.R_drew)); exact HO_8.out))) (below_size (by repeat (first | (with_reducible first | exact HB.out | apply below_alloc | apply pw_below_drewN | apply below_drew1 | refine below_set ?_ GE260.out | refine below_set ?_ GE268.out) | exact HB.out)))); have n2_ := Aside0.mk (blk_below (g := gb260) (o := .cells #[.int .u32 a2_0, .int .u32 a2_1] 24 (0, 0)) (by (with_reducible repeat (first | refine blk_drewN ?_ _ | refine blk_drew ?_ | refine blk_alloc ?_ _)); exact BK260.out) hb); have n3_ := Aside0.mk (blk_below (g := gb268) (o := .cells #[.int .i64 t262, .int .i64 t263, .int .i64 t264, .int .i64 t265, .int .i64 t266, .int .i64 t267] 27 (0, 0)) (by (with_reducible repeat (first | refine blk_drewN ?_ _ | refine blk_drew ?_ | refine blk_alloc ?_ _)); exact BK268.out) hb); have n4_ := Aside0.mk (below_step (by repeat (first | (with_reducible first | exact HB.out | apply below_alloc | apply pw_below_drewN | apply below_drew1 | refine below_set ?_ GE260.out | refine below_set ?_ GE268.out) | exact HB.out)) hb); clear HO_8; clear BK260; clear BK268; clear HB; have HO_8 := n0_; have HO289 := n1_; have BK260 := n2_; have BK268 := n3_; have HB := n4_; clear n0_ n1_ n2_ n3_ n4_; (try clear hb); (try clear hb2); (try clear hk); (try clear hi); (try clear ho0)) | ((with_reducible refine gate_dst (N := 12) rfl ?_); (try (refine gate_guard (by rfl) ?_; dsimp only)); refine box_event ?hg (N := 12) ?hd (cs := #[.int .i64 0, .int .i64 0, .int .i64 0, .int .i64 0, .int .i64 0, .int .i64 0]) (t := 32) ?hr ?_; (case hd => rfl); (case hg => rfl); (case hr => first | (go_simp; done) | (go_simp; rfl)); intro gb291 hg w50 hbox hb; have n0_ := Aside0.mk (Kd.R_below (by (with_reducible repeat (first | apply Kd.R_alloc | apply Kd.R_drewN | apply Kd.R_drew)); exact HO_8.out) hb); have n1_ := Aside0.mk (Kd.R_below (by (with_reducible repeat (first | apply Kd.R_alloc | apply Kd.R_drewN | apply Kd.R_drew)); exact HO289.out) hb); have n2_ := Aside0.mk (blk_below (g := gb260) (o := .cells #[.int .u32 a2_0, .int .u32 a2_1] 24 (0, 0)) (by (with_reducible repeat (first | refine blk_drewN ?_ _ | refine blk_drew ?_ | refine blk_alloc ?_ _)); exact BK260.out) hb); have n3_ := Aside0.mk (blk_below (g := gb268) (o := .cells #[.int .i64 t262, .int .i64 t263, .int .i64 t264, .int .i64 t265, .int .i64 t266, .int .i64 t267] 27 (0, 0)) (by (with_reducible repeat (first | refine blk_drewN ?_ _ | refine blk_drew ?_ | refine blk_alloc ?_ _)); exact BK268.out) hb); have n4_ := Aside0.mk (below_step (by repeat (first | (with_reducible first | exact HB.out | apply below_alloc | apply pw_below_drewN | apply below_drew1 | refine below_set ?_ GE260.out | refine below_set ?_ GE268.out) | exact HB.out)) hb); have n5_ := Aside0.mk (hbox); have n6_ := Aside0.mk ((by rw [hg]; exact (below_size (by repeat (first | (with_reducible first | exact HB.out | apply below_alloc | apply pw_below_drewN | apply below_drew1 | refine below_set ?_ GE260.out | refine below_set ?_ GE268.out) | exact HB.out))) : w.heap.size ≤ gb291)); have n7_ := Aside0.mk ((by rw [hg]; exact (below_size (by repeat (first | (with_reducible first | exact HB.out | apply below_alloc | apply pw_below_drewN | apply below_drew1 | refine below_set ?_ GE260.out | refine below_set ?_ GE268.out) | exact HB.out))) : w.heap.size ≤ gb291)); have n8_ := Aside0.mk ((by rw [hg]; exact Nat.ne_of_lt (blk_lt (g := gb260) (o := .cells #[.int .u32 a2_0, .int .u32 a2_1] 24 (0, 0)) (by (with_reducible repeat (first | refine blk_drewN ?_ _ | refine blk_drew ?_ | refine blk_alloc ?_ _)); exact BK260.out)) : gb260 ≠ gb291)); have n9_ := Aside0.mk ((by rw [hg]; exact Nat.ne_of_gt (blk_lt (g := gb260) (o := .cells #[.int .u32 a2_0, .int .u32 a2_1] 24 (0, 0)) (by (with_reducible repeat (first | refine blk_drewN ?_ _ | refine blk_drew ?_ | refine blk_alloc ?_ _)); exact BK260.out)) : gb291 ≠ gb260)); have n10_ := Aside0.mk ((by rw [hg]; exact Nat.ne_of_lt (blk_lt (g := gb268) (o := .cells #[.int .i64 t262, .int .i64 t263, .int .i64 t264, .int .i64 t265, .int .i64 t266, .int .i64 t267] 27 (0, 0)) (by (with_reducible repeat (first | refine blk_drewN ?_ _ | refine blk_drew ?_ | refine blk_alloc ?_ _)); exact BK268.out)) : gb268 ≠ gb291)); have n11_ := Aside0.mk ((by rw [hg]; exact Nat.ne_of_gt (blk_lt (g := gb268) (o := .cells #[.int .i64 t262, .int .i64 t263, .int .i64 t264, .int .i64 t265, .int .i64 t266, .int .i64 t267] 27 (0, 0)) (by (with_reducible repeat (first | refine blk_drewN ?_ _ | refine blk_drew ?_ | refine blk_alloc ?_ _)); exact BK268.out)) : gb291 ≠ gb268)); clear HO_8; clear HO289; clear BK260; clear BK268; clear HB; have HO_8 := n0_; have HO289 := n1_; have BK260 := n2_; have BK268 := n3_; have HB := n4_; have BK291 := n5_; have GW291 := n6_; have GE291 := n7_; have NB260_291 := n8_; have NB291_260 := n9_; have NB268_291 := n10_; have NB291_268 := n11_; clear n0_ n1_ n2_ n3_ n4_ n5_ n6_ n7_ n8_ n9_ n10_ n11_; clear hb hbox hg; have hnb51 := NB291_260.out; have hnc51 := NB260_291.out; have hnb52 := NB291_268.out; have hnc52 := NB268_291.out; have hcz53_0 : w50.cell? ⟨gb291, 0, none⟩ = some (.int .i64 0) := (blk_cell BK291.out 0).trans rfl; have hcz53_1 : w50.cell? ⟨gb291, 1, none⟩ = some (.int .i64 0) := (blk_cell BK291.out 1).trans rfl; have hcz53_2 : w50.cell? ⟨gb291, 2, none⟩ = some (.int .i64 0) := (blk_cell BK291.out 2).trans rfl; have hcz53_3 : w50.cell? ⟨gb291, 3, none⟩ = some (.int .i64 0) := (blk_cell BK291.out 3).trans rfl; have hcz53_4 : w50.cell? ⟨gb291, 4, none⟩ = some (.int .i64 0) := (blk_cell BK291.out 4).trans rfl; have hcz53_5 : w50.cell? ⟨gb291, 5, none⟩ = some (.int .i64 0) := (blk_cell BK291.out 5).trans rfl; have hfz53_0 := blk_frozen BK291.out 0; have hfz53_1 := blk_frozen BK291.out 1; have hfz53_2 := blk_frozen BK291.out 2; have hfz53_3 := blk_frozen BK291.out 3; have hfz53_4 := blk_frozen BK291.out 4; have hfz53_5 := blk_frozen BK291.out 5))
                          go_ret
                          exact ⟨by first | rfl | (simp [errW_none, errW_some] <;> rfl) | (simp [*, errW_none, errW_some] <;> rfl), by repeat (first | (with_reducible first | exact HB.out | apply below_alloc | apply pw_below_drewN | apply below_drew1 | refine below_set ?_ GE260.out | refine below_set ?_ GE268.out | refine below_set ?_ GE291.out) | exact HB.out)⟩
                        · rw [if_neg c48] at H
                          have c48b0 : (t290 == 0) = false := beq_eq_false_iff_ne.mpr c48
                          have c48b1 : (t290 != 0) = true := bne_iff_ne.mpr c48
                          obtain rfl := Option.some.inj H
                          go_wp2_with (first | ((with_reducible refine gate_callee (f := 18) rfl ?_); refine goesL_ (some 79) rfl rfl Try.func18 (by kernel_rfl) rfl #[.slice Ao28 x8_3.length co28] rfl (by (try simp only [List.map_toArray, List.map_cons, List.map_nil]); first | done | rfl | (simp only [List.length_drop, List.length_take]; rfl)) ?_; (with_reducible refine (shard_Read.calls k3 _ _ x8_3 t281 t282 t283 t284 t285 t286 t287 t290 _ ?side1 ?side2 A47.out).mono ?_); (case side1 => repeat (first | exact (Kd.R_reads' HO_8.out).2.2 | (with_reducible refine Kd.C_alloc ?_ _) | (with_reducible refine Kd.C_drewN ?_ _) | (with_reducible refine Kd.C_drew ?_))); (case side2 => exact (Kd.R_reads' HO_8.out).2.1); rintro e w54 ⟨v288, rfl, ho0, hb⟩; refine ⟨_, rfl, ?_⟩; have n0_ := Aside0.mk (Kd.R_elder' (by (with_reducible repeat (first | apply Kd.R_alloc | apply Kd.R_drewN | apply Kd.R_drew)); exact HO_8.out) (Kd.R_base ho0) hb); have n1_ := Aside0.mk (Kd.R_lower (Kd.R_new' ho0 (Kd.R_lt (by (with_reducible repeat (first | apply Kd.R_alloc | apply Kd.R_drewN | apply Kd.R_drew)); exact HO_8.out))) (below_size (by repeat (first | (with_reducible first | exact HB.out | apply below_alloc | apply pw_below_drewN | apply below_drew1 | refine below_set ?_ GE260.out | refine below_set ?_ GE268.out) | exact HB.out)))); have n2_ := Aside0.mk (blk_below (g := gb260) (o := .cells #[.int .u32 a2_0, .int .u32 a2_1] 24 (0, 0)) (by (with_reducible repeat (first | refine blk_drewN ?_ _ | refine blk_drew ?_ | refine blk_alloc ?_ _)); exact BK260.out) hb); have n3_ := Aside0.mk (blk_below (g := gb268) (o := .cells #[.int .i64 t262, .int .i64 t263, .int .i64 t264, .int .i64 t265, .int .i64 t266, .int .i64 t267] 27 (0, 0)) (by (with_reducible repeat (first | refine blk_drewN ?_ _ | refine blk_drew ?_ | refine blk_alloc ?_ _)); exact BK268.out) hb); have n4_ := Aside0.mk (below_step (by repeat (first | (with_reducible first | exact HB.out | apply below_alloc | apply pw_below_drewN | apply below_drew1 | refine below_set ?_ GE260.out | refine below_set ?_ GE268.out) | exact HB.out)) hb); clear HO_8; clear BK260; clear BK268; clear HB; have HO_8 := n0_; have HO289 := n1_; have BK260 := n2_; have BK268 := n3_; have HB := n4_; clear n0_ n1_ n2_ n3_ n4_; (try clear hb); (try clear hb2); (try clear hk); (try clear hi); (try clear ho0)) | ((with_reducible refine gate_dst (N := 12) rfl ?_); (try (refine gate_guard (by rfl) ?_; dsimp only)); refine box_event ?hg (N := 12) ?hd (cs := #[.int .i64 0, .int .i64 0, .int .i64 0, .int .i64 0, .int .i64 0, .int .i64 0]) (t := 32) ?hr ?_; (case hd => rfl); (case hg => rfl); (case hr => first | (go_simp; done) | (go_simp; rfl)); intro gb291 hg w55 hbox hb; have n0_ := Aside0.mk (Kd.R_below (by (with_reducible repeat (first | apply Kd.R_alloc | apply Kd.R_drewN | apply Kd.R_drew)); exact HO_8.out) hb); have n1_ := Aside0.mk (Kd.R_below (by (with_reducible repeat (first | apply Kd.R_alloc | apply Kd.R_drewN | apply Kd.R_drew)); exact HO289.out) hb); have n2_ := Aside0.mk (blk_below (g := gb260) (o := .cells #[.int .u32 a2_0, .int .u32 a2_1] 24 (0, 0)) (by (with_reducible repeat (first | refine blk_drewN ?_ _ | refine blk_drew ?_ | refine blk_alloc ?_ _)); exact BK260.out) hb); have n3_ := Aside0.mk (blk_below (g := gb268) (o := .cells #[.int .i64 t262, .int .i64 t263, .int .i64 t264, .int .i64 t265, .int .i64 t266, .int .i64 t267] 27 (0, 0)) (by (with_reducible repeat (first | refine blk_drewN ?_ _ | refine blk_drew ?_ | refine blk_alloc ?_ _)); exact BK268.out) hb); have n4_ := Aside0.mk (below_step (by repeat (first | (with_reducible first | exact HB.out | apply below_alloc | apply pw_below_drewN | apply below_drew1 | refine below_set ?_ GE260.out | refine below_set ?_ GE268.out) | exact HB.out)) hb); have n5_ := Aside0.mk (hbox); have n6_ := Aside0.mk ((by rw [hg]; exact (below_size (by repeat (first | (with_reducible first | exact HB.out | apply below_alloc | apply pw_below_drewN | apply below_drew1 | refine below_set ?_ GE260.out | refine below_set ?_ GE268.out) | exact HB.out))) : w.heap.size ≤ gb291)); have n7_ := Aside0.mk ((by rw [hg]; exact (below_size (by repeat (first | (with_reducible first | exact HB.out | apply below_alloc | apply pw_below_drewN | apply below_drew1 | refine below_set ?_ GE260.out | refine below_set ?_ GE268.out) | exact HB.out))) : w.heap.size ≤ gb291)); have n8_ := Aside0.mk ((by rw [hg]; exact Nat.ne_of_lt (blk_lt (g := gb260) (o := .cells #[.int .u32 a2_0, .int .u32 a2_1] 24 (0, 0)) (by (with_reducible repeat (first | refine blk_drewN ?_ _ | refine blk_drew ?_ | refine blk_alloc ?_ _)); exact BK260.out)) : gb260 ≠ gb291)); have n9_ := Aside0.mk ((by rw [hg]; exact Nat.ne_of_gt (blk_lt (g := gb260) (o := .cells #[.int .u32 a2_0, .int .u32 a2_1] 24 (0, 0)) (by (with_reducible repeat (first | refine blk_drewN ?_ _ | refine blk_drew ?_ | refine blk_alloc ?_ _)); exact BK260.out)) : gb291 ≠ gb260)); have n10_ := Aside0.mk ((by rw [hg]; exact Nat.ne_of_lt (blk_lt (g := gb268) (o := .cells #[.int .i64 t262, .int .i64 t263, .int .i64 t264, .int .i64 t265, .int .i64 t266, .int .i64 t267] 27 (0, 0)) (by (with_reducible repeat (first | refine blk_drewN ?_ _ | refine blk_drew ?_ | refine blk_alloc ?_ _)); exact BK268.out)) : gb268 ≠ gb291)); have n11_ := Aside0.mk ((by rw [hg]; exact Nat.ne_of_gt (blk_lt (g := gb268) (o := .cells #[.int .i64 t262, .int .i64 t263, .int .i64 t264, .int .i64 t265, .int .i64 t266, .int .i64 t267] 27 (0, 0)) (by (with_reducible repeat (first | refine blk_drewN ?_ _ | refine blk_drew ?_ | refine blk_alloc ?_ _)); exact BK268.out)) : gb291 ≠ gb268)); clear HO_8; clear HO289; clear BK260; clear BK268; clear HB; have HO_8 := n0_; have HO289 := n1_; have BK260 := n2_; have BK268 := n3_; have HB := n4_; have BK291 := n5_; have GW291 := n6_; have GE291 := n7_; have NB260_291 := n8_; have NB291_260 := n9_; have NB268_291 := n10_; have NB291_268 := n11_; clear n0_ n1_ n2_ n3_ n4_ n5_ n6_ n7_ n8_ n9_ n10_ n11_; clear hb hbox hg; have hnb56 := NB291_260.out; have hnc56 := NB260_291.out; have hnb57 := NB291_268.out; have hnc57 := NB268_291.out; have hcz58_0 : w55.cell? ⟨gb291, 0, none⟩ = some (.int .i64 0) := (blk_cell BK291.out 0).trans rfl; have hcz58_1 : w55.cell? ⟨gb291, 1, none⟩ = some (.int .i64 0) := (blk_cell BK291.out 1).trans rfl; have hcz58_2 : w55.cell? ⟨gb291, 2, none⟩ = some (.int .i64 0) := (blk_cell BK291.out 2).trans rfl; have hcz58_3 : w55.cell? ⟨gb291, 3, none⟩ = some (.int .i64 0) := (blk_cell BK291.out 3).trans rfl; have hcz58_4 : w55.cell? ⟨gb291, 4, none⟩ = some (.int .i64 0) := (blk_cell BK291.out 4).trans rfl; have hcz58_5 : w55.cell? ⟨gb291, 5, none⟩ = some (.int .i64 0) := (blk_cell BK291.out 5).trans rfl; have hfz58_0 := blk_frozen BK291.out 0; have hfz58_1 := blk_frozen BK291.out 1; have hfz58_2 := blk_frozen BK291.out 2; have hfz58_3 := blk_frozen BK291.out 3; have hfz58_4 := blk_frozen BK291.out 4; have hfz58_5 := blk_frozen BK291.out 5; obtain ⟨Ao59, co59, eo59⟩ := Kd.R_slice HO289.out; subst eo59))
                          go_ret
                          exact ⟨by first | rfl | (simp [errW_none, errW_some] <;> rfl) | (simp [*, errW_none, errW_some] <;> rfl), by repeat (first | (with_reducible first | exact HB.out | apply below_alloc | apply pw_below_drewN | apply below_drew1 | refine below_set ?_ GE260.out | refine below_set ?_ GE268.out | refine below_set ?_ GE291.out) | exact HB.out)⟩
  · replace c5 := Bool.eq_false_iff.mpr c5
    subst c5
    have H1 : (some false) = some r := by rw [if_neg (show ¬ (false = true) by decide)] at H; exact H
    clear H
    have H := H1
    clear H1
    obtain rfl := Option.some.inj H
    go_enter Try.func3, Try.ntmps3
    go_wp2_with (first | ((with_reducible refine gate_dst (N := 5) rfl ?_); (try (refine gate_guard (by rfl) ?_; dsimp only)); refine box_event ?hg (N := 5) ?hd (cs := #[.int .u32 a2_0, .int .u32 a2_1]) (t := 24) ?hr ?_; (case hd => rfl); (case hg => rfl); (case hr => first | (go_simp; done) | (go_simp; rfl)); intro gb260 hg w60 hbox hb; have n0_ := Aside0.mk (below_step (by repeat (first | (with_reducible first | exact HB.out | apply below_alloc | apply pw_below_drewN | apply below_drew1) | exact HB.out)) hb); have n1_ := Aside0.mk (hbox); have n2_ := Aside0.mk ((by rw [hg]; exact (below_size (by repeat (first | (with_reducible first | exact HB.out | apply below_alloc | apply pw_below_drewN | apply below_drew1) | exact HB.out))) : w.heap.size ≤ gb260)); have n3_ := Aside0.mk ((by rw [hg]; exact (below_size (by repeat (first | (with_reducible first | exact HB.out | apply below_alloc | apply pw_below_drewN | apply below_drew1) | exact HB.out))) : w.heap.size ≤ gb260)); clear HB; have HB := n0_; have BK260 := n1_; have GW260 := n2_; have GE260 := n3_; clear n0_ n1_ n2_ n3_; clear hb hbox hg) | ((with_reducible refine gate_callee (f := 14) rfl ?_); refine goesL_ (some 15) rfl rfl Try.func14 (by kernel_rfl) rfl #[] rfl (by (try simp only [List.map_toArray, List.map_cons, List.map_nil]); first | done | rfl | (simp only [List.length_drop, List.length_take]; rfl)) ?_; (with_reducible refine (strongboxlaw5_awake.calls k  false _ A4.out).mono ?_); rintro e w61 ⟨rfl, hb⟩; refine ⟨_, rfl, ?_⟩; have n0_ := Aside0.mk (blk_below (g := gb260) (o := .cells #[.int .u32 a2_0, .int .u32 a2_1] 24 (0, 0)) (by (with_reducible repeat (first | refine blk_drewN ?_ _ | refine blk_drew ?_ | refine blk_alloc ?_ _)); exact BK260.out) hb); have n1_ := Aside0.mk (below_step (by repeat (first | (with_reducible first | exact HB.out | apply below_alloc | apply pw_below_drewN | apply below_drew1 | refine below_set ?_ GE260.out) | exact HB.out)) hb); clear BK260; clear HB; have BK260 := n0_; have HB := n1_; clear n0_ n1_; (try clear hb); (try clear hb2); (try clear hk); (try clear hi)))
    go_ret
    exact ⟨by first | rfl | (simp [errW_none, errW_some] <;> rfl) | (simp [*, errW_none, errW_some] <;> rfl), by repeat (first | (with_reducible first | exact HB.out | apply below_alloc | apply pw_below_drewN | apply below_drew1 | refine below_set ?_ GE260.out) | exact HB.out)⟩

end Go.Proofs.Ytnlpipjdpmaggaa.PShardCuts
