/- WRITTEN FOR THIS CLAIM by a program of the prover's own (the kit's printing program, with constructs added): for each Go function that the statement reaches a Lean function with the same answers, and the proof of that. Not trusted: Lean checks it. -/
import Derived.Test.YtjibdkbfjjeheaaPCrcBurstsx0
import Derived.Test.YtjibdkbfjjeheaaPCrcBurstsx1
namespace Go.Proofs.Ytjibdkbfjjeheaa.PCrcBursts
open Go.RowKit Go.Proofs.YtjibdkbfjjeheaaW.PrintWords Go.Proofs.YtjibdkbfjjeheaaW.PrintLast Go.Proofs.YtjibdkbfjjeheaaW.PrintMore
attribute [local go_sem] max2_int min2_int max_two min_two max_three min_three max_four min_four   -- for this text's walks alone
set_option linter.unusedVariables false
set_option linter.unusedSimpArgs false

/-! ### strongboxlaw4_CrcBursts: function 6 -/
mutual
def strongboxlaw4_CrcBursts.j0 : Nat → List Int → Int → Int → Bool → Option (Bool)
  | 0, _, _, _, _ => none
  | k + 1, x0, x1, x2, x20 => if x20 = true then (some true) else ((some (([] : List Int) : List Int)).bind fun y113 => (if y113.length + x0.length < 140737488355328 then ((some (y113 ++ x0 : List Int)).bind fun y116 => ((crc_Sum.f k x0).bind fun t119 => ((crc_Bytes.f t119).bind fun t120 => (if y116.length + t120.length < 140737488355328 then ((some (y116 ++ t120 : List Int)).bind fun y123 => (if (y123.length : Int) = (wrap64 ((x0.length : Int) + 4)) then (if (wrap64 ((wrap64 (8 * (y123.length : Int))) - 31)) = 0 then (none) else (strongboxlaw4_CrcBursts.l0 k x0 x2 y123 (Int.tmod (wrap64 (x1)) (wrap64 ((wrap64 (8 * (y123.length : Int))) - 31))) 0)) else (some false))) else (none))))) else (none)))
def strongboxlaw4_CrcBursts.l0 : Nat → List Int → Int → List Int → Int → Int → Option (Bool)
  | 0, _, _, _, _, _ => none
  | k + 1, x0, x2, x7, x8, x9 => if x9 < 32 then (if 0 ≤ (IntKind.u64.wrap (x9)) then (if (Go.bits .and .u32 (shr .u32 x2 (IntKind.u64.wrap (x9))) 1) = 1 then (if 0 ≤ (wrap64 (Int.tdiv (wrap64 (x8 + x9)) 8)) then (if (wrap64 (Int.tdiv (wrap64 (x8 + x9)) 8)) < (x7.length : Int) then (if 0 ≤ (IntKind.u64.wrap (Int.tmod (wrap64 (x8 + x9)) 8)) then (strongboxlaw4_CrcBursts.l0 k x0 x2 (x7.set ((wrap64 (Int.tdiv (wrap64 (x8 + x9)) 8)) : Int).toNat (Go.bits .xor .u8 (rd x7 (wrap64 (Int.tdiv (wrap64 (x8 + x9)) 8))) (shl .u8 1 (IntKind.u64.wrap (Int.tmod (wrap64 (x8 + x9)) 8))))) x8 (wrap64 (x9 + 1))) else (none)) else (none)) else (none)) else (strongboxlaw4_CrcBursts.l0 k x0 x2 x7 x8 (wrap64 (x9 + 1)))) else (none)) else (if 0 ≤ (x0.length : Int) then (if (x0.length : Int) ≤ (x7.length : Int) then ((crc_Read.f k (x7.drop ((x0.length : Int) : Int).toNat)).bind fun bt132 => (if bt132.2 = true then ((crc_Sum.f k (x7.take ((x0.length : Int) : Int).toNat)).bind fun t138 => (some (bt132.1 != t138))) else (some false))) else (none)) else (none))
end
def strongboxlaw4_CrcBursts.f (k : Nat) (l0 : List Int) (a1 : Int) (a2 : Int) : Option (Bool) := (strongboxlaw4_awake.f k).bind fun t112 => (if t112 = true then (if (l0.length : Int) > 4000 then (strongboxlaw4_CrcBursts.j0 k l0 a1 a2 true) else (strongboxlaw4_CrcBursts.j0 k l0 a1 a2 (a2 == 0))) else (some false))
theorem strongboxlaw4_CrcBursts.mono_l : ∀ k, (∀ y0 y1 y2 y3, LeO (strongboxlaw4_CrcBursts.j0 k y0 y1 y2 y3) (strongboxlaw4_CrcBursts.j0 (k + 1) y0 y1 y2 y3)) ∧ (∀ y0 y1 y2 y3 y4, LeO (strongboxlaw4_CrcBursts.l0 k y0 y1 y2 y3 y4) (strongboxlaw4_CrcBursts.l0 (k + 1) y0 y1 y2 y3 y4))
  | 0 => ⟨fun _ _ _ _ r h => by simp [strongboxlaw4_CrcBursts.j0] at h, fun _ _ _ _ _ r h => by simp [strongboxlaw4_CrcBursts.l0] at h⟩
  | k + 1 => by
    obtain ⟨ih0, ih1⟩ := strongboxlaw4_CrcBursts.mono_l k
    refine ⟨?_, ?_⟩
    · intro y0 y1 y2 y3
      unfold strongboxlaw4_CrcBursts.j0
      repeat' first
      | (with_reducible exact ih0 _ _ _ _)
      | (with_reducible exact ih1 _ _ _ _ _)
      | (with_reducible exact crc_Read.mono _ _)
      | (with_reducible exact crc_Sum.mono _ _)
      | (with_reducible exact strongboxlaw4_awake.mono _)
      | (with_reducible exact LeO.refl _)
      | (with_reducible exact LeO.none _)
      | (with_reducible refine LeO.ite ?_ ?_)
      | (with_reducible refine LeO.bind ?_ (fun _ => ?_))
      | exact ih0 _ _ _ _
      | exact ih1 _ _ _ _ _
      | exact crc_Read.mono _ _
      | exact crc_Sum.mono _ _
      | exact strongboxlaw4_awake.mono _
      | exact LeO.none _
      | refine LeO.ite ?_ ?_
      | refine LeO.bind ?_ (fun _ => ?_)
    · intro y0 y1 y2 y3 y4
      unfold strongboxlaw4_CrcBursts.l0
      repeat' first
      | (with_reducible exact ih0 _ _ _ _)
      | (with_reducible exact ih1 _ _ _ _ _)
      | (with_reducible exact crc_Read.mono _ _)
      | (with_reducible exact crc_Sum.mono _ _)
      | (with_reducible exact strongboxlaw4_awake.mono _)
      | (with_reducible exact LeO.refl _)
      | (with_reducible exact LeO.none _)
      | (with_reducible refine LeO.ite ?_ ?_)
      | (with_reducible refine LeO.bind ?_ (fun _ => ?_))
      | exact ih0 _ _ _ _
      | exact ih1 _ _ _ _ _
      | exact crc_Read.mono _ _
      | exact crc_Sum.mono _ _
      | exact strongboxlaw4_awake.mono _
      | exact LeO.none _
      | refine LeO.ite ?_ ?_
      | refine LeO.bind ?_ (fun _ => ?_)
theorem strongboxlaw4_CrcBursts.mono : ∀ a0 a1 a2 k, LeO (strongboxlaw4_CrcBursts.f k a0 a1 a2) (strongboxlaw4_CrcBursts.f (k + 1) a0 a1 a2) := by
  intro a0 a1 a2 k
  obtain ⟨ih0, ih1⟩ := strongboxlaw4_CrcBursts.mono_l k
  unfold strongboxlaw4_CrcBursts.f
  repeat' first
      | (with_reducible exact ih0 _ _ _ _)
      | (with_reducible exact ih1 _ _ _ _ _)
      | (with_reducible exact crc_Read.mono _ _)
      | (with_reducible exact crc_Sum.mono _ _)
      | (with_reducible exact strongboxlaw4_awake.mono _)
      | (with_reducible exact LeO.refl _)
      | (with_reducible exact LeO.none _)
      | (with_reducible refine LeO.ite ?_ ?_)
      | (with_reducible refine LeO.bind ?_ (fun _ => ?_))
      | exact ih0 _ _ _ _
      | exact ih1 _ _ _ _ _
      | exact crc_Read.mono _ _
      | exact crc_Sum.mono _ _
      | exact strongboxlaw4_awake.mono _
      | exact LeO.none _
      | refine LeO.ite ?_ ?_
      | refine LeO.bind ?_ (fun _ => ?_)
set_option maxHeartbeats 8000000 in
set_option maxRecDepth 100000 in
theorem strongboxlaw4_CrcBursts.calls (k : Nat) (A0 : Option Addr) (c0 : Nat) (l0 : List Int) (a1 : Int) (a2 : Int) (r : Bool) (w : World) (hr0 : Kd.C (Kd.int .u8) w A0 l0.length l0) (hc0 : l0.length ≤ c0) (h : strongboxlaw4_CrcBursts.f k l0 a1 a2 = some r) :
    Calls Try.prog 6 #[.slice A0 l0.length c0, .int .u32 a1, .int .u32 a2] w fun e w' => e = .returned (.bool r) ∧ Below w.heap.size w w' := by
  have HR0 := Aside0.mk hr0
  have HC0 := Aside0.mk hc0
  clear hr0 hc0
  have HB := Aside0.mk (Below.refl w.heap.size w)
  have H : ((strongboxlaw4_awake.f k).bind fun t112 => (if t112 = true then (if (l0.length : Int) > 4000 then (strongboxlaw4_CrcBursts.j0 k l0 a1 a2 true) else (strongboxlaw4_CrcBursts.j0 k l0 a1 a2 (a2 == 0))) else (some false))) = some r := h
  clear h
  replace H := Option.bind_eq_some_iff.mp H
  obtain ⟨t112, A40, H⟩ := H
  replace H : (if t112 = true then (if (l0.length : Int) > 4000 then (strongboxlaw4_CrcBursts.j0 k l0 a1 a2 true) else (strongboxlaw4_CrcBursts.j0 k l0 a1 a2 (a2 == 0))) else (some false)) = some r := H
  have A4 := Aside0.mk A40
  clear A40
  by_cases c5 : t112 = true
  · subst c5
    have H1 : (if (l0.length : Int) > 4000 then (strongboxlaw4_CrcBursts.j0 k l0 a1 a2 true) else (strongboxlaw4_CrcBursts.j0 k l0 a1 a2 (a2 == 0))) = some r := by rw [if_pos rfl] at H; exact H
    clear H
    have H := H1
    clear H1
    have HC6 := Aside0.mk H
    clear H
    go_enter Try.func6, Try.ntmps6
    go_upto_region 3 with (first | ((with_reducible refine gate_callee (f := 7) rfl ?_); refine goesL_ (some 12) rfl rfl Try.func7 (by kernel_rfl) rfl #[] rfl (by (try simp only [List.map_toArray, List.map_cons, List.map_nil]); first | done | rfl | (simp only [List.length_drop, List.length_take]; rfl)) ?_; (with_reducible refine (strongboxlaw4_awake.calls k  true _ A4.out).mono ?_); rintro e w7 ⟨rfl, hb⟩; refine ⟨_, rfl, ?_⟩; have n0_ := Aside0.mk (below_step (by repeat (first | (with_reducible first | exact HB.out | apply below_alloc | apply pw_below_drewN | apply below_drew1) | exact HB.out)) hb); clear HB; have HB := n0_; clear n0_; (try clear hb); (try clear hb2); (try clear hk); (try clear hi)))
    (try simp only [Act.put, List.setIfInBounds_toArray, List.set_cons_zero, List.set_cons_succ])
    go_cut [20] (fun v20 wc => ∃ (kq : Nat) (x20_5 : Bool), v20 = .bool x20_5 ∧ Aside0 (strongboxlaw4_CrcBursts.j0 kq l0 a1 a2 x20_5 = some r) ∧ Aside0 (kq ≤ k) ∧ Aside0 (Below w.heap.size w wc))
    case first =>
      have H := HC6.out
      clear HC6
      by_cases c8 : (l0.length : Int) > 4000
      · rw [if_pos c8] at H
        have c8b0 : decide (4000 < (l0.length : Int)) = true := decide_eq_true c8
        have c8b1 : decide (4000 < l0.length) = true := decide_eq_true (by omega)
        clear c8
        (first | rw [c8b0] | (simp only [i64_w, i32_w]; rw [c8b0]) | skip)
        have H' := Aside0.mk H
        clear H
        go_wp2
        go_meet
        case rel => exact ⟨_, (true), (by first | rfl | (simp; done) | (simp [*]; done)), H', ⟨by first | omega | exact Nat.le_refl _⟩, ⟨by repeat (first | (with_reducible first | exact HB.out | apply below_alloc | apply pw_below_drewN | apply below_drew1) | exact HB.out)⟩⟩
      · rw [if_neg c8] at H
        have c8b0 : decide (4000 < (l0.length : Int)) = false := decide_eq_false c8
        have c8b1 : decide (4000 < l0.length) = false := decide_eq_false (by omega)
        clear c8
        (first | rw [c8b0] | (simp only [i64_w, i32_w]; rw [c8b0]) | skip)
        have H' := Aside0.mk H
        clear H
        go_wp2
        go_meet
        case rel => exact ⟨_, ((a2 == 0)), (by first | rfl | (simp; done) | (simp [*]; done)), H', ⟨by first | omega | exact Nat.le_refl _⟩, ⟨by repeat (first | (with_reducible first | exact HB.out | apply below_alloc | apply pw_below_drewN | apply below_drew1) | exact HB.out)⟩⟩
    case rest =>
      clear HC6
      try clear p2
      try clear c5
      try clear c6
      try clear c7
      try clear c8
      try clear c8b0
      try clear c8b1
      obtain ⟨kq, x20_5, rfl, HA, HJ5, HB⟩ := hcut
      cases kq with
      | zero => exact absurd HA.out (by simp [strongboxlaw4_CrcBursts.j0])
      | succ kj5 =>
        have H := HA.out
        clear HA
        simp only [strongboxlaw4_CrcBursts.j0] at H
        by_cases c9 : x20_5 = true
        · subst c9
          have H1 : (some true) = some r := by rw [if_pos rfl] at H; exact H
          clear H
          have H := H1
          clear H1
          obtain rfl := Option.some.inj H
          go_wp2
          go_ret
          exact ⟨by first | rfl | (simp [errW_none, errW_some] <;> rfl) | (simp [*, errW_none, errW_some] <;> rfl), by repeat (first | (with_reducible first | exact HB.out | apply below_alloc | apply pw_below_drewN | apply below_drew1) | exact HB.out)⟩
        · replace c9 := Bool.eq_false_iff.mpr c9
          subst c9
          have H1 : ((some (([] : List Int) : List Int)).bind fun y113 => (if y113.length + l0.length < 140737488355328 then ((some (y113 ++ l0 : List Int)).bind fun y116 => ((crc_Sum.f kj5 l0).bind fun t119 => ((crc_Bytes.f t119).bind fun t120 => (if y116.length + t120.length < 140737488355328 then ((some (y116 ++ t120 : List Int)).bind fun y123 => (if (y123.length : Int) = (wrap64 ((l0.length : Int) + 4)) then (if (wrap64 ((wrap64 (8 * (y123.length : Int))) - 31)) = 0 then (none) else (strongboxlaw4_CrcBursts.l0 kj5 l0 a2 y123 (Int.tmod (wrap64 (a1)) (wrap64 ((wrap64 (8 * (y123.length : Int))) - 31))) 0)) else (some false))) else (none))))) else (none))) = some r := by rw [if_neg (show ¬ (false = true) by decide)] at H; exact H
          clear H
          have H := H1
          clear H1
          obtain ⟨y113, hy113⟩ : ∃ y_ : List Int, y_ = (([] : List Int)) := ⟨_, rfl⟩
          replace H : (if y113.length + l0.length < 140737488355328 then ((some (y113 ++ l0 : List Int)).bind fun y116 => ((crc_Sum.f kj5 l0).bind fun t119 => ((crc_Bytes.f t119).bind fun t120 => (if y116.length + t120.length < 140737488355328 then ((some (y116 ++ t120 : List Int)).bind fun y123 => (if (y123.length : Int) = (wrap64 ((l0.length : Int) + 4)) then (if (wrap64 ((wrap64 (8 * (y123.length : Int))) - 31)) = 0 then (none) else (strongboxlaw4_CrcBursts.l0 kj5 l0 a2 y123 (Int.tmod (wrap64 (a1)) (wrap64 ((wrap64 (8 * (y123.length : Int))) - 31))) 0)) else (some false))) else (none))))) else (none)) = some r := by first | (rw [hy113]; with_reducible exact H) | (have H2_ := (Option.bind_some _ _).symm.trans H; rw [hy113]; with_reducible exact H2_) | (have H2_ := (Option.bind_some _ _).symm.trans H; with_reducible exact H2_) | with_reducible exact H | (rw [hy113]; exact H) | exact H
          have Ny113 := Aside0.mk hy113
          clear hy113
          by_cases c10 : y113.length + l0.length < 140737488355328
          · rw [if_pos c10] at H
            have LMc10 := Aside0.mk c10
            clear c10
            obtain ⟨y116, hy116⟩ : ∃ y_ : List Int, y_ = (y113 ++ l0) := ⟨_, rfl⟩
            replace H : ((crc_Sum.f kj5 l0).bind fun t119 => ((crc_Bytes.f t119).bind fun t120 => (if y116.length + t120.length < 140737488355328 then ((some (y116 ++ t120 : List Int)).bind fun y123 => (if (y123.length : Int) = (wrap64 ((l0.length : Int) + 4)) then (if (wrap64 ((wrap64 (8 * (y123.length : Int))) - 31)) = 0 then (none) else (strongboxlaw4_CrcBursts.l0 kj5 l0 a2 y123 (Int.tmod (wrap64 (a1)) (wrap64 ((wrap64 (8 * (y123.length : Int))) - 31))) 0)) else (some false))) else (none)))) = some r := by first | (rw [hy116]; with_reducible exact H) | (have H2_ := (Option.bind_some _ _).symm.trans H; rw [hy116]; with_reducible exact H2_) | (have H2_ := (Option.bind_some _ _).symm.trans H; with_reducible exact H2_) | with_reducible exact H | (rw [hy116]; exact H) | exact H
            have Ny116 := Aside0.mk hy116
            clear hy116
            replace H := Option.bind_eq_some_iff.mp H
            obtain ⟨t119, A110, H⟩ := H
            replace H : ((crc_Bytes.f t119).bind fun t120 => (if y116.length + t120.length < 140737488355328 then ((some (y116 ++ t120 : List Int)).bind fun y123 => (if (y123.length : Int) = (wrap64 ((l0.length : Int) + 4)) then (if (wrap64 ((wrap64 (8 * (y123.length : Int))) - 31)) = 0 then (none) else (strongboxlaw4_CrcBursts.l0 kj5 l0 a2 y123 (Int.tmod (wrap64 (a1)) (wrap64 ((wrap64 (8 * (y123.length : Int))) - 31))) 0)) else (some false))) else (none))) = some r := H
            have A11 := Aside0.mk A110
            clear A110
            replace H := Option.bind_eq_some_iff.mp H
            obtain ⟨t120, A120, H⟩ := H
            replace H : (if y116.length + t120.length < 140737488355328 then ((some (y116 ++ t120 : List Int)).bind fun y123 => (if (y123.length : Int) = (wrap64 ((l0.length : Int) + 4)) then (if (wrap64 ((wrap64 (8 * (y123.length : Int))) - 31)) = 0 then (none) else (strongboxlaw4_CrcBursts.l0 kj5 l0 a2 y123 (Int.tmod (wrap64 (a1)) (wrap64 ((wrap64 (8 * (y123.length : Int))) - 31))) 0)) else (some false))) else (none)) = some r := H
            have A12 := Aside0.mk A120
            clear A120
            by_cases c13 : y116.length + t120.length < 140737488355328
            · rw [if_pos c13] at H
              have LMc13 := Aside0.mk c13
              clear c13
              obtain ⟨y123, hy123⟩ : ∃ y_ : List Int, y_ = (y116 ++ t120) := ⟨_, rfl⟩
              replace H : (if (y123.length : Int) = (wrap64 ((l0.length : Int) + 4)) then (if (wrap64 ((wrap64 (8 * (y123.length : Int))) - 31)) = 0 then (none) else (strongboxlaw4_CrcBursts.l0 kj5 l0 a2 y123 (Int.tmod (wrap64 (a1)) (wrap64 ((wrap64 (8 * (y123.length : Int))) - 31))) 0)) else (some false)) = some r := by first | (rw [hy123]; with_reducible exact H) | (have H2_ := (Option.bind_some _ _).symm.trans H; rw [hy123]; with_reducible exact H2_) | (have H2_ := (Option.bind_some _ _).symm.trans H; with_reducible exact H2_) | with_reducible exact H | (rw [hy123]; exact H) | exact H
              have Ny123 := Aside0.mk hy123
              clear hy123
              by_cases c14 : (y123.length : Int) = (wrap64 ((l0.length : Int) + 4))
              · rw [if_pos c14] at H
                have c14b0 : ((y123.length : Int) == (wrap64 ((l0.length : Int) + 4))) = true := beq_iff_eq.mpr c14
                have c14b1 : ((y123.length : Int) != (wrap64 ((l0.length : Int) + 4))) = false := bne_eq_false_iff_eq.mpr c14
                clear c14
                by_cases c15 : (wrap64 ((wrap64 (8 * (y123.length : Int))) - 31)) = 0
                · rw [if_pos c15] at H
                  exact absurd H (by simp)
                · rw [if_neg c15] at H
                  have c15b0 : ((wrap64 ((wrap64 (8 * (y123.length : Int))) - 31)) == 0) = false := beq_eq_false_iff_ne.mpr c15
                  have c15b1 : ((wrap64 ((wrap64 (8 * (y123.length : Int))) - 31)) != 0) = true := bne_iff_ne.mpr c15
                  have H' := Aside0.mk H
                  clear H
                  go_wp2_with (first | ((with_reducible refine gate_dst (N := 21) rfl ?_); (try (refine gate_guard (by rfl) ?_; dsimp only)); refine Kd.R_lit (Kd.int .u8) _ 5 ?hg (N := 21) ?hd (xs := ([] : List Int)) (inner := []) (ok := fun _ => True) (okp := fun _ => True) ?hr ?hp (fun _ hk => hk) trivial (Below.refl _ _) (Nat.le_refl _) (by simp) ?_; (case hd => rfl); (case hg => rfl); (case hr => first | (go_simp; done) | (go_simp; rfl)); (case hp => exact (Reps.none _ _)); intro v114 w16 ho17 hb hg_ hnew_; clear hg_ hnew_; (first | rw [← Ny113.out] at ho17 | (simp only [Int.reduceToNat] at ho17; rw [← Ny113.out] at ho17)); have n0_ := Aside0.mk (Kd.R_lower ho17 (below_size (by repeat (first | (with_reducible first | exact HB.out | apply below_alloc | apply pw_below_drewN | apply below_drew1) | exact HB.out)))); have n1_ := Aside0.mk (below_step (by repeat (first | (with_reducible first | exact HB.out | apply below_alloc | apply pw_below_drewN | apply below_drew1) | exact HB.out)) hb); clear HB; have HO115 := n0_; have HB := n1_; clear n0_ n1_; clear hb ho17) | ((with_reducible refine gate_builtin (b := .append) (xs := #[.tmp 21, .tmp 22]) rfl ?_); (try (refine gate_guard (by rfl) ?_; dsimp only)); at_builtin; refine Kd.R_append_rows (Kd.int .u8) (w0 := w) w.heap.size rfl (.tmp 21) (.tmp 22) 22 5 (.int .u8 0) 1 rfl Try.underlying22 info5 rfl (by decide) (by omega) v114 y113 l0 _ _ _ (fun _ => True) (fun _ => False) rfl rfl ?aO ?aR (fun _ _ h => h) (fun _ h => h.elim) ?aF ?aB ?aS ?aL ?_; (case aR => repeat (first | exact (Kd.C_below HR0.out HB.out) | (with_reducible refine Kd.C_alloc ?_ _) | (with_reducible refine Kd.C_drewN ?_ _) | (with_reducible refine Kd.C_drew ?_))); (case aB => exact (by repeat (first | (with_reducible first | exact HB.out | apply below_alloc | apply pw_below_drewN | apply below_drew1) | exact HB.out))); (case aF => exact (fun _ _ => trivial)); (case aO => exact (by (with_reducible repeat (first | apply Kd.R_alloc | apply Kd.R_drewN | apply Kd.R_drew)); exact HO115.out)); (case aS => exact (below_size (by repeat (first | (with_reducible first | exact HB.out | apply below_alloc | apply pw_below_drewN | apply below_drew1) | exact HB.out)))); (case aL => have := LMc10.out; omega); intro v117 w18 ho hb hg hat; rw [← Ny116.out] at ho; have n0_ := Aside0.mk (hb); have n1_ := Aside0.mk (ho); clear HB; clear HO115; have HB := n0_; have HO118 := n1_; clear n0_ n1_; clear ho hb hg hat) | ((with_reducible refine gate_callee (f := 8) rfl ?_); refine goesL_ (some 25) rfl rfl Try.func8 (by kernel_rfl) rfl #[.slice A0 l0.length c0] rfl (by (try simp only [List.map_toArray, List.map_cons, List.map_nil]); first | done | rfl | (simp only [List.length_drop, List.length_take]; rfl)) ?_; (with_reducible refine (crc_Sum.calls kj5 _ _ l0 t119 _ ?side1 ?side2 A11.out).mono ?_); (case side1 => repeat (first | exact (Kd.C_below HR0.out HB.out) | (with_reducible refine Kd.C_alloc ?_ _) | (with_reducible refine Kd.C_drewN ?_ _) | (with_reducible refine Kd.C_drew ?_))); (case side2 => exact HC0.out); rintro e w' ⟨rfl, ⟨nd, rfl⟩⟩; refine ⟨_, rfl, ?_⟩) | ((with_reducible refine gate_callee (f := 11) rfl ?_); refine goesL_ (some 26) rfl rfl Try.func11 (by kernel_rfl) rfl #[.int .u32 t119] rfl (by (try simp only [List.map_toArray, List.map_cons, List.map_nil]); first | done | rfl | (simp only [List.length_drop, List.length_take]; rfl)) ?_; (with_reducible refine (crc_Bytes.calls t119 t120 _ A12.out).mono ?_); rintro e w19 ⟨v121, rfl, ho0, hb⟩; refine ⟨_, rfl, ?_⟩; have n0_ := Aside0.mk (Kd.R_elder' (by (with_reducible repeat (first | apply Kd.R_alloc | apply Kd.R_drewN | apply Kd.R_drew)); exact HO118.out) (Kd.R_base ho0) hb); have n1_ := Aside0.mk (Kd.R_lower (Kd.R_new' ho0 (Kd.R_lt (by (with_reducible repeat (first | apply Kd.R_alloc | apply Kd.R_drewN | apply Kd.R_drew)); exact HO118.out))) (below_size (by repeat (first | (with_reducible first | exact HB.out | apply below_alloc | apply pw_below_drewN | apply below_drew1) | exact HB.out)))); have n2_ := Aside0.mk (below_step (by repeat (first | (with_reducible first | exact HB.out | apply below_alloc | apply pw_below_drewN | apply below_drew1) | exact HB.out)) hb); clear HO118; clear HB; have HO118 := n0_; have HO122 := n1_; have HB := n2_; clear n0_ n1_ n2_; (try clear hb); (try clear hb2); (try clear hk); (try clear hi); (try clear ho0); obtain ⟨Ao21, co21, eo21⟩ := Kd.R_slice HO122.out; subst eo21) | ((with_reducible refine gate_builtin (b := .append) (xs := #[.tmp 23, .tmp 26]) rfl ?_); (try (refine gate_guard (by rfl) ?_; dsimp only)); at_builtin; refine Kd.R_append_rows (Kd.int .u8) (w0 := w) w.heap.size rfl (.tmp 23) (.tmp 26) 22 5 (.int .u8 0) 1 rfl Try.underlying22 info5 rfl (by decide) (by omega) v117 y116 t120 _ _ _ (fun k_ => some k_ ≠ (.slice Ao21 t120.length co21 : Value).ownBlock) (fun _ => False) rfl rfl ?aO ?aR (fun _ _ h => h) (fun _ h => h.elim) ?aF ?aB ?aS ?aL ?_; (case aR => repeat (first | exact (Kd.R_reads' HO122.out).2.2 | (with_reducible refine Kd.C_alloc ?_ _) | (with_reducible refine Kd.C_drewN ?_ _) | (with_reducible refine Kd.C_drew ?_))); (case aB => exact (by repeat (first | (with_reducible first | exact HB.out | apply below_alloc | apply pw_below_drewN | apply below_drew1) | exact HB.out))); (case aF => exact (fun k_ hk => Kd.fresh' (Kd.R_lt (by (with_reducible repeat (first | apply Kd.R_alloc | apply Kd.R_drewN | apply Kd.R_drew)); exact HO122.out)) k_ hk)); (case aO => exact (by (with_reducible repeat (first | apply Kd.R_alloc | apply Kd.R_drewN | apply Kd.R_drew)); exact Kd.R_mono HO118.out (fun _ hk => hk.2))); (case aS => exact (below_size (by repeat (first | (with_reducible first | exact HB.out | apply below_alloc | apply pw_below_drewN | apply below_drew1) | exact HB.out)))); (case aL => have := LMc13.out; omega); intro v124 w20 ho hb hg hat; rw [← Ny123.out] at ho; have n0_ := Aside0.mk (Kd.R_after (ok := (fun _ => True)) (by (with_reducible repeat (first | apply Kd.R_alloc | apply Kd.R_drewN | apply Kd.R_drew)); exact HO122.out) hg hat); have n1_ := Aside0.mk (hb); have n2_ := Aside0.mk (ho); clear HO122; clear HB; clear HO118; have HO122 := n0_; have HB := n1_; have HO125 := n2_; clear n0_ n1_ n2_; clear ho hb hg hat; obtain ⟨Ao22, co22, eo22⟩ := Kd.R_slice HO125.out; subst eo22))
                  go_loopg [9] kj5 (fun kq v9 w' => ∃ (x7_2 : List Int) (x9_2 : Int), v9 = .int .i64 x9_2 ∧ Aside0 (strongboxlaw4_CrcBursts.l0 kq l0 a2 x7_2 (Int.tmod (wrap64 (a1)) (wrap64 ((wrap64 (8 * (y123.length : Int))) - 31))) x9_2 = some r) ∧ Aside0 (kq ≤ kj5) ∧ Aside0 (Kd.R (Kd.int .u8) 5 w' w.heap.size (fun _ => True) (.slice Ao22 y123.length co22) x7_2) ∧ Aside0 (Below w.heap.size w w'))
                  case atStart => exact ⟨(y123), (0), (by first | rfl | (simp; done) | (simp [*]; done)), H', ⟨Nat.le_refl _⟩, ⟨by (with_reducible repeat (first | apply Kd.R_alloc | apply Kd.R_drewN | apply Kd.R_drew)); exact Kd.R_mono HO125.out (fun _ hk => trivial)⟩, ⟨by repeat (first | (with_reducible first | exact HB.out | apply below_alloc | apply pw_below_drewN | apply below_drew1) | exact HB.out)⟩⟩
                  case round =>
                    clear H'
                    try clear c1
                    try clear p2
                    try clear c5
                    try clear c6
                    try clear p6
                    try clear c7
                    try clear c8
                    try clear c8b0
                    try clear c8b1
                    try clear c9
                    try clear c10
                    try clear c11
                    try clear c13
                    try clear c14
                    try clear c14b0
                    try clear c14b1
                    try clear c15
                    try clear c15b0
                    try clear c15b1
                    try clear p2
                    obtain ⟨x7_2, x9_2, rfl, HA, HK2, HO_7, HB⟩ := hrel
                    have hl7_2 := (Kd.R_reads' HO_7.out).1
                    rw [hl7_2] at HO_7
                    (try simp only [hl7_2])
                    cases gk with
                    | zero => exact absurd HA.out (by simp [strongboxlaw4_CrcBursts.l0])
                    | succ k2 =>
                      have H := HA.out
                      clear HA
                      simp only [strongboxlaw4_CrcBursts.l0] at H
                      by_cases c23 : x9_2 < 32
                      · rw [if_pos c23] at H
                        have c23b0 : decide (x9_2 < 32) = true := decide_eq_true c23
                        clear c23
                        obtain ⟨ji24, hji24⟩ : ∃ j_ : Int, (IntKind.u64.wrap (x9_2)) = j_ := ⟨_, rfl⟩
                        replace H : (if 0 ≤ (ji24) then (if (Go.bits .and .u32 (shr .u32 a2 (ji24)) 1) = 1 then (if 0 ≤ (wrap64 (Int.tdiv (wrap64 ((Int.tmod (wrap64 (a1)) (wrap64 ((wrap64 (8 * (y123.length : Int))) - 31))) + x9_2)) 8)) then (if (wrap64 (Int.tdiv (wrap64 ((Int.tmod (wrap64 (a1)) (wrap64 ((wrap64 (8 * (y123.length : Int))) - 31))) + x9_2)) 8)) < (x7_2.length : Int) then (if 0 ≤ (IntKind.u64.wrap (Int.tmod (wrap64 ((Int.tmod (wrap64 (a1)) (wrap64 ((wrap64 (8 * (y123.length : Int))) - 31))) + x9_2)) 8)) then (strongboxlaw4_CrcBursts.l0 k2 l0 a2 (x7_2.set ((wrap64 (Int.tdiv (wrap64 ((Int.tmod (wrap64 (a1)) (wrap64 ((wrap64 (8 * (y123.length : Int))) - 31))) + x9_2)) 8)) : Int).toNat (Go.bits .xor .u8 (rd x7_2 (wrap64 (Int.tdiv (wrap64 ((Int.tmod (wrap64 (a1)) (wrap64 ((wrap64 (8 * (y123.length : Int))) - 31))) + x9_2)) 8))) (shl .u8 1 (IntKind.u64.wrap (Int.tmod (wrap64 ((Int.tmod (wrap64 (a1)) (wrap64 ((wrap64 (8 * (y123.length : Int))) - 31))) + x9_2)) 8))))) (Int.tmod (wrap64 (a1)) (wrap64 ((wrap64 (8 * (y123.length : Int))) - 31))) (wrap64 (x9_2 + 1))) else (none)) else (none)) else (none)) else (strongboxlaw4_CrcBursts.l0 k2 l0 a2 x7_2 (Int.tmod (wrap64 (a1)) (wrap64 ((wrap64 (8 * (y123.length : Int))) - 31))) (wrap64 (x9_2 + 1)))) else (none)) = some r := by first | (rw [hji24] at H; exact H) | (simp only [hji24] at H ⊢; exact H)
                        (try (have hji24K := hji24; simp only [hl7_2] at hji24K))
                        (try (have hji24wK := hji24w; simp only [hl7_2] at hji24wK))
                        (try (have hji24_K := hji24_; simp only [hl7_2] at hji24_K))
                        (try (have hji24zK := hji24z; simp only [hl7_2] at hji24zK))
                        (try (have hji24uK := hji24u; simp only [hl7_2] at hji24uK))
                        (try (have hji24vK := hji24v; simp only [hl7_2] at hji24vK))
                        (try (have hji24yK := hji24y; simp only [hl7_2] at hji24yK))
                        (try (have hji24xK := hji24x; simp only [hl7_2] at hji24xK))
                        by_cases c25 : 0 ≤ (ji24)
                        · rw [if_pos c25] at H
                          have c25b0 := eq_true c25
                          have c25b1 : decide (0 ≤ (ji24)) = true := decide_eq_true c25
                          clear c25
                          obtain ⟨ji26, hji26⟩ : ∃ j_ : Int, (shr .u32 a2 (ji24)) = j_ := ⟨_, rfl⟩
                          replace H : (if (Go.bits .and .u32 (ji26) 1) = 1 then (if 0 ≤ (wrap64 (Int.tdiv (wrap64 ((Int.tmod (wrap64 (a1)) (wrap64 ((wrap64 (8 * (y123.length : Int))) - 31))) + x9_2)) 8)) then (if (wrap64 (Int.tdiv (wrap64 ((Int.tmod (wrap64 (a1)) (wrap64 ((wrap64 (8 * (y123.length : Int))) - 31))) + x9_2)) 8)) < (x7_2.length : Int) then (if 0 ≤ (IntKind.u64.wrap (Int.tmod (wrap64 ((Int.tmod (wrap64 (a1)) (wrap64 ((wrap64 (8 * (y123.length : Int))) - 31))) + x9_2)) 8)) then (strongboxlaw4_CrcBursts.l0 k2 l0 a2 (x7_2.set ((wrap64 (Int.tdiv (wrap64 ((Int.tmod (wrap64 (a1)) (wrap64 ((wrap64 (8 * (y123.length : Int))) - 31))) + x9_2)) 8)) : Int).toNat (Go.bits .xor .u8 (rd x7_2 (wrap64 (Int.tdiv (wrap64 ((Int.tmod (wrap64 (a1)) (wrap64 ((wrap64 (8 * (y123.length : Int))) - 31))) + x9_2)) 8))) (shl .u8 1 (IntKind.u64.wrap (Int.tmod (wrap64 ((Int.tmod (wrap64 (a1)) (wrap64 ((wrap64 (8 * (y123.length : Int))) - 31))) + x9_2)) 8))))) (Int.tmod (wrap64 (a1)) (wrap64 ((wrap64 (8 * (y123.length : Int))) - 31))) (wrap64 (x9_2 + 1))) else (none)) else (none)) else (none)) else (strongboxlaw4_CrcBursts.l0 k2 l0 a2 x7_2 (Int.tmod (wrap64 (a1)) (wrap64 ((wrap64 (8 * (y123.length : Int))) - 31))) (wrap64 (x9_2 + 1)))) = some r := by first | (rw [hji26] at H; exact H) | (simp only [hji26] at H ⊢; exact H)
                          have hji26_ : (a2 / 2 ^ min (ji24).toNat 32) = ji26 := hji26
                          have hji26z : (ji24) ≤ 32 → (a2 / 2 ^ (ji24).toNat) = ji26 := shr_small hji26
                          (try (have hji26K := hji26; simp only [hl7_2] at hji26K))
                          (try (have hji26wK := hji26w; simp only [hl7_2] at hji26wK))
                          (try (have hji26_K := hji26_; simp only [hl7_2] at hji26_K))
                          (try (have hji26zK := hji26z; simp only [hl7_2] at hji26zK))
                          (try (have hji26uK := hji26u; simp only [hl7_2] at hji26uK))
                          (try (have hji26vK := hji26v; simp only [hl7_2] at hji26vK))
                          (try (have hji26yK := hji26y; simp only [hl7_2] at hji26yK))
                          (try (have hji26xK := hji26x; simp only [hl7_2] at hji26xK))
                          by_cases c27 : (Go.bits .and .u32 (ji26) 1) = 1
                          · rw [if_pos c27] at H
                            have c27b0 : ((Go.bits .and .u32 (ji26) 1) == 1) = true := beq_iff_eq.mpr c27
                            have c27b1 : ((Go.bits .and .u32 (ji26) 1) != 1) = false := bne_eq_false_iff_eq.mpr c27
                            clear c27
                            obtain ⟨ji28, hji28⟩ : ∃ j_ : Int, (wrap64 (Int.tdiv (wrap64 ((Int.tmod (wrap64 (a1)) (wrap64 ((wrap64 (8 * (y123.length : Int))) - 31))) + x9_2)) 8)) = j_ := ⟨_, rfl⟩
                            replace H : (if 0 ≤ (ji28) then (if (ji28) < (x7_2.length : Int) then (if 0 ≤ (IntKind.u64.wrap (Int.tmod (wrap64 ((Int.tmod (wrap64 (a1)) (wrap64 ((wrap64 (8 * (y123.length : Int))) - 31))) + x9_2)) 8)) then (strongboxlaw4_CrcBursts.l0 k2 l0 a2 (x7_2.set ((ji28) : Int).toNat (Go.bits .xor .u8 (rd x7_2 (ji28)) (shl .u8 1 (IntKind.u64.wrap (Int.tmod (wrap64 ((Int.tmod (wrap64 (a1)) (wrap64 ((wrap64 (8 * (y123.length : Int))) - 31))) + x9_2)) 8))))) (Int.tmod (wrap64 (a1)) (wrap64 ((wrap64 (8 * (y123.length : Int))) - 31))) (wrap64 (x9_2 + 1))) else (none)) else (none)) else (none)) = some r := by first | (rw [hji28] at H; exact H) | (simp only [hji28] at H ⊢; exact H)
                            have hji28w : (IntKind.i64.wrap (Int.tdiv (wrap64 ((Int.tmod (wrap64 (a1)) (wrap64 ((wrap64 (8 * (y123.length : Int))) - 31))) + x9_2)) 8)) = ji28 := (i64_w _).trans hji28
                            (try (have hji28K := hji28; simp only [hl7_2] at hji28K))
                            (try (have hji28wK := hji28w; simp only [hl7_2] at hji28wK))
                            (try (have hji28_K := hji28_; simp only [hl7_2] at hji28_K))
                            (try (have hji28zK := hji28z; simp only [hl7_2] at hji28zK))
                            (try (have hji28uK := hji28u; simp only [hl7_2] at hji28uK))
                            (try (have hji28vK := hji28v; simp only [hl7_2] at hji28vK))
                            (try (have hji28yK := hji28y; simp only [hl7_2] at hji28yK))
                            (try (have hji28xK := hji28x; simp only [hl7_2] at hji28xK))
                            by_cases c29 : 0 ≤ (ji28)
                            · rw [if_pos c29] at H
                              have c29b0 : decide (0 ≤ (ji28)) = true := decide_eq_true c29
                              clear c29
                              by_cases c30 : (ji28) < (x7_2.length : Int)
                              · rw [if_pos c30] at H
                                have c30b0 : decide ((ji28) < (x7_2.length : Int)) = true := decide_eq_true c30
                                clear c30
                                obtain ⟨ji31, hji31⟩ : ∃ j_ : Int, (IntKind.u64.wrap (Int.tmod (wrap64 ((Int.tmod (wrap64 (a1)) (wrap64 ((wrap64 (8 * (y123.length : Int))) - 31))) + x9_2)) 8)) = j_ := ⟨_, rfl⟩
                                replace H : (if 0 ≤ (ji31) then (strongboxlaw4_CrcBursts.l0 k2 l0 a2 (x7_2.set ((ji28) : Int).toNat (Go.bits .xor .u8 (rd x7_2 (ji28)) (shl .u8 1 (ji31)))) (Int.tmod (wrap64 (a1)) (wrap64 ((wrap64 (8 * (y123.length : Int))) - 31))) (wrap64 (x9_2 + 1))) else (none)) = some r := by first | (rw [hji31] at H; exact H) | (simp only [hji31] at H ⊢; exact H)
                                (try (have hji31K := hji31; simp only [hl7_2] at hji31K))
                                (try (have hji31wK := hji31w; simp only [hl7_2] at hji31wK))
                                (try (have hji31_K := hji31_; simp only [hl7_2] at hji31_K))
                                (try (have hji31zK := hji31z; simp only [hl7_2] at hji31zK))
                                (try (have hji31uK := hji31u; simp only [hl7_2] at hji31uK))
                                (try (have hji31vK := hji31v; simp only [hl7_2] at hji31vK))
                                (try (have hji31yK := hji31y; simp only [hl7_2] at hji31yK))
                                (try (have hji31xK := hji31x; simp only [hl7_2] at hji31xK))
                                by_cases c32 : 0 ≤ (ji31)
                                · rw [if_pos c32] at H
                                  have c32b0 := eq_true c32
                                  have c32b1 : decide (0 ≤ (ji31)) = true := decide_eq_true c32
                                  clear c32
                                  obtain ⟨ji33, hji33⟩ : ∃ j_ : Int, (shl .u8 1 (ji31)) = j_ := ⟨_, rfl⟩
                                  replace H : (strongboxlaw4_CrcBursts.l0 k2 l0 a2 (x7_2.set ((ji28) : Int).toNat (Go.bits .xor .u8 (rd x7_2 (ji28)) (ji33))) (Int.tmod (wrap64 (a1)) (wrap64 ((wrap64 (8 * (y123.length : Int))) - 31))) (wrap64 (x9_2 + 1))) = some r := by first | (rw [hji33] at H; exact H) | (simp only [hji33] at H ⊢; exact H)
                                  have hji33_ : (IntKind.u8.wrap (1 * 2 ^ min (ji31).toNat 8)) = ji33 := hji33
                                  have hji33z : (ji31) ≤ 8 → (IntKind.u8.wrap (1 * 2 ^ (ji31).toNat)) = ji33 := shl_small hji33
                                  have hji33u : (IntKind.u8.wrap (2 ^ min (ji31).toNat 8)) = ji33 := by have h_ := hji33_; rw [Int.one_mul] at h_; exact h_
                                  have hji33v : (ji31) ≤ 8 → (IntKind.u8.wrap (2 ^ (ji31).toNat)) = ji33 := fun hle_ => by have h_ := hji33z hle_; rw [Int.one_mul] at h_; exact h_
                                  (try (have hji33K := hji33; simp only [hl7_2] at hji33K))
                                  (try (have hji33wK := hji33w; simp only [hl7_2] at hji33wK))
                                  (try (have hji33_K := hji33_; simp only [hl7_2] at hji33_K))
                                  (try (have hji33zK := hji33z; simp only [hl7_2] at hji33zK))
                                  (try (have hji33uK := hji33u; simp only [hl7_2] at hji33uK))
                                  (try (have hji33vK := hji33v; simp only [hl7_2] at hji33vK))
                                  (try (have hji33yK := hji33y; simp only [hl7_2] at hji33yK))
                                  (try (have hji33xK := hji33x; simp only [hl7_2] at hji33xK))
                                  obtain ⟨y127, hy127⟩ : ∃ y_ : List Int, y_ = (x7_2.set ((ji28) : Int).toNat (Go.bits .xor .u8 (rd x7_2 (ji28)) (ji33))) := ⟨_, rfl⟩
                                  replace H : (strongboxlaw4_CrcBursts.l0 k2 l0 a2 y127 (Int.tmod (wrap64 (a1)) (wrap64 ((wrap64 (8 * (y123.length : Int))) - 31))) (wrap64 (x9_2 + 1))) = some r := by first | (rw [hy127]; with_reducible exact H) | (have H2_ := (Option.bind_some _ _).symm.trans H; rw [hy127]; with_reducible exact H2_) | (have H2_ := (Option.bind_some _ _).symm.trans H; with_reducible exact H2_) | with_reducible exact H | (rw [hy127]; exact H) | exact H
                                  have Ny127 := Aside0.mk hy127
                                  clear hy127
                                  have H' := Aside0.mk H
                                  clear H
                                  have p126 : 0 ≤ ((ji28) : Int) := of_decide_eq_true (by first | (with_reducible assumption) | assumption)
                                  have q126 : (ji28) < (x7_2.length : Int) := of_decide_eq_true (by first | (with_reducible assumption) | assumption)
                                  obtain ⟨ad126, e126, hx126_0⟩ := Kd.at_int (Kd.R_reads' HO_7.out).2.2 (ji28) p126 q126
                                  cases e126
                                  replace p126 := eq_true p126
                                  replace q126 := eq_true q126
                                  have p34 : 0 ≤ ((ji28) : Int) := of_decide_eq_true (by first | (with_reducible assumption) | assumption)
                                  have q34 : ((ji28) : Int) < ((x7_2.length : Int) : Int) := of_decide_eq_true (by first | (with_reducible assumption) | assumption)
                                  obtain ⟨go34, co34, eo34, gb34, gl34, cl34, HG34⟩ := Kd.R_form HO_7.out (by omega)
                                  (first | cases eo34 | (injection eo34 with ea_ en_ ec_; (first | subst ea_ | (injection ea_ with ea_; subst ea_)); subst ec_; clear en_))
                                  have GB34 := Aside0.mk gb34
                                  have GG34 := Aside0.mk HG34
                                  clear gb34 gl34 HG34
                                  (first | simp only [add_plain] at hx126_0 | skip)
                                  obtain ⟨hx34_0, hf34_0⟩ := Kd.R_celln 0 HO_7.out ((ji28) : Int) p34 q34
                                  replace p34 := eq_true p34
                                  replace q34 := eq_true q34
                                  have HP35 := Kd.R_putg HO_7.out ((ji28) : Int) (Go.bits .xor .u8 (rd x7_2 (ji28)) (ji33))
                                  go_wp2_with (first | ((with_reducible refine gate_store (t := 5) (p := 65) rfl ?_); refine store_event (t := 5) (p := 65) (v := ?vo_w36) (w1 := (wr.setCell ⟨go34, ((ji28) : Int).toNat, none⟩ (.int .u8 (Go.bits .xor .u8 (rd x7_2 (ji28)) (ji33))))) ?hg ?ho ?hn ?hr ?_; (case ho => rfl); (case hg => rfl); (case hn => rfl); (case hr => first | (go_simp; done) | (go_simp; rfl)); intro w36 hw; have hg : wr.grownBy w36 (some go34) := (by rw [hw]; exact HP35.2); have hp_ : Kd.R (Kd.int .u8) 5 w36 w.heap.size (fun _ => True) (.slice (some ⟨go34, 0, none⟩) x7_2.length co22) y127 := (by rw [hw, Ny127.out]; exact HP35.1); clear HP35; have n0_ := Aside0.mk (hp_); have n1_ := Aside0.mk ((by rw [hw]; exact below_set (HB.out) GB34.out : Below w.heap.size w w36)); clear HO_7; clear HB; have HO_7 := n0_; have HB := n1_; clear n0_ n1_; clear hg hw hp_))
                                  (try simp only [← hl7_2])
                                  go_roundg k2
                                  case measure => have := HJ5.out; have := HK2.out; omega
                                  case rel => exact ⟨(y127), (wrap64 (x9_2 + 1)), (by first | rfl | (simp; done) | (simp [*]; done)), H', ⟨by have := HJ5.out; have := HK2.out; omega⟩, ⟨by (try simp only [hl7_2]); (with_reducible repeat (first | apply Kd.R_alloc | apply Kd.R_drewN | apply Kd.R_drew)); exact HO_7.out⟩, ⟨by repeat (first | (with_reducible first | exact HB.out | apply below_alloc | apply pw_below_drewN | apply below_drew1) | exact HB.out)⟩⟩
                                · rw [if_neg c32] at H
                                  exact absurd H (by simp)
                              · rw [if_neg c30] at H
                                exact absurd H (by simp)
                            · rw [if_neg c29] at H
                              exact absurd H (by simp)
                          · rw [if_neg c27] at H
                            have c27b0 : ((Go.bits .and .u32 (ji26) 1) == 1) = false := beq_eq_false_iff_ne.mpr c27
                            have c27b1 : ((Go.bits .and .u32 (ji26) 1) != 1) = true := bne_iff_ne.mpr c27
                            have H' := Aside0.mk H
                            clear H
                            go_wp2
                            (try simp only [← hl7_2])
                            go_roundg k2
                            case measure => have := HJ5.out; have := HK2.out; omega
                            case rel => exact ⟨(x7_2), (wrap64 (x9_2 + 1)), (by first | rfl | (simp; done) | (simp [*]; done)), H', ⟨by have := HJ5.out; have := HK2.out; omega⟩, ⟨by (try simp only [hl7_2]); (with_reducible repeat (first | apply Kd.R_alloc | apply Kd.R_drewN | apply Kd.R_drew)); exact HO_7.out⟩, ⟨by repeat (first | (with_reducible first | exact HB.out | apply below_alloc | apply pw_below_drewN | apply below_drew1) | exact HB.out)⟩⟩
                        · rw [if_neg c25] at H
                          exact absurd H (by simp)
                      · rw [if_neg c23] at H
                        have c23b0 : decide (x9_2 < 32) = false := decide_eq_false c23
                        clear c23
                        by_cases c37 : 0 ≤ (l0.length : Int)
                        · rw [if_pos c37] at H
                          have c37b0 := eq_true c37
                          have c37b1 : decide (0 ≤ (l0.length : Int)) = true := decide_eq_true c37
                          clear c37
                          by_cases c38 : (l0.length : Int) ≤ (x7_2.length : Int)
                          · rw [if_pos c38] at H
                            have c38b0 := eq_true c38
                            have c38b1 : decide ((l0.length : Int) ≤ (x7_2.length : Int)) = true := decide_eq_true c38
                            clear c38
                            obtain ⟨y128, hy128⟩ : ∃ y_ : List Int, y_ = (x7_2.drop ((l0.length : Int) : Int).toNat) := ⟨_, rfl⟩
                            replace H : ((crc_Read.f k2 y128).bind fun bt132 => (if bt132.2 = true then ((crc_Sum.f k2 (x7_2.take ((l0.length : Int) : Int).toNat)).bind fun t138 => (some (bt132.1 != t138))) else (some false))) = some r := by first | (rw [hy128]; with_reducible exact H) | (have H2_ := (Option.bind_some _ _).symm.trans H; rw [hy128]; with_reducible exact H2_) | (have H2_ := (Option.bind_some _ _).symm.trans H; with_reducible exact H2_) | with_reducible exact H | (rw [hy128]; exact H) | exact H
                            have Ny128 := Aside0.mk hy128
                            clear hy128
                            replace H := Option.bind_eq_some_iff.mp H
                            obtain ⟨⟨t132, t133⟩, A390, H⟩ := H
                            replace H : (if t133 = true then ((crc_Sum.f k2 (x7_2.take ((l0.length : Int) : Int).toNat)).bind fun t138 => (some (t132 != t138))) else (some false)) = some r := H
                            have A39 := Aside0.mk A390
                            clear A390
                            by_cases c40 : t133 = true
                            · subst c40
                              have H1 : ((crc_Sum.f k2 (x7_2.take ((l0.length : Int) : Int).toNat)).bind fun t138 => (some (t132 != t138))) = some r := by rw [if_pos rfl] at H; exact H
                              clear H
                              have H := H1
                              clear H1
                              have c41b0 := eq_true (of_decide_eq_true (by first | (with_reducible assumption) | assumption) : 0 ≤ (l0.length : Int))
                              have c42b0 := eq_true (of_decide_eq_true (by first | (with_reducible assumption) | assumption) : (l0.length : Int) ≤ (x7_2.length : Int))
                              obtain ⟨y134, hy134⟩ : ∃ y_ : List Int, y_ = (x7_2.take ((l0.length : Int) : Int).toNat) := ⟨_, rfl⟩
                              replace H : ((crc_Sum.f k2 y134).bind fun t138 => (some (t132 != t138))) = some r := by first | (rw [hy134]; with_reducible exact H) | (have H2_ := (Option.bind_some _ _).symm.trans H; rw [hy134]; with_reducible exact H2_) | (have H2_ := (Option.bind_some _ _).symm.trans H; with_reducible exact H2_) | with_reducible exact H | (rw [hy134]; exact H) | exact H
                              have Ny134 := Aside0.mk hy134
                              clear hy134
                              replace H := Option.bind_eq_some_iff.mp H
                              obtain ⟨t138, A430, H⟩ := H
                              replace H : (some (t132 != t138)) = some r := H
                              have A43 := Aside0.mk A430
                              clear A430
                              obtain rfl := Option.some.inj H
                              have q44 : ((l0.length : Int) : Int) ≤ ((x7_2.length : Int) : Int) := of_decide_eq_true (by first | (with_reducible assumption) | assumption)
                              obtain ⟨i044, hi044, _, hsz44, _⟩ := info_parts info5
                              have hroom44 : x7_2.length ≤ co22 := (Kd.R_reads' HO_7.out).2.1
                              have hC44 : Kd.C (Kd.int .u8) _ Ao22 x7_2.length x7_2 := (Kd.R_reads' HO_7.out).2.2
                              have q044 : (0 : Int) ≤ ((l0.length : Int) : Int) := of_decide_eq_true (by first | (with_reducible assumption) | assumption)
                              have hcut44 := cut_from (P := Try.prog) 22 5 .i64 Try.underlying22 hi044 1 hsz44 Ao22 x7_2.length co22 (l0.length : Int) q044 q44
                              have hr44 := Kd.C_drop (m := ((l0.length : Int) : Int).toNat) (c := co22) hC44 (by omega) hroom44
                              obtain ⟨A44, hA44⟩ : ∃ A1, A1 = (if co22 = ((l0.length : Int) : Int).toNat then Ao22 else (Ao22 : Option Addr).map (·.add (((l0.length : Int) : Int).toNat * 1))) := ⟨_, rfl⟩
                              obtain ⟨c44, hc44⟩ : ∃ c1, c1 = co22 - ((l0.length : Int) : Int).toNat := ⟨_, rfl⟩
                              have hy44 : y128.length = x7_2.length - ((l0.length : Int) : Int).toNat := (by rw [Ny128.out, List.length_drop] <;> omega)
                              rw [show (x7_2).drop ((l0.length : Int) : Int).toNat = y128 from Ny128.out.symm] at hr44
                              replace hr44 : Kd.C (Kd.int .u8) _ A44 y128.length y128 := (by rw [hA44]; exact hr44)
                              rw [← hy44, ← hA44, ← hc44] at hcut44
                              have HR131 := Aside0.mk hr44
                              have HC131 := Aside0.mk (show y128.length ≤ c44 from by rw [hy44, hc44]; exact Nat.sub_le_sub_right hroom44 _)
                              clear hr44 hC44 hroom44 hi044 hsz44 hc44
                              have KY44 := Aside0.mk hy44
                              have KA44 := Aside0.mk hA44
                              clear hy44 hA44
                              have KL44 := Aside0.mk (show ((l0.length : Int) : Int).toNat ≤ x7_2.length from by omega)
                              replace q44 := eq_true q44
                              go_wp2_with (first | ((with_reducible refine gate_callee (f := 10) rfl ?_); refine goesL_ (some 71) rfl rfl Try.func10 (by kernel_rfl) rfl #[.slice A44 y128.length c44] rfl (by (try simp only [List.map_toArray, List.map_cons, List.map_nil]); first | done | rfl | (simp only [List.length_drop, List.length_take]; rfl)) ?_; (with_reducible refine (crc_Read.calls k2 _ _ y128 t132 true _ ?side1 ?side2 A39.out).mono ?_); (case side1 => repeat (first | exact (by repeat (first | (with_reducible exact HR131.out) | (with_reducible refine Kd.C_alloc ?_ _) | (with_reducible refine Kd.C_drewN ?_ _) | (with_reducible refine Kd.C_drew ?_) | exact HR131.out)) | (with_reducible refine Kd.C_alloc ?_ _) | (with_reducible refine Kd.C_drewN ?_ _) | (with_reducible refine Kd.C_drew ?_))); (case side2 => exact HC131.out); rintro e w' ⟨rfl, ⟨nd, rfl⟩⟩; refine ⟨_, rfl, ?_⟩; have q45 : ((l0.length : Int) : Int) ≤ ((x7_2.length : Int) : Int) := of_decide_eq_true (by first | (with_reducible assumption) | assumption); obtain ⟨i045, hi045, _, hsz45, _⟩ := info_parts info5; have hroom45 : x7_2.length ≤ co22 := (Kd.R_reads' HO_7.out).2.1; have hC45 : Kd.C (Kd.int .u8) _ Ao22 x7_2.length x7_2 := (Kd.R_reads' HO_7.out).2.2; have hcut45 := cut_to (P := Try.prog) 22 5 .i64 Try.underlying22 hi045 Ao22 x7_2.length co22 (l0.length : Int) (of_decide_eq_true (by first | (with_reducible assumption) | assumption)) q45 hroom45; have hr45 := Kd.C_take (m := ((l0.length : Int) : Int).toNat) hC45 (by omega); have hy45 : y134.length = ((l0.length : Int) : Int).toNat := (by rw [Ny134.out, List.length_take]; omega); rw [← Ny134.out] at hr45; rw [← hy45] at hcut45; have HR137 := Aside0.mk hr45; have HC137 := Aside0.mk (show y134.length ≤ co22 from by omega); clear hr45 hC45 hroom45 hi045 hsz45; have KY45 := Aside0.mk hy45; clear hy45; have KL45 := Aside0.mk (show ((l0.length : Int) : Int).toNat ≤ x7_2.length from by omega); replace q45 := eq_true q45) | (go_at_call 8; (with_reducible refine (crc_Sum.calls k2 _ _ y134 t138 _ ?side1 ?side2 A43.out).mono ?_); (case side1 => repeat (first | exact (by repeat (first | (with_reducible exact HR137.out) | (with_reducible refine Kd.C_alloc ?_ _) | (with_reducible refine Kd.C_drewN ?_ _) | (with_reducible refine Kd.C_drew ?_) | exact HR137.out)) | (with_reducible refine Kd.C_alloc ?_ _) | (with_reducible refine Kd.C_drewN ?_ _) | (with_reducible refine Kd.C_drew ?_))); (case side2 => exact HC137.out); rintro e w' ⟨rfl, ⟨nd, rfl⟩⟩))
                              go_ret
                              exact ⟨by first | rfl | (simp [errW_none, errW_some] <;> rfl) | (simp [*, errW_none, errW_some] <;> rfl), by repeat (first | (with_reducible first | exact HB.out | apply below_alloc | apply pw_below_drewN | apply below_drew1) | exact HB.out)⟩
                            · replace c40 := Bool.eq_false_iff.mpr c40
                              subst c40
                              have H1 : (some false) = some r := by rw [if_neg (show ¬ (false = true) by decide)] at H; exact H
                              clear H
                              have H := H1
                              clear H1
                              obtain rfl := Option.some.inj H
                              have q46 : ((l0.length : Int) : Int) ≤ ((x7_2.length : Int) : Int) := of_decide_eq_true (by first | (with_reducible assumption) | assumption)
                              obtain ⟨i046, hi046, _, hsz46, _⟩ := info_parts info5
                              have hroom46 : x7_2.length ≤ co22 := (Kd.R_reads' HO_7.out).2.1
                              have hC46 : Kd.C (Kd.int .u8) _ Ao22 x7_2.length x7_2 := (Kd.R_reads' HO_7.out).2.2
                              have q046 : (0 : Int) ≤ ((l0.length : Int) : Int) := of_decide_eq_true (by first | (with_reducible assumption) | assumption)
                              have hcut46 := cut_from (P := Try.prog) 22 5 .i64 Try.underlying22 hi046 1 hsz46 Ao22 x7_2.length co22 (l0.length : Int) q046 q46
                              have hr46 := Kd.C_drop (m := ((l0.length : Int) : Int).toNat) (c := co22) hC46 (by omega) hroom46
                              obtain ⟨A46, hA46⟩ : ∃ A1, A1 = (if co22 = ((l0.length : Int) : Int).toNat then Ao22 else (Ao22 : Option Addr).map (·.add (((l0.length : Int) : Int).toNat * 1))) := ⟨_, rfl⟩
                              obtain ⟨c46, hc46⟩ : ∃ c1, c1 = co22 - ((l0.length : Int) : Int).toNat := ⟨_, rfl⟩
                              have hy46 : y128.length = x7_2.length - ((l0.length : Int) : Int).toNat := (by rw [Ny128.out, List.length_drop] <;> omega)
                              rw [show (x7_2).drop ((l0.length : Int) : Int).toNat = y128 from Ny128.out.symm] at hr46
                              replace hr46 : Kd.C (Kd.int .u8) _ A46 y128.length y128 := (by rw [hA46]; exact hr46)
                              rw [← hy46, ← hA46, ← hc46] at hcut46
                              have HR131 := Aside0.mk hr46
                              have HC131 := Aside0.mk (show y128.length ≤ c46 from by rw [hy46, hc46]; exact Nat.sub_le_sub_right hroom46 _)
                              clear hr46 hC46 hroom46 hi046 hsz46 hc46
                              have KY46 := Aside0.mk hy46
                              have KA46 := Aside0.mk hA46
                              clear hy46 hA46
                              have KL46 := Aside0.mk (show ((l0.length : Int) : Int).toNat ≤ x7_2.length from by omega)
                              replace q46 := eq_true q46
                              go_wp2_with (first | ((with_reducible refine gate_callee (f := 10) rfl ?_); refine goesL_ (some 71) rfl rfl Try.func10 (by kernel_rfl) rfl #[.slice A46 y128.length c46] rfl (by (try simp only [List.map_toArray, List.map_cons, List.map_nil]); first | done | rfl | (simp only [List.length_drop, List.length_take]; rfl)) ?_; (with_reducible refine (crc_Read.calls k2 _ _ y128 t132 false _ ?side1 ?side2 A39.out).mono ?_); (case side1 => repeat (first | exact (by repeat (first | (with_reducible exact HR131.out) | (with_reducible refine Kd.C_alloc ?_ _) | (with_reducible refine Kd.C_drewN ?_ _) | (with_reducible refine Kd.C_drew ?_) | exact HR131.out)) | (with_reducible refine Kd.C_alloc ?_ _) | (with_reducible refine Kd.C_drewN ?_ _) | (with_reducible refine Kd.C_drew ?_))); (case side2 => exact HC131.out); rintro e w' ⟨rfl, ⟨nd, rfl⟩⟩; refine ⟨_, rfl, ?_⟩))
                              go_ret
                              exact ⟨by first | rfl | (simp [errW_none, errW_some] <;> rfl) | (simp [*, errW_none, errW_some] <;> rfl), by repeat (first | (with_reducible first | exact HB.out | apply below_alloc | apply pw_below_drewN | apply below_drew1) | exact HB.out)⟩
                          · rw [if_neg c38] at H
                            exact absurd H (by simp)
                        · rw [if_neg c37] at H
                          exact absurd H (by simp)
              · rw [if_neg c14] at H
                have c14b0 : ((y123.length : Int) == (wrap64 ((l0.length : Int) + 4))) = false := beq_eq_false_iff_ne.mpr c14
                have c14b1 : ((y123.length : Int) != (wrap64 ((l0.length : Int) + 4))) = true := bne_iff_ne.mpr c14
                obtain rfl := Option.some.inj H
                go_wp2_with (first | ((with_reducible refine gate_dst (N := 21) rfl ?_); (try (refine gate_guard (by rfl) ?_; dsimp only)); refine Kd.R_lit (Kd.int .u8) _ 5 ?hg (N := 21) ?hd (xs := ([] : List Int)) (inner := []) (ok := fun _ => True) (okp := fun _ => True) ?hr ?hp (fun _ hk => hk) trivial (Below.refl _ _) (Nat.le_refl _) (by simp) ?_; (case hd => rfl); (case hg => rfl); (case hr => first | (go_simp; done) | (go_simp; rfl)); (case hp => exact (Reps.none _ _)); intro v114 w47 ho48 hb hg_ hnew_; clear hg_ hnew_; (first | rw [← Ny113.out] at ho48 | (simp only [Int.reduceToNat] at ho48; rw [← Ny113.out] at ho48)); have n0_ := Aside0.mk (Kd.R_lower ho48 (below_size (by repeat (first | (with_reducible first | exact HB.out | apply below_alloc | apply pw_below_drewN | apply below_drew1) | exact HB.out)))); have n1_ := Aside0.mk (below_step (by repeat (first | (with_reducible first | exact HB.out | apply below_alloc | apply pw_below_drewN | apply below_drew1) | exact HB.out)) hb); clear HB; have HO115 := n0_; have HB := n1_; clear n0_ n1_; clear hb ho48) | ((with_reducible refine gate_builtin (b := .append) (xs := #[.tmp 21, .tmp 22]) rfl ?_); (try (refine gate_guard (by rfl) ?_; dsimp only)); at_builtin; refine Kd.R_append_rows (Kd.int .u8) (w0 := w) w.heap.size rfl (.tmp 21) (.tmp 22) 22 5 (.int .u8 0) 1 rfl Try.underlying22 info5 rfl (by decide) (by omega) v114 y113 l0 _ _ _ (fun _ => True) (fun _ => False) rfl rfl ?aO ?aR (fun _ _ h => h) (fun _ h => h.elim) ?aF ?aB ?aS ?aL ?_; (case aR => repeat (first | exact (Kd.C_below HR0.out HB.out) | (with_reducible refine Kd.C_alloc ?_ _) | (with_reducible refine Kd.C_drewN ?_ _) | (with_reducible refine Kd.C_drew ?_))); (case aB => exact (by repeat (first | (with_reducible first | exact HB.out | apply below_alloc | apply pw_below_drewN | apply below_drew1) | exact HB.out))); (case aF => exact (fun _ _ => trivial)); (case aO => exact (by (with_reducible repeat (first | apply Kd.R_alloc | apply Kd.R_drewN | apply Kd.R_drew)); exact HO115.out)); (case aS => exact (below_size (by repeat (first | (with_reducible first | exact HB.out | apply below_alloc | apply pw_below_drewN | apply below_drew1) | exact HB.out)))); (case aL => have := LMc10.out; omega); intro v117 w49 ho hb hg hat; rw [← Ny116.out] at ho; have n0_ := Aside0.mk (hb); have n1_ := Aside0.mk (ho); clear HB; clear HO115; have HB := n0_; have HO118 := n1_; clear n0_ n1_; clear ho hb hg hat) | ((with_reducible refine gate_callee (f := 8) rfl ?_); refine goesL_ (some 25) rfl rfl Try.func8 (by kernel_rfl) rfl #[.slice A0 l0.length c0] rfl (by (try simp only [List.map_toArray, List.map_cons, List.map_nil]); first | done | rfl | (simp only [List.length_drop, List.length_take]; rfl)) ?_; (with_reducible refine (crc_Sum.calls kj5 _ _ l0 t119 _ ?side1 ?side2 A11.out).mono ?_); (case side1 => repeat (first | exact (Kd.C_below HR0.out HB.out) | (with_reducible refine Kd.C_alloc ?_ _) | (with_reducible refine Kd.C_drewN ?_ _) | (with_reducible refine Kd.C_drew ?_))); (case side2 => exact HC0.out); rintro e w' ⟨rfl, ⟨nd, rfl⟩⟩; refine ⟨_, rfl, ?_⟩) | ((with_reducible refine gate_callee (f := 11) rfl ?_); refine goesL_ (some 26) rfl rfl Try.func11 (by kernel_rfl) rfl #[.int .u32 t119] rfl (by (try simp only [List.map_toArray, List.map_cons, List.map_nil]); first | done | rfl | (simp only [List.length_drop, List.length_take]; rfl)) ?_; (with_reducible refine (crc_Bytes.calls t119 t120 _ A12.out).mono ?_); rintro e w50 ⟨v121, rfl, ho0, hb⟩; refine ⟨_, rfl, ?_⟩; have n0_ := Aside0.mk (Kd.R_elder' (by (with_reducible repeat (first | apply Kd.R_alloc | apply Kd.R_drewN | apply Kd.R_drew)); exact HO118.out) (Kd.R_base ho0) hb); have n1_ := Aside0.mk (Kd.R_lower (Kd.R_new' ho0 (Kd.R_lt (by (with_reducible repeat (first | apply Kd.R_alloc | apply Kd.R_drewN | apply Kd.R_drew)); exact HO118.out))) (below_size (by repeat (first | (with_reducible first | exact HB.out | apply below_alloc | apply pw_below_drewN | apply below_drew1) | exact HB.out)))); have n2_ := Aside0.mk (below_step (by repeat (first | (with_reducible first | exact HB.out | apply below_alloc | apply pw_below_drewN | apply below_drew1) | exact HB.out)) hb); clear HO118; clear HB; have HO118 := n0_; have HO122 := n1_; have HB := n2_; clear n0_ n1_ n2_; (try clear hb); (try clear hb2); (try clear hk); (try clear hi); (try clear ho0); obtain ⟨Ao52, co52, eo52⟩ := Kd.R_slice HO122.out; subst eo52) | ((with_reducible refine gate_builtin (b := .append) (xs := #[.tmp 23, .tmp 26]) rfl ?_); (try (refine gate_guard (by rfl) ?_; dsimp only)); at_builtin; refine Kd.R_append_rows (Kd.int .u8) (w0 := w) w.heap.size rfl (.tmp 23) (.tmp 26) 22 5 (.int .u8 0) 1 rfl Try.underlying22 info5 rfl (by decide) (by omega) v117 y116 t120 _ _ _ (fun k_ => some k_ ≠ (.slice Ao52 t120.length co52 : Value).ownBlock) (fun _ => False) rfl rfl ?aO ?aR (fun _ _ h => h) (fun _ h => h.elim) ?aF ?aB ?aS ?aL ?_; (case aR => repeat (first | exact (Kd.R_reads' HO122.out).2.2 | (with_reducible refine Kd.C_alloc ?_ _) | (with_reducible refine Kd.C_drewN ?_ _) | (with_reducible refine Kd.C_drew ?_))); (case aB => exact (by repeat (first | (with_reducible first | exact HB.out | apply below_alloc | apply pw_below_drewN | apply below_drew1) | exact HB.out))); (case aF => exact (fun k_ hk => Kd.fresh' (Kd.R_lt (by (with_reducible repeat (first | apply Kd.R_alloc | apply Kd.R_drewN | apply Kd.R_drew)); exact HO122.out)) k_ hk)); (case aO => exact (by (with_reducible repeat (first | apply Kd.R_alloc | apply Kd.R_drewN | apply Kd.R_drew)); exact Kd.R_mono HO118.out (fun _ hk => hk.2))); (case aS => exact (below_size (by repeat (first | (with_reducible first | exact HB.out | apply below_alloc | apply pw_below_drewN | apply below_drew1) | exact HB.out)))); (case aL => have := LMc13.out; omega); intro v124 w51 ho hb hg hat; rw [← Ny123.out] at ho; have n0_ := Aside0.mk (Kd.R_after (ok := (fun _ => True)) (by (with_reducible repeat (first | apply Kd.R_alloc | apply Kd.R_drewN | apply Kd.R_drew)); exact HO122.out) hg hat); have n1_ := Aside0.mk (hb); have n2_ := Aside0.mk (ho); clear HO122; clear HB; clear HO118; have HO122 := n0_; have HB := n1_; have HO125 := n2_; clear n0_ n1_ n2_; clear ho hb hg hat; obtain ⟨Ao53, co53, eo53⟩ := Kd.R_slice HO125.out; subst eo53))
                go_ret
                exact ⟨by first | rfl | (simp [errW_none, errW_some] <;> rfl) | (simp [*, errW_none, errW_some] <;> rfl), by repeat (first | (with_reducible first | exact HB.out | apply below_alloc | apply pw_below_drewN | apply below_drew1) | exact HB.out)⟩
            · rw [if_neg c13] at H
              exact absurd H (by simp)
          · rw [if_neg c10] at H
            exact absurd H (by simp)
  · replace c5 := Bool.eq_false_iff.mpr c5
    subst c5
    have H1 : (some false) = some r := by rw [if_neg (show ¬ (false = true) by decide)] at H; exact H
    clear H
    have H := H1
    clear H1
    obtain rfl := Option.some.inj H
    go_enter Try.func6, Try.ntmps6
    go_wp2_with (first | ((with_reducible refine gate_callee (f := 7) rfl ?_); refine goesL_ (some 12) rfl rfl Try.func7 (by kernel_rfl) rfl #[] rfl (by (try simp only [List.map_toArray, List.map_cons, List.map_nil]); first | done | rfl | (simp only [List.length_drop, List.length_take]; rfl)) ?_; (with_reducible refine (strongboxlaw4_awake.calls k  false _ A4.out).mono ?_); rintro e w54 ⟨rfl, hb⟩; refine ⟨_, rfl, ?_⟩; have n0_ := Aside0.mk (below_step (by repeat (first | (with_reducible first | exact HB.out | apply below_alloc | apply pw_below_drewN | apply below_drew1) | exact HB.out)) hb); clear HB; have HB := n0_; clear n0_; (try clear hb); (try clear hb2); (try clear hk); (try clear hi)))
    go_ret
    exact ⟨by first | rfl | (simp [errW_none, errW_some] <;> rfl) | (simp [*, errW_none, errW_some] <;> rfl), by repeat (first | (with_reducible first | exact HB.out | apply below_alloc | apply pw_below_drewN | apply below_drew1) | exact HB.out)⟩

/-- THE ONE PURE STATEMENT of strongboxlaw4_CrcBursts: yours. -/
def strongboxlaw4_CrcBursts.Pure : Prop := ∀ (l0 : List Int) (a1 : Int) (a2 : Int), l0.length ≤ maxLen → l0.length * 1 ≤ 140737488351232 → (∀ x ∈ l0, (Lit.int .u8 x).wf = true) → (Lit.int .u32 a1).wf = true → (Lit.int .u32 a2).wf = true → ∃ k, strongboxlaw4_CrcBursts.f k l0 a1 a2 = some true
theorem strongboxlaw4_CrcBursts.walk (P : strongboxlaw4_CrcBursts.Pure) (a0 : Option Addr) (len0 cap0 : Nat) (z0 : List Int) (a1 : Int) (a2 : Int) (w : World) (w0 : (a0 = none ∧ len0 = 0 ∧ cap0 = 0 ∧ z0 = []) ∨ ∃ x, a0 = some x ∧ len0 ≤ cap0 ∧ cap0 ≤ maxLen ∧ z0.length = cap0 ∧ (∀ i, i < z0.length → w.cell? (x.add i) = some (.int .u8 (z0.getD i 0))) ∧ ∀ n ∈ z0, (Lit.int .u8 n).wf = true) (y0 : len0 * 1 ≤ 140737488351232) (w1 : (Lit.int .u32 a1).wf = true) (w2 : (Lit.int .u32 a2).wf = true) :
    Calls Try.prog 6 #[.slice a0 len0 cap0, .int .u32 a1, .int .u32 a2] w fun e w' => e = .returned (.bool true) ∧ Below w.heap.size w w' := by
  obtain ⟨l0, rfl, hr0, hm0, hw0, hc0⟩ := ReadsInt.ofRowC w0
  obtain ⟨k, h⟩ := P l0 a1 a2 hm0 y0 hw0 w1 w2
  refine (strongboxlaw4_CrcBursts.calls k _ _ l0 a1 a2 true w (Kd.C_of_reads (d := (0 : Int)) (h1 := fun _ => rfl) hr0) hc0 h).mono ?_
  rintro e w' ⟨rfl, hd⟩
  exact ⟨rfl, hd⟩

end Go.Proofs.Ytjibdkbfjjeheaa.PCrcBursts
