/- WRITTEN FOR THIS CLAIM by a program of the prover's own (the kit's printing program, with constructs added): for each Go function that the statement reaches a Lean function with the same answers, and the proof of that. Not trusted: Lean checks it. -/
import Derived.Test.YtnlpipjdpmaggaaPJournalBurstsx0
import Derived.Test.YtnlpipjdpmaggaaPJournalBurstsx3
import Derived.Test.YtnlpipjdpmaggaaPJournalBurstsx4
import Derived.Test.YtnlpipjdpmaggaaPJournalBurstsx5
import Derived.Test.YtnlpipjdpmaggaaPJournalBurstsx7
import Derived.Test.YtnlpipjdpmaggaaPJournalBurstsx9
namespace Go.Proofs.Ytnlpipjdpmaggaa.PJournalBursts
open Go.RowKit Go.Proofs.YtnlpipjdpmaggaaW.PrintWords Go.Proofs.YtnlpipjdpmaggaaW.PrintLast Go.Proofs.YtnlpipjdpmaggaaW.PrintMore
attribute [local go_sem] max2_int min2_int max_two min_two max_three min_three max_four min_four   -- for this text's walks alone
set_option linter.unusedVariables false
set_option linter.unusedSimpArgs false

/-! ### strongboxlaw7_JournalBursts: function 9 -/
mutual
def strongboxlaw7_JournalBursts.j0 : Nat → Int → Int → Bool → Int → ByteArray → List (S72) → Option (Bool)
  | 0, _, _, _, _, _, _ => none
  | k + 1, x1, x2, x26, x218000, x218001, x218002 => if x26 = true then (some true) else ((strongboxlaw7_Journal.f x218000 x218001 x218002).bind fun bt221 => ((journal_Encode.f k bt221.1 bt221.2.1 bt221.2.2).bind fun bt226 => (if bt226.2 = 0 then (strongboxlaw7_JournalBursts.j1 k x1 x2 bt226.1 (decide ((bt226.1.length : Int) < 15))) else (strongboxlaw7_JournalBursts.j1 k x1 x2 bt226.1 true))))
def strongboxlaw7_JournalBursts.j1 : Nat → Int → Int → List Int → Bool → Option (Bool)
  | 0, _, _, _, _ => none
  | k + 1, x1, x2, x7, x39 => if x39 = true then (none) else (if (wrap64 ((wrap64 (8 * (x7.length : Int))) - 31)) = 0 then (none) else (strongboxlaw7_JournalBursts.l0 k x2 x7 (Int.tmod (wrap64 (x1)) (wrap64 ((wrap64 (8 * (x7.length : Int))) - 31))) 0))
def strongboxlaw7_JournalBursts.l0 : Nat → Int → List Int → Int → Int → Option (Bool)
  | 0, _, _, _, _ => none
  | k + 1, x2, x7, x9, x10 => if x10 < 32 then (if 0 ≤ (IntKind.u64.wrap (x10)) then (if (Go.bits .and .u32 (shr .u32 x2 (IntKind.u64.wrap (x10))) 1) = 1 then (if 0 ≤ (wrap64 (Int.tdiv (wrap64 (x9 + x10)) 8)) then (if (wrap64 (Int.tdiv (wrap64 (x9 + x10)) 8)) < (x7.length : Int) then (if 0 ≤ (IntKind.u64.wrap (Int.tmod (wrap64 (x9 + x10)) 8)) then (strongboxlaw7_JournalBursts.l0 k x2 (x7.set ((wrap64 (Int.tdiv (wrap64 (x9 + x10)) 8)) : Int).toNat (Go.bits .xor .u8 (rd x7 (wrap64 (Int.tdiv (wrap64 (x9 + x10)) 8))) (shl .u8 1 (IntKind.u64.wrap (Int.tmod (wrap64 (x9 + x10)) 8))))) x9 (wrap64 (x10 + 1))) else (none)) else (none)) else (none)) else (strongboxlaw7_JournalBursts.l0 k x2 x7 x9 (wrap64 (x10 + 1)))) else (none)) else ((journal_Decode.f k x7).bind fun bt232 => (if bt232.2.2.2 = 5 then (if bt232.1 = 0 then (if (bt232.2.2.1.length : Int) = 0 then (some (bt232.2.1.toList == ([] : List UInt8))) else (none)) else (none)) else (none)))
end
def strongboxlaw7_JournalBursts.f (k : Nat) (a0_0 : Int) (a0_1 : ByteArray) (l0_2 : List (S72)) (a1 : Int) (a2 : Int) : Option (Bool) := (strongboxlaw7_awake.f k).bind fun t218 => (if t218 = true then ((strongboxlaw7_Room.f a0_0 a0_1 l0_2).bind fun t219 => (if t219 = true then ((strongboxref4_May.f k a0_0 a0_1 l0_2).bind fun t220 => (if t220 = true then (strongboxlaw7_JournalBursts.j0 k a1 a2 (a2 == 0) a0_0 a0_1 l0_2) else (strongboxlaw7_JournalBursts.j0 k a1 a2 true a0_0 a0_1 l0_2))) else (strongboxlaw7_JournalBursts.j0 k a1 a2 true a0_0 a0_1 l0_2))) else (none))
theorem strongboxlaw7_JournalBursts.mono_l : ∀ k, (∀ y0 y1 y2 y3 y4 y5, LeO (strongboxlaw7_JournalBursts.j0 k y0 y1 y2 y3 y4 y5) (strongboxlaw7_JournalBursts.j0 (k + 1) y0 y1 y2 y3 y4 y5)) ∧ (∀ y0 y1 y2 y3, LeO (strongboxlaw7_JournalBursts.j1 k y0 y1 y2 y3) (strongboxlaw7_JournalBursts.j1 (k + 1) y0 y1 y2 y3)) ∧ (∀ y0 y1 y2 y3, LeO (strongboxlaw7_JournalBursts.l0 k y0 y1 y2 y3) (strongboxlaw7_JournalBursts.l0 (k + 1) y0 y1 y2 y3))
  | 0 => ⟨fun _ _ _ _ _ _ r h => by simp [strongboxlaw7_JournalBursts.j0] at h, fun _ _ _ _ r h => by simp [strongboxlaw7_JournalBursts.j1] at h, fun _ _ _ _ r h => by simp [strongboxlaw7_JournalBursts.l0] at h⟩
  | k + 1 => by
    obtain ⟨ih0, ih1, ih2⟩ := strongboxlaw7_JournalBursts.mono_l k
    refine ⟨?_, ?_, ?_⟩
    · intro y0 y1 y2 y3 y4 y5
      unfold strongboxlaw7_JournalBursts.j0
      repeat' first
      | (with_reducible exact ih0 _ _ _ _ _ _)
      | (with_reducible exact ih1 _ _ _ _)
      | (with_reducible exact ih2 _ _ _ _)
      | (with_reducible exact journal_Decode.mono _ _)
      | (with_reducible exact journal_Encode.mono _ _ _ _)
      | (with_reducible exact strongboxlaw7_awake.mono _)
      | (with_reducible exact strongboxref4_May.mono _ _ _ _)
      | (with_reducible exact LeO.refl _)
      | (with_reducible exact LeO.none _)
      | (with_reducible refine LeO.ite ?_ ?_)
      | (with_reducible refine LeO.bind ?_ (fun _ => ?_))
      | exact ih0 _ _ _ _ _ _
      | exact ih1 _ _ _ _
      | exact ih2 _ _ _ _
      | exact journal_Decode.mono _ _
      | exact journal_Encode.mono _ _ _ _
      | exact strongboxlaw7_awake.mono _
      | exact strongboxref4_May.mono _ _ _ _
      | exact LeO.none _
      | refine LeO.ite ?_ ?_
      | refine LeO.bind ?_ (fun _ => ?_)
    · intro y0 y1 y2 y3
      unfold strongboxlaw7_JournalBursts.j1
      repeat' first
      | (with_reducible exact ih0 _ _ _ _ _ _)
      | (with_reducible exact ih1 _ _ _ _)
      | (with_reducible exact ih2 _ _ _ _)
      | (with_reducible exact journal_Decode.mono _ _)
      | (with_reducible exact journal_Encode.mono _ _ _ _)
      | (with_reducible exact strongboxlaw7_awake.mono _)
      | (with_reducible exact strongboxref4_May.mono _ _ _ _)
      | (with_reducible exact LeO.refl _)
      | (with_reducible exact LeO.none _)
      | (with_reducible refine LeO.ite ?_ ?_)
      | (with_reducible refine LeO.bind ?_ (fun _ => ?_))
      | exact ih0 _ _ _ _ _ _
      | exact ih1 _ _ _ _
      | exact ih2 _ _ _ _
      | exact journal_Decode.mono _ _
      | exact journal_Encode.mono _ _ _ _
      | exact strongboxlaw7_awake.mono _
      | exact strongboxref4_May.mono _ _ _ _
      | exact LeO.none _
      | refine LeO.ite ?_ ?_
      | refine LeO.bind ?_ (fun _ => ?_)
    · intro y0 y1 y2 y3
      unfold strongboxlaw7_JournalBursts.l0
      repeat' first
      | (with_reducible exact ih0 _ _ _ _ _ _)
      | (with_reducible exact ih1 _ _ _ _)
      | (with_reducible exact ih2 _ _ _ _)
      | (with_reducible exact journal_Decode.mono _ _)
      | (with_reducible exact journal_Encode.mono _ _ _ _)
      | (with_reducible exact strongboxlaw7_awake.mono _)
      | (with_reducible exact strongboxref4_May.mono _ _ _ _)
      | (with_reducible exact LeO.refl _)
      | (with_reducible exact LeO.none _)
      | (with_reducible refine LeO.ite ?_ ?_)
      | (with_reducible refine LeO.bind ?_ (fun _ => ?_))
      | exact ih0 _ _ _ _ _ _
      | exact ih1 _ _ _ _
      | exact ih2 _ _ _ _
      | exact journal_Decode.mono _ _
      | exact journal_Encode.mono _ _ _ _
      | exact strongboxlaw7_awake.mono _
      | exact strongboxref4_May.mono _ _ _ _
      | exact LeO.none _
      | refine LeO.ite ?_ ?_
      | refine LeO.bind ?_ (fun _ => ?_)
theorem strongboxlaw7_JournalBursts.mono : ∀ a0 a1 a2 a3 a4 k, LeO (strongboxlaw7_JournalBursts.f k a0 a1 a2 a3 a4) (strongboxlaw7_JournalBursts.f (k + 1) a0 a1 a2 a3 a4) := by
  intro a0 a1 a2 a3 a4 k
  obtain ⟨ih0, ih1, ih2⟩ := strongboxlaw7_JournalBursts.mono_l k
  unfold strongboxlaw7_JournalBursts.f
  repeat' first
      | (with_reducible exact ih0 _ _ _ _ _ _)
      | (with_reducible exact ih1 _ _ _ _)
      | (with_reducible exact ih2 _ _ _ _)
      | (with_reducible exact journal_Decode.mono _ _)
      | (with_reducible exact journal_Encode.mono _ _ _ _)
      | (with_reducible exact strongboxlaw7_awake.mono _)
      | (with_reducible exact strongboxref4_May.mono _ _ _ _)
      | (with_reducible exact LeO.refl _)
      | (with_reducible exact LeO.none _)
      | (with_reducible refine LeO.ite ?_ ?_)
      | (with_reducible refine LeO.bind ?_ (fun _ => ?_))
      | exact ih0 _ _ _ _ _ _
      | exact ih1 _ _ _ _
      | exact ih2 _ _ _ _
      | exact journal_Decode.mono _ _
      | exact journal_Encode.mono _ _ _ _
      | exact strongboxlaw7_awake.mono _
      | exact strongboxref4_May.mono _ _ _ _
      | exact LeO.none _
      | refine LeO.ite ?_ ?_
      | refine LeO.bind ?_ (fun _ => ?_)
set_option maxHeartbeats 8000000 in
set_option maxRecDepth 100000 in
theorem strongboxlaw7_JournalBursts.calls (k : Nat) (a0_0 : Int) (a0_1 : ByteArray) (A0_2 : Option Addr) (c0_2 : Nat) (l0_2 : List (S72)) (a1 : Int) (a2 : Int) (r : Bool) (w : World) (hr0_2 : Kd.C k72 w A0_2 l0_2.length l0_2) (hc0_2 : l0_2.length ≤ c0_2) (h : strongboxlaw7_JournalBursts.f k a0_0 a0_1 l0_2 a1 a2 = some r) :
    Calls Try.prog 9 #[.agg #[.int .i64 a0_0, .string a0_1, .slice A0_2 l0_2.length c0_2], .int .u32 a1, .int .u32 a2] w fun e w' => e = .returned (.bool r) ∧ Below w.heap.size w w' := by
  have hu45 := Try.underlying45
  have hu48 := Try.underlying48
  have HR0_2 := Aside0.mk hr0_2
  have HC0_2 := Aside0.mk hc0_2
  clear hr0_2 hc0_2
  have HB := Aside0.mk (Below.refl w.heap.size w)
  have H : ((strongboxlaw7_awake.f k).bind fun t218 => (if t218 = true then ((strongboxlaw7_Room.f a0_0 a0_1 l0_2).bind fun t219 => (if t219 = true then ((strongboxref4_May.f k a0_0 a0_1 l0_2).bind fun t220 => (if t220 = true then (strongboxlaw7_JournalBursts.j0 k a1 a2 (a2 == 0) a0_0 a0_1 l0_2) else (strongboxlaw7_JournalBursts.j0 k a1 a2 true a0_0 a0_1 l0_2))) else (strongboxlaw7_JournalBursts.j0 k a1 a2 true a0_0 a0_1 l0_2))) else (none))) = some r := h
  clear h
  replace H := Option.bind_eq_some_iff.mp H
  obtain ⟨t218, A40, H⟩ := H
  replace H : (if t218 = true then ((strongboxlaw7_Room.f a0_0 a0_1 l0_2).bind fun t219 => (if t219 = true then ((strongboxref4_May.f k a0_0 a0_1 l0_2).bind fun t220 => (if t220 = true then (strongboxlaw7_JournalBursts.j0 k a1 a2 (a2 == 0) a0_0 a0_1 l0_2) else (strongboxlaw7_JournalBursts.j0 k a1 a2 true a0_0 a0_1 l0_2))) else (strongboxlaw7_JournalBursts.j0 k a1 a2 true a0_0 a0_1 l0_2))) else (none)) = some r := H
  have A4 := Aside0.mk A40
  clear A40
  by_cases c5 : t218 = true
  · subst c5
    have H1 : ((strongboxlaw7_Room.f a0_0 a0_1 l0_2).bind fun t219 => (if t219 = true then ((strongboxref4_May.f k a0_0 a0_1 l0_2).bind fun t220 => (if t220 = true then (strongboxlaw7_JournalBursts.j0 k a1 a2 (a2 == 0) a0_0 a0_1 l0_2) else (strongboxlaw7_JournalBursts.j0 k a1 a2 true a0_0 a0_1 l0_2))) else (strongboxlaw7_JournalBursts.j0 k a1 a2 true a0_0 a0_1 l0_2))) = some r := by rw [if_pos rfl] at H; exact H
    clear H
    have H := H1
    clear H1
    have HC6 := Aside0.mk H
    clear H
    go_enter Try.func9, Try.ntmps9
    go_upto_region 3 with (first | ((with_reducible refine gate_dst (N := 3) rfl ?_); (try (refine gate_guard (by rfl) ?_; dsimp only)); refine box_event ?hg (N := 3) ?hd (cs := #[.int .i64 a0_0, .string a0_1, .slice A0_2 l0_2.length c0_2]) (t := 45) ?hr ?_; (case hd => rfl); (case hg => rfl); (case hr => first | (go_simp; done) | (go_simp; rfl)); intro gb217 hg w7 hbox hb; have n0_ := Aside0.mk (below_step (by repeat (first | (with_reducible first | exact HB.out | apply below_alloc | apply pw_below_drewN | apply below_drew1) | exact HB.out)) hb); have n1_ := Aside0.mk (hbox); have n2_ := Aside0.mk ((by rw [hg]; exact (below_size (by repeat (first | (with_reducible first | exact HB.out | apply below_alloc | apply pw_below_drewN | apply below_drew1) | exact HB.out))) : w.heap.size ≤ gb217)); have n3_ := Aside0.mk ((by rw [hg]; exact (below_size (by repeat (first | (with_reducible first | exact HB.out | apply below_alloc | apply pw_below_drewN | apply below_drew1) | exact HB.out))) : w.heap.size ≤ gb217)); clear HB; have HB := n0_; have BK217 := n1_; have GW217 := n2_; have GE217 := n3_; clear n0_ n1_ n2_ n3_; clear hb hbox hg) | ((with_reducible refine gate_callee (f := 21) rfl ?_); refine goesL_ (some 13) rfl rfl Try.func21 (by kernel_rfl) rfl #[] rfl (by (try simp only [List.map_toArray, List.map_cons, List.map_nil]); first | done | rfl | (simp only [List.length_drop, List.length_take]; rfl)) ?_; (with_reducible refine (strongboxlaw7_awake.calls k  true _ A4.out).mono ?_); rintro e w8 ⟨rfl, hb⟩; refine ⟨_, rfl, ?_⟩; have n0_ := Aside0.mk (blk_below (g := gb217) (o := .cells #[.int .i64 a0_0, .string a0_1, .slice A0_2 l0_2.length c0_2] 45 (0, 0)) (by (with_reducible repeat (first | refine blk_drewN ?_ _ | refine blk_drew ?_ | refine blk_alloc ?_ _)); exact BK217.out) hb); have n1_ := Aside0.mk (below_step (by repeat (first | (with_reducible first | exact HB.out | apply below_alloc | apply pw_below_drewN | apply below_drew1 | refine below_set ?_ GE217.out) | exact HB.out)) hb); clear BK217; clear HB; have BK217 := n0_; have HB := n1_; clear n0_ n1_; (try clear hb); (try clear hb2); (try clear hk); (try clear hi)))
    (try simp only [Act.put, List.setIfInBounds_toArray, List.set_cons_zero, List.set_cons_succ])
    go_cut [26] (fun v26 wc => ∃ (kq : Nat) (x26_5 : Bool), v26 = .bool x26_5 ∧ Aside0 (strongboxlaw7_JournalBursts.j0 kq a1 a2 x26_5 a0_0 a0_1 l0_2 = some r) ∧ Aside0 (kq ≤ k) ∧ Aside0 (wc.heap[gb217]? = some (.cells #[.int .i64 a0_0, .string a0_1, (.slice A0_2 l0_2.length c0_2)] 45 (0, 0))) ∧ Aside0 (Below w.heap.size w wc))
    case first =>
      have H := HC6.out
      clear HC6
      replace H := Option.bind_eq_some_iff.mp H
      obtain ⟨t219, A90, H⟩ := H
      replace H : (if t219 = true then ((strongboxref4_May.f k a0_0 a0_1 l0_2).bind fun t220 => (if t220 = true then (strongboxlaw7_JournalBursts.j0 k a1 a2 (a2 == 0) a0_0 a0_1 l0_2) else (strongboxlaw7_JournalBursts.j0 k a1 a2 true a0_0 a0_1 l0_2))) else (strongboxlaw7_JournalBursts.j0 k a1 a2 true a0_0 a0_1 l0_2)) = some r := H
      have A9 := Aside0.mk A90
      clear A90
      by_cases c10 : t219 = true
      · subst c10
        have H1 : ((strongboxref4_May.f k a0_0 a0_1 l0_2).bind fun t220 => (if t220 = true then (strongboxlaw7_JournalBursts.j0 k a1 a2 (a2 == 0) a0_0 a0_1 l0_2) else (strongboxlaw7_JournalBursts.j0 k a1 a2 true a0_0 a0_1 l0_2))) = some r := by rw [if_pos rfl] at H; exact H
        clear H
        have H := H1
        clear H1
        replace H := Option.bind_eq_some_iff.mp H
        obtain ⟨t220, A110, H⟩ := H
        replace H : (if t220 = true then (strongboxlaw7_JournalBursts.j0 k a1 a2 (a2 == 0) a0_0 a0_1 l0_2) else (strongboxlaw7_JournalBursts.j0 k a1 a2 true a0_0 a0_1 l0_2)) = some r := H
        have A11 := Aside0.mk A110
        clear A110
        by_cases c12 : t220 = true
        · subst c12
          have H1 : (strongboxlaw7_JournalBursts.j0 k a1 a2 (a2 == 0) a0_0 a0_1 l0_2) = some r := by rw [if_pos rfl] at H; exact H
          clear H
          have H := H1
          clear H1
          have H' := Aside0.mk H
          clear H
          have hcz13_0 : w8.cell? ⟨gb217, 0, none⟩ = some (.int .i64 a0_0) := (blk_cell BK217.out 0).trans rfl
          have hcz13_1 : w8.cell? ⟨gb217, 1, none⟩ = some (.string a0_1) := (blk_cell BK217.out 1).trans rfl
          have hcz13_2 : w8.cell? ⟨gb217, 2, none⟩ = some (.slice A0_2 l0_2.length c0_2) := (blk_cell BK217.out 2).trans rfl
          have hfz13_0 := blk_frozen BK217.out 0
          have hfz13_1 := blk_frozen BK217.out 1
          have hfz13_2 := blk_frozen BK217.out 2
          go_wp2_with (first | ((with_reducible refine gate_callee (f := 22) rfl ?_); refine goesL_ (some 16) rfl rfl Try.func22 (by kernel_rfl) rfl #[.agg #[.int .i64 a0_0, .string a0_1, .slice A0_2 l0_2.length c0_2]] rfl (by (try simp only [List.map_toArray, List.map_cons, List.map_nil]); first | done | rfl | (simp only [List.length_drop, List.length_take]; rfl)) ?_; (with_reducible refine (strongboxlaw7_Room.calls a0_0 a0_1 _ _ l0_2 true _ ?side1 ?side2 A9.out).mono ?_); (case side1 => repeat (first | exact (Kd.C_below HR0_2.out HB.out) | (with_reducible refine Kd.C_alloc ?_ _) | (with_reducible refine Kd.C_drewN ?_ _) | (with_reducible refine Kd.C_drew ?_))); (case side2 => exact HC0_2.out); rintro e w14 ⟨rfl, hb⟩; refine ⟨_, rfl, ?_⟩; have n0_ := Aside0.mk (blk_below (g := gb217) (o := .cells #[.int .i64 a0_0, .string a0_1, .slice A0_2 l0_2.length c0_2] 45 (0, 0)) (by (with_reducible repeat (first | refine blk_drewN ?_ _ | refine blk_drew ?_ | refine blk_alloc ?_ _)); exact BK217.out) hb); have n1_ := Aside0.mk (below_step (by repeat (first | (with_reducible first | exact HB.out | apply below_alloc | apply pw_below_drewN | apply below_drew1 | refine below_set ?_ GE217.out) | exact HB.out)) hb); clear BK217; clear HB; have BK217 := n0_; have HB := n1_; clear n0_ n1_; (try clear hb); (try clear hb2); (try clear hk); (try clear hi); have hcz15_0 : w14.cell? ⟨gb217, 0, none⟩ = some (.int .i64 a0_0) := (blk_cell BK217.out 0).trans rfl; have hcz15_1 : w14.cell? ⟨gb217, 1, none⟩ = some (.string a0_1) := (blk_cell BK217.out 1).trans rfl; have hcz15_2 : w14.cell? ⟨gb217, 2, none⟩ = some (.slice A0_2 l0_2.length c0_2) := (blk_cell BK217.out 2).trans rfl; have hfz15_0 := blk_frozen BK217.out 0; have hfz15_1 := blk_frozen BK217.out 1; have hfz15_2 := blk_frozen BK217.out 2) | (go_at_call 27; (with_reducible refine (strongboxref4_May.calls k a0_0 a0_1 _ _ l0_2 true _ ?side1 ?side2 A11.out).mono ?_); (case side1 => repeat (first | exact (Kd.C_below HR0_2.out HB.out) | (with_reducible refine Kd.C_alloc ?_ _) | (with_reducible refine Kd.C_drewN ?_ _) | (with_reducible refine Kd.C_drew ?_))); (case side2 => exact HC0_2.out); rintro e w16 ⟨rfl, hb⟩; have n0_ := Aside0.mk (blk_below (g := gb217) (o := .cells #[.int .i64 a0_0, .string a0_1, .slice A0_2 l0_2.length c0_2] 45 (0, 0)) (by (with_reducible repeat (first | refine blk_drewN ?_ _ | refine blk_drew ?_ | refine blk_alloc ?_ _)); exact BK217.out) hb); have n1_ := Aside0.mk (below_step (by repeat (first | (with_reducible first | exact HB.out | apply below_alloc | apply pw_below_drewN | apply below_drew1 | refine below_set ?_ GE217.out) | exact HB.out)) hb); clear BK217; clear HB; have BK217 := n0_; have HB := n1_; clear n0_ n1_; (try clear hb); (try clear hb2); (try clear hk); (try clear hi)))
          go_meet
          case rel => exact ⟨_, ((a2 == 0)), (by first | rfl | (simp; done) | (simp [*]; done)), H', ⟨by first | omega | exact Nat.le_refl _⟩, ⟨by (with_reducible repeat (first | refine blk_drewN ?_ _ | refine blk_drew ?_ | refine blk_alloc ?_ _)); exact BK217.out⟩, ⟨by repeat (first | (with_reducible first | exact HB.out | apply below_alloc | apply pw_below_drewN | apply below_drew1 | refine below_set ?_ GE217.out) | exact HB.out)⟩⟩
        · replace c12 := Bool.eq_false_iff.mpr c12
          subst c12
          have H1 : (strongboxlaw7_JournalBursts.j0 k a1 a2 true a0_0 a0_1 l0_2) = some r := by rw [if_neg (show ¬ (false = true) by decide)] at H; exact H
          clear H
          have H := H1
          clear H1
          have H' := Aside0.mk H
          clear H
          have hcz17_0 : w8.cell? ⟨gb217, 0, none⟩ = some (.int .i64 a0_0) := (blk_cell BK217.out 0).trans rfl
          have hcz17_1 : w8.cell? ⟨gb217, 1, none⟩ = some (.string a0_1) := (blk_cell BK217.out 1).trans rfl
          have hcz17_2 : w8.cell? ⟨gb217, 2, none⟩ = some (.slice A0_2 l0_2.length c0_2) := (blk_cell BK217.out 2).trans rfl
          have hfz17_0 := blk_frozen BK217.out 0
          have hfz17_1 := blk_frozen BK217.out 1
          have hfz17_2 := blk_frozen BK217.out 2
          go_wp2_with (first | ((with_reducible refine gate_callee (f := 22) rfl ?_); refine goesL_ (some 16) rfl rfl Try.func22 (by kernel_rfl) rfl #[.agg #[.int .i64 a0_0, .string a0_1, .slice A0_2 l0_2.length c0_2]] rfl (by (try simp only [List.map_toArray, List.map_cons, List.map_nil]); first | done | rfl | (simp only [List.length_drop, List.length_take]; rfl)) ?_; (with_reducible refine (strongboxlaw7_Room.calls a0_0 a0_1 _ _ l0_2 true _ ?side1 ?side2 A9.out).mono ?_); (case side1 => repeat (first | exact (Kd.C_below HR0_2.out HB.out) | (with_reducible refine Kd.C_alloc ?_ _) | (with_reducible refine Kd.C_drewN ?_ _) | (with_reducible refine Kd.C_drew ?_))); (case side2 => exact HC0_2.out); rintro e w18 ⟨rfl, hb⟩; refine ⟨_, rfl, ?_⟩; have n0_ := Aside0.mk (blk_below (g := gb217) (o := .cells #[.int .i64 a0_0, .string a0_1, .slice A0_2 l0_2.length c0_2] 45 (0, 0)) (by (with_reducible repeat (first | refine blk_drewN ?_ _ | refine blk_drew ?_ | refine blk_alloc ?_ _)); exact BK217.out) hb); have n1_ := Aside0.mk (below_step (by repeat (first | (with_reducible first | exact HB.out | apply below_alloc | apply pw_below_drewN | apply below_drew1 | refine below_set ?_ GE217.out) | exact HB.out)) hb); clear BK217; clear HB; have BK217 := n0_; have HB := n1_; clear n0_ n1_; (try clear hb); (try clear hb2); (try clear hk); (try clear hi); have hcz19_0 : w18.cell? ⟨gb217, 0, none⟩ = some (.int .i64 a0_0) := (blk_cell BK217.out 0).trans rfl; have hcz19_1 : w18.cell? ⟨gb217, 1, none⟩ = some (.string a0_1) := (blk_cell BK217.out 1).trans rfl; have hcz19_2 : w18.cell? ⟨gb217, 2, none⟩ = some (.slice A0_2 l0_2.length c0_2) := (blk_cell BK217.out 2).trans rfl; have hfz19_0 := blk_frozen BK217.out 0; have hfz19_1 := blk_frozen BK217.out 1; have hfz19_2 := blk_frozen BK217.out 2) | (go_at_call 27; (with_reducible refine (strongboxref4_May.calls k a0_0 a0_1 _ _ l0_2 false _ ?side1 ?side2 A11.out).mono ?_); (case side1 => repeat (first | exact (Kd.C_below HR0_2.out HB.out) | (with_reducible refine Kd.C_alloc ?_ _) | (with_reducible refine Kd.C_drewN ?_ _) | (with_reducible refine Kd.C_drew ?_))); (case side2 => exact HC0_2.out); rintro e w20 ⟨rfl, hb⟩; have n0_ := Aside0.mk (blk_below (g := gb217) (o := .cells #[.int .i64 a0_0, .string a0_1, .slice A0_2 l0_2.length c0_2] 45 (0, 0)) (by (with_reducible repeat (first | refine blk_drewN ?_ _ | refine blk_drew ?_ | refine blk_alloc ?_ _)); exact BK217.out) hb); have n1_ := Aside0.mk (below_step (by repeat (first | (with_reducible first | exact HB.out | apply below_alloc | apply pw_below_drewN | apply below_drew1 | refine below_set ?_ GE217.out) | exact HB.out)) hb); clear BK217; clear HB; have BK217 := n0_; have HB := n1_; clear n0_ n1_; (try clear hb); (try clear hb2); (try clear hk); (try clear hi)))
          go_meet
          case rel => exact ⟨_, (true), (by first | rfl | (simp; done) | (simp [*]; done)), H', ⟨by first | omega | exact Nat.le_refl _⟩, ⟨by (with_reducible repeat (first | refine blk_drewN ?_ _ | refine blk_drew ?_ | refine blk_alloc ?_ _)); exact BK217.out⟩, ⟨by repeat (first | (with_reducible first | exact HB.out | apply below_alloc | apply pw_below_drewN | apply below_drew1 | refine below_set ?_ GE217.out) | exact HB.out)⟩⟩
      · replace c10 := Bool.eq_false_iff.mpr c10
        subst c10
        have H1 : (strongboxlaw7_JournalBursts.j0 k a1 a2 true a0_0 a0_1 l0_2) = some r := by rw [if_neg (show ¬ (false = true) by decide)] at H; exact H
        clear H
        have H := H1
        clear H1
        have H' := Aside0.mk H
        clear H
        have hcz21_0 : w8.cell? ⟨gb217, 0, none⟩ = some (.int .i64 a0_0) := (blk_cell BK217.out 0).trans rfl
        have hcz21_1 : w8.cell? ⟨gb217, 1, none⟩ = some (.string a0_1) := (blk_cell BK217.out 1).trans rfl
        have hcz21_2 : w8.cell? ⟨gb217, 2, none⟩ = some (.slice A0_2 l0_2.length c0_2) := (blk_cell BK217.out 2).trans rfl
        have hfz21_0 := blk_frozen BK217.out 0
        have hfz21_1 := blk_frozen BK217.out 1
        have hfz21_2 := blk_frozen BK217.out 2
        go_wp2_with (first | ((with_reducible refine gate_callee (f := 22) rfl ?_); refine goesL_ (some 16) rfl rfl Try.func22 (by kernel_rfl) rfl #[.agg #[.int .i64 a0_0, .string a0_1, .slice A0_2 l0_2.length c0_2]] rfl (by (try simp only [List.map_toArray, List.map_cons, List.map_nil]); first | done | rfl | (simp only [List.length_drop, List.length_take]; rfl)) ?_; (with_reducible refine (strongboxlaw7_Room.calls a0_0 a0_1 _ _ l0_2 false _ ?side1 ?side2 A9.out).mono ?_); (case side1 => repeat (first | exact (Kd.C_below HR0_2.out HB.out) | (with_reducible refine Kd.C_alloc ?_ _) | (with_reducible refine Kd.C_drewN ?_ _) | (with_reducible refine Kd.C_drew ?_))); (case side2 => exact HC0_2.out); rintro e w22 ⟨rfl, hb⟩; refine ⟨_, rfl, ?_⟩; have n0_ := Aside0.mk (blk_below (g := gb217) (o := .cells #[.int .i64 a0_0, .string a0_1, .slice A0_2 l0_2.length c0_2] 45 (0, 0)) (by (with_reducible repeat (first | refine blk_drewN ?_ _ | refine blk_drew ?_ | refine blk_alloc ?_ _)); exact BK217.out) hb); have n1_ := Aside0.mk (below_step (by repeat (first | (with_reducible first | exact HB.out | apply below_alloc | apply pw_below_drewN | apply below_drew1 | refine below_set ?_ GE217.out) | exact HB.out)) hb); clear BK217; clear HB; have BK217 := n0_; have HB := n1_; clear n0_ n1_; (try clear hb); (try clear hb2); (try clear hk); (try clear hi)))
        go_meet
        case rel => exact ⟨_, (true), (by first | rfl | (simp; done) | (simp [*]; done)), H', ⟨by first | omega | exact Nat.le_refl _⟩, ⟨by (with_reducible repeat (first | refine blk_drewN ?_ _ | refine blk_drew ?_ | refine blk_alloc ?_ _)); exact BK217.out⟩, ⟨by repeat (first | (with_reducible first | exact HB.out | apply below_alloc | apply pw_below_drewN | apply below_drew1 | refine below_set ?_ GE217.out) | exact HB.out)⟩⟩
    case rest =>
      clear HC6
      try clear c1
      try clear c2
      try clear p2
      try clear c5
      try clear c9
      try clear c10
      try clear c12
      try clear c21
      try clear c22
      try clear hcz13_0
      try clear hcz13_1
      try clear hcz13_2
      try clear hcz15_0
      try clear hcz15_1
      try clear hcz15_2
      try clear hcz17_0
      try clear hcz17_1
      try clear hcz17_2
      try clear hcz19_0
      try clear hcz19_1
      try clear hcz19_2
      try clear hcz21_0
      try clear hcz21_1
      try clear hcz21_2
      try clear hfz13_0
      try clear hfz13_1
      try clear hfz13_2
      try clear hfz15_0
      try clear hfz15_1
      try clear hfz15_2
      try clear hfz17_0
      try clear hfz17_1
      try clear hfz17_2
      try clear hfz19_0
      try clear hfz19_1
      try clear hfz19_2
      try clear hfz21_0
      try clear hfz21_1
      try clear hfz21_2
      obtain ⟨kq, x26_5, rfl, HA, HJ5, BK217, HB⟩ := hcut
      cases kq with
      | zero => exact absurd HA.out (by simp [strongboxlaw7_JournalBursts.j0])
      | succ kj5 =>
        have H := HA.out
        clear HA
        simp only [strongboxlaw7_JournalBursts.j0] at H
        by_cases c23 : x26_5 = true
        · subst c23
          have H1 : (some true) = some r := by rw [if_pos rfl] at H; exact H
          clear H
          have H := H1
          clear H1
          obtain rfl := Option.some.inj H
          go_wp2
          go_ret
          exact ⟨by first | rfl | (simp [errW_none, errW_some] <;> rfl) | (simp [*, errW_none, errW_some] <;> rfl), by repeat (first | (with_reducible first | exact HB.out | apply below_alloc | apply pw_below_drewN | apply below_drew1 | refine below_set ?_ GE217.out) | exact HB.out)⟩
        · replace c23 := Bool.eq_false_iff.mpr c23
          subst c23
          have H1 : ((strongboxlaw7_Journal.f a0_0 a0_1 l0_2).bind fun bt221 => ((journal_Encode.f kj5 bt221.1 bt221.2.1 bt221.2.2).bind fun bt226 => (if bt226.2 = 0 then (strongboxlaw7_JournalBursts.j1 kj5 a1 a2 bt226.1 (decide ((bt226.1.length : Int) < 15))) else (strongboxlaw7_JournalBursts.j1 kj5 a1 a2 bt226.1 true)))) = some r := by rw [if_neg (show ¬ (false = true) by decide)] at H; exact H
          clear H
          have H := H1
          clear H1
          replace H := Option.bind_eq_some_iff.mp H
          obtain ⟨⟨t221, t222, t223⟩, A240, H⟩ := H
          replace H : ((journal_Encode.f kj5 t221 t222 t223).bind fun bt226 => (if bt226.2 = 0 then (strongboxlaw7_JournalBursts.j1 kj5 a1 a2 bt226.1 (decide ((bt226.1.length : Int) < 15))) else (strongboxlaw7_JournalBursts.j1 kj5 a1 a2 bt226.1 true))) = some r := H
          have A24 := Aside0.mk A240
          clear A240
          replace H := Option.bind_eq_some_iff.mp H
          obtain ⟨⟨t226, t229⟩, A250, H⟩ := H
          replace H : (if t229 = 0 then (strongboxlaw7_JournalBursts.j1 kj5 a1 a2 t226 (decide ((t226.length : Int) < 15))) else (strongboxlaw7_JournalBursts.j1 kj5 a1 a2 t226 true)) = some r := H
          have A25 := Aside0.mk A250
          clear A250
          have HC26 := Aside0.mk H
          clear H
          have hcz27_0 : wc.cell? ⟨gb217, 0, none⟩ = some (.int .i64 a0_0) := (blk_cell BK217.out 0).trans rfl
          have hcz27_1 : wc.cell? ⟨gb217, 1, none⟩ = some (.string a0_1) := (blk_cell BK217.out 1).trans rfl
          have hcz27_2 : wc.cell? ⟨gb217, 2, none⟩ = some (.slice A0_2 l0_2.length c0_2) := (blk_cell BK217.out 2).trans rfl
          have hfz27_0 := blk_frozen BK217.out 0
          have hfz27_1 := blk_frozen BK217.out 1
          have hfz27_2 := blk_frozen BK217.out 2
          go_upto_region 6 with (first | ((with_reducible refine gate_callee (f := 24) rfl ?_); refine goesL_ (some 29) rfl rfl Try.func24 (by kernel_rfl) rfl #[.agg #[.int .i64 a0_0, .string a0_1, .slice A0_2 l0_2.length c0_2]] rfl (by (try simp only [List.map_toArray, List.map_cons, List.map_nil]); first | done | rfl | (simp only [List.length_drop, List.length_take]; rfl)) ?_; (with_reducible refine (strongboxlaw7_Journal.calls a0_0 a0_1 _ _ l0_2 t221 t222 t223 _ ?side1 ?side2 A24.out).mono ?_); (case side1 => repeat (first | exact (Kd.C_below HR0_2.out HB.out) | (with_reducible refine Kd.C_alloc ?_ _) | (with_reducible refine Kd.C_drewN ?_ _) | (with_reducible refine Kd.C_drew ?_))); (case side2 => exact HC0_2.out); rintro e w28 ⟨v224, rfl, ho0, hb⟩; refine ⟨_, rfl, ?_⟩; have n0_ := Aside0.mk (Kd.R_lower ho0 (below_size (by repeat (first | (with_reducible first | exact HB.out | apply below_alloc | apply pw_below_drewN | apply below_drew1 | refine below_set ?_ GE217.out) | exact HB.out)))); have n1_ := Aside0.mk (blk_below (g := gb217) (o := .cells #[.int .i64 a0_0, .string a0_1, .slice A0_2 l0_2.length c0_2] 45 (0, 0)) (by (with_reducible repeat (first | refine blk_drewN ?_ _ | refine blk_drew ?_ | refine blk_alloc ?_ _)); exact BK217.out) hb); have n2_ := Aside0.mk (below_step (by repeat (first | (with_reducible first | exact HB.out | apply below_alloc | apply pw_below_drewN | apply below_drew1 | refine below_set ?_ GE217.out) | exact HB.out)) hb); clear BK217; clear HB; have HO225 := n0_; have BK217 := n1_; have HB := n2_; clear n0_ n1_ n2_; (try clear hb); (try clear hb2); (try clear hk); (try clear hi); (try clear ho0); obtain ⟨Ao29, co29, eo29⟩ := Kd.R_slice HO225.out; subst eo29) | ((with_reducible refine gate_callee (f := 23) rfl ?_); refine goesL_ (some 30) rfl rfl Try.func23 (by kernel_rfl) rfl #[.agg #[.int .i64 t221, .string t222, .slice Ao29 t223.length co29]] rfl (by (try simp only [List.map_toArray, List.map_cons, List.map_nil]); first | done | rfl | (simp only [List.length_drop, List.length_take]; rfl)) ?_; (with_reducible refine (journal_Encode.calls kj5 t221 t222 _ _ t223 t226 t229 _ ?side1 ?side2 A25.out).mono ?_); (case side1 => repeat (first | exact (Kd.R_reads' HO225.out).2.2 | (with_reducible refine Kd.C_alloc ?_ _) | (with_reducible refine Kd.C_drewN ?_ _) | (with_reducible refine Kd.C_drew ?_))); (case side2 => exact (Kd.R_reads' HO225.out).2.1); rintro e w30 ⟨v227, rfl, ho0, hb⟩; refine ⟨_, rfl, ?_⟩; have n0_ := Aside0.mk (Kd.R_below (by (with_reducible repeat (first | apply Kd.R_alloc | apply Kd.R_drewN | apply Kd.R_drew)); exact HO225.out) hb); have n1_ := Aside0.mk (Kd.R_lower ho0 (below_size (by repeat (first | (with_reducible first | exact HB.out | apply below_alloc | apply pw_below_drewN | apply below_drew1 | refine below_set ?_ GE217.out) | exact HB.out)))); have n2_ := Aside0.mk (blk_below (g := gb217) (o := .cells #[.int .i64 a0_0, .string a0_1, .slice A0_2 l0_2.length c0_2] 45 (0, 0)) (by (with_reducible repeat (first | refine blk_drewN ?_ _ | refine blk_drew ?_ | refine blk_alloc ?_ _)); exact BK217.out) hb); have n3_ := Aside0.mk (below_step (by repeat (first | (with_reducible first | exact HB.out | apply below_alloc | apply pw_below_drewN | apply below_drew1 | refine below_set ?_ GE217.out) | exact HB.out)) hb); clear HO225; clear BK217; clear HB; have HO225 := n0_; have HO228 := n1_; have BK217 := n2_; have HB := n3_; clear n0_ n1_ n2_ n3_; (try clear hb); (try clear hb2); (try clear hk); (try clear hi); (try clear ho0)))
          (try simp only [Act.put, List.setIfInBounds_toArray, List.set_cons_zero, List.set_cons_succ])
          go_cut [39] (fun v39 wc => ∃ (kq : Nat) (x39_25 : Bool), v39 = .bool x39_25 ∧ Aside0 (strongboxlaw7_JournalBursts.j1 kq a1 a2 t226 x39_25 = some r) ∧ Aside0 (kq ≤ kj5) ∧ Aside0 (Kd.R (Kd.int .u8) 5 wc w.heap.size (fun _ => True) v227 t226) ∧ Aside0 (wc.heap[gb217]? = some (.cells #[.int .i64 a0_0, .string a0_1, (.slice A0_2 l0_2.length c0_2)] 45 (0, 0))) ∧ Aside0 (Below w.heap.size w wc))
          case first =>
            have H := HC26.out
            clear HC26
            by_cases c31 : t229 = 0
            · rw [if_pos c31] at H
              have c31b0 : (t229 == 0) = true := beq_iff_eq.mpr c31
              have c31b1 : (t229 != 0) = false := bne_eq_false_iff_eq.mpr c31
              clear c31
              (first | rw [c31b0] | (simp only [i64_w, i32_w]; rw [c31b0]) | skip)
              have H' := Aside0.mk H
              clear H
              obtain ⟨Ao32, co32, eo32⟩ := Kd.R_slice HO228.out
              subst eo32
              go_wp2
              go_meet
              case rel => exact ⟨_, (decide ((t226.length : Int) < 15)), (by first | rfl | (simp; done) | (simp [*]; done)), H', ⟨by have := HJ5.out; first | omega | exact Nat.le_refl _⟩, ⟨by (with_reducible repeat (first | apply Kd.R_alloc | apply Kd.R_drewN | apply Kd.R_drew)); exact HO228.out⟩, ⟨by (with_reducible repeat (first | refine blk_drewN ?_ _ | refine blk_drew ?_ | refine blk_alloc ?_ _)); exact BK217.out⟩, ⟨by repeat (first | (with_reducible first | exact HB.out | apply below_alloc | apply pw_below_drewN | apply below_drew1 | refine below_set ?_ GE217.out) | exact HB.out)⟩⟩
            · rw [if_neg c31] at H
              have c31b0 : (t229 == 0) = false := beq_eq_false_iff_ne.mpr c31
              have c31b1 : (t229 != 0) = true := bne_iff_ne.mpr c31
              (first | rw [c31b0] | (simp only [i64_w, i32_w]; rw [c31b0]) | skip)
              have H' := Aside0.mk H
              clear H
              go_wp2
              go_meet
              case rel => exact ⟨_, (true), (by first | rfl | (simp; done) | (simp [*]; done)), H', ⟨by have := HJ5.out; first | omega | exact Nat.le_refl _⟩, ⟨by (with_reducible repeat (first | apply Kd.R_alloc | apply Kd.R_drewN | apply Kd.R_drew)); exact HO228.out⟩, ⟨by (with_reducible repeat (first | refine blk_drewN ?_ _ | refine blk_drew ?_ | refine blk_alloc ?_ _)); exact BK217.out⟩, ⟨by repeat (first | (with_reducible first | exact HB.out | apply below_alloc | apply pw_below_drewN | apply below_drew1 | refine below_set ?_ GE217.out) | exact HB.out)⟩⟩
          case rest =>
            clear HC26
            try clear c1
            try clear c2
            try clear p2
            try clear c3
            try clear c5
            try clear c9
            try clear c10
            try clear c12
            try clear c21
            try clear c22
            try clear c23
            try clear c24
            try clear c31
            try clear c31b0
            try clear c31b1
            try clear hcz13_0
            try clear hcz13_1
            try clear hcz13_2
            try clear hcz15_0
            try clear hcz15_1
            try clear hcz15_2
            try clear hcz17_0
            try clear hcz17_1
            try clear hcz17_2
            try clear hcz19_0
            try clear hcz19_1
            try clear hcz19_2
            try clear hcz21_0
            try clear hcz21_1
            try clear hcz21_2
            try clear hcz27_0
            try clear hcz27_1
            try clear hcz27_2
            try clear hfz13_0
            try clear hfz13_1
            try clear hfz13_2
            try clear hfz15_0
            try clear hfz15_1
            try clear hfz15_2
            try clear hfz17_0
            try clear hfz17_1
            try clear hfz17_2
            try clear hfz19_0
            try clear hfz19_1
            try clear hfz19_2
            try clear hfz21_0
            try clear hfz21_1
            try clear hfz21_2
            try clear hfz27_0
            try clear hfz27_1
            try clear hfz27_2
            try clear p2
            obtain ⟨kq, x39_25, rfl, HA, HJ25, HO_7, BK217, HB⟩ := hcut
            cases kq with
            | zero => exact absurd HA.out (by simp [strongboxlaw7_JournalBursts.j1])
            | succ kj25 =>
              have H := HA.out
              clear HA
              simp only [strongboxlaw7_JournalBursts.j1] at H
              by_cases c33 : x39_25 = true
              · subst c33
                have H1 : (none) = some r := by rw [if_pos rfl] at H; exact H
                clear H
                have H := H1
                clear H1
                exact absurd H (by simp)
              · replace c33 := Bool.eq_false_iff.mpr c33
                subst c33
                have H1 : (if (wrap64 ((wrap64 (8 * (t226.length : Int))) - 31)) = 0 then (none) else (strongboxlaw7_JournalBursts.l0 kj25 a2 t226 (Int.tmod (wrap64 (a1)) (wrap64 ((wrap64 (8 * (t226.length : Int))) - 31))) 0)) = some r := by rw [if_neg (show ¬ (false = true) by decide)] at H; exact H
                clear H
                have H := H1
                clear H1
                by_cases c34 : (wrap64 ((wrap64 (8 * (t226.length : Int))) - 31)) = 0
                · rw [if_pos c34] at H
                  exact absurd H (by simp)
                · rw [if_neg c34] at H
                  have c34b0 : ((wrap64 ((wrap64 (8 * (t226.length : Int))) - 31)) == 0) = false := beq_eq_false_iff_ne.mpr c34
                  have c34b1 : ((wrap64 ((wrap64 (8 * (t226.length : Int))) - 31)) != 0) = true := bne_iff_ne.mpr c34
                  have H' := Aside0.mk H
                  clear H
                  obtain ⟨Ao35, co35, eo35⟩ := Kd.R_slice HO_7.out
                  subst eo35
                  go_wp2
                  go_loopg [10] kj25 (fun kq v10 w' => ∃ (x7_3 : List Int) (x10_3 : Int), v10 = .int .i64 x10_3 ∧ Aside0 (strongboxlaw7_JournalBursts.l0 kq a2 x7_3 (Int.tmod (wrap64 (a1)) (wrap64 ((wrap64 (8 * (t226.length : Int))) - 31))) x10_3 = some r) ∧ Aside0 (kq ≤ kj25) ∧ Aside0 (Kd.R (Kd.int .u8) 5 w' w.heap.size (fun _ => True) (.slice Ao35 t226.length co35) x7_3) ∧ Aside0 (w'.heap[gb217]? = some (.cells #[.int .i64 a0_0, .string a0_1, (.slice A0_2 l0_2.length c0_2)] 45 (0, 0))) ∧ Aside0 (Below w.heap.size w w'))
                  case atStart => exact ⟨(t226), (0), (by first | rfl | (simp; done) | (simp [*]; done)), H', ⟨Nat.le_refl _⟩, ⟨by (with_reducible repeat (first | apply Kd.R_alloc | apply Kd.R_drewN | apply Kd.R_drew)); exact HO_7.out⟩, ⟨by (with_reducible repeat (first | refine blk_drewN ?_ _ | refine blk_drew ?_ | refine blk_alloc ?_ _)); exact BK217.out⟩, ⟨by repeat (first | (with_reducible first | exact HB.out | apply below_alloc | apply pw_below_drewN | apply below_drew1 | refine below_set ?_ GE217.out) | exact HB.out)⟩⟩
                  case round =>
                    clear H'
                    try clear c1
                    try clear c2
                    try clear p2
                    try clear c3
                    try clear c5
                    try clear p6
                    try clear c9
                    try clear c10
                    try clear c12
                    try clear c21
                    try clear c22
                    try clear c23
                    try clear c24
                    try clear c31
                    try clear c31b0
                    try clear c31b1
                    try clear c33
                    try clear c34
                    try clear c34b0
                    try clear c34b1
                    try clear hcz13_0
                    try clear hcz13_1
                    try clear hcz13_2
                    try clear hcz15_0
                    try clear hcz15_1
                    try clear hcz15_2
                    try clear hcz17_0
                    try clear hcz17_1
                    try clear hcz17_2
                    try clear hcz19_0
                    try clear hcz19_1
                    try clear hcz19_2
                    try clear hcz21_0
                    try clear hcz21_1
                    try clear hcz21_2
                    try clear hcz27_0
                    try clear hcz27_1
                    try clear hcz27_2
                    try clear hfz13_0
                    try clear hfz13_1
                    try clear hfz13_2
                    try clear hfz15_0
                    try clear hfz15_1
                    try clear hfz15_2
                    try clear hfz17_0
                    try clear hfz17_1
                    try clear hfz17_2
                    try clear hfz19_0
                    try clear hfz19_1
                    try clear hfz19_2
                    try clear hfz21_0
                    try clear hfz21_1
                    try clear hfz21_2
                    try clear hfz27_0
                    try clear hfz27_1
                    try clear hfz27_2
                    try clear p2
                    obtain ⟨x7_3, x10_3, rfl, HA, HK3, HO_7, BK217, HB⟩ := hrel
                    have hl7_3 := (Kd.R_reads' HO_7.out).1
                    rw [hl7_3] at HO_7
                    (try simp only [hl7_3])
                    (try simp only [hl7_3] at BK217)
                    cases gk with
                    | zero => exact absurd HA.out (by simp [strongboxlaw7_JournalBursts.l0])
                    | succ k3 =>
                      have H := HA.out
                      clear HA
                      simp only [strongboxlaw7_JournalBursts.l0] at H
                      by_cases c36 : x10_3 < 32
                      · rw [if_pos c36] at H
                        have c36b0 : decide (x10_3 < 32) = true := decide_eq_true c36
                        clear c36
                        obtain ⟨ji37, hji37⟩ : ∃ j_ : Int, (IntKind.u64.wrap (x10_3)) = j_ := ⟨_, rfl⟩
                        replace H : (if 0 ≤ (ji37) then (if (Go.bits .and .u32 (shr .u32 a2 (ji37)) 1) = 1 then (if 0 ≤ (wrap64 (Int.tdiv (wrap64 ((Int.tmod (wrap64 (a1)) (wrap64 ((wrap64 (8 * (t226.length : Int))) - 31))) + x10_3)) 8)) then (if (wrap64 (Int.tdiv (wrap64 ((Int.tmod (wrap64 (a1)) (wrap64 ((wrap64 (8 * (t226.length : Int))) - 31))) + x10_3)) 8)) < (x7_3.length : Int) then (if 0 ≤ (IntKind.u64.wrap (Int.tmod (wrap64 ((Int.tmod (wrap64 (a1)) (wrap64 ((wrap64 (8 * (t226.length : Int))) - 31))) + x10_3)) 8)) then (strongboxlaw7_JournalBursts.l0 k3 a2 (x7_3.set ((wrap64 (Int.tdiv (wrap64 ((Int.tmod (wrap64 (a1)) (wrap64 ((wrap64 (8 * (t226.length : Int))) - 31))) + x10_3)) 8)) : Int).toNat (Go.bits .xor .u8 (rd x7_3 (wrap64 (Int.tdiv (wrap64 ((Int.tmod (wrap64 (a1)) (wrap64 ((wrap64 (8 * (t226.length : Int))) - 31))) + x10_3)) 8))) (shl .u8 1 (IntKind.u64.wrap (Int.tmod (wrap64 ((Int.tmod (wrap64 (a1)) (wrap64 ((wrap64 (8 * (t226.length : Int))) - 31))) + x10_3)) 8))))) (Int.tmod (wrap64 (a1)) (wrap64 ((wrap64 (8 * (t226.length : Int))) - 31))) (wrap64 (x10_3 + 1))) else (none)) else (none)) else (none)) else (strongboxlaw7_JournalBursts.l0 k3 a2 x7_3 (Int.tmod (wrap64 (a1)) (wrap64 ((wrap64 (8 * (t226.length : Int))) - 31))) (wrap64 (x10_3 + 1)))) else (none)) = some r := by first | (rw [hji37] at H; exact H) | (simp only [hji37] at H ⊢; exact H)
                        (try (have hji37K := hji37; simp only [hl7_3] at hji37K))
                        (try (have hji37wK := hji37w; simp only [hl7_3] at hji37wK))
                        (try (have hji37_K := hji37_; simp only [hl7_3] at hji37_K))
                        (try (have hji37zK := hji37z; simp only [hl7_3] at hji37zK))
                        (try (have hji37uK := hji37u; simp only [hl7_3] at hji37uK))
                        (try (have hji37vK := hji37v; simp only [hl7_3] at hji37vK))
                        (try (have hji37yK := hji37y; simp only [hl7_3] at hji37yK))
                        (try (have hji37xK := hji37x; simp only [hl7_3] at hji37xK))
                        by_cases c38 : 0 ≤ (ji37)
                        · rw [if_pos c38] at H
                          have c38b0 := eq_true c38
                          have c38b1 : decide (0 ≤ (ji37)) = true := decide_eq_true c38
                          clear c38
                          obtain ⟨ji39, hji39⟩ : ∃ j_ : Int, (shr .u32 a2 (ji37)) = j_ := ⟨_, rfl⟩
                          replace H : (if (Go.bits .and .u32 (ji39) 1) = 1 then (if 0 ≤ (wrap64 (Int.tdiv (wrap64 ((Int.tmod (wrap64 (a1)) (wrap64 ((wrap64 (8 * (t226.length : Int))) - 31))) + x10_3)) 8)) then (if (wrap64 (Int.tdiv (wrap64 ((Int.tmod (wrap64 (a1)) (wrap64 ((wrap64 (8 * (t226.length : Int))) - 31))) + x10_3)) 8)) < (x7_3.length : Int) then (if 0 ≤ (IntKind.u64.wrap (Int.tmod (wrap64 ((Int.tmod (wrap64 (a1)) (wrap64 ((wrap64 (8 * (t226.length : Int))) - 31))) + x10_3)) 8)) then (strongboxlaw7_JournalBursts.l0 k3 a2 (x7_3.set ((wrap64 (Int.tdiv (wrap64 ((Int.tmod (wrap64 (a1)) (wrap64 ((wrap64 (8 * (t226.length : Int))) - 31))) + x10_3)) 8)) : Int).toNat (Go.bits .xor .u8 (rd x7_3 (wrap64 (Int.tdiv (wrap64 ((Int.tmod (wrap64 (a1)) (wrap64 ((wrap64 (8 * (t226.length : Int))) - 31))) + x10_3)) 8))) (shl .u8 1 (IntKind.u64.wrap (Int.tmod (wrap64 ((Int.tmod (wrap64 (a1)) (wrap64 ((wrap64 (8 * (t226.length : Int))) - 31))) + x10_3)) 8))))) (Int.tmod (wrap64 (a1)) (wrap64 ((wrap64 (8 * (t226.length : Int))) - 31))) (wrap64 (x10_3 + 1))) else (none)) else (none)) else (none)) else (strongboxlaw7_JournalBursts.l0 k3 a2 x7_3 (Int.tmod (wrap64 (a1)) (wrap64 ((wrap64 (8 * (t226.length : Int))) - 31))) (wrap64 (x10_3 + 1)))) = some r := by first | (rw [hji39] at H; exact H) | (simp only [hji39] at H ⊢; exact H)
                          have hji39_ : (a2 / 2 ^ min (ji37).toNat 32) = ji39 := hji39
                          have hji39z : (ji37) ≤ 32 → (a2 / 2 ^ (ji37).toNat) = ji39 := shr_small hji39
                          (try (have hji39K := hji39; simp only [hl7_3] at hji39K))
                          (try (have hji39wK := hji39w; simp only [hl7_3] at hji39wK))
                          (try (have hji39_K := hji39_; simp only [hl7_3] at hji39_K))
                          (try (have hji39zK := hji39z; simp only [hl7_3] at hji39zK))
                          (try (have hji39uK := hji39u; simp only [hl7_3] at hji39uK))
                          (try (have hji39vK := hji39v; simp only [hl7_3] at hji39vK))
                          (try (have hji39yK := hji39y; simp only [hl7_3] at hji39yK))
                          (try (have hji39xK := hji39x; simp only [hl7_3] at hji39xK))
                          by_cases c40 : (Go.bits .and .u32 (ji39) 1) = 1
                          · rw [if_pos c40] at H
                            have c40b0 : ((Go.bits .and .u32 (ji39) 1) == 1) = true := beq_iff_eq.mpr c40
                            have c40b1 : ((Go.bits .and .u32 (ji39) 1) != 1) = false := bne_eq_false_iff_eq.mpr c40
                            clear c40
                            obtain ⟨ji41, hji41⟩ : ∃ j_ : Int, (wrap64 (Int.tdiv (wrap64 ((Int.tmod (wrap64 (a1)) (wrap64 ((wrap64 (8 * (t226.length : Int))) - 31))) + x10_3)) 8)) = j_ := ⟨_, rfl⟩
                            replace H : (if 0 ≤ (ji41) then (if (ji41) < (x7_3.length : Int) then (if 0 ≤ (IntKind.u64.wrap (Int.tmod (wrap64 ((Int.tmod (wrap64 (a1)) (wrap64 ((wrap64 (8 * (t226.length : Int))) - 31))) + x10_3)) 8)) then (strongboxlaw7_JournalBursts.l0 k3 a2 (x7_3.set ((ji41) : Int).toNat (Go.bits .xor .u8 (rd x7_3 (ji41)) (shl .u8 1 (IntKind.u64.wrap (Int.tmod (wrap64 ((Int.tmod (wrap64 (a1)) (wrap64 ((wrap64 (8 * (t226.length : Int))) - 31))) + x10_3)) 8))))) (Int.tmod (wrap64 (a1)) (wrap64 ((wrap64 (8 * (t226.length : Int))) - 31))) (wrap64 (x10_3 + 1))) else (none)) else (none)) else (none)) = some r := by first | (rw [hji41] at H; exact H) | (simp only [hji41] at H ⊢; exact H)
                            have hji41w : (IntKind.i64.wrap (Int.tdiv (wrap64 ((Int.tmod (wrap64 (a1)) (wrap64 ((wrap64 (8 * (t226.length : Int))) - 31))) + x10_3)) 8)) = ji41 := (i64_w _).trans hji41
                            (try (have hji41K := hji41; simp only [hl7_3] at hji41K))
                            (try (have hji41wK := hji41w; simp only [hl7_3] at hji41wK))
                            (try (have hji41_K := hji41_; simp only [hl7_3] at hji41_K))
                            (try (have hji41zK := hji41z; simp only [hl7_3] at hji41zK))
                            (try (have hji41uK := hji41u; simp only [hl7_3] at hji41uK))
                            (try (have hji41vK := hji41v; simp only [hl7_3] at hji41vK))
                            (try (have hji41yK := hji41y; simp only [hl7_3] at hji41yK))
                            (try (have hji41xK := hji41x; simp only [hl7_3] at hji41xK))
                            by_cases c42 : 0 ≤ (ji41)
                            · rw [if_pos c42] at H
                              have c42b0 : decide (0 ≤ (ji41)) = true := decide_eq_true c42
                              clear c42
                              by_cases c43 : (ji41) < (x7_3.length : Int)
                              · rw [if_pos c43] at H
                                have c43b0 : decide ((ji41) < (x7_3.length : Int)) = true := decide_eq_true c43
                                clear c43
                                obtain ⟨ji44, hji44⟩ : ∃ j_ : Int, (IntKind.u64.wrap (Int.tmod (wrap64 ((Int.tmod (wrap64 (a1)) (wrap64 ((wrap64 (8 * (t226.length : Int))) - 31))) + x10_3)) 8)) = j_ := ⟨_, rfl⟩
                                replace H : (if 0 ≤ (ji44) then (strongboxlaw7_JournalBursts.l0 k3 a2 (x7_3.set ((ji41) : Int).toNat (Go.bits .xor .u8 (rd x7_3 (ji41)) (shl .u8 1 (ji44)))) (Int.tmod (wrap64 (a1)) (wrap64 ((wrap64 (8 * (t226.length : Int))) - 31))) (wrap64 (x10_3 + 1))) else (none)) = some r := by first | (rw [hji44] at H; exact H) | (simp only [hji44] at H ⊢; exact H)
                                (try (have hji44K := hji44; simp only [hl7_3] at hji44K))
                                (try (have hji44wK := hji44w; simp only [hl7_3] at hji44wK))
                                (try (have hji44_K := hji44_; simp only [hl7_3] at hji44_K))
                                (try (have hji44zK := hji44z; simp only [hl7_3] at hji44zK))
                                (try (have hji44uK := hji44u; simp only [hl7_3] at hji44uK))
                                (try (have hji44vK := hji44v; simp only [hl7_3] at hji44vK))
                                (try (have hji44yK := hji44y; simp only [hl7_3] at hji44yK))
                                (try (have hji44xK := hji44x; simp only [hl7_3] at hji44xK))
                                by_cases c45 : 0 ≤ (ji44)
                                · rw [if_pos c45] at H
                                  have c45b0 := eq_true c45
                                  have c45b1 : decide (0 ≤ (ji44)) = true := decide_eq_true c45
                                  clear c45
                                  obtain ⟨ji46, hji46⟩ : ∃ j_ : Int, (shl .u8 1 (ji44)) = j_ := ⟨_, rfl⟩
                                  replace H : (strongboxlaw7_JournalBursts.l0 k3 a2 (x7_3.set ((ji41) : Int).toNat (Go.bits .xor .u8 (rd x7_3 (ji41)) (ji46))) (Int.tmod (wrap64 (a1)) (wrap64 ((wrap64 (8 * (t226.length : Int))) - 31))) (wrap64 (x10_3 + 1))) = some r := by first | (rw [hji46] at H; exact H) | (simp only [hji46] at H ⊢; exact H)
                                  have hji46_ : (IntKind.u8.wrap (1 * 2 ^ min (ji44).toNat 8)) = ji46 := hji46
                                  have hji46z : (ji44) ≤ 8 → (IntKind.u8.wrap (1 * 2 ^ (ji44).toNat)) = ji46 := shl_small hji46
                                  have hji46u : (IntKind.u8.wrap (2 ^ min (ji44).toNat 8)) = ji46 := by have h_ := hji46_; rw [Int.one_mul] at h_; exact h_
                                  have hji46v : (ji44) ≤ 8 → (IntKind.u8.wrap (2 ^ (ji44).toNat)) = ji46 := fun hle_ => by have h_ := hji46z hle_; rw [Int.one_mul] at h_; exact h_
                                  (try (have hji46K := hji46; simp only [hl7_3] at hji46K))
                                  (try (have hji46wK := hji46w; simp only [hl7_3] at hji46wK))
                                  (try (have hji46_K := hji46_; simp only [hl7_3] at hji46_K))
                                  (try (have hji46zK := hji46z; simp only [hl7_3] at hji46zK))
                                  (try (have hji46uK := hji46u; simp only [hl7_3] at hji46uK))
                                  (try (have hji46vK := hji46v; simp only [hl7_3] at hji46vK))
                                  (try (have hji46yK := hji46y; simp only [hl7_3] at hji46yK))
                                  (try (have hji46xK := hji46x; simp only [hl7_3] at hji46xK))
                                  obtain ⟨y231, hy231⟩ : ∃ y_ : List Int, y_ = (x7_3.set ((ji41) : Int).toNat (Go.bits .xor .u8 (rd x7_3 (ji41)) (ji46))) := ⟨_, rfl⟩
                                  replace H : (strongboxlaw7_JournalBursts.l0 k3 a2 y231 (Int.tmod (wrap64 (a1)) (wrap64 ((wrap64 (8 * (t226.length : Int))) - 31))) (wrap64 (x10_3 + 1))) = some r := by first | (rw [hy231]; with_reducible exact H) | (have H2_ := (Option.bind_some _ _).symm.trans H; rw [hy231]; with_reducible exact H2_) | (have H2_ := (Option.bind_some _ _).symm.trans H; with_reducible exact H2_) | with_reducible exact H | (rw [hy231]; exact H) | exact H
                                  have Ny231 := Aside0.mk hy231
                                  clear hy231
                                  have H' := Aside0.mk H
                                  clear H
                                  have p230 : 0 ≤ ((ji41) : Int) := of_decide_eq_true (by first | (with_reducible assumption) | assumption)
                                  have q230 : (ji41) < (x7_3.length : Int) := of_decide_eq_true (by first | (with_reducible assumption) | assumption)
                                  obtain ⟨ad230, e230, hx230_0⟩ := Kd.at_int (Kd.R_reads' HO_7.out).2.2 (ji41) p230 q230
                                  cases e230
                                  replace p230 := eq_true p230
                                  replace q230 := eq_true q230
                                  have p47 : 0 ≤ ((ji41) : Int) := of_decide_eq_true (by first | (with_reducible assumption) | assumption)
                                  have q47 : ((ji41) : Int) < ((x7_3.length : Int) : Int) := of_decide_eq_true (by first | (with_reducible assumption) | assumption)
                                  obtain ⟨go47, co47, eo47, gb47, gl47, cl47, HG47⟩ := Kd.R_form HO_7.out (by omega)
                                  (first | cases eo47 | (injection eo47 with ea_ en_ ec_; (first | subst ea_ | (injection ea_ with ea_; subst ea_)); subst ec_; clear en_))
                                  have GB47 := Aside0.mk gb47
                                  have GG47 := Aside0.mk HG47
                                  clear gb47 gl47 HG47
                                  (first | simp only [add_plain] at hx230_0 | skip)
                                  obtain ⟨hx47_0, hf47_0⟩ := Kd.R_celln 0 HO_7.out ((ji41) : Int) p47 q47
                                  replace p47 := eq_true p47
                                  replace q47 := eq_true q47
                                  have HP48 := Kd.R_putg HO_7.out ((ji41) : Int) (Go.bits .xor .u8 (rd x7_3 (ji41)) (ji46))
                                  go_wp2_with (first | ((with_reducible refine gate_store (t := 5) (p := 71) rfl ?_); refine store_event (t := 5) (p := 71) (v := ?vo_w49) (w1 := (wr.setCell ⟨go47, ((ji41) : Int).toNat, none⟩ (.int .u8 (Go.bits .xor .u8 (rd x7_3 (ji41)) (ji46))))) ?hg ?ho ?hn ?hr ?_; (case ho => rfl); (case hg => rfl); (case hn => rfl); (case hr => first | (go_simp; done) | (go_simp; rfl)); intro w49 hw; have hg : wr.grownBy w49 (some go47) := (by rw [hw]; exact HP48.2); have hp_ : Kd.R (Kd.int .u8) 5 w49 w.heap.size (fun _ => True) (.slice (some ⟨go47, 0, none⟩) x7_3.length co35) y231 := (by rw [hw, Ny231.out]; exact HP48.1); clear HP48; have n0_ := Aside0.mk (hp_); have n1_ := Aside0.mk (blk_grown (g := gb217) (o := .cells #[.int .i64 a0_0, .string a0_1, .slice A0_2 l0_2.length c0_2] 45 (0, 0)) (by (with_reducible repeat (first | refine blk_drewN ?_ _ | refine blk_drew ?_ | refine blk_alloc ?_ _)); exact BK217.out) hg (Kd.R_ne HO_7.out BK217.out (by decide))); have n2_ := Aside0.mk ((by rw [hw]; exact below_set (HB.out) GB47.out : Below w.heap.size w w49)); clear HO_7; clear BK217; clear HB; have HO_7 := n0_; have BK217 := n1_; have HB := n2_; clear n0_ n1_ n2_; clear hg hw hp_))
                                  (try simp only [← hl7_3])
                                  go_roundg k3
                                  case measure => have := HJ5.out; have := HJ25.out; have := HK3.out; omega
                                  case rel => exact ⟨(y231), (wrap64 (x10_3 + 1)), (by first | rfl | (simp; done) | (simp [*]; done)), H', ⟨by have := HJ5.out; have := HJ25.out; have := HK3.out; omega⟩, ⟨by (try simp only [hl7_3]); (with_reducible repeat (first | apply Kd.R_alloc | apply Kd.R_drewN | apply Kd.R_drew)); exact HO_7.out⟩, ⟨by (try simp only [hl7_3]); (with_reducible repeat (first | refine blk_drewN ?_ _ | refine blk_drew ?_ | refine blk_alloc ?_ _)); exact BK217.out⟩, ⟨by repeat (first | (with_reducible first | exact HB.out | apply below_alloc | apply pw_below_drewN | apply below_drew1 | refine below_set ?_ GE217.out) | exact HB.out)⟩⟩
                                · rw [if_neg c45] at H
                                  exact absurd H (by simp)
                              · rw [if_neg c43] at H
                                exact absurd H (by simp)
                            · rw [if_neg c42] at H
                              exact absurd H (by simp)
                          · rw [if_neg c40] at H
                            have c40b0 : ((Go.bits .and .u32 (ji39) 1) == 1) = false := beq_eq_false_iff_ne.mpr c40
                            have c40b1 : ((Go.bits .and .u32 (ji39) 1) != 1) = true := bne_iff_ne.mpr c40
                            have H' := Aside0.mk H
                            clear H
                            go_wp2
                            (try simp only [← hl7_3])
                            go_roundg k3
                            case measure => have := HJ5.out; have := HJ25.out; have := HK3.out; omega
                            case rel => exact ⟨(x7_3), (wrap64 (x10_3 + 1)), (by first | rfl | (simp; done) | (simp [*]; done)), H', ⟨by have := HJ5.out; have := HJ25.out; have := HK3.out; omega⟩, ⟨by (try simp only [hl7_3]); (with_reducible repeat (first | apply Kd.R_alloc | apply Kd.R_drewN | apply Kd.R_drew)); exact HO_7.out⟩, ⟨by (try simp only [hl7_3]); (with_reducible repeat (first | refine blk_drewN ?_ _ | refine blk_drew ?_ | refine blk_alloc ?_ _)); exact BK217.out⟩, ⟨by repeat (first | (with_reducible first | exact HB.out | apply below_alloc | apply pw_below_drewN | apply below_drew1 | refine below_set ?_ GE217.out) | exact HB.out)⟩⟩
                        · rw [if_neg c38] at H
                          exact absurd H (by simp)
                      · rw [if_neg c36] at H
                        have c36b0 : decide (x10_3 < 32) = false := decide_eq_false c36
                        clear c36
                        replace H := Option.bind_eq_some_iff.mp H
                        obtain ⟨⟨t232, t233, t234, t237⟩, A500, H⟩ := H
                        replace H : (if t237 = 5 then (if t232 = 0 then (if (t234.length : Int) = 0 then (some (t233.toList == ([] : List UInt8))) else (none)) else (none)) else (none)) = some r := H
                        have A50 := Aside0.mk A500
                        clear A500
                        by_cases c51 : t237 = 5
                        · rw [if_pos c51] at H
                          have c51b0 : (t237 == 5) = true := beq_iff_eq.mpr c51
                          have c51b1 : (t237 != 5) = false := bne_eq_false_iff_eq.mpr c51
                          clear c51
                          by_cases c52 : t232 = 0
                          · rw [if_pos c52] at H
                            have c52b0 : (t232 == 0) = true := beq_iff_eq.mpr c52
                            have c52b1 : (t232 != 0) = false := bne_eq_false_iff_eq.mpr c52
                            clear c52
                            by_cases c53 : (t234.length : Int) = 0
                            · rw [if_pos c53] at H
                              have c53b0 : ((t234.length : Int) == 0) = true := beq_iff_eq.mpr c53
                              have c53b1 : ((t234.length : Int) != 0) = false := bne_eq_false_iff_eq.mpr c53
                              clear c53
                              obtain rfl := Option.some.inj H
                              go_wp2_with (first | ((with_reducible refine gate_callee (f := 28) rfl ?_); refine goesL_ (some 74) rfl rfl Try.func28 (by kernel_rfl) rfl #[.slice Ao35 x7_3.length co35] rfl (by (try simp only [List.map_toArray, List.map_cons, List.map_nil]); first | done | rfl | (simp only [List.length_drop, List.length_take]; rfl)) ?_; (with_reducible refine (journal_Decode.calls k3 _ _ x7_3 t232 t233 t234 t237 _ ?side1 ?side2 A50.out).mono ?_); (case side1 => repeat (first | exact (Kd.R_reads' HO_7.out).2.2 | (with_reducible refine Kd.C_alloc ?_ _) | (with_reducible refine Kd.C_drewN ?_ _) | (with_reducible refine Kd.C_drew ?_))); (case side2 => exact (Kd.R_reads' HO_7.out).2.1); rintro e w54 ⟨v235, rfl, ho0, hb⟩; refine ⟨_, rfl, ?_⟩; have n0_ := Aside0.mk (Kd.R_below (by (with_reducible repeat (first | apply Kd.R_alloc | apply Kd.R_drewN | apply Kd.R_drew)); exact HO_7.out) hb); have n1_ := Aside0.mk (Kd.R_lower ho0 (below_size (by repeat (first | (with_reducible first | exact HB.out | apply below_alloc | apply pw_below_drewN | apply below_drew1 | refine below_set ?_ GE217.out) | exact HB.out)))); have n2_ := Aside0.mk (blk_below (g := gb217) (o := .cells #[.int .i64 a0_0, .string a0_1, .slice A0_2 l0_2.length c0_2] 45 (0, 0)) (by (with_reducible repeat (first | refine blk_drewN ?_ _ | refine blk_drew ?_ | refine blk_alloc ?_ _)); exact BK217.out) hb); have n3_ := Aside0.mk (below_step (by repeat (first | (with_reducible first | exact HB.out | apply below_alloc | apply pw_below_drewN | apply below_drew1 | refine below_set ?_ GE217.out) | exact HB.out)) hb); clear HO_7; clear BK217; clear HB; have HO_7 := n0_; have HO236 := n1_; have BK217 := n2_; have HB := n3_; clear n0_ n1_ n2_ n3_; (try clear hb); (try clear hb2); (try clear hk); (try clear hi); (try clear ho0)) | ((with_reducible refine gate_dst (N := 11) rfl ?_); (try (refine gate_guard (by rfl) ?_; dsimp only)); refine box_event ?hg (N := 11) ?hd (cs := #[.int .i64 0, .string (⟨#[]⟩ : ByteArray), .slice none 0 0]) (t := 48) ?hr ?_; (case hd => rfl); (case hg => rfl); (case hr => first | (go_simp; done) | (go_simp; rfl)); intro gb238 hg w55 hbox hb; have n0_ := Aside0.mk (Kd.R_below (by (with_reducible repeat (first | apply Kd.R_alloc | apply Kd.R_drewN | apply Kd.R_drew)); exact HO_7.out) hb); have n1_ := Aside0.mk (Kd.R_below (by (with_reducible repeat (first | apply Kd.R_alloc | apply Kd.R_drewN | apply Kd.R_drew)); exact HO236.out) hb); have n2_ := Aside0.mk (blk_below (g := gb217) (o := .cells #[.int .i64 a0_0, .string a0_1, .slice A0_2 l0_2.length c0_2] 45 (0, 0)) (by (with_reducible repeat (first | refine blk_drewN ?_ _ | refine blk_drew ?_ | refine blk_alloc ?_ _)); exact BK217.out) hb); have n3_ := Aside0.mk (below_step (by repeat (first | (with_reducible first | exact HB.out | apply below_alloc | apply pw_below_drewN | apply below_drew1 | refine below_set ?_ GE217.out) | exact HB.out)) hb); have n4_ := Aside0.mk (hbox); have n5_ := Aside0.mk ((by rw [hg]; exact (below_size (by repeat (first | (with_reducible first | exact HB.out | apply below_alloc | apply pw_below_drewN | apply below_drew1 | refine below_set ?_ GE217.out) | exact HB.out))) : w.heap.size ≤ gb238)); have n6_ := Aside0.mk ((by rw [hg]; exact (below_size (by repeat (first | (with_reducible first | exact HB.out | apply below_alloc | apply pw_below_drewN | apply below_drew1 | refine below_set ?_ GE217.out) | exact HB.out))) : w.heap.size ≤ gb238)); have n7_ := Aside0.mk ((by rw [hg]; exact Nat.ne_of_lt (blk_lt (g := gb217) (o := .cells #[.int .i64 a0_0, .string a0_1, .slice A0_2 l0_2.length c0_2] 45 (0, 0)) (by (with_reducible repeat (first | refine blk_drewN ?_ _ | refine blk_drew ?_ | refine blk_alloc ?_ _)); exact BK217.out)) : gb217 ≠ gb238)); have n8_ := Aside0.mk ((by rw [hg]; exact Nat.ne_of_gt (blk_lt (g := gb217) (o := .cells #[.int .i64 a0_0, .string a0_1, .slice A0_2 l0_2.length c0_2] 45 (0, 0)) (by (with_reducible repeat (first | refine blk_drewN ?_ _ | refine blk_drew ?_ | refine blk_alloc ?_ _)); exact BK217.out)) : gb238 ≠ gb217)); clear HO_7; clear HO236; clear BK217; clear HB; have HO_7 := n0_; have HO236 := n1_; have BK217 := n2_; have HB := n3_; have BK238 := n4_; have GW238 := n5_; have GE238 := n6_; have NB217_238 := n7_; have NB238_217 := n8_; clear n0_ n1_ n2_ n3_ n4_ n5_ n6_ n7_ n8_; clear hb hbox hg; have hnb56 := NB238_217.out; have hnc56 := NB217_238.out; have hcz57_0 : w55.cell? ⟨gb238, 0, none⟩ = some (.int .i64 0) := (blk_cell BK238.out 0).trans rfl; have hcz57_1 : w55.cell? ⟨gb238, 1, none⟩ = some (.string (⟨#[]⟩ : ByteArray)) := (blk_cell BK238.out 1).trans rfl; have hcz57_2 : w55.cell? ⟨gb238, 2, none⟩ = some (.slice none 0 0) := (blk_cell BK238.out 2).trans rfl; have hfz57_0 := blk_frozen BK238.out 0; have hfz57_1 := blk_frozen BK238.out 1; have hfz57_2 := blk_frozen BK238.out 2; obtain ⟨Ao58, co58, eo58⟩ := Kd.R_slice HO236.out; subst eo58))
                              go_ret
                              exact ⟨by first | rfl | (simp [errW_none, errW_some] <;> rfl) | (simp [*, errW_none, errW_some] <;> rfl), by repeat (first | (with_reducible first | exact HB.out | apply below_alloc | apply pw_below_drewN | apply below_drew1 | refine below_set ?_ GE217.out | refine below_set ?_ GE238.out) | exact HB.out)⟩
                            · rw [if_neg c53] at H
                              exact absurd H (by simp)
                          · rw [if_neg c52] at H
                            exact absurd H (by simp)
                        · rw [if_neg c51] at H
                          exact absurd H (by simp)
  · replace c5 := Bool.eq_false_iff.mpr c5
    subst c5
    have H1 : (none) = some r := by rw [if_neg (show ¬ (false = true) by decide)] at H; exact H
    clear H
    have H := H1
    clear H1
    exact absurd H (by simp)

end Go.Proofs.Ytnlpipjdpmaggaa.PJournalBursts
