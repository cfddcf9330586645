/- WRITTEN FOR THIS CLAIM by a program of the prover's own (the kit's printing program, with constructs added): for each Go function that the statement reaches a Lean function with the same answers, and the proof of that. Not trusted: Lean checks it. -/
import Derived.Test.YtnlpipjdpmaggaaPJournalReadsx0
import Derived.Test.YtnlpipjdpmaggaaPJournalReadsx2
import Derived.Test.YtnlpipjdpmaggaaPJournalReadsx4
import Derived.Test.YtnlpipjdpmaggaaPJournalReadsx5
namespace Go.Proofs.Ytnlpipjdpmaggaa.PJournalReads
open Go.RowKit Go.Proofs.YtnlpipjdpmaggaaW.PrintWords Go.Proofs.YtnlpipjdpmaggaaW.PrintLast Go.Proofs.YtnlpipjdpmaggaaW.PrintMore
attribute [local go_sem] max2_int min2_int max_two min_two max_three min_three max_four min_four   -- for this text's walks alone
set_option linter.unusedVariables false
set_option linter.unusedSimpArgs false

/-! ### journal_Decode: function 28 -/
def journal_Decode.j0 : Nat → List Int → Int → Bool → Option (Int × ByteArray × (List (S72)) × Int)
  | 0, _, _, _ => none
  | k + 1, x0, x7, x66 => if x66 = true then (some (0, (⟨#[]⟩ : ByteArray), ([] : List (S72)), 4)) else (if 0 ≤ (wrap64 (x7 + 1)) then (if (wrap64 (x7 + 1)) ≤ (x0.length : Int) then ((journal_versions.f k (x0.drop ((wrap64 (x7 + 1)) : Int).toNat)).bind fun bt185 => ((journal_get.f k x0 4 4).bind fun t189 => (if 10 ≤ x7 then (if x7 ≤ (x0.length : Int) then ((some ((x0.take (x7 : Int).toNat).drop 10 : List Int)).bind fun y190 => (if bt185.2 = true then ((journal_May.f k t189 (strOfNums y190) bt185.1).bind fun t195 => (if t195 = true then (some (t189, strOfNums y190, bt185.1, 0)) else (some (0, (⟨#[]⟩ : ByteArray), ([] : List (S72)), 4)))) else (some (0, (⟨#[]⟩ : ByteArray), ([] : List (S72)), 4)))) else (none)) else (none)))) else (none)) else (none))
def journal_Decode.f (k : Nat) (l0 : List Int) : Option (Int × ByteArray × (List (S72)) × Int) := if (l0.length : Int) > 262144 then (some (0, (⟨#[]⟩ : ByteArray), ([] : List (S72)), 3)) else (if (l0.length : Int) < 15 then (some (0, (⟨#[]⟩ : ByteArray), ([] : List (S72)), 2)) else (if 0 ≤ (wrap64 ((l0.length : Int) - 4)) then (if (wrap64 ((l0.length : Int) - 4)) ≤ (l0.length : Int) then ((crc_Read.f k (l0.drop ((wrap64 ((l0.length : Int) - 4)) : Int).toNat)).bind fun bt164 => ((crc_Sum.f k (l0.take ((wrap64 ((l0.length : Int) - 4)) : Int).toNat)).bind fun t170 => (if bt164.1 = t170 then ((some (l0.take ((wrap64 ((l0.length : Int) - 4)) : Int).toNat : List Int)).bind fun y171 => ((journal_get.f k y171 8 2).bind fun t175 => (if 4 ≤ (y171.length : Int) then (if (strOfNums (y171.take 4)).toList = ([83, 66, 74, 49] : List UInt8) then (if (wrap64 ((l0.length : Int) - 4)) < (wrap64 ((wrap64 (10 + t175)) + 1)) then (journal_Decode.j0 k y171 (wrap64 (10 + t175)) true) else (if 0 ≤ (wrap64 (10 + t175)) then (if (wrap64 (10 + t175)) < (y171.length : Int) then (journal_Decode.j0 k y171 (wrap64 (10 + t175)) ((wrap64 ((l0.length : Int) - 4)) != (wrap64 ((wrap64 ((wrap64 (10 + t175)) + 1)) + (wrap64 (13 * (wrap64 (rd y171 (wrap64 (10 + t175)))))))))) else (none)) else (none))) else (journal_Decode.j0 k y171 (wrap64 (10 + t175)) true)) else (none)))) else (some (0, (⟨#[]⟩ : ByteArray), ([] : List (S72)), 5))))) else (none)) else (none)))
theorem journal_Decode.mono_l : ∀ k, (∀ y0 y1 y2, LeO (journal_Decode.j0 k y0 y1 y2) (journal_Decode.j0 (k + 1) y0 y1 y2))
  | 0 => fun _ _ _ r h => by simp [journal_Decode.j0] at h
  | k + 1 => by
    have ih0 := journal_Decode.mono_l k
    · intro y0 y1 y2
      unfold journal_Decode.j0
      repeat' first
      | (with_reducible exact ih0 _ _ _)
      | (with_reducible exact crc_Read.mono _ _)
      | (with_reducible exact crc_Sum.mono _ _)
      | (with_reducible exact journal_May.mono _ _ _ _)
      | (with_reducible exact journal_get.mono _ _ _ _)
      | (with_reducible exact journal_versions.mono _ _)
      | (with_reducible exact LeO.refl _)
      | (with_reducible exact LeO.none _)
      | (with_reducible refine LeO.ite ?_ ?_)
      | (with_reducible refine LeO.bind ?_ (fun _ => ?_))
      | exact ih0 _ _ _
      | exact crc_Read.mono _ _
      | exact crc_Sum.mono _ _
      | exact journal_May.mono _ _ _ _
      | exact journal_get.mono _ _ _ _
      | exact journal_versions.mono _ _
      | exact LeO.none _
      | refine LeO.ite ?_ ?_
      | refine LeO.bind ?_ (fun _ => ?_)
theorem journal_Decode.mono : ∀ a0 k, LeO (journal_Decode.f k a0) (journal_Decode.f (k + 1) a0) := by
  intro a0 k
  have ih0 := journal_Decode.mono_l k
  unfold journal_Decode.f
  repeat' first
      | (with_reducible exact ih0 _ _ _)
      | (with_reducible exact crc_Read.mono _ _)
      | (with_reducible exact crc_Sum.mono _ _)
      | (with_reducible exact journal_May.mono _ _ _ _)
      | (with_reducible exact journal_get.mono _ _ _ _)
      | (with_reducible exact journal_versions.mono _ _)
      | (with_reducible exact LeO.refl _)
      | (with_reducible exact LeO.none _)
      | (with_reducible refine LeO.ite ?_ ?_)
      | (with_reducible refine LeO.bind ?_ (fun _ => ?_))
      | exact ih0 _ _ _
      | exact crc_Read.mono _ _
      | exact crc_Sum.mono _ _
      | exact journal_May.mono _ _ _ _
      | exact journal_get.mono _ _ _ _
      | exact journal_versions.mono _ _
      | exact LeO.none _
      | refine LeO.ite ?_ ?_
      | refine LeO.bind ?_ (fun _ => ?_)
def journal_Decode.T14 : Bool × List (List Nat × List Nat) := (true, [([], []), ([0], [0]), ([], []), ([], []), ([2, 3], [2, 3]), ([4], [4]), ([], []), ([1, 5, 6], [1, 5, 6]), ([], []), ([8, 7, 1, 0, 1, 2, 3, 4, 5, 6, 7, 8], [7, 8])])
def journal_Decode.B14 : List Nat := [0, 1, 0, 0, 12, 28, 0, 127, 0, 511]
theorem journal_Decode.tab14 : rtab .any (opsOf Try.f28 14) = journal_Decode.T14 := by kernel_rfl
theorem journal_Decode.bits14 : waitsOk journal_Decode.T14.2 journal_Decode.B14 = true := by kernel_rfl
set_option maxHeartbeats 8000000 in
set_option maxRecDepth 100000 in
theorem journal_Decode.calls (k : Nat) (A0 : Option Addr) (c0 : Nat) (l0 : List Int) (r1 : Int) (r2 : ByteArray) (r3 : List (S72)) (r4 : Int) (w : World) (hr0 : Kd.C (Kd.int .u8) w A0 l0.length l0) (hc0 : l0.length ≤ c0) (h : journal_Decode.f k l0 = some (r1, r2, r3, r4)) :
    Calls Try.prog 28 #[.slice A0 l0.length c0] w fun e w' => ∃ v2_ : Value, e = .returned (.tuple #[.agg #[.int .i64 r1, .string r2, v2_], .int .i64 r4]) ∧ Kd.R k72 72 w' w.heap.size (fun _ => True) v2_ r3 ∧ Below w.heap.size w w' := by
  have hu48 := Try.underlying48
  have HR0 := Aside0.mk hr0
  have HC0 := Aside0.mk hc0
  clear hr0 hc0
  have HB := Aside0.mk (Below.refl w.heap.size w)
  have H : (if (l0.length : Int) > 262144 then (some (0, (⟨#[]⟩ : ByteArray), ([] : List (S72)), 3)) else (if (l0.length : Int) < 15 then (some (0, (⟨#[]⟩ : ByteArray), ([] : List (S72)), 2)) else (if 0 ≤ (wrap64 ((l0.length : Int) - 4)) then (if (wrap64 ((l0.length : Int) - 4)) ≤ (l0.length : Int) then ((crc_Read.f k (l0.drop ((wrap64 ((l0.length : Int) - 4)) : Int).toNat)).bind fun bt164 => ((crc_Sum.f k (l0.take ((wrap64 ((l0.length : Int) - 4)) : Int).toNat)).bind fun t170 => (if bt164.1 = t170 then ((some (l0.take ((wrap64 ((l0.length : Int) - 4)) : Int).toNat : List Int)).bind fun y171 => ((journal_get.f k y171 8 2).bind fun t175 => (if 4 ≤ (y171.length : Int) then (if (strOfNums (y171.take 4)).toList = ([83, 66, 74, 49] : List UInt8) then (if (wrap64 ((l0.length : Int) - 4)) < (wrap64 ((wrap64 (10 + t175)) + 1)) then (journal_Decode.j0 k y171 (wrap64 (10 + t175)) true) else (if 0 ≤ (wrap64 (10 + t175)) then (if (wrap64 (10 + t175)) < (y171.length : Int) then (journal_Decode.j0 k y171 (wrap64 (10 + t175)) ((wrap64 ((l0.length : Int) - 4)) != (wrap64 ((wrap64 ((wrap64 (10 + t175)) + 1)) + (wrap64 (13 * (wrap64 (rd y171 (wrap64 (10 + t175)))))))))) else (none)) else (none))) else (journal_Decode.j0 k y171 (wrap64 (10 + t175)) true)) else (none)))) else (some (0, (⟨#[]⟩ : ByteArray), ([] : List (S72)), 5))))) else (none)) else (none)))) = some (r1, r2, r3, r4) := h
  clear h
  by_cases c2 : (l0.length : Int) > 262144
  · rw [if_pos c2] at H
    have c2b0 : decide (262144 < (l0.length : Int)) = true := decide_eq_true c2
    have c2b1 : decide (262144 < l0.length) = true := decide_eq_true (by omega)
    clear c2
    simp only [Option.some.injEq, Prod.mk.injEq] at H
    obtain ⟨rfl, rfl, rfl, rfl⟩ := H
    go_enter Try.func28, Try.ntmps28
    go_wp2_with (first | ((with_reducible refine gate_dst (N := 2) rfl ?_); refine box_event ?hg (N := 2) ?hd (cs := #[.int .i64 0, .string (⟨#[]⟩ : ByteArray), .slice none 0 0]) (t := 48) ?hr ?_; (case hd => rfl); (case hg => rfl); (case hr => first | (go_simp; done) | (go_simp; rfl)); intro gb159 hg w3 hbox hb; have n0_ := Aside0.mk (below_step (by repeat (first | (with_reducible first | exact HB.out | apply below_alloc | apply pw_below_drewN | apply below_drew1) | exact HB.out)) hb); have BK159 := Aside0.mk (hbox); have GW159 := Aside0.mk ((by rw [hg]; exact (below_size (by repeat (first | (with_reducible first | exact HB.out | apply below_alloc | apply pw_below_drewN | apply below_drew1) | exact HB.out))) : w.heap.size ≤ gb159)); have GE159 := Aside0.mk GW159.out; clear HB; have HB := n0_; clear n0_; clear hb hbox hg; have hcz4_0 : w3.cell? ⟨gb159, 0, none⟩ = some (.int .i64 0) := (blk_cell BK159.out 0).trans rfl; have hcz4_1 : w3.cell? ⟨gb159, 1, none⟩ = some (.string (⟨#[]⟩ : ByteArray)) := (blk_cell BK159.out 1).trans rfl; have hcz4_2 : w3.cell? ⟨gb159, 2, none⟩ = some (.slice none 0 0) := (blk_cell BK159.out 2).trans rfl; have hfz4_0 := blk_frozen BK159.out 0; have hfz4_1 := blk_frozen BK159.out 1; have hfz4_2 := blk_frozen BK159.out 2))
    refine bodyPost_ret (results_ct rfl _ _ gb159 48 #[.int .i64 0, .string (⟨#[]⟩ : ByteArray), .slice none 0 0] (0, 0) _ rfl (by (with_reducible repeat (first | refine blk_drewN ?_ _ | refine blk_drew ?_ | refine blk_alloc ?_ _)); refine blk_put (cs := #[.int .i64 0, .string (⟨#[]⟩ : ByteArray), .slice none 0 0]) ?_ 2 _ rfl; (with_reducible repeat (first | refine blk_drewN ?_ _ | refine blk_drew ?_ | refine blk_alloc ?_ _)); refine blk_put (cs := #[.int .i64 0, .string (⟨#[]⟩ : ByteArray), .slice none 0 0]) ?_ 1 _ rfl; (with_reducible repeat (first | refine blk_drewN ?_ _ | refine blk_drew ?_ | refine blk_alloc ?_ _)); refine blk_put (cs := #[.int .i64 0, .string (⟨#[]⟩ : ByteArray), .slice none 0 0]) ?_ 0 _ rfl; (with_reducible repeat (first | refine blk_drewN ?_ _ | refine blk_drew ?_ | refine blk_alloc ?_ _)); exact BK159.out) Try.underlying48 rfl (by kernel_rfl)) rfl ?_
    exact ⟨_, by first | rfl | (simp [errW_none, errW_some] <;> rfl) | (simp [*, errW_none, errW_some] <;> rfl), by first | exact Kd.R_nil _ _ _ _ _ | exact Kd.N_nil _ _ _ _ _ | exact Kd.V_nil _ _ _ _ _ | exact Kd.Q_nil _ _ _ _ _ | exact Kd.S_nil _ _ _ _ _, by repeat (first | (with_reducible first | exact HB.out | apply below_alloc | apply pw_below_drewN | apply below_drew1 | refine below_set ?_ GE159.out) | exact HB.out)⟩
  · rw [if_neg c2] at H
    have c2b0 : decide (262144 < (l0.length : Int)) = false := decide_eq_false c2
    have c2b1 : decide (262144 < l0.length) = false := decide_eq_false (by omega)
    clear c2
    by_cases c5 : (l0.length : Int) < 15
    · rw [if_pos c5] at H
      have c5b0 : decide ((l0.length : Int) < 15) = true := decide_eq_true c5
      have c5b1 : decide (l0.length < 15) = true := decide_eq_true (by omega)
      clear c5
      simp only [Option.some.injEq, Prod.mk.injEq] at H
      obtain ⟨rfl, rfl, rfl, rfl⟩ := H
      go_enter Try.func28, Try.ntmps28
      go_wp2_with (first | ((with_reducible refine gate_dst (N := 2) rfl ?_); refine box_event ?hg (N := 2) ?hd (cs := #[.int .i64 0, .string (⟨#[]⟩ : ByteArray), .slice none 0 0]) (t := 48) ?hr ?_; (case hd => rfl); (case hg => rfl); (case hr => first | (go_simp; done) | (go_simp; rfl)); intro gb159 hg w6 hbox hb; have n0_ := Aside0.mk (below_step (by repeat (first | (with_reducible first | exact HB.out | apply below_alloc | apply pw_below_drewN | apply below_drew1) | exact HB.out)) hb); have BK159 := Aside0.mk (hbox); have GW159 := Aside0.mk ((by rw [hg]; exact (below_size (by repeat (first | (with_reducible first | exact HB.out | apply below_alloc | apply pw_below_drewN | apply below_drew1) | exact HB.out))) : w.heap.size ≤ gb159)); have GE159 := Aside0.mk GW159.out; clear HB; have HB := n0_; clear n0_; clear hb hbox hg; have hcz7_0 : w6.cell? ⟨gb159, 0, none⟩ = some (.int .i64 0) := (blk_cell BK159.out 0).trans rfl; have hcz7_1 : w6.cell? ⟨gb159, 1, none⟩ = some (.string (⟨#[]⟩ : ByteArray)) := (blk_cell BK159.out 1).trans rfl; have hcz7_2 : w6.cell? ⟨gb159, 2, none⟩ = some (.slice none 0 0) := (blk_cell BK159.out 2).trans rfl; have hfz7_0 := blk_frozen BK159.out 0; have hfz7_1 := blk_frozen BK159.out 1; have hfz7_2 := blk_frozen BK159.out 2))
      refine bodyPost_ret (results_ct rfl _ _ gb159 48 #[.int .i64 0, .string (⟨#[]⟩ : ByteArray), .slice none 0 0] (0, 0) _ rfl (by (with_reducible repeat (first | refine blk_drewN ?_ _ | refine blk_drew ?_ | refine blk_alloc ?_ _)); refine blk_put (cs := #[.int .i64 0, .string (⟨#[]⟩ : ByteArray), .slice none 0 0]) ?_ 2 _ rfl; (with_reducible repeat (first | refine blk_drewN ?_ _ | refine blk_drew ?_ | refine blk_alloc ?_ _)); refine blk_put (cs := #[.int .i64 0, .string (⟨#[]⟩ : ByteArray), .slice none 0 0]) ?_ 1 _ rfl; (with_reducible repeat (first | refine blk_drewN ?_ _ | refine blk_drew ?_ | refine blk_alloc ?_ _)); refine blk_put (cs := #[.int .i64 0, .string (⟨#[]⟩ : ByteArray), .slice none 0 0]) ?_ 0 _ rfl; (with_reducible repeat (first | refine blk_drewN ?_ _ | refine blk_drew ?_ | refine blk_alloc ?_ _)); exact BK159.out) Try.underlying48 rfl (by kernel_rfl)) rfl ?_
      exact ⟨_, by first | rfl | (simp [errW_none, errW_some] <;> rfl) | (simp [*, errW_none, errW_some] <;> rfl), by first | exact Kd.R_nil _ _ _ _ _ | exact Kd.N_nil _ _ _ _ _ | exact Kd.V_nil _ _ _ _ _ | exact Kd.Q_nil _ _ _ _ _ | exact Kd.S_nil _ _ _ _ _, by repeat (first | (with_reducible first | exact HB.out | apply below_alloc | apply pw_below_drewN | apply below_drew1 | refine below_set ?_ GE159.out) | exact HB.out)⟩
    · rw [if_neg c5] at H
      have c5b0 : decide ((l0.length : Int) < 15) = false := decide_eq_false c5
      have c5b1 : decide (l0.length < 15) = false := decide_eq_false (by omega)
      clear c5
      obtain ⟨ji8, hji8⟩ : ∃ j_ : Int, (wrap64 ((l0.length : Int) - 4)) = j_ := ⟨_, rfl⟩
      replace H : (if 0 ≤ (ji8) then (if (ji8) ≤ (l0.length : Int) then ((crc_Read.f k (l0.drop ((ji8) : Int).toNat)).bind fun bt164 => ((crc_Sum.f k (l0.take ((ji8) : Int).toNat)).bind fun t170 => (if bt164.1 = t170 then ((some (l0.take ((ji8) : Int).toNat : List Int)).bind fun y171 => ((journal_get.f k y171 8 2).bind fun t175 => (if 4 ≤ (y171.length : Int) then (if (strOfNums (y171.take 4)).toList = ([83, 66, 74, 49] : List UInt8) then (if (ji8) < (wrap64 ((wrap64 (10 + t175)) + 1)) then (journal_Decode.j0 k y171 (wrap64 (10 + t175)) true) else (if 0 ≤ (wrap64 (10 + t175)) then (if (wrap64 (10 + t175)) < (y171.length : Int) then (journal_Decode.j0 k y171 (wrap64 (10 + t175)) ((ji8) != (wrap64 ((wrap64 ((wrap64 (10 + t175)) + 1)) + (wrap64 (13 * (wrap64 (rd y171 (wrap64 (10 + t175)))))))))) else (none)) else (none))) else (journal_Decode.j0 k y171 (wrap64 (10 + t175)) true)) else (none)))) else (some (0, (⟨#[]⟩ : ByteArray), ([] : List (S72)), 5))))) else (none)) else (none)) = some (r1, r2, r3, r4) := by first | (rw [hji8] at H; exact H) | (simp only [hji8] at H ⊢; exact H)
      have hji8w : (IntKind.i64.wrap ((l0.length : Int) - 4)) = ji8 := (i64_w _).trans hji8
      by_cases c9 : 0 ≤ (ji8)
      · rw [if_pos c9] at H
        have c9b0 := eq_true c9
        have c9b1 : decide (0 ≤ (ji8)) = true := decide_eq_true c9
        clear c9
        by_cases c10 : (ji8) ≤ (l0.length : Int)
        · rw [if_pos c10] at H
          have c10b0 := eq_true c10
          have c10b1 : decide ((ji8) ≤ (l0.length : Int)) = true := decide_eq_true c10
          clear c10
          obtain ⟨y160, hy160⟩ : ∃ y_ : List Int, y_ = (l0.drop ((ji8) : Int).toNat) := ⟨_, rfl⟩
          replace H : ((crc_Read.f k y160).bind fun bt164 => ((crc_Sum.f k (l0.take ((ji8) : Int).toNat)).bind fun t170 => (if bt164.1 = t170 then ((some (l0.take ((ji8) : Int).toNat : List Int)).bind fun y171 => ((journal_get.f k y171 8 2).bind fun t175 => (if 4 ≤ (y171.length : Int) then (if (strOfNums (y171.take 4)).toList = ([83, 66, 74, 49] : List UInt8) then (if (ji8) < (wrap64 ((wrap64 (10 + t175)) + 1)) then (journal_Decode.j0 k y171 (wrap64 (10 + t175)) true) else (if 0 ≤ (wrap64 (10 + t175)) then (if (wrap64 (10 + t175)) < (y171.length : Int) then (journal_Decode.j0 k y171 (wrap64 (10 + t175)) ((ji8) != (wrap64 ((wrap64 ((wrap64 (10 + t175)) + 1)) + (wrap64 (13 * (wrap64 (rd y171 (wrap64 (10 + t175)))))))))) else (none)) else (none))) else (journal_Decode.j0 k y171 (wrap64 (10 + t175)) true)) else (none)))) else (some (0, (⟨#[]⟩ : ByteArray), ([] : List (S72)), 5))))) = some (r1, r2, r3, r4) := by first | (rw [hy160]; with_reducible exact H) | (have H2_ := (Option.bind_some _ _).symm.trans H; rw [hy160]; with_reducible exact H2_) | (have H2_ := (Option.bind_some _ _).symm.trans H; with_reducible exact H2_) | with_reducible exact H | (rw [hy160]; exact H) | exact H
          have Ny160 := Aside0.mk hy160
          clear hy160
          replace H := Option.bind_eq_some_iff.mp H
          obtain ⟨⟨t164, t165⟩, A110, H⟩ := H
          replace H : ((crc_Sum.f k (l0.take ((ji8) : Int).toNat)).bind fun t170 => (if t164 = t170 then ((some (l0.take ((ji8) : Int).toNat : List Int)).bind fun y171 => ((journal_get.f k y171 8 2).bind fun t175 => (if 4 ≤ (y171.length : Int) then (if (strOfNums (y171.take 4)).toList = ([83, 66, 74, 49] : List UInt8) then (if (ji8) < (wrap64 ((wrap64 (10 + t175)) + 1)) then (journal_Decode.j0 k y171 (wrap64 (10 + t175)) true) else (if 0 ≤ (wrap64 (10 + t175)) then (if (wrap64 (10 + t175)) < (y171.length : Int) then (journal_Decode.j0 k y171 (wrap64 (10 + t175)) ((ji8) != (wrap64 ((wrap64 ((wrap64 (10 + t175)) + 1)) + (wrap64 (13 * (wrap64 (rd y171 (wrap64 (10 + t175)))))))))) else (none)) else (none))) else (journal_Decode.j0 k y171 (wrap64 (10 + t175)) true)) else (none)))) else (some (0, (⟨#[]⟩ : ByteArray), ([] : List (S72)), 5)))) = some (r1, r2, r3, r4) := H
          have A11 := Aside0.mk A110
          clear A110
          have c12b0 := eq_true (of_decide_eq_true (by first | (with_reducible assumption) | assumption) : 0 ≤ (ji8))
          have c13b0 := eq_true (of_decide_eq_true (by first | (with_reducible assumption) | assumption) : (ji8) ≤ (l0.length : Int))
          obtain ⟨y166, hy166⟩ : ∃ y_ : List Int, y_ = (l0.take ((ji8) : Int).toNat) := ⟨_, rfl⟩
          replace H : ((crc_Sum.f k y166).bind fun t170 => (if t164 = t170 then ((some (l0.take ((ji8) : Int).toNat : List Int)).bind fun y171 => ((journal_get.f k y171 8 2).bind fun t175 => (if 4 ≤ (y171.length : Int) then (if (strOfNums (y171.take 4)).toList = ([83, 66, 74, 49] : List UInt8) then (if (ji8) < (wrap64 ((wrap64 (10 + t175)) + 1)) then (journal_Decode.j0 k y171 (wrap64 (10 + t175)) true) else (if 0 ≤ (wrap64 (10 + t175)) then (if (wrap64 (10 + t175)) < (y171.length : Int) then (journal_Decode.j0 k y171 (wrap64 (10 + t175)) ((ji8) != (wrap64 ((wrap64 ((wrap64 (10 + t175)) + 1)) + (wrap64 (13 * (wrap64 (rd y171 (wrap64 (10 + t175)))))))))) else (none)) else (none))) else (journal_Decode.j0 k y171 (wrap64 (10 + t175)) true)) else (none)))) else (some (0, (⟨#[]⟩ : ByteArray), ([] : List (S72)), 5)))) = some (r1, r2, r3, r4) := by first | (rw [hy166]; with_reducible exact H) | (have H2_ := (Option.bind_some _ _).symm.trans H; rw [hy166]; with_reducible exact H2_) | (have H2_ := (Option.bind_some _ _).symm.trans H; with_reducible exact H2_) | with_reducible exact H | (rw [hy166]; exact H) | exact H
          have Ny166 := Aside0.mk hy166
          clear hy166
          replace H := Option.bind_eq_some_iff.mp H
          obtain ⟨t170, A140, H⟩ := H
          replace H : (if t164 = t170 then ((some (l0.take ((ji8) : Int).toNat : List Int)).bind fun y171 => ((journal_get.f k y171 8 2).bind fun t175 => (if 4 ≤ (y171.length : Int) then (if (strOfNums (y171.take 4)).toList = ([83, 66, 74, 49] : List UInt8) then (if (ji8) < (wrap64 ((wrap64 (10 + t175)) + 1)) then (journal_Decode.j0 k y171 (wrap64 (10 + t175)) true) else (if 0 ≤ (wrap64 (10 + t175)) then (if (wrap64 (10 + t175)) < (y171.length : Int) then (journal_Decode.j0 k y171 (wrap64 (10 + t175)) ((ji8) != (wrap64 ((wrap64 ((wrap64 (10 + t175)) + 1)) + (wrap64 (13 * (wrap64 (rd y171 (wrap64 (10 + t175)))))))))) else (none)) else (none))) else (journal_Decode.j0 k y171 (wrap64 (10 + t175)) true)) else (none)))) else (some (0, (⟨#[]⟩ : ByteArray), ([] : List (S72)), 5))) = some (r1, r2, r3, r4) := H
          have A14 := Aside0.mk A140
          clear A140
          by_cases c15 : t164 = t170
          · rw [if_pos c15] at H
            have c15b0 : (t164 == t170) = true := beq_iff_eq.mpr c15
            have c15b1 : (t164 != t170) = false := bne_eq_false_iff_eq.mpr c15
            clear c15
            have c16b0 := eq_true (of_decide_eq_true (by first | (with_reducible assumption) | assumption) : 0 ≤ (ji8))
            have c17b0 := eq_true (of_decide_eq_true (by first | (with_reducible assumption) | assumption) : (ji8) ≤ (l0.length : Int))
            simp only [← Ny166.out] at H
            replace H : ((journal_get.f k y166 8 2).bind fun t175 => (if 4 ≤ (y166.length : Int) then (if (strOfNums (y166.take 4)).toList = ([83, 66, 74, 49] : List UInt8) then (if (ji8) < (wrap64 ((wrap64 (10 + t175)) + 1)) then (journal_Decode.j0 k y166 (wrap64 (10 + t175)) true) else (if 0 ≤ (wrap64 (10 + t175)) then (if (wrap64 (10 + t175)) < (y166.length : Int) then (journal_Decode.j0 k y166 (wrap64 (10 + t175)) ((ji8) != (wrap64 ((wrap64 ((wrap64 (10 + t175)) + 1)) + (wrap64 (13 * (wrap64 (rd y166 (wrap64 (10 + t175)))))))))) else (none)) else (none))) else (journal_Decode.j0 k y166 (wrap64 (10 + t175)) true)) else (none))) = some (r1, r2, r3, r4) := by first | (rw [hy171]; with_reducible exact H) | (have H2_ := (Option.bind_some _ _).symm.trans H; rw [hy171]; with_reducible exact H2_) | (have H2_ := (Option.bind_some _ _).symm.trans H; with_reducible exact H2_) | with_reducible exact H | (rw [hy171]; exact H) | exact H
            replace H := Option.bind_eq_some_iff.mp H
            obtain ⟨t175, A180, H⟩ := H
            replace H : (if 4 ≤ (y166.length : Int) then (if (strOfNums (y166.take 4)).toList = ([83, 66, 74, 49] : List UInt8) then (if (ji8) < (wrap64 ((wrap64 (10 + t175)) + 1)) then (journal_Decode.j0 k y166 (wrap64 (10 + t175)) true) else (if 0 ≤ (wrap64 (10 + t175)) then (if (wrap64 (10 + t175)) < (y166.length : Int) then (journal_Decode.j0 k y166 (wrap64 (10 + t175)) ((ji8) != (wrap64 ((wrap64 ((wrap64 (10 + t175)) + 1)) + (wrap64 (13 * (wrap64 (rd y166 (wrap64 (10 + t175)))))))))) else (none)) else (none))) else (journal_Decode.j0 k y166 (wrap64 (10 + t175)) true)) else (none)) = some (r1, r2, r3, r4) := H
            have A18 := Aside0.mk A180
            clear A180
            have HC19 := Aside0.mk H
            clear H
            go_enter Try.func28, Try.ntmps28
            go_upto_region 11 with (first | ((with_reducible refine gate_dst (N := 2) rfl ?_); refine box_event ?hg (N := 2) ?hd (cs := #[.int .i64 0, .string (⟨#[]⟩ : ByteArray), .slice none 0 0]) (t := 48) ?hr ?_; (case hd => rfl); (case hg => rfl); (case hr => first | (go_simp; done) | (go_simp; rfl)); intro gb159 hg w20 hbox hb; have n0_ := Aside0.mk (below_step (by repeat (first | (with_reducible first | exact HB.out | apply below_alloc | apply pw_below_drewN | apply below_drew1) | exact HB.out)) hb); have BK159 := Aside0.mk (hbox); have GW159 := Aside0.mk ((by rw [hg]; exact (below_size (by repeat (first | (with_reducible first | exact HB.out | apply below_alloc | apply pw_below_drewN | apply below_drew1) | exact HB.out))) : w.heap.size ≤ gb159)); have GE159 := Aside0.mk GW159.out; clear HB; have HB := n0_; clear n0_; clear hb hbox hg; have q21 : ((ji8) : Int) ≤ ((l0.length : Int) : Int) := of_decide_eq_true (by first | (with_reducible assumption) | assumption); obtain ⟨i021, hi021, _, hsz21, _⟩ := info_parts info5; have hroom21 : l0.length ≤ c0 := HC0.out; have hC21 : Kd.C (Kd.int .u8) _ A0 l0.length l0 := HR0.out; have q021 : (0 : Int) ≤ ((ji8) : Int) := of_decide_eq_true (by first | (with_reducible assumption) | assumption); have hcut21 := cut_from (P := Try.prog) 22 5 .i64 Try.underlying22 hi021 1 hsz21 A0 l0.length c0 (ji8) q021 q21; have hr21 := Kd.C_drop (m := ((ji8) : Int).toNat) (c := c0) hC21 (by omega) hroom21; obtain ⟨A21, hA21⟩ : ∃ A1, A1 = (if c0 = ((ji8) : Int).toNat then A0 else (A0 : Option Addr).map (·.add (((ji8) : Int).toNat * 1))) := ⟨_, rfl⟩; obtain ⟨c21, hc21⟩ : ∃ c1, c1 = c0 - ((ji8) : Int).toNat := ⟨_, rfl⟩; have hy21 : y160.length = l0.length - ((ji8) : Int).toNat := (by rw [Ny160.out, List.length_drop] <;> omega); rw [show (l0).drop ((ji8) : Int).toNat = y160 from Ny160.out.symm] at hr21; replace hr21 : Kd.C (Kd.int .u8) _ A21 y160.length y160 := (by rw [hA21]; exact hr21); rw [← hy21, ← hA21, ← hc21] at hcut21; have HR163 := Aside0.mk hr21; have HC163 := Aside0.mk (show y160.length ≤ c21 from by rw [hy21, hc21]; exact Nat.sub_le_sub_right hroom21 _); clear hr21 hC21 hroom21 hi021 hsz21 hc21; have KY21 := Aside0.mk hy21; have KA21 := Aside0.mk hA21; clear hy21 hA21; replace q21 := eq_true q21) | ((with_reducible refine gate_callee (f := 58) rfl ?_); refine goesL_ (some 28) rfl rfl Try.func58 (by kernel_rfl) rfl #[.slice A21 y160.length c21] rfl (by (try simp only [List.map_toArray, List.map_cons, List.map_nil]); first | done | rfl | (simp only [List.length_drop, List.length_take]; rfl)) ?_; (with_reducible refine (crc_Read.calls k _ _ y160 t164 t165 _ ?side1 ?side2 A11.out).mono ?_); (case side1 => repeat (first | exact (Kd.C_below HR163.out HB.out) | (with_reducible refine Kd.C_alloc ?_ _) | (with_reducible refine Kd.C_drewN ?_ _) | (with_reducible refine Kd.C_drew ?_))); (case side2 => exact HC163.out); rintro e w' ⟨rfl, ⟨nd, rfl⟩⟩; refine ⟨_, rfl, ?_⟩; have q22 : ((ji8) : Int) ≤ ((l0.length : Int) : Int) := of_decide_eq_true (by first | (with_reducible assumption) | assumption); obtain ⟨i022, hi022, _, hsz22, _⟩ := info_parts info5; have hroom22 : l0.length ≤ c0 := HC0.out; have hC22 : Kd.C (Kd.int .u8) _ A0 l0.length l0 := HR0.out; have hcut22 := cut_to (P := Try.prog) 22 5 .i64 Try.underlying22 hi022 A0 l0.length c0 (ji8) (of_decide_eq_true (by first | (with_reducible assumption) | assumption)) q22 hroom22; have hr22 := Kd.C_take (m := ((ji8) : Int).toNat) hC22 (by omega); have hy22 : y166.length = ((ji8) : Int).toNat := (by rw [Ny166.out, List.length_take]; omega); rw [← Ny166.out] at hr22; rw [← hy22] at hcut22; have HR169 := Aside0.mk hr22; have HC169 := Aside0.mk (show y166.length ≤ c0 from by omega); clear hr22 hC22 hroom22 hi022 hsz22; have KY22 := Aside0.mk hy22; clear hy22; replace q22 := eq_true q22) | ((with_reducible refine gate_callee (f := 55) rfl ?_); refine goesL_ (some 35) rfl rfl Try.func55 (by kernel_rfl) rfl #[.slice A0 y166.length c0] rfl (by (try simp only [List.map_toArray, List.map_cons, List.map_nil]); first | done | rfl | (simp only [List.length_drop, List.length_take]; rfl)) ?_; (with_reducible refine (crc_Sum.calls k _ _ y166 t170 _ ?side1 ?side2 A14.out).mono ?_); (case side1 => repeat (first | exact (Kd.C_below HR169.out (by repeat (first | (with_reducible first | exact HB.out | apply below_alloc | apply pw_below_drewN | apply below_drew1 | refine below_set ?_ GE159.out) | exact HB.out))) | (with_reducible refine Kd.C_alloc ?_ _) | (with_reducible refine Kd.C_drewN ?_ _) | (with_reducible refine Kd.C_drew ?_))); (case side2 => exact HC169.out); rintro e w' ⟨rfl, ⟨nd, rfl⟩⟩; refine ⟨_, rfl, ?_⟩; have q23 : ((ji8) : Int) ≤ ((l0.length : Int) : Int) := of_decide_eq_true (by first | (with_reducible assumption) | assumption); obtain ⟨i023, hi023, _, hsz23, _⟩ := info_parts info5; have hroom23 : l0.length ≤ c0 := HC0.out; have hC23 : Kd.C (Kd.int .u8) _ A0 l0.length l0 := HR0.out; have hcut23 := cut_to (P := Try.prog) 22 5 .i64 Try.underlying22 hi023 A0 l0.length c0 (ji8) (of_decide_eq_true (by first | (with_reducible assumption) | assumption)) q23 hroom23; have hr23 := Kd.C_take (m := ((ji8) : Int).toNat) hC23 (by omega); have hy23 : y166.length = ((ji8) : Int).toNat := (by rw [Ny166.out, List.length_take]; omega); rw [← Ny166.out] at hr23; rw [← hy23] at hcut23; have HR174 := Aside0.mk hr23; have HC174 := Aside0.mk (show y166.length ≤ c0 from by omega); clear hr23 hC23 hroom23 hi023 hsz23; have KY23 := Aside0.mk hy23; clear hy23; replace q23 := eq_true q23) | ((with_reducible refine gate_callee (f := 59) rfl ?_); refine goesL_ (some 42) rfl rfl Try.func59 (by kernel_rfl) rfl #[.slice A0 y166.length c0, .int .i64 8, .int .i64 2] rfl (by (try simp only [List.map_toArray, List.map_cons, List.map_nil]); first | done | rfl | (simp only [List.length_drop, List.length_take]; rfl)) ?_; (with_reducible refine (journal_get.calls k _ _ y166 8 2 t175 _ ?side1 ?side2 A18.out).mono ?_); (case side1 => repeat (first | exact (Kd.C_below HR174.out (by repeat (first | (with_reducible first | exact HB.out | apply below_alloc | apply pw_below_drewN | apply below_drew1 | refine below_set ?_ GE159.out) | exact HB.out))) | (with_reducible refine Kd.C_alloc ?_ _) | (with_reducible refine Kd.C_drewN ?_ _) | (with_reducible refine Kd.C_drew ?_))); (case side2 => exact HC174.out); rintro e w' ⟨rfl, ⟨nd, rfl⟩⟩; refine ⟨_, rfl, ?_⟩))
            (try simp only [Act.put, List.setIfInBounds_toArray, List.set_cons_zero, List.set_cons_succ])
            go_cut [66] (fun v66 wc => ∃ (kq : Nat) (x66_18 : Bool), v66 = .bool x66_18 ∧ Aside0 (journal_Decode.j0 kq y166 (wrap64 (10 + t175)) x66_18 = some (r1, r2, r3, r4)) ∧ Aside0 (kq ≤ k) ∧ Aside0 (wc.heap[gb159]? = some (.cells #[.int .i64 0, .string (⟨#[]⟩ : ByteArray), (.slice none 0 0)] 48 (0, 0))) ∧ Aside0 (Below w.heap.size w wc))
            case first =>
              have H := HC19.out
              clear HC19
              by_cases c24 : 4 ≤ (y166.length : Int)
              · rw [if_pos c24] at H
                have c24b0 := eq_true c24
                have c24b1 : decide (4 ≤ (y166.length : Int)) = true := decide_eq_true c24
                clear c24
                obtain ⟨y176, hy176⟩ : ∃ y_ : List Int, y_ = (y166.take 4) := ⟨_, rfl⟩
                replace H : (if (strOfNums y176).toList = ([83, 66, 74, 49] : List UInt8) then (if (ji8) < (wrap64 ((wrap64 (10 + t175)) + 1)) then (journal_Decode.j0 k y166 (wrap64 (10 + t175)) true) else (if 0 ≤ (wrap64 (10 + t175)) then (if (wrap64 (10 + t175)) < (y166.length : Int) then (journal_Decode.j0 k y166 (wrap64 (10 + t175)) ((ji8) != (wrap64 ((wrap64 ((wrap64 (10 + t175)) + 1)) + (wrap64 (13 * (wrap64 (rd y166 (wrap64 (10 + t175)))))))))) else (none)) else (none))) else (journal_Decode.j0 k y166 (wrap64 (10 + t175)) true)) = some (r1, r2, r3, r4) := by first | (rw [hy176]; with_reducible exact H) | (have H2_ := (Option.bind_some _ _).symm.trans H; rw [hy176]; with_reducible exact H2_) | (have H2_ := (Option.bind_some _ _).symm.trans H; with_reducible exact H2_) | with_reducible exact H | (rw [hy176]; exact H) | exact H
                have Ny176 := Aside0.mk hy176
                clear hy176
                by_cases c25 : (strOfNums y176).toList = ([83, 66, 74, 49] : List UInt8)
                · rw [if_pos c25] at H
                  have c25b0 : ((strOfNums y176).toList == ([83, 66, 74, 49] : List UInt8)) = true := beq_iff_eq.mpr c25
                  have c25b1 : ((strOfNums y176).toList != ([83, 66, 74, 49] : List UInt8)) = false := bne_eq_false_iff_eq.mpr c25
                  clear c25
                  (first | rw [c25b0] | (simp only [i64_w, i32_w]; rw [c25b0]) | skip)
                  by_cases c26 : (ji8) < (wrap64 ((wrap64 (10 + t175)) + 1))
                  · rw [if_pos c26] at H
                    have c26b0 : decide ((ji8) < (wrap64 ((wrap64 (10 + t175)) + 1))) = true := decide_eq_true c26
                    clear c26
                    have H' := Aside0.mk H
                    clear H
                    have q27 : (4 : Int) ≤ ((y166.length : Int) : Int) := of_decide_eq_true (by first | (with_reducible assumption) | assumption)
                    obtain ⟨i027, hi027, _, hsz27, _⟩ := info_parts info5
                    have hroom27 : y166.length ≤ c0 := HC174.out
                    have hC27 : Kd.C (Kd.int .u8) _ A0 y166.length y166 := HR174.out
                    have hcut27 := cut_to (P := Try.prog) 22 5 .i64 Try.underlying22 hi027 A0 y166.length c0 4 (by omega) q27 hroom27
                    have hr27 := Kd.C_take (m := 4) hC27 (by omega)
                    have hy27 : y176.length = (4 : Int).toNat := (by rw [Ny176.out, List.length_take]; omega)
                    rw [← Ny176.out] at hr27
                    rw [← hy27] at hcut27
                    have HR179 := Aside0.mk hr27
                    have HC179 := Aside0.mk (show y176.length ≤ c0 from by omega)
                    clear hr27 hC27 hroom27 hi027 hsz27
                    have KY27 := Aside0.mk hy27
                    clear hy27
                    replace q27 := eq_true q27
                    have hcv28 := Kd.C_string (P := Try.prog) (A := A0) (c := c0) Try.underlying22 Try.underlying5 Try.underlying9 (Kd.C_below HR179.out HB.out)
                    have hcv28d := fun m_ => Kd.C_string (P := Try.prog) (A := A0) (c := c0) Try.underlying22 Try.underlying5 Try.underlying9 (Kd.C_drewN (Kd.C_below HR179.out HB.out) m_)
                    go_wp2
                    go_meet
                    case rel => exact ⟨_, (true), (by first | rfl | (simp; done) | (simp [*]; done)), H', ⟨by first | omega | exact Nat.le_refl _⟩, ⟨by (with_reducible repeat (first | refine blk_drewN ?_ _ | refine blk_drew ?_ | refine blk_alloc ?_ _)); exact BK159.out⟩, ⟨by repeat (first | (with_reducible first | exact HB.out | apply below_alloc | apply pw_below_drewN | apply below_drew1 | refine below_set ?_ GE159.out) | exact HB.out)⟩⟩
                  · rw [if_neg c26] at H
                    have c26b0 : decide ((ji8) < (wrap64 ((wrap64 (10 + t175)) + 1))) = false := decide_eq_false c26
                    clear c26
                    obtain ⟨ji29, hji29⟩ : ∃ j_ : Int, (wrap64 (10 + t175)) = j_ := ⟨_, rfl⟩
                    replace H : (if 0 ≤ (ji29) then (if (ji29) < (y166.length : Int) then (journal_Decode.j0 k y166 ji29 ((ji8) != (wrap64 ((wrap64 ((ji29) + 1)) + (wrap64 (13 * (wrap64 (rd y166 (ji29))))))))) else (none)) else (none)) = some (r1, r2, r3, r4) := by first | (rw [hji29] at H; exact H) | (simp only [hji29] at H ⊢; exact H)
                    (try rw [hji29] at c26b0)
                    have hji29w : (IntKind.i64.wrap (10 + t175)) = ji29 := (i64_w _).trans hji29
                    by_cases c30 : 0 ≤ (ji29)
                    · rw [if_pos c30] at H
                      have c30b0 : decide (0 ≤ (ji29)) = true := decide_eq_true c30
                      clear c30
                      by_cases c31 : (ji29) < (y166.length : Int)
                      · rw [if_pos c31] at H
                        have c31b0 : decide ((ji29) < (y166.length : Int)) = true := decide_eq_true c31
                        clear c31
                        have H' := Aside0.mk H
                        clear H
                        have q32 : (4 : Int) ≤ ((y166.length : Int) : Int) := of_decide_eq_true (by first | (with_reducible assumption) | assumption)
                        obtain ⟨i032, hi032, _, hsz32, _⟩ := info_parts info5
                        have hroom32 : y166.length ≤ c0 := HC174.out
                        have hC32 : Kd.C (Kd.int .u8) _ A0 y166.length y166 := HR174.out
                        have hcut32 := cut_to (P := Try.prog) 22 5 .i64 Try.underlying22 hi032 A0 y166.length c0 4 (by omega) q32 hroom32
                        have hr32 := Kd.C_take (m := 4) hC32 (by omega)
                        have hy32 : y176.length = (4 : Int).toNat := (by rw [Ny176.out, List.length_take]; omega)
                        rw [← Ny176.out] at hr32
                        rw [← hy32] at hcut32
                        have HR179 := Aside0.mk hr32
                        have HC179 := Aside0.mk (show y176.length ≤ c0 from by omega)
                        clear hr32 hC32 hroom32 hi032 hsz32
                        have KY32 := Aside0.mk hy32
                        clear hy32
                        replace q32 := eq_true q32
                        have hcv33 := Kd.C_string (P := Try.prog) (A := A0) (c := c0) Try.underlying22 Try.underlying5 Try.underlying9 (Kd.C_below HR179.out HB.out)
                        have hcv33d := fun m_ => Kd.C_string (P := Try.prog) (A := A0) (c := c0) Try.underlying22 Try.underlying5 Try.underlying9 (Kd.C_drewN (Kd.C_below HR179.out HB.out) m_)
                        have p180 : 0 ≤ ((ji29) : Int) := of_decide_eq_true (by first | (with_reducible assumption) | assumption)
                        have q180 : (ji29) < (y166.length : Int) := of_decide_eq_true (by first | (with_reducible assumption) | assumption)
                        obtain ⟨ad180, e180, hx180_0⟩ := Kd.at_int HR174.out (ji29) p180 q180
                        cases e180
                        replace hx180_0 := (HB.out.cell (World.block_lt_of_cell? w _ hx180_0)).trans hx180_0
                        replace p180 := eq_true p180
                        replace q180 := eq_true q180
                        go_wp2
                        go_meet
                        case rel => exact ⟨_, (((ji8) != (wrap64 ((wrap64 ((ji29) + 1)) + (wrap64 (13 * (wrap64 (rd y166 (ji29))))))))), (by first | rfl | (simp; done) | (simp only [← hji8, ← hji29] <;> (first | rfl | simp)) | (simp [*]; done)), (by rw [hji29]; exact H'), ⟨by first | omega | exact Nat.le_refl _⟩, ⟨by (with_reducible repeat (first | refine blk_drewN ?_ _ | refine blk_drew ?_ | refine blk_alloc ?_ _)); exact BK159.out⟩, ⟨by repeat (first | (with_reducible first | exact HB.out | apply below_alloc | apply pw_below_drewN | apply below_drew1 | refine below_set ?_ GE159.out) | exact HB.out)⟩⟩
                      · rw [if_neg c31] at H
                        exact absurd H (by simp)
                    · rw [if_neg c30] at H
                      exact absurd H (by simp)
                · rw [if_neg c25] at H
                  have c25b0 : ((strOfNums y176).toList == ([83, 66, 74, 49] : List UInt8)) = false := beq_eq_false_iff_ne.mpr c25
                  have c25b1 : ((strOfNums y176).toList != ([83, 66, 74, 49] : List UInt8)) = true := bne_iff_ne.mpr c25
                  (first | rw [c25b0] | (simp only [i64_w, i32_w]; rw [c25b0]) | skip)
                  have H' := Aside0.mk H
                  clear H
                  have q34 : (4 : Int) ≤ ((y166.length : Int) : Int) := of_decide_eq_true (by first | (with_reducible assumption) | assumption)
                  obtain ⟨i034, hi034, _, hsz34, _⟩ := info_parts info5
                  have hroom34 : y166.length ≤ c0 := HC174.out
                  have hC34 : Kd.C (Kd.int .u8) _ A0 y166.length y166 := HR174.out
                  have hcut34 := cut_to (P := Try.prog) 22 5 .i64 Try.underlying22 hi034 A0 y166.length c0 4 (by omega) q34 hroom34
                  have hr34 := Kd.C_take (m := 4) hC34 (by omega)
                  have hy34 : y176.length = (4 : Int).toNat := (by rw [Ny176.out, List.length_take]; omega)
                  rw [← Ny176.out] at hr34
                  rw [← hy34] at hcut34
                  have HR179 := Aside0.mk hr34
                  have HC179 := Aside0.mk (show y176.length ≤ c0 from by omega)
                  clear hr34 hC34 hroom34 hi034 hsz34
                  have KY34 := Aside0.mk hy34
                  clear hy34
                  replace q34 := eq_true q34
                  have hcv35 := Kd.C_string (P := Try.prog) (A := A0) (c := c0) Try.underlying22 Try.underlying5 Try.underlying9 (Kd.C_below HR179.out HB.out)
                  have hcv35d := fun m_ => Kd.C_string (P := Try.prog) (A := A0) (c := c0) Try.underlying22 Try.underlying5 Try.underlying9 (Kd.C_drewN (Kd.C_below HR179.out HB.out) m_)
                  go_wp2
                  go_meet
                  case rel => exact ⟨_, (true), (by first | rfl | (simp; done) | (simp [*]; done)), H', ⟨by first | omega | exact Nat.le_refl _⟩, ⟨by (with_reducible repeat (first | refine blk_drewN ?_ _ | refine blk_drew ?_ | refine blk_alloc ?_ _)); exact BK159.out⟩, ⟨by repeat (first | (with_reducible first | exact HB.out | apply below_alloc | apply pw_below_drewN | apply below_drew1 | refine below_set ?_ GE159.out) | exact HB.out)⟩⟩
              · rw [if_neg c24] at H
                exact absurd H (by simp)
            case rest =>
              clear HC19
              try clear c1
              try clear p1
              try clear q1
              try clear hx1
              try clear c2
              try clear c2b0
              try clear c2b1
              try clear p2
              try clear q2
              try clear hcv2
              try clear c3
              try clear q3
              try clear hcv3
              try clear c5
              try clear c5b0
              try clear c5b1
              try clear p6
              try clear c9
              try clear c9b0
              try clear c9b1
              try clear c10
              try clear c10b0
              try clear c10b1
              try clear c12
              try clear c12b0
              try clear c13
              try clear c13b0
              try clear c15
              try clear c15b0
              try clear c15b1
              try clear c16
              try clear c16b0
              try clear c17
              try clear c17b0
              try clear p18
              try clear q18
              try clear hx18
              try clear c21
              try clear q21
              try clear q22
              try clear q23
              try clear c24
              try clear c24b0
              try clear c24b1
              try clear c25
              try clear c25b0
              try clear c25b1
              try clear c26
              try clear c26b0
              try clear q27
              try clear c28
              try clear hcv28
              try clear c30
              try clear c30b0
              try clear c31
              try clear c31b0
              try clear q32
              try clear hcv33
              try clear q34
              try clear hcv35
              try clear hcz4_0
              try clear hcz4_1
              try clear hcz4_2
              try clear hcz7_0
              try clear hcz7_1
              try clear hcz7_2
              try clear hfz4_0
              try clear hfz4_1
              try clear hfz4_2
              try clear hfz7_0
              try clear hfz7_1
              try clear hfz7_2
              try clear hx180_0
              try clear p180
              try clear q021
              try clear q180
              try clear q21
              try clear q22
              try clear q23
              try clear q27
              try clear q32
              try clear q34
              obtain ⟨kq, x66_18, rfl, HA, HJ18, BK159, HB⟩ := hcut
              cases kq with
              | zero => exact absurd HA.out (by simp [journal_Decode.j0])
              | succ kj18 =>
                have H := HA.out
                clear HA
                simp only [journal_Decode.j0] at H
                by_cases c36 : x66_18 = true
                · subst c36
                  have H1 : (some (0, (⟨#[]⟩ : ByteArray), ([] : List (S72)), 4)) = some (r1, r2, r3, r4) := by rw [if_pos rfl] at H; exact H
                  clear H
                  have H := H1
                  clear H1
                  simp only [Option.some.injEq, Prod.mk.injEq] at H
                  obtain ⟨rfl, rfl, rfl, rfl⟩ := H
                  have hcz37_0 : wc.cell? ⟨gb159, 0, none⟩ = some (.int .i64 0) := (blk_cell BK159.out 0).trans rfl
                  have hcz37_1 : wc.cell? ⟨gb159, 1, none⟩ = some (.string (⟨#[]⟩ : ByteArray)) := (blk_cell BK159.out 1).trans rfl
                  have hcz37_2 : wc.cell? ⟨gb159, 2, none⟩ = some (.slice none 0 0) := (blk_cell BK159.out 2).trans rfl
                  have hfz37_0 := blk_frozen BK159.out 0
                  have hfz37_1 := blk_frozen BK159.out 1
                  have hfz37_2 := blk_frozen BK159.out 2
                  go_wp2
                  refine bodyPost_ret (results_ct rfl _ _ gb159 48 #[.int .i64 0, .string (⟨#[]⟩ : ByteArray), .slice none 0 0] (0, 0) _ rfl (by (with_reducible repeat (first | refine blk_drewN ?_ _ | refine blk_drew ?_ | refine blk_alloc ?_ _)); refine blk_put (cs := #[.int .i64 0, .string (⟨#[]⟩ : ByteArray), .slice none 0 0]) ?_ 2 _ rfl; (with_reducible repeat (first | refine blk_drewN ?_ _ | refine blk_drew ?_ | refine blk_alloc ?_ _)); refine blk_put (cs := #[.int .i64 0, .string (⟨#[]⟩ : ByteArray), .slice none 0 0]) ?_ 1 _ rfl; (with_reducible repeat (first | refine blk_drewN ?_ _ | refine blk_drew ?_ | refine blk_alloc ?_ _)); refine blk_put (cs := #[.int .i64 0, .string (⟨#[]⟩ : ByteArray), .slice none 0 0]) ?_ 0 _ rfl; (with_reducible repeat (first | refine blk_drewN ?_ _ | refine blk_drew ?_ | refine blk_alloc ?_ _)); exact BK159.out) Try.underlying48 rfl (by kernel_rfl)) rfl ?_
                  exact ⟨_, by first | rfl | (simp [errW_none, errW_some] <;> rfl) | (simp only [← hji8]; first | rfl | (simp [errW_none, errW_some] <;> rfl)) | (simp [*, errW_none, errW_some] <;> rfl), by first | exact Kd.R_nil _ _ _ _ _ | exact Kd.N_nil _ _ _ _ _ | exact Kd.V_nil _ _ _ _ _ | exact Kd.Q_nil _ _ _ _ _ | exact Kd.S_nil _ _ _ _ _, by repeat (first | (with_reducible first | exact HB.out | apply below_alloc | apply pw_below_drewN | apply below_drew1 | refine below_set ?_ GE159.out) | exact HB.out)⟩
                · replace c36 := Bool.eq_false_iff.mpr c36
                  subst c36
                  have H1 : (if 0 ≤ (wrap64 ((wrap64 (10 + t175)) + 1)) then (if (wrap64 ((wrap64 (10 + t175)) + 1)) ≤ (y166.length : Int) then ((journal_versions.f kj18 (y166.drop ((wrap64 ((wrap64 (10 + t175)) + 1)) : Int).toNat)).bind fun bt185 => ((journal_get.f kj18 y166 4 4).bind fun t189 => (if 10 ≤ (wrap64 (10 + t175)) then (if (wrap64 (10 + t175)) ≤ (y166.length : Int) then ((some ((y166.take ((wrap64 (10 + t175)) : Int).toNat).drop 10 : List Int)).bind fun y190 => (if bt185.2 = true then ((journal_May.f kj18 t189 (strOfNums y190) bt185.1).bind fun t195 => (if t195 = true then (some (t189, strOfNums y190, bt185.1, 0)) else (some (0, (⟨#[]⟩ : ByteArray), ([] : List (S72)), 4)))) else (some (0, (⟨#[]⟩ : ByteArray), ([] : List (S72)), 4)))) else (none)) else (none)))) else (none)) else (none)) = some (r1, r2, r3, r4) := by rw [if_neg (show ¬ (false = true) by decide)] at H; exact H
                  clear H
                  have H := H1
                  clear H1
                  obtain ⟨ji38, hji38⟩ : ∃ j_ : Int, (wrap64 ((wrap64 (10 + t175)) + 1)) = j_ := ⟨_, rfl⟩
                  replace H : (if 0 ≤ (ji38) then (if (ji38) ≤ (y166.length : Int) then ((journal_versions.f kj18 (y166.drop ((ji38) : Int).toNat)).bind fun bt185 => ((journal_get.f kj18 y166 4 4).bind fun t189 => (if 10 ≤ (wrap64 (10 + t175)) then (if (wrap64 (10 + t175)) ≤ (y166.length : Int) then ((some ((y166.take ((wrap64 (10 + t175)) : Int).toNat).drop 10 : List Int)).bind fun y190 => (if bt185.2 = true then ((journal_May.f kj18 t189 (strOfNums y190) bt185.1).bind fun t195 => (if t195 = true then (some (t189, strOfNums y190, bt185.1, 0)) else (some (0, (⟨#[]⟩ : ByteArray), ([] : List (S72)), 4)))) else (some (0, (⟨#[]⟩ : ByteArray), ([] : List (S72)), 4)))) else (none)) else (none)))) else (none)) else (none)) = some (r1, r2, r3, r4) := by first | (rw [hji38] at H; exact H) | (simp only [hji38] at H ⊢; exact H)
                  have hji38w : (IntKind.i64.wrap ((wrap64 (10 + t175)) + 1)) = ji38 := (i64_w _).trans hji38
                  by_cases c39 : 0 ≤ (ji38)
                  · rw [if_pos c39] at H
                    have c39b0 := eq_true c39
                    have c39b1 : decide (0 ≤ (ji38)) = true := decide_eq_true c39
                    clear c39
                    by_cases c40 : (ji38) ≤ (y166.length : Int)
                    · rw [if_pos c40] at H
                      have c40b0 := eq_true c40
                      have c40b1 : decide ((ji38) ≤ (y166.length : Int)) = true := decide_eq_true c40
                      clear c40
                      obtain ⟨y181, hy181⟩ : ∃ y_ : List Int, y_ = (y166.drop ((ji38) : Int).toNat) := ⟨_, rfl⟩
                      replace H : ((journal_versions.f kj18 y181).bind fun bt185 => ((journal_get.f kj18 y166 4 4).bind fun t189 => (if 10 ≤ (wrap64 (10 + t175)) then (if (wrap64 (10 + t175)) ≤ (y166.length : Int) then ((some ((y166.take ((wrap64 (10 + t175)) : Int).toNat).drop 10 : List Int)).bind fun y190 => (if bt185.2 = true then ((journal_May.f kj18 t189 (strOfNums y190) bt185.1).bind fun t195 => (if t195 = true then (some (t189, strOfNums y190, bt185.1, 0)) else (some (0, (⟨#[]⟩ : ByteArray), ([] : List (S72)), 4)))) else (some (0, (⟨#[]⟩ : ByteArray), ([] : List (S72)), 4)))) else (none)) else (none)))) = some (r1, r2, r3, r4) := by first | (rw [hy181]; with_reducible exact H) | (have H2_ := (Option.bind_some _ _).symm.trans H; rw [hy181]; with_reducible exact H2_) | (have H2_ := (Option.bind_some _ _).symm.trans H; with_reducible exact H2_) | with_reducible exact H | (rw [hy181]; exact H) | exact H
                      have Ny181 := Aside0.mk hy181
                      clear hy181
                      replace H := Option.bind_eq_some_iff.mp H
                      obtain ⟨⟨t185, t186⟩, A410, H⟩ := H
                      replace H : ((journal_get.f kj18 y166 4 4).bind fun t189 => (if 10 ≤ (wrap64 (10 + t175)) then (if (wrap64 (10 + t175)) ≤ (y166.length : Int) then ((some ((y166.take ((wrap64 (10 + t175)) : Int).toNat).drop 10 : List Int)).bind fun y190 => (if t186 = true then ((journal_May.f kj18 t189 (strOfNums y190) t185).bind fun t195 => (if t195 = true then (some (t189, strOfNums y190, t185, 0)) else (some (0, (⟨#[]⟩ : ByteArray), ([] : List (S72)), 4)))) else (some (0, (⟨#[]⟩ : ByteArray), ([] : List (S72)), 4)))) else (none)) else (none))) = some (r1, r2, r3, r4) := H
                      have A41 := Aside0.mk A410
                      clear A410
                      replace H := Option.bind_eq_some_iff.mp H
                      obtain ⟨t189, A420, H⟩ := H
                      replace H : (if 10 ≤ (wrap64 (10 + t175)) then (if (wrap64 (10 + t175)) ≤ (y166.length : Int) then ((some ((y166.take ((wrap64 (10 + t175)) : Int).toNat).drop 10 : List Int)).bind fun y190 => (if t186 = true then ((journal_May.f kj18 t189 (strOfNums y190) t185).bind fun t195 => (if t195 = true then (some (t189, strOfNums y190, t185, 0)) else (some (0, (⟨#[]⟩ : ByteArray), ([] : List (S72)), 4)))) else (some (0, (⟨#[]⟩ : ByteArray), ([] : List (S72)), 4)))) else (none)) else (none)) = some (r1, r2, r3, r4) := H
                      have A42 := Aside0.mk A420
                      clear A420
                      by_cases c43 : 10 ≤ (wrap64 (10 + t175))
                      · rw [if_pos c43] at H
                        have c43b0 := eq_true c43
                        have c43b1 : decide (10 ≤ (wrap64 (10 + t175))) = true := decide_eq_true c43
                        by_cases c44 : (wrap64 (10 + t175)) ≤ (y166.length : Int)
                        · rw [if_pos c44] at H
                          have c44b0 := eq_true c44
                          have c44b1 : decide ((wrap64 (10 + t175)) ≤ (y166.length : Int)) = true := decide_eq_true c44
                          obtain ⟨y190, hy190⟩ : ∃ y_ : List Int, y_ = ((y166.take ((wrap64 (10 + t175)) : Int).toNat).drop 10) := ⟨_, rfl⟩
                          replace H : (if t186 = true then ((journal_May.f kj18 t189 (strOfNums y190) t185).bind fun t195 => (if t195 = true then (some (t189, strOfNums y190, t185, 0)) else (some (0, (⟨#[]⟩ : ByteArray), ([] : List (S72)), 4)))) else (some (0, (⟨#[]⟩ : ByteArray), ([] : List (S72)), 4))) = some (r1, r2, r3, r4) := by first | (rw [hy190]; with_reducible exact H) | (have H2_ := (Option.bind_some _ _).symm.trans H; rw [hy190]; with_reducible exact H2_) | (have H2_ := (Option.bind_some _ _).symm.trans H; with_reducible exact H2_) | with_reducible exact H | (rw [hy190]; exact H) | exact H
                          have Ny190 := Aside0.mk hy190
                          clear hy190
                          have HH_c45 := Aside0.mk H
                          clear H
                          have q48 : ((ji38) : Int) ≤ ((y166.length : Int) : Int) := of_decide_eq_true (by first | (with_reducible assumption) | assumption)
                          obtain ⟨i048, hi048, _, hsz48, _⟩ := info_parts info5
                          have hroom48 : y166.length ≤ c0 := HC174.out
                          have hC48 : Kd.C (Kd.int .u8) _ A0 y166.length y166 := HR174.out
                          have q048 : (0 : Int) ≤ ((ji38) : Int) := of_decide_eq_true (by first | (with_reducible assumption) | assumption)
                          have hcut48 := cut_from (P := Try.prog) 22 5 .i64 Try.underlying22 hi048 1 hsz48 A0 y166.length c0 (ji38) q048 q48
                          have hr48 := Kd.C_drop (m := ((ji38) : Int).toNat) (c := c0) hC48 (by omega) hroom48
                          obtain ⟨A48, hA48⟩ : ∃ A1, A1 = (if c0 = ((ji38) : Int).toNat then A0 else (A0 : Option Addr).map (·.add (((ji38) : Int).toNat * 1))) := ⟨_, rfl⟩
                          obtain ⟨c48, hc48⟩ : ∃ c1, c1 = c0 - ((ji38) : Int).toNat := ⟨_, rfl⟩
                          have hy48 : y181.length = y166.length - ((ji38) : Int).toNat := (by rw [Ny181.out, List.length_drop] <;> omega)
                          rw [show (y166).drop ((ji38) : Int).toNat = y181 from Ny181.out.symm] at hr48
                          replace hr48 : Kd.C (Kd.int .u8) _ A48 y181.length y181 := (by rw [hA48]; exact hr48)
                          rw [← hy48, ← hA48, ← hc48] at hcut48
                          have HR184 := Aside0.mk hr48
                          have HC184 := Aside0.mk (show y181.length ≤ c48 from by rw [hy48, hc48]; exact Nat.sub_le_sub_right hroom48 _)
                          clear hr48 hC48 hroom48 hi048 hsz48 hc48
                          have KY48 := Aside0.mk hy48
                          have KA48 := Aside0.mk hA48
                          clear hy48 hA48
                          replace q48 := eq_true q48
                          try go_wp2_with (first | ((with_reducible refine gate_callee (f := 60) rfl ?_); refine goesL_ (some 73) rfl rfl Try.func60 (by kernel_rfl) rfl #[.slice A48 y181.length c48] rfl (by (try simp only [List.map_toArray, List.map_cons, List.map_nil]); first | done | rfl | (simp only [List.length_drop, List.length_take]; rfl)) ?_; (with_reducible refine (journal_versions.calls kj18 _ _ y181 t185 t186 _ ?side1 ?side2 A41.out).mono ?_); (case side1 => repeat (first | exact (Kd.C_below HR184.out HB.out) | (with_reducible refine Kd.C_alloc ?_ _) | (with_reducible refine Kd.C_drewN ?_ _) | (with_reducible refine Kd.C_drew ?_))); (case side2 => exact HC184.out); rintro e w49 ⟨v187, rfl, ho0, hb⟩; refine ⟨_, rfl, ?_⟩; have HO188 := Aside0.mk (Kd.R_lower ho0 (below_size (by repeat (first | (with_reducible first | exact HB.out | apply below_alloc | apply pw_below_drewN | apply below_drew1 | refine below_set ?_ GE159.out) | exact HB.out)))); have n1_ := Aside0.mk (blk_below (by (with_reducible repeat (first | refine blk_drewN ?_ _ | refine blk_drew ?_ | refine blk_alloc ?_ _)); exact BK159.out) hb); have n2_ := Aside0.mk (below_step (by repeat (first | (with_reducible first | exact HB.out | apply below_alloc | apply pw_below_drewN | apply below_drew1 | refine below_set ?_ GE159.out) | exact HB.out)) hb); clear BK159; clear HB; have BK159 := n1_; have HB := n2_; clear n1_ n2_; (try clear hb); (try clear hb2); (try clear hk); (try clear hi); (try clear ho0)))
                          have n0_ := Aside0.mk (Kd.R_drew HO188.out)
                          have n1_ := Aside0.mk (blk_drew BK159.out)
                          have n2_ := Aside0.mk (below_drew1 HB.out)
                          clear HO188
                          clear BK159
                          clear HB
                          have HO188 := n0_
                          have BK159 := n1_
                          have HB := n2_
                          clear n0_ n1_ n2_
                          have q51 : ((wrap64 (10 + t175)) : Int) ≤ ((y166.length : Int) : Int) := of_decide_eq_true (by first | (with_reducible assumption) | assumption)
                          obtain ⟨i051, hi051, _, hsz51, _⟩ := info_parts info5
                          have hroom51 : y166.length ≤ c0 := HC174.out
                          have hC51 : Kd.C (Kd.int .u8) _ A0 y166.length y166 := HR174.out
                          have ql51 : (10 : Int) ≤ ((wrap64 (10 + t175)) : Int) := of_decide_eq_true (by first | (with_reducible assumption) | assumption)
                          have hcut51 := cut_mid (P := Try.prog) 22 5 .i64 .i64 Try.underlying22 hi051 1 hsz51 A0 y166.length c0 10 (wrap64 (10 + t175)) (by omega) ql51 q51 hroom51
                          have hr51 := Kd.C_mid (lo := (10 : Int).toNat) (hi := ((wrap64 (10 + t175)) : Int).toNat) (c := c0) hC51 (by omega) (by omega) hroom51
                          obtain ⟨A51, hA51⟩ : ∃ A1, A1 = (if c0 = (10 : Int).toNat then A0 else (A0 : Option Addr).map (·.add ((10 : Int).toNat * 1))) := ⟨_, rfl⟩
                          obtain ⟨c51, hc51⟩ : ∃ c1, c1 = c0 - (10 : Int).toNat := ⟨_, rfl⟩
                          have hy51 : y190.length = ((wrap64 (10 + t175)) : Int).toNat - (10 : Int).toNat := (by rw [Ny190.out, List.length_drop, List.length_take] <;> omega)
                          rw [show ((y166).take ((wrap64 (10 + t175)) : Int).toNat).drop (10 : Int).toNat = y190 from Ny190.out.symm] at hr51
                          replace hr51 : Kd.C (Kd.int .u8) _ A51 y190.length y190 := (by rw [hA51]; exact hr51)
                          rw [← hy51, ← hA51, ← hc51] at hcut51
                          have HR193 := Aside0.mk hr51
                          have HC193 := Aside0.mk (show y190.length ≤ c51 from by rw [hy51, hc51]; exact Nat.sub_le_sub_right (Nat.le_trans (by omega) hroom51) _)
                          clear hr51 hC51 hroom51 hi051 hsz51 hc51
                          have KY51 := Aside0.mk hy51
                          have KA51 := Aside0.mk hA51
                          clear hy51 hA51
                          replace q51 := eq_true q51
                          obtain ⟨Ao53, co53, eo53⟩ := Kd.R_slice HO188.out
                          (first | subst eo53 | (injection eo53 with f1_ f2_ f3_; have f4_ := f1_.symm; have f5_ := f3_.symm; clear f1_ f2_ f3_; subst f4_; subst f5_))
                          refine start_ (n := 10) (S := fun w' => (convert 22 9 (.slice A51 y190.length c51)).run Try.prog w' = .ok (.string (strOfNums y190)) w') (ds := []) #[false, false, false, false, false, false, false, false, false, false] (by kernel_rfl) rfl rfl ((Kd.C_string (P := Try.prog) (A := A51) (c := c51) Try.underlying22 Try.underlying5 Try.underlying9 (by first | exact (Kd.C_below HR193.out HB.out) | exact Kd.C_drewN (Kd.C_below HR193.out HB.out) _ | exact Kd.C_below HR193.out (by repeat (first | (with_reducible first | exact HB.out | apply below_alloc | apply pw_below_drewN | apply below_drew1 | refine below_set ?_ GE159.out | refine below_set ?_ GE194.out) | exact HB.out))))) (fun hHeld => ?_); refine with_tabW journal_Decode.tab14 journal_Decode.bits14 (fun HT_ HW_ => ?_)
                          generalize w49.drew = w50 at HO188 BK159 HB HR193 hHeld ⊢
                          refine pure_ (i := 0) (N := some 76) (v := ?_) (a' := ?_) #[true, false, false, false, false, false, false, false, false, false] rfl rfl (any_of HT_.out (by kernel_rfl)) (fun _ _ _ h => h) (Or.inl ⟨by rfl, ?_⟩) ?_ ?_
                          rotate_left
                          · intro w'
                            go_simp
                            with_reducible rfl
                          rotate_left
                          · simp only [Act.put, List.setIfInBounds_toArray, List.set_cons_zero, List.set_cons_succ, i64_w, i32_w]
                            rfl
                          refine pure_ (i := 2) (N := some 78) (v := ?_) (a' := ?_) #[true, false, true, false, false, false, false, false, false, false] rfl rfl (any_of HT_.out (by kernel_rfl)) (fun _ _ _ h => h) (Or.inl ⟨by rfl, ?_⟩) ?_ ?_
                          rotate_left
                          · intro w'
                            go_simp
                            with_reducible rfl
                          rotate_left
                          · simp only [Act.put, List.setIfInBounds_toArray, List.set_cons_zero, List.set_cons_succ, i64_w, i32_w]
                            rfl
                          refine pure_ (i := 3) (N := some 79) (v := ?_) (a' := ?_) #[true, false, true, true, false, false, false, false, false, false] rfl rfl (any_of HT_.out (by kernel_rfl)) (fun _ _ _ h => h) (Or.inl ⟨by rfl, ?_⟩) ?_ ?_
                          rotate_left
                          · intro w'
                            go_simp
                            with_reducible rfl
                          rotate_left
                          · simp only [Act.put, List.setIfInBounds_toArray, List.set_cons_zero, List.set_cons_succ, i64_w, i32_w]
                            rfl
                          refine pure_ (i := 4) (N := some 80) (v := ?_) (a' := ?_) #[true, false, true, true, true, false, false, false, false, false] rfl rfl (any_of HT_.out (by kernel_rfl)) (fun _ _ _ h => h) (Or.inl ⟨by rfl, ?_⟩) ?_ ?_
                          rotate_left
                          · intro w'
                            go_simp
                            with_reducible rfl
                          rotate_left
                          · simp only [Act.put, List.setIfInBounds_toArray, List.set_cons_zero, List.set_cons_succ, i64_w, i32_w]
                            rfl
                          refine pure_ (i := 6) (N := some 82) (v := ?_) (a' := ?_) #[true, false, true, true, true, false, true, false, false, false] rfl rfl (any_of HT_.out (by kernel_rfl)) (fun _ _ _ h => h) (Or.inl ⟨by rfl, ?_⟩) ?_ ?_
                          rotate_left
                          · intro w'
                            go_simp
                            with_reducible rfl
                          rotate_left
                          · simp only [Act.put, List.setIfInBounds_toArray, List.set_cons_zero, List.set_cons_succ, i64_w, i32_w]
                            rfl
                          refine take_ (i := 5) (N := some 81) (v := ?_) (a' := ?_) #[true, false, true, true, true, true, true, false, false, false] rfl rfl (take_ofW HT_.out HW_.out (by kernel_rfl)) (fun _ _ _ h => h) (Or.inl ⟨by rfl, ?_⟩) hHeld ?_ ?_
                          rotate_left
                          · intro w' s0
                            go_simp
                            with_reducible rfl
                          rotate_left
                          · simp only [Act.put, List.setIfInBounds_toArray, List.set_cons_zero, List.set_cons_succ, i64_w, i32_w]
                            rfl
                          refine join_ (σ := Nat) 1 #[true, true, true, true, true, true, true, true, true, false] (fun s_ => [(77, .int .i64 t189), (10, .pointer (some ⟨s_, 0, none⟩)), (83, .agg #[.int .i64 t189, .string (strOfNums y190), .slice Ao53 t185.length co53])]) (fun s_ w' => ((convert 22 9 (.slice A51 y190.length c51)).run Try.prog w' = .ok (.string (strOfNums y190)) w') ∧ (Kd.R k72 72 w' w.heap.size (fun _ => True) (.slice Ao53 t185.length co53) t185) ∧ (w'.heap[gb159]? = some (.cells #[.int .i64 0, .string (⟨#[]⟩ : ByteArray), .slice none 0 0] 48 (0, 0))) ∧ (w'.heap[s_]? = some (.cells #[.int .i64 0, .string (⟨#[]⟩ : ByteArray), .slice none 0 0] 48 (0, 0))) ∧ (w.heap.size ≤ s_) ∧ (w.heap.size ≤ s_) ∧ (gb159 ≠ s_) ∧ (s_ ≠ gb159) ∧ (Below w.heap.size w w')) ?_ ?_
                          rotate_left
                          · intro hCont
                            refine two_ (i := 1) (j := 8) (Ni := some 77) (Nj := some 10) #[true, true, true, true, true, true, true, false, false, false] #[true, false, true, true, true, true, true, false, true, false] rfl rfl rfl rfl (two_of HT_.out (by kernel_rfl)) (by decide) (by decide) (fun K hK => ?_) (fun K hK => ?_)
                            · skip
                              refine goes_ Try.func59 (by kernel_rfl) rfl #[.slice A0 y166.length c0, .int .i64 4, .int .i64 4] (by rfl) rfl rfl (by (try simp only [List.map_toArray, List.map_cons, List.map_nil]); first | done | rfl | (simp only [List.length_drop, List.length_take]; rfl)) ?_
                              with_reducible refine (journal_get.calls kj18 _ _ y166 4 4 t189 _ ?side1 ?side2 A42.out).mono ?_
                              (case side1 => repeat (first | exact (Kd.C_below HR174.out HB.out) | (with_reducible refine Kd.C_alloc ?_ _) | (with_reducible refine Kd.C_drewN ?_ _) | (with_reducible refine Kd.C_drew ?_)))
                              (case side2 => exact HC174.out)
                              rintro e w' ⟨rfl, ⟨nd, rfl⟩⟩
                              refine ⟨_, rfl, ?_⟩
                              refine hK.out _ _ ((Kd.C_string (P := Try.prog) (A := A51) (c := c51) Try.underlying22 Try.underlying5 Try.underlying9 (by first | exact (Kd.C_below HR193.out HB.out) | exact Kd.C_drewN (Kd.C_below HR193.out HB.out) _ | exact Kd.C_below HR193.out (by repeat (first | (with_reducible first | exact HB.out | apply below_alloc | apply pw_below_drewN | apply below_drew1 | refine below_set ?_ GE159.out | refine below_set ?_ GE194.out) | exact HB.out))))) (fun hHeld => ?_)
                              clear hK K
                              refine norm_ (a' := ?_) ?_ ?_
                              rotate_left
                              · show Act.put _ (some 77) _ = _
                                simp only [Act.put, List.setIfInBounds_toArray, List.set_cons_zero, List.set_cons_succ, i64_w, i32_w]
                                rfl
                              refine pure_ (i := 7) (N := some 83) (v := ?_) (a' := ?_) #[true, true, true, true, true, true, true, true, false, false] rfl rfl (any_of HT_.out (by kernel_rfl)) (fun _ _ _ h => h) (Or.inl ⟨by rfl, ?_⟩) ?_ ?_
                              rotate_left
                              · intro w'
                                go_simp
                                with_reducible rfl
                              rotate_left
                              · simp only [Act.put, List.setIfInBounds_toArray, List.set_cons_zero, List.set_cons_succ, i64_w, i32_w]
                                rfl
                              refine one_ (i := 8) (N := some 10) #[true, true, true, true, true, true, true, true, true, false] rfl rfl (one_of HT_.out (by kernel_rfl)) (by decide) (fun K hK => ?_)
                              refine box_step ?hg (N := 10) ?hd (cs := #[.int .i64 0, .string (⟨#[]⟩ : ByteArray), .slice none 0 0]) (t := 48) ?hr ?_; (case hd => rfl); (case hg => rfl); (case hr => first | (go_simp; done) | (go_simp; rfl))
                              intro gb194 hg w54 hbox hb
                              have n0_ := Aside0.mk (Kd.R_below (by (with_reducible repeat (first | apply Kd.R_alloc | apply Kd.R_drewN | apply Kd.R_drew)); exact HO188.out) hb)
                              have n1_ := Aside0.mk (blk_below (by (with_reducible repeat (first | refine blk_drewN ?_ _ | refine blk_drew ?_ | refine blk_alloc ?_ _)); exact BK159.out) hb)
                              have n2_ := Aside0.mk (below_step (by repeat (first | (with_reducible first | exact HB.out | apply below_alloc | apply pw_below_drewN | apply below_drew1 | refine below_set ?_ GE159.out) | exact HB.out)) hb)
                              have n3_ := Aside0.mk (hbox)
                              have n4_ := Aside0.mk ((by rw [hg]; exact (below_size (by repeat (first | (with_reducible first | exact HB.out | apply below_alloc | apply pw_below_drewN | apply below_drew1 | refine below_set ?_ GE159.out) | exact HB.out))) : w.heap.size ≤ gb194))
                              have n5_ := Aside0.mk ((by rw [hg]; exact (below_size (by repeat (first | (with_reducible first | exact HB.out | apply below_alloc | apply pw_below_drewN | apply below_drew1 | refine below_set ?_ GE159.out) | exact HB.out))) : w.heap.size ≤ gb194))
                              have n6_ := Aside0.mk ((by rw [hg]; exact Nat.ne_of_lt (blk_lt (by (with_reducible repeat (first | refine blk_drewN ?_ _ | refine blk_drew ?_ | refine blk_alloc ?_ _)); exact BK159.out)) : gb159 ≠ gb194))
                              have n7_ := Aside0.mk ((by rw [hg]; exact Nat.ne_of_gt (blk_lt (by (with_reducible repeat (first | refine blk_drewN ?_ _ | refine blk_drew ?_ | refine blk_alloc ?_ _)); exact BK159.out)) : gb194 ≠ gb159))
                              clear HO188
                              clear BK159
                              clear HB
                              have HO188 := n0_
                              have BK159 := n1_
                              have HB := n2_
                              have BK194 := n3_
                              have GW194 := n4_
                              have GE194 := n5_
                              have NB159_194 := n6_
                              have NB194_159 := n7_
                              clear n0_ n1_ n2_ n3_ n4_ n5_ n6_ n7_
                              clear hb hbox hg
                              refine hK.out _ _ ((Kd.C_string (P := Try.prog) (A := A51) (c := c51) Try.underlying22 Try.underlying5 Try.underlying9 (by first | exact (Kd.C_below HR193.out HB.out) | exact Kd.C_drewN (Kd.C_below HR193.out HB.out) _ | exact Kd.C_below HR193.out (by repeat (first | (with_reducible first | exact HB.out | apply below_alloc | apply pw_below_drewN | apply below_drew1 | refine below_set ?_ GE159.out | refine below_set ?_ GE194.out) | exact HB.out))))) (fun hHeld => ?_)
                              clear hK K
                              refine norm_ (a' := ?_) ?_ ?_
                              rotate_left
                              · show Act.put _ (some 10) _ = _
                                simp only [Act.put, List.setIfInBounds_toArray, List.set_cons_zero, List.set_cons_succ, i64_w, i32_w]
                                rfl
                              exact norm_ (by simp only [putAll, Act.put, List.setIfInBounds_toArray, List.set_cons_zero, List.set_cons_succ]) (hCont (gb194) _ ⟨hHeld, (by (with_reducible repeat (first | apply Kd.R_alloc | apply Kd.R_drewN | apply Kd.R_drew)); exact HO188.out), (by (with_reducible repeat (first | refine blk_drewN ?_ _ | refine blk_drew ?_ | refine blk_alloc ?_ _)); exact BK159.out), (by (with_reducible repeat (first | refine blk_drewN ?_ _ | refine blk_drew ?_ | refine blk_alloc ?_ _)); exact BK194.out), GW194.out, GE194.out, NB159_194.out, NB194_159.out, (by repeat (first | (with_reducible first | exact HB.out | apply below_alloc | apply pw_below_drewN | apply below_drew1 | refine below_set ?_ GE159.out | refine below_set ?_ GE194.out) | exact HB.out))⟩)
                            · skip
                              refine box_step ?hg (N := 10) ?hd (cs := #[.int .i64 0, .string (⟨#[]⟩ : ByteArray), .slice none 0 0]) (t := 48) ?hr ?_; (case hd => rfl); (case hg => rfl); (case hr => first | (go_simp; done) | (go_simp; rfl))
                              intro gb194 hg w53 hbox hb
                              have n0_ := Aside0.mk (Kd.R_below (by (with_reducible repeat (first | apply Kd.R_alloc | apply Kd.R_drewN | apply Kd.R_drew)); exact HO188.out) hb)
                              have n1_ := Aside0.mk (blk_below (by (with_reducible repeat (first | refine blk_drewN ?_ _ | refine blk_drew ?_ | refine blk_alloc ?_ _)); exact BK159.out) hb)
                              have n2_ := Aside0.mk (below_step (by repeat (first | (with_reducible first | exact HB.out | apply below_alloc | apply pw_below_drewN | apply below_drew1 | refine below_set ?_ GE159.out) | exact HB.out)) hb)
                              have n3_ := Aside0.mk (hbox)
                              have n4_ := Aside0.mk ((by rw [hg]; exact (below_size (by repeat (first | (with_reducible first | exact HB.out | apply below_alloc | apply pw_below_drewN | apply below_drew1 | refine below_set ?_ GE159.out) | exact HB.out))) : w.heap.size ≤ gb194))
                              have n5_ := Aside0.mk ((by rw [hg]; exact (below_size (by repeat (first | (with_reducible first | exact HB.out | apply below_alloc | apply pw_below_drewN | apply below_drew1 | refine below_set ?_ GE159.out) | exact HB.out))) : w.heap.size ≤ gb194))
                              have n6_ := Aside0.mk ((by rw [hg]; exact Nat.ne_of_lt (blk_lt (by (with_reducible repeat (first | refine blk_drewN ?_ _ | refine blk_drew ?_ | refine blk_alloc ?_ _)); exact BK159.out)) : gb159 ≠ gb194))
                              have n7_ := Aside0.mk ((by rw [hg]; exact Nat.ne_of_gt (blk_lt (by (with_reducible repeat (first | refine blk_drewN ?_ _ | refine blk_drew ?_ | refine blk_alloc ?_ _)); exact BK159.out)) : gb194 ≠ gb159))
                              clear HO188
                              clear BK159
                              clear HB
                              have HO188 := n0_
                              have BK159 := n1_
                              have HB := n2_
                              have BK194 := n3_
                              have GW194 := n4_
                              have GE194 := n5_
                              have NB159_194 := n6_
                              have NB194_159 := n7_
                              clear n0_ n1_ n2_ n3_ n4_ n5_ n6_ n7_
                              clear hb hbox hg
                              refine hK.out _ _ ((Kd.C_string (P := Try.prog) (A := A51) (c := c51) Try.underlying22 Try.underlying5 Try.underlying9 (by first | exact (Kd.C_below HR193.out HB.out) | exact Kd.C_drewN (Kd.C_below HR193.out HB.out) _ | exact Kd.C_below HR193.out (by repeat (first | (with_reducible first | exact HB.out | apply below_alloc | apply pw_below_drewN | apply below_drew1 | refine below_set ?_ GE159.out | refine below_set ?_ GE194.out) | exact HB.out))))) (fun hHeld => ?_)
                              clear hK K
                              refine norm_ (a' := ?_) ?_ ?_
                              rotate_left
                              · show Act.put _ (some 10) _ = _
                                simp only [Act.put, List.setIfInBounds_toArray, List.set_cons_zero, List.set_cons_succ, i64_w, i32_w]
                                rfl
                              refine one_ (i := 1) (N := some 77) #[true, true, true, true, true, true, true, false, true, false] rfl rfl (one_of HT_.out (by kernel_rfl)) (by decide) (fun K hK => ?_)
                              refine goes_ Try.func59 (by kernel_rfl) rfl #[.slice A0 y166.length c0, .int .i64 4, .int .i64 4] (by rfl) rfl rfl (by (try simp only [List.map_toArray, List.map_cons, List.map_nil]); first | done | rfl | (simp only [List.length_drop, List.length_take]; rfl)) ?_
                              with_reducible refine (journal_get.calls kj18 _ _ y166 4 4 t189 _ ?side1 ?side2 A42.out).mono ?_
                              (case side1 => repeat (first | exact (Kd.C_below HR174.out HB.out) | (with_reducible refine Kd.C_alloc ?_ _) | (with_reducible refine Kd.C_drewN ?_ _) | (with_reducible refine Kd.C_drew ?_)))
                              (case side2 => exact HC174.out)
                              rintro e w' ⟨rfl, ⟨nd, rfl⟩⟩
                              refine ⟨_, rfl, ?_⟩
                              refine hK.out _ _ ((Kd.C_string (P := Try.prog) (A := A51) (c := c51) Try.underlying22 Try.underlying5 Try.underlying9 (by first | exact (Kd.C_below HR193.out HB.out) | exact Kd.C_drewN (Kd.C_below HR193.out HB.out) _ | exact Kd.C_below HR193.out (by repeat (first | (with_reducible first | exact HB.out | apply below_alloc | apply pw_below_drewN | apply below_drew1 | refine below_set ?_ GE159.out | refine below_set ?_ GE194.out) | exact HB.out))))) (fun hHeld => ?_)
                              clear hK K
                              refine norm_ (a' := ?_) ?_ ?_
                              rotate_left
                              · show Act.put _ (some 77) _ = _
                                simp only [Act.put, List.setIfInBounds_toArray, List.set_cons_zero, List.set_cons_succ, i64_w, i32_w]
                                rfl
                              refine pure_ (i := 7) (N := some 83) (v := ?_) (a' := ?_) #[true, true, true, true, true, true, true, true, true, false] rfl rfl (any_of HT_.out (by kernel_rfl)) (fun _ _ _ h => h) (Or.inl ⟨by rfl, ?_⟩) ?_ ?_
                              rotate_left
                              · intro w'
                                go_simp
                                with_reducible rfl
                              rotate_left
                              · simp only [Act.put, List.setIfInBounds_toArray, List.set_cons_zero, List.set_cons_succ, i64_w, i32_w]
                                rfl
                              exact norm_ (by simp only [putAll, Act.put, List.setIfInBounds_toArray, List.set_cons_zero, List.set_cons_succ]) (hCont (gb194) _ ⟨hHeld, (by (with_reducible repeat (first | apply Kd.R_alloc | apply Kd.R_drewN | apply Kd.R_drew)); exact HO188.out), (by (with_reducible repeat (first | refine blk_drewN ?_ _ | refine blk_drew ?_ | refine blk_alloc ?_ _)); exact BK159.out), (by (with_reducible repeat (first | refine blk_drewN ?_ _ | refine blk_drew ?_ | refine blk_alloc ?_ _)); exact BK194.out), GW194.out, GE194.out, NB159_194.out, NB194_159.out, (by repeat (first | (with_reducible first | exact HB.out | apply below_alloc | apply pw_below_drewN | apply below_drew1 | refine below_set ?_ GE159.out | refine below_set ?_ GE194.out) | exact HB.out))⟩)
                          rintro gb194 w55 ⟨hS_, h0_, h1_, h2_, h3_, h4_, h5_, h6_, h7_⟩
                          have n0_ : Aside0 (Kd.R k72 72 w55 w.heap.size (fun _ => True) (.slice Ao53 t185.length co53) t185) := ⟨h0_⟩
                          have n1_ : Aside0 (w55.heap[gb159]? = some (.cells #[.int .i64 0, .string (⟨#[]⟩ : ByteArray), .slice none 0 0] 48 (0, 0))) := ⟨h1_⟩
                          have n2_ : Aside0 (w55.heap[gb194]? = some (.cells #[.int .i64 0, .string (⟨#[]⟩ : ByteArray), .slice none 0 0] 48 (0, 0))) := ⟨h2_⟩
                          have n3_ : Aside0 (w.heap.size ≤ gb194) := ⟨h3_⟩
                          have n4_ : Aside0 (w.heap.size ≤ gb194) := ⟨h4_⟩
                          have n5_ : Aside0 (gb159 ≠ gb194) := ⟨h5_⟩
                          have n6_ : Aside0 (gb194 ≠ gb159) := ⟨h6_⟩
                          have n7_ : Aside0 (Below w.heap.size w w55) := ⟨h7_⟩
                          clear HO188
                          clear BK159
                          clear HB
                          clear h0_ h1_ h2_ h3_ h4_ h5_ h6_ h7_
                          have HO188 := n0_
                          have BK159 := n1_
                          have BK194 := n2_
                          have GW194 := n3_
                          have GE194 := n4_
                          have NB159_194 := n5_
                          have NB194_159 := n6_
                          have HB := n7_
                          clear n0_ n1_ n2_ n3_ n4_ n5_ n6_ n7_
                          have hHeld : (convert 22 9 (.slice A51 y190.length c51)).run Try.prog w55 = .ok (.string (strOfNums y190)) w55 := hS_
                          refine norm_ (a' := ?_) ?_ ?_
                          rotate_left
                          · simp only [putAll, Act.put, List.setIfInBounds_toArray, List.set_cons_zero, List.set_cons_succ]
                            rfl
                          refine one_ (i := 9) (N := none) #[true, true, true, true, true, true, true, true, true, true] rfl rfl (one_of HT_.out (by kernel_rfl)) (by decide) (fun K hK => ?_)
                          have hs56 : w55.cell? ⟨gb194, 0, none⟩ = some (.int .i64 0) := (blk_cell BK194.out 0).trans rfl
                          have hfs56 := blk_frozen BK194.out 0
                          have hns56_0 := NB159_194.out
                          have hms56_0 := NB194_159.out
                          have hs57 : w55.cell? ⟨gb194, 1, none⟩ = some (.string (⟨#[]⟩ : ByteArray)) := (blk_cell BK194.out 1).trans rfl
                          have hfs57 := blk_frozen BK194.out 1
                          have hns57_0 := NB159_194.out
                          have hms57_0 := NB194_159.out
                          have hs58 : w55.cell? ⟨gb194, 2, none⟩ = some (.slice none 0 0) := (blk_cell BK194.out 2).trans rfl
                          have hfs58 := blk_frozen BK194.out 2
                          have hns58_0 := NB159_194.out
                          have hms58_0 := NB194_159.out
                          refine skip_ (w1 := ?_) (by rfl) rfl ?_ ?_
                          rotate_left
                          · go_simp
                            rfl
                          refine hK.out _ _ ((Kd.C_string (P := Try.prog) (A := A51) (c := c51) Try.underlying22 Try.underlying5 Try.underlying9 (by first | exact (Kd.C_below HR193.out HB.out) | exact Kd.C_drewN (Kd.C_below HR193.out HB.out) _ | exact Kd.C_below HR193.out (by repeat (first | (with_reducible first | exact HB.out | apply below_alloc | apply pw_below_drewN | apply below_drew1 | refine below_set ?_ GE159.out | refine below_set ?_ GE194.out) | exact HB.out))))) (fun hHeld => ?_)
                          clear hK K
                          refine done_ (done_of HT_.out (by kernel_rfl)) ?_
                          have hnb59 := NB194_159.out
                          have hnc59 := NB159_194.out
                          have hcz60_0 : w55.cell? ⟨gb194, 0, none⟩ = some (.int .i64 0) := (blk_cell BK194.out 0).trans rfl
                          have hcz60_1 : w55.cell? ⟨gb194, 1, none⟩ = some (.string (⟨#[]⟩ : ByteArray)) := (blk_cell BK194.out 1).trans rfl
                          have hcz60_2 : w55.cell? ⟨gb194, 2, none⟩ = some (.slice none 0 0) := (blk_cell BK194.out 2).trans rfl
                          have hfz60_0 := blk_frozen BK194.out 0
                          have hfz60_1 := blk_frozen BK194.out 1
                          have hfz60_2 := blk_frozen BK194.out 2
                          have H := HH_c45.out
                          clear HH_c45
                          by_cases c45 : t186 = true
                          · subst c45
                            have H1 : ((journal_May.f kj18 t189 (strOfNums y190) t185).bind fun t195 => (if t195 = true then (some (t189, strOfNums y190, t185, 0)) else (some (0, (⟨#[]⟩ : ByteArray), ([] : List (S72)), 4)))) = some (r1, r2, r3, r4) := by rw [if_pos rfl] at H; exact H
                            clear H
                            have H := H1
                            clear H1
                            replace H := Option.bind_eq_some_iff.mp H
                            obtain ⟨t195, A460, H⟩ := H
                            replace H : (if t195 = true then (some (t189, strOfNums y190, t185, 0)) else (some (0, (⟨#[]⟩ : ByteArray), ([] : List (S72)), 4))) = some (r1, r2, r3, r4) := H
                            have A46 := Aside0.mk A460
                            clear A460
                            have HH_c47 := Aside0.mk H
                            clear H
                            have H := HH_c47.out
                            clear HH_c47
                            by_cases c47 : t195 = true
                            · subst c47
                              have H1 : (some (t189, strOfNums y190, t185, 0)) = some (r1, r2, r3, r4) := by rw [if_pos rfl] at H; exact H
                              clear H
                              have H := H1
                              clear H1
                              simp only [Option.some.injEq, Prod.mk.injEq] at H
                              obtain ⟨rfl, rfl, rfl, rfl⟩ := H
                              try go_wp2_with (first | (go_at_call 26; (with_reducible refine (journal_May.calls kj18 t189 (strOfNums y190) _ _ t185 true _ ?side1 ?side2 A46.out).mono ?_); (case side1 => refine (Kd.R_reads' (e := 72) (base := w.heap.size) (ok := fun k_ => True) (n := t185.length) (c := co53) ?_).2.2; exact (by (with_reducible repeat (first | apply Kd.R_alloc | apply Kd.R_drewN | apply Kd.R_drew)); exact (Kd.R_mono (Kd.R_far (p := ⟨gb194, 2, none⟩) (Kd.R_far (p := ⟨gb194, 1, none⟩) (Kd.R_far (p := ⟨gb194, 0, none⟩) (Kd.R_types HO188.out BK194.out (by decide)) (fun _ hk => hk.2) (.int .i64 t189)) (fun _ hk => hk.2) (.string (strOfNums y190))) (fun _ hk => hk.2) (.slice Ao53 t185.length co53)) (fun _ h_ => h_.1)))); (case side2 => exact (Kd.R_reads' HO188.out).2.1); rintro e w61 ⟨rfl, hb⟩; have n0_ := Aside0.mk (Kd.R_below (by (with_reducible repeat (first | apply Kd.R_alloc | apply Kd.R_drewN | apply Kd.R_drew)); exact (Kd.R_mono (Kd.R_far (p := ⟨gb194, 2, none⟩) (Kd.R_far (p := ⟨gb194, 1, none⟩) (Kd.R_far (p := ⟨gb194, 0, none⟩) (Kd.R_types HO188.out BK194.out (by decide)) (fun _ hk => hk.2) (.int .i64 t189)) (fun _ hk => hk.2) (.string (strOfNums y190))) (fun _ hk => hk.2) (.slice Ao53 t185.length co53)) (fun _ h_ => h_.1))) hb); have n1_ := Aside0.mk (blk_below (g := gb159) (o := .cells #[.int .i64 0, .string (⟨#[]⟩ : ByteArray), .slice none 0 0] 48 (0, 0)) (by (iterate 3 ((with_reducible repeat (first | refine blk_drewN ?_ _ | refine blk_drew ?_ | refine blk_alloc ?_ _)); refine blk_far ?_ NB159_194.out _)); (with_reducible repeat (first | refine blk_drewN ?_ _ | refine blk_drew ?_ | refine blk_alloc ?_ _)); exact BK159.out) hb); have n2_ := Aside0.mk (blk_below (g := gb194) (o := .cells #[.int .i64 t189, .string (strOfNums y190), .slice Ao53 t185.length co53] 48 (0, 0)) (by (with_reducible repeat (first | refine blk_drewN ?_ _ | refine blk_drew ?_ | refine blk_alloc ?_ _)); refine blk_put (cs := #[.int .i64 t189, .string (strOfNums y190), .slice none 0 0]) ?_ 2 _ rfl; (with_reducible repeat (first | refine blk_drewN ?_ _ | refine blk_drew ?_ | refine blk_alloc ?_ _)); refine blk_put (cs := #[.int .i64 t189, .string (⟨#[]⟩ : ByteArray), .slice none 0 0]) ?_ 1 _ rfl; (with_reducible repeat (first | refine blk_drewN ?_ _ | refine blk_drew ?_ | refine blk_alloc ?_ _)); refine blk_put (cs := #[.int .i64 0, .string (⟨#[]⟩ : ByteArray), .slice none 0 0]) ?_ 0 _ rfl; (with_reducible repeat (first | refine blk_drewN ?_ _ | refine blk_drew ?_ | refine blk_alloc ?_ _)); exact BK194.out) hb); have n3_ := Aside0.mk (below_step (by repeat (first | (with_reducible first | exact HB.out | apply below_alloc | apply pw_below_drewN | apply below_drew1 | refine below_set ?_ GE159.out | refine below_set ?_ GE194.out) | exact HB.out)) hb); clear HO188; clear BK159; clear BK194; clear HB; have HO188 := n0_; have BK159 := n1_; have BK194 := n2_; have HB := n3_; clear n0_ n1_ n2_ n3_; (try clear hb); (try clear hb2); (try clear hk); (try clear hi); have hcz62_0 : w61.cell? ⟨gb194, 0, none⟩ = some (.int .i64 t189) := (blk_cell BK194.out 0).trans rfl; have hcz62_1 : w61.cell? ⟨gb194, 1, none⟩ = some (.string (strOfNums y190)) := (blk_cell BK194.out 1).trans rfl; have hcz62_2 : w61.cell? ⟨gb194, 2, none⟩ = some (.slice Ao53 t185.length co53) := (blk_cell BK194.out 2).trans rfl; have hfz62_0 := blk_frozen BK194.out 0; have hfz62_1 := blk_frozen BK194.out 1; have hfz62_2 := blk_frozen BK194.out 2; have hcz63_0 : w61.cell? ⟨gb159, 0, none⟩ = some (.int .i64 0) := (blk_cell BK159.out 0).trans rfl; have hcz63_1 : w61.cell? ⟨gb159, 1, none⟩ = some (.string (⟨#[]⟩ : ByteArray)) := (blk_cell BK159.out 1).trans rfl; have hcz63_2 : w61.cell? ⟨gb159, 2, none⟩ = some (.slice none 0 0) := (blk_cell BK159.out 2).trans rfl; have hfz63_0 := blk_frozen BK159.out 0; have hfz63_1 := blk_frozen BK159.out 1; have hfz63_2 := blk_frozen BK159.out 2))
                              refine bodyPost_ret (results_ct rfl _ _ gb159 48 #[.int .i64 t189, .string (strOfNums y190), .slice Ao53 t185.length co53] (0, 0) _ rfl (by (with_reducible repeat (first | refine blk_drewN ?_ _ | refine blk_drew ?_ | refine blk_alloc ?_ _)); refine blk_put (cs := #[.int .i64 t189, .string (strOfNums y190), .slice none 0 0]) ?_ 2 _ rfl; (with_reducible repeat (first | refine blk_drewN ?_ _ | refine blk_drew ?_ | refine blk_alloc ?_ _)); refine blk_put (cs := #[.int .i64 t189, .string (⟨#[]⟩ : ByteArray), .slice none 0 0]) ?_ 1 _ rfl; (with_reducible repeat (first | refine blk_drewN ?_ _ | refine blk_drew ?_ | refine blk_alloc ?_ _)); refine blk_put (cs := #[.int .i64 0, .string (⟨#[]⟩ : ByteArray), .slice none 0 0]) ?_ 0 _ rfl; (with_reducible repeat (first | refine blk_drewN ?_ _ | refine blk_drew ?_ | refine blk_alloc ?_ _)); exact BK159.out) Try.underlying48 rfl (by kernel_rfl)) rfl ?_
                              exact ⟨_, by first | rfl | (simp [errW_none, errW_some] <;> rfl) | (simp only [← hji8, ← hji38]; first | rfl | (simp [errW_none, errW_some] <;> rfl)) | (simp [*, errW_none, errW_some] <;> rfl), by (with_reducible repeat (first | apply Kd.R_alloc | apply Kd.R_drewN | apply Kd.R_drew)); exact Kd.R_mono (Kd.R_far (p := ⟨gb159, 2, none⟩) (Kd.R_far (p := ⟨gb159, 1, none⟩) (Kd.R_far (p := ⟨gb159, 0, none⟩) (Kd.R_types HO188.out BK159.out (by decide)) (fun _ hk => hk.2) (.int .i64 t189)) (fun _ hk => hk.2) (.string (strOfNums y190))) (fun _ hk => hk.2) (.slice Ao53 t185.length co53)) (fun _ hk => trivial), by repeat (first | (with_reducible first | exact HB.out | apply below_alloc | apply pw_below_drewN | apply below_drew1 | refine below_set ?_ GE159.out | refine below_set ?_ GE194.out) | exact HB.out)⟩
                            · replace c47 := Bool.eq_false_iff.mpr c47
                              subst c47
                              have H1 : (some (0, (⟨#[]⟩ : ByteArray), ([] : List (S72)), 4)) = some (r1, r2, r3, r4) := by rw [if_neg (show ¬ (false = true) by decide)] at H; exact H
                              clear H
                              have H := H1
                              clear H1
                              simp only [Option.some.injEq, Prod.mk.injEq] at H
                              obtain ⟨rfl, rfl, rfl, rfl⟩ := H
                              try go_wp2_with (first | (go_at_call 26; (with_reducible refine (journal_May.calls kj18 t189 (strOfNums y190) _ _ t185 false _ ?side1 ?side2 A46.out).mono ?_); (case side1 => refine (Kd.R_reads' (e := 72) (base := w.heap.size) (ok := fun k_ => True) (n := t185.length) (c := co53) ?_).2.2; exact (by (with_reducible repeat (first | apply Kd.R_alloc | apply Kd.R_drewN | apply Kd.R_drew)); exact (Kd.R_mono (Kd.R_far (p := ⟨gb194, 2, none⟩) (Kd.R_far (p := ⟨gb194, 1, none⟩) (Kd.R_far (p := ⟨gb194, 0, none⟩) (Kd.R_types HO188.out BK194.out (by decide)) (fun _ hk => hk.2) (.int .i64 t189)) (fun _ hk => hk.2) (.string (strOfNums y190))) (fun _ hk => hk.2) (.slice Ao53 t185.length co53)) (fun _ h_ => h_.1)))); (case side2 => exact (Kd.R_reads' HO188.out).2.1); rintro e w77 ⟨rfl, hb⟩; have n0_ := Aside0.mk (Kd.R_below (by (with_reducible repeat (first | apply Kd.R_alloc | apply Kd.R_drewN | apply Kd.R_drew)); exact (Kd.R_mono (Kd.R_far (p := ⟨gb194, 2, none⟩) (Kd.R_far (p := ⟨gb194, 1, none⟩) (Kd.R_far (p := ⟨gb194, 0, none⟩) (Kd.R_types HO188.out BK194.out (by decide)) (fun _ hk => hk.2) (.int .i64 t189)) (fun _ hk => hk.2) (.string (strOfNums y190))) (fun _ hk => hk.2) (.slice Ao53 t185.length co53)) (fun _ h_ => h_.1))) hb); have n1_ := Aside0.mk (blk_below (g := gb159) (o := .cells #[.int .i64 0, .string (⟨#[]⟩ : ByteArray), .slice none 0 0] 48 (0, 0)) (by (iterate 3 ((with_reducible repeat (first | refine blk_drewN ?_ _ | refine blk_drew ?_ | refine blk_alloc ?_ _)); refine blk_far ?_ NB159_194.out _)); (with_reducible repeat (first | refine blk_drewN ?_ _ | refine blk_drew ?_ | refine blk_alloc ?_ _)); exact BK159.out) hb); have n2_ := Aside0.mk (blk_below (g := gb194) (o := .cells #[.int .i64 t189, .string (strOfNums y190), .slice Ao53 t185.length co53] 48 (0, 0)) (by (with_reducible repeat (first | refine blk_drewN ?_ _ | refine blk_drew ?_ | refine blk_alloc ?_ _)); refine blk_put (cs := #[.int .i64 t189, .string (strOfNums y190), .slice none 0 0]) ?_ 2 _ rfl; (with_reducible repeat (first | refine blk_drewN ?_ _ | refine blk_drew ?_ | refine blk_alloc ?_ _)); refine blk_put (cs := #[.int .i64 t189, .string (⟨#[]⟩ : ByteArray), .slice none 0 0]) ?_ 1 _ rfl; (with_reducible repeat (first | refine blk_drewN ?_ _ | refine blk_drew ?_ | refine blk_alloc ?_ _)); refine blk_put (cs := #[.int .i64 0, .string (⟨#[]⟩ : ByteArray), .slice none 0 0]) ?_ 0 _ rfl; (with_reducible repeat (first | refine blk_drewN ?_ _ | refine blk_drew ?_ | refine blk_alloc ?_ _)); exact BK194.out) hb); have n3_ := Aside0.mk (below_step (by repeat (first | (with_reducible first | exact HB.out | apply below_alloc | apply pw_below_drewN | apply below_drew1 | refine below_set ?_ GE159.out | refine below_set ?_ GE194.out) | exact HB.out)) hb); clear HO188; clear BK159; clear BK194; clear HB; have HO188 := n0_; have BK159 := n1_; have BK194 := n2_; have HB := n3_; clear n0_ n1_ n2_ n3_; (try clear hb); (try clear hb2); (try clear hk); (try clear hi); have hcz78_0 : w77.cell? ⟨gb159, 0, none⟩ = some (.int .i64 0) := (blk_cell BK159.out 0).trans rfl; have hcz78_1 : w77.cell? ⟨gb159, 1, none⟩ = some (.string (⟨#[]⟩ : ByteArray)) := (blk_cell BK159.out 1).trans rfl; have hcz78_2 : w77.cell? ⟨gb159, 2, none⟩ = some (.slice none 0 0) := (blk_cell BK159.out 2).trans rfl; have hfz78_0 := blk_frozen BK159.out 0; have hfz78_1 := blk_frozen BK159.out 1; have hfz78_2 := blk_frozen BK159.out 2))
                              refine bodyPost_ret (results_ct rfl _ _ gb159 48 #[.int .i64 0, .string (⟨#[]⟩ : ByteArray), .slice none 0 0] (0, 0) _ rfl (by (with_reducible repeat (first | refine blk_drewN ?_ _ | refine blk_drew ?_ | refine blk_alloc ?_ _)); refine blk_put (cs := #[.int .i64 0, .string (⟨#[]⟩ : ByteArray), .slice none 0 0]) ?_ 2 _ rfl; (with_reducible repeat (first | refine blk_drewN ?_ _ | refine blk_drew ?_ | refine blk_alloc ?_ _)); refine blk_put (cs := #[.int .i64 0, .string (⟨#[]⟩ : ByteArray), .slice none 0 0]) ?_ 1 _ rfl; (with_reducible repeat (first | refine blk_drewN ?_ _ | refine blk_drew ?_ | refine blk_alloc ?_ _)); refine blk_put (cs := #[.int .i64 0, .string (⟨#[]⟩ : ByteArray), .slice none 0 0]) ?_ 0 _ rfl; (with_reducible repeat (first | refine blk_drewN ?_ _ | refine blk_drew ?_ | refine blk_alloc ?_ _)); exact BK159.out) Try.underlying48 rfl (by kernel_rfl)) rfl ?_
                              exact ⟨_, by first | rfl | (simp [errW_none, errW_some] <;> rfl) | (simp only [← hji8, ← hji38]; first | rfl | (simp [errW_none, errW_some] <;> rfl)) | (simp [*, errW_none, errW_some] <;> rfl), by first | exact Kd.R_nil _ _ _ _ _ | exact Kd.N_nil _ _ _ _ _ | exact Kd.V_nil _ _ _ _ _ | exact Kd.Q_nil _ _ _ _ _ | exact Kd.S_nil _ _ _ _ _, by repeat (first | (with_reducible first | exact HB.out | apply below_alloc | apply pw_below_drewN | apply below_drew1 | refine below_set ?_ GE159.out | refine below_set ?_ GE194.out) | exact HB.out)⟩
                          · replace c45 := Bool.eq_false_iff.mpr c45
                            subst c45
                            have H1 : (some (0, (⟨#[]⟩ : ByteArray), ([] : List (S72)), 4)) = some (r1, r2, r3, r4) := by rw [if_neg (show ¬ (false = true) by decide)] at H; exact H
                            clear H
                            have H := H1
                            clear H1
                            simp only [Option.some.injEq, Prod.mk.injEq] at H
                            obtain ⟨rfl, rfl, rfl, rfl⟩ := H
                            have hcy_0 : w55.cell? ⟨gb159, 0, none⟩ = some (.int .i64 0) := (blk_cell BK159.out 0).trans rfl
                            have hcy_1 : w55.cell? ⟨gb159, 1, none⟩ = some (.string (⟨#[]⟩ : ByteArray)) := (blk_cell BK159.out 1).trans rfl
                            have hcy_2 : w55.cell? ⟨gb159, 2, none⟩ = some (.slice none 0 0) := (blk_cell BK159.out 2).trans rfl
                            have hfy_0 := blk_frozen BK159.out 0
                            have hfy_1 := blk_frozen BK159.out 1
                            have hfy_2 := blk_frozen BK159.out 2
                            try go_wp2
                            refine bodyPost_ret (results_ct rfl _ _ gb159 48 #[.int .i64 0, .string (⟨#[]⟩ : ByteArray), .slice none 0 0] (0, 0) _ rfl (by (with_reducible repeat (first | refine blk_drewN ?_ _ | refine blk_drew ?_ | refine blk_alloc ?_ _)); refine blk_put (cs := #[.int .i64 0, .string (⟨#[]⟩ : ByteArray), .slice none 0 0]) ?_ 2 _ rfl; (with_reducible repeat (first | refine blk_drewN ?_ _ | refine blk_drew ?_ | refine blk_alloc ?_ _)); refine blk_put (cs := #[.int .i64 0, .string (⟨#[]⟩ : ByteArray), .slice none 0 0]) ?_ 1 _ rfl; (with_reducible repeat (first | refine blk_drewN ?_ _ | refine blk_drew ?_ | refine blk_alloc ?_ _)); refine blk_put (cs := #[.int .i64 0, .string (⟨#[]⟩ : ByteArray), .slice none 0 0]) ?_ 0 _ rfl; (iterate 3 ((with_reducible repeat (first | refine blk_drewN ?_ _ | refine blk_drew ?_ | refine blk_alloc ?_ _)); refine blk_far ?_ NB159_194.out _)); (with_reducible repeat (first | refine blk_drewN ?_ _ | refine blk_drew ?_ | refine blk_alloc ?_ _)); exact BK159.out) Try.underlying48 rfl (by kernel_rfl)) rfl ?_
                            exact ⟨_, by first | rfl | (simp [errW_none, errW_some] <;> rfl) | (simp only [← hji8, ← hji38]; first | rfl | (simp [errW_none, errW_some] <;> rfl)) | (simp [*, errW_none, errW_some] <;> rfl), by first | exact Kd.R_nil _ _ _ _ _ | exact Kd.N_nil _ _ _ _ _ | exact Kd.V_nil _ _ _ _ _ | exact Kd.Q_nil _ _ _ _ _ | exact Kd.S_nil _ _ _ _ _, by repeat (first | (with_reducible first | exact HB.out | apply below_alloc | apply pw_below_drewN | apply below_drew1 | refine below_set ?_ GE159.out | refine below_set ?_ GE194.out) | exact HB.out)⟩
                        · rw [if_neg c44] at H
                          exact absurd H (by simp)
                      · rw [if_neg c43] at H
                        exact absurd H (by simp)
                    · rw [if_neg c40] at H
                      exact absurd H (by simp)
                  · rw [if_neg c39] at H
                    exact absurd H (by simp)
          · rw [if_neg c15] at H
            have c15b0 : (t164 == t170) = false := beq_eq_false_iff_ne.mpr c15
            have c15b1 : (t164 != t170) = true := bne_iff_ne.mpr c15
            simp only [Option.some.injEq, Prod.mk.injEq] at H
            obtain ⟨rfl, rfl, rfl, rfl⟩ := H
            go_enter Try.func28, Try.ntmps28
            go_wp2_with (first | ((with_reducible refine gate_dst (N := 2) rfl ?_); refine box_event ?hg (N := 2) ?hd (cs := #[.int .i64 0, .string (⟨#[]⟩ : ByteArray), .slice none 0 0]) (t := 48) ?hr ?_; (case hd => rfl); (case hg => rfl); (case hr => first | (go_simp; done) | (go_simp; rfl)); intro gb159 hg w92 hbox hb; have n0_ := Aside0.mk (below_step (by repeat (first | (with_reducible first | exact HB.out | apply below_alloc | apply pw_below_drewN | apply below_drew1) | exact HB.out)) hb); have BK159 := Aside0.mk (hbox); have GW159 := Aside0.mk ((by rw [hg]; exact (below_size (by repeat (first | (with_reducible first | exact HB.out | apply below_alloc | apply pw_below_drewN | apply below_drew1) | exact HB.out))) : w.heap.size ≤ gb159)); have GE159 := Aside0.mk GW159.out; clear HB; have HB := n0_; clear n0_; clear hb hbox hg; have q93 : ((ji8) : Int) ≤ ((l0.length : Int) : Int) := of_decide_eq_true (by first | (with_reducible assumption) | assumption); obtain ⟨i093, hi093, _, hsz93, _⟩ := info_parts info5; have hroom93 : l0.length ≤ c0 := HC0.out; have hC93 : Kd.C (Kd.int .u8) _ A0 l0.length l0 := HR0.out; have q093 : (0 : Int) ≤ ((ji8) : Int) := of_decide_eq_true (by first | (with_reducible assumption) | assumption); have hcut93 := cut_from (P := Try.prog) 22 5 .i64 Try.underlying22 hi093 1 hsz93 A0 l0.length c0 (ji8) q093 q93; have hr93 := Kd.C_drop (m := ((ji8) : Int).toNat) (c := c0) hC93 (by omega) hroom93; obtain ⟨A93, hA93⟩ : ∃ A1, A1 = (if c0 = ((ji8) : Int).toNat then A0 else (A0 : Option Addr).map (·.add (((ji8) : Int).toNat * 1))) := ⟨_, rfl⟩; obtain ⟨c93, hc93⟩ : ∃ c1, c1 = c0 - ((ji8) : Int).toNat := ⟨_, rfl⟩; have hy93 : y160.length = l0.length - ((ji8) : Int).toNat := (by rw [Ny160.out, List.length_drop] <;> omega); rw [show (l0).drop ((ji8) : Int).toNat = y160 from Ny160.out.symm] at hr93; replace hr93 : Kd.C (Kd.int .u8) _ A93 y160.length y160 := (by rw [hA93]; exact hr93); rw [← hy93, ← hA93, ← hc93] at hcut93; have HR163 := Aside0.mk hr93; have HC163 := Aside0.mk (show y160.length ≤ c93 from by rw [hy93, hc93]; exact Nat.sub_le_sub_right hroom93 _); clear hr93 hC93 hroom93 hi093 hsz93 hc93; have KY93 := Aside0.mk hy93; have KA93 := Aside0.mk hA93; clear hy93 hA93; replace q93 := eq_true q93) | ((with_reducible refine gate_callee (f := 58) rfl ?_); refine goesL_ (some 28) rfl rfl Try.func58 (by kernel_rfl) rfl #[.slice A93 y160.length c93] rfl (by (try simp only [List.map_toArray, List.map_cons, List.map_nil]); first | done | rfl | (simp only [List.length_drop, List.length_take]; rfl)) ?_; (with_reducible refine (crc_Read.calls k _ _ y160 t164 t165 _ ?side1 ?side2 A11.out).mono ?_); (case side1 => repeat (first | exact (Kd.C_below HR163.out HB.out) | (with_reducible refine Kd.C_alloc ?_ _) | (with_reducible refine Kd.C_drewN ?_ _) | (with_reducible refine Kd.C_drew ?_))); (case side2 => exact HC163.out); rintro e w' ⟨rfl, ⟨nd, rfl⟩⟩; refine ⟨_, rfl, ?_⟩; (try (rw [drewN_self w92]; generalize hq_ : World.drewN w92 _ = w92; have n0_ : Aside0 (w92.heap[gb159]? = some (.cells #[.int .i64 0, .string (⟨#[]⟩ : ByteArray), .slice none 0 0] 48 (0, 0))) := ⟨by rw [← hq_]; exact (by (with_reducible repeat (first | refine blk_drewN ?_ _ | refine blk_drew ?_ | refine blk_alloc ?_ _)); exact BK159.out)⟩; have n1_ : Aside0 (Below w.heap.size w w92) := ⟨by rw [← hq_]; exact (by repeat (first | (with_reducible first | exact HB.out | apply below_alloc | apply pw_below_drewN | apply below_drew1 | refine below_set ?_ GE159.out) | exact HB.out))⟩; clear BK159 HB hq_; have BK159 := n0_; have HB := n1_; clear n0_ n1_)); have q94 : ((ji8) : Int) ≤ ((l0.length : Int) : Int) := of_decide_eq_true (by first | (with_reducible assumption) | assumption); obtain ⟨i094, hi094, _, hsz94, _⟩ := info_parts info5; have hroom94 : l0.length ≤ c0 := HC0.out; have hC94 : Kd.C (Kd.int .u8) _ A0 l0.length l0 := HR0.out; have hcut94 := cut_to (P := Try.prog) 22 5 .i64 Try.underlying22 hi094 A0 l0.length c0 (ji8) (of_decide_eq_true (by first | (with_reducible assumption) | assumption)) q94 hroom94; have hr94 := Kd.C_take (m := ((ji8) : Int).toNat) hC94 (by omega); have hy94 : y166.length = ((ji8) : Int).toNat := (by rw [Ny166.out, List.length_take]; omega); rw [← Ny166.out] at hr94; rw [← hy94] at hcut94; have HR169 := Aside0.mk hr94; have HC169 := Aside0.mk (show y166.length ≤ c0 from by omega); clear hr94 hC94 hroom94 hi094 hsz94; have KY94 := Aside0.mk hy94; clear hy94; replace q94 := eq_true q94) | ((with_reducible refine gate_callee (f := 55) rfl ?_); refine goesL_ (some 35) rfl rfl Try.func55 (by kernel_rfl) rfl #[.slice A0 y166.length c0] rfl (by (try simp only [List.map_toArray, List.map_cons, List.map_nil]); first | done | rfl | (simp only [List.length_drop, List.length_take]; rfl)) ?_; (with_reducible refine (crc_Sum.calls k _ _ y166 t170 _ ?side1 ?side2 A14.out).mono ?_); (case side1 => repeat (first | exact (Kd.C_below HR169.out HB.out) | (with_reducible refine Kd.C_alloc ?_ _) | (with_reducible refine Kd.C_drewN ?_ _) | (with_reducible refine Kd.C_drew ?_))); (case side2 => exact HC169.out); rintro e w' ⟨rfl, ⟨nd, rfl⟩⟩; refine ⟨_, rfl, ?_⟩; (try (rw [drewN_self w92]; generalize hq_ : World.drewN w92 _ = w92; have n0_ : Aside0 (w92.heap[gb159]? = some (.cells #[.int .i64 0, .string (⟨#[]⟩ : ByteArray), .slice none 0 0] 48 (0, 0))) := ⟨by rw [← hq_]; exact (by (with_reducible repeat (first | refine blk_drewN ?_ _ | refine blk_drew ?_ | refine blk_alloc ?_ _)); exact BK159.out)⟩; have n1_ : Aside0 (Below w.heap.size w w92) := ⟨by rw [← hq_]; exact (by repeat (first | (with_reducible first | exact HB.out | apply below_alloc | apply pw_below_drewN | apply below_drew1 | refine below_set ?_ GE159.out) | exact HB.out))⟩; clear BK159 HB hq_; have BK159 := n0_; have HB := n1_; clear n0_ n1_)); have hcz95_0 : w92.cell? ⟨gb159, 0, none⟩ = some (.int .i64 0) := (blk_cell BK159.out 0).trans rfl; have hcz95_1 : w92.cell? ⟨gb159, 1, none⟩ = some (.string (⟨#[]⟩ : ByteArray)) := (blk_cell BK159.out 1).trans rfl; have hcz95_2 : w92.cell? ⟨gb159, 2, none⟩ = some (.slice none 0 0) := (blk_cell BK159.out 2).trans rfl; have hfz95_0 := blk_frozen BK159.out 0; have hfz95_1 := blk_frozen BK159.out 1; have hfz95_2 := blk_frozen BK159.out 2))
            refine bodyPost_ret (results_ct rfl _ _ gb159 48 #[.int .i64 0, .string (⟨#[]⟩ : ByteArray), .slice none 0 0] (0, 0) _ rfl (by (with_reducible repeat (first | refine blk_drewN ?_ _ | refine blk_drew ?_ | refine blk_alloc ?_ _)); refine blk_put (cs := #[.int .i64 0, .string (⟨#[]⟩ : ByteArray), .slice none 0 0]) ?_ 2 _ rfl; (with_reducible repeat (first | refine blk_drewN ?_ _ | refine blk_drew ?_ | refine blk_alloc ?_ _)); refine blk_put (cs := #[.int .i64 0, .string (⟨#[]⟩ : ByteArray), .slice none 0 0]) ?_ 1 _ rfl; (with_reducible repeat (first | refine blk_drewN ?_ _ | refine blk_drew ?_ | refine blk_alloc ?_ _)); refine blk_put (cs := #[.int .i64 0, .string (⟨#[]⟩ : ByteArray), .slice none 0 0]) ?_ 0 _ rfl; (with_reducible repeat (first | refine blk_drewN ?_ _ | refine blk_drew ?_ | refine blk_alloc ?_ _)); exact BK159.out) Try.underlying48 rfl (by kernel_rfl)) rfl ?_
            exact ⟨_, by first | rfl | (simp [errW_none, errW_some] <;> rfl) | (simp only [← hji8]; first | rfl | (simp [errW_none, errW_some] <;> rfl)) | (simp [*, errW_none, errW_some] <;> rfl), by first | exact Kd.R_nil _ _ _ _ _ | exact Kd.N_nil _ _ _ _ _ | exact Kd.V_nil _ _ _ _ _ | exact Kd.Q_nil _ _ _ _ _ | exact Kd.S_nil _ _ _ _ _, by repeat (first | (with_reducible first | exact HB.out | apply below_alloc | apply pw_below_drewN | apply below_drew1 | refine below_set ?_ GE159.out) | exact HB.out)⟩
        · rw [if_neg c10] at H
          exact absurd H (by simp)
      · rw [if_neg c9] at H
        exact absurd H (by simp)

end Go.Proofs.Ytnlpipjdpmaggaa.PJournalReads
