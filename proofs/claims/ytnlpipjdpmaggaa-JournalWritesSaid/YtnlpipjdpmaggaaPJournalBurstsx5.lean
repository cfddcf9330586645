/- WRITTEN FOR THIS CLAIM by a program of the prover's own (the kit's printing program, with constructs added): for each Go function that the statement reaches a Lean function with the same answers, and the proof of that. Not trusted: Lean checks it. -/
import Derived.Test.YtnlpipjdpmaggaaPJournalBurstsx0
import Derived.Test.YtnlpipjdpmaggaaPJournalBurstsx2
import Derived.Test.YtnlpipjdpmaggaaPJournalBurstsx4
namespace Go.Proofs.Ytnlpipjdpmaggaa.PJournalBursts
open Go.RowKit Go.Proofs.YtnlpipjdpmaggaaW.PrintWords Go.Proofs.YtnlpipjdpmaggaaW.PrintLast Go.Proofs.YtnlpipjdpmaggaaW.PrintMore
attribute [local go_sem] max2_int min2_int max_two min_two max_three min_three max_four min_four   -- for this text's walks alone
set_option linter.unusedVariables false
set_option linter.unusedSimpArgs false

/-! ### journal_Decode: function 28 -/
def journal_Decode.j0 : Nat → List Int → Int → Bool → Option (Int × ByteArray × (List (S72)) × Int)
  | 0, _, _, _ => none
  | k + 1, x0, x7, x66 => if x66 = true then (none) else (if 0 ≤ (wrap64 (x7 + 1)) then (if (wrap64 (x7 + 1)) ≤ (x0.length : Int) then ((journal_versions.f k (x0.drop ((wrap64 (x7 + 1)) : Int).toNat)).bind fun bt170 => ((journal_get.f k x0 4 4).bind fun t174 => (if 10 ≤ x7 then (if x7 ≤ (x0.length : Int) then (if bt170.2 = true then ((journal_May.f k t174 (strOfNums ((x0.take (x7 : Int).toNat).drop 10)) bt170.1).bind fun t177 => (if t177 = true then (some (t174, strOfNums ((x0.take (x7 : Int).toNat).drop 10), bt170.1, 0)) else (none))) else (none)) else (none)) else (none)))) else (none)) else (none))
def journal_Decode.f (k : Nat) (l0 : List Int) : Option (Int × ByteArray × (List (S72)) × Int) := if (l0.length : Int) > 262144 then (some (0, (⟨#[]⟩ : ByteArray), ([] : List (S72)), 3)) else (if (l0.length : Int) < 15 then (some (0, (⟨#[]⟩ : ByteArray), ([] : List (S72)), 2)) else (if 0 ≤ (wrap64 ((l0.length : Int) - 4)) then (if (wrap64 ((l0.length : Int) - 4)) ≤ (l0.length : Int) then ((crc_Read.f k (l0.drop ((wrap64 ((l0.length : Int) - 4)) : Int).toNat)).bind fun bt161 => ((crc_Sum.f k (l0.take ((wrap64 ((l0.length : Int) - 4)) : Int).toNat)).bind fun t164 => (if bt161.1 = t164 then ((journal_get.f k (l0.take ((wrap64 ((l0.length : Int) - 4)) : Int).toNat) 8 2).bind fun t166 => (if 4 ≤ ((l0.take ((wrap64 ((l0.length : Int) - 4)) : Int).toNat).length : Int) then (if (strOfNums ((l0.take ((wrap64 ((l0.length : Int) - 4)) : Int).toNat).take 4)).toList = ([83, 66, 74, 49] : List UInt8) then (if (wrap64 ((l0.length : Int) - 4)) < (wrap64 ((wrap64 (10 + t166)) + 1)) then (none) else (if 0 ≤ (wrap64 (10 + t166)) then (if (wrap64 (10 + t166)) < ((l0.take ((wrap64 ((l0.length : Int) - 4)) : Int).toNat).length : Int) then (journal_Decode.j0 k (l0.take ((wrap64 ((l0.length : Int) - 4)) : Int).toNat) (wrap64 (10 + t166)) ((wrap64 ((l0.length : Int) - 4)) != (wrap64 ((wrap64 ((wrap64 (10 + t166)) + 1)) + (wrap64 (13 * (wrap64 (rd (l0.take ((wrap64 ((l0.length : Int) - 4)) : Int).toNat) (wrap64 (10 + t166)))))))))) else (none)) else (none))) else (none)) else (none))) else (some (0, (⟨#[]⟩ : ByteArray), ([] : List (S72)), 5))))) else (none)) else (none)))
theorem journal_Decode.mono_l : ∀ k, (∀ y0 y1 y2, LeO (journal_Decode.j0 k y0 y1 y2) (journal_Decode.j0 (k + 1) y0 y1 y2))
  | 0 => fun _ _ _ r h => by simp [journal_Decode.j0] at h
  | k + 1 => by
    have ih0 := journal_Decode.mono_l k
    · intro y0 y1 y2
      unfold journal_Decode.j0
      repeat' first
      | (with_reducible exact ih0 _ _ _)
      | (with_reducible exact crc_Read.mono _ _)
      | (with_reducible exact crc_Sum.mono _ _)
      | (with_reducible exact journal_May.mono _ _ _ _)
      | (with_reducible exact journal_get.mono _ _ _ _)
      | (with_reducible exact journal_versions.mono _ _)
      | (with_reducible exact LeO.refl _)
      | (with_reducible exact LeO.none _)
      | (with_reducible refine LeO.ite ?_ ?_)
      | (with_reducible refine LeO.bind ?_ (fun _ => ?_))
      | exact ih0 _ _ _
      | exact crc_Read.mono _ _
      | exact crc_Sum.mono _ _
      | exact journal_May.mono _ _ _ _
      | exact journal_get.mono _ _ _ _
      | exact journal_versions.mono _ _
      | exact LeO.none _
      | refine LeO.ite ?_ ?_
      | refine LeO.bind ?_ (fun _ => ?_)
theorem journal_Decode.mono : ∀ a0 k, LeO (journal_Decode.f k a0) (journal_Decode.f (k + 1) a0) := by
  intro a0 k
  have ih0 := journal_Decode.mono_l k
  unfold journal_Decode.f
  repeat' first
      | (with_reducible exact ih0 _ _ _)
      | (with_reducible exact crc_Read.mono _ _)
      | (with_reducible exact crc_Sum.mono _ _)
      | (with_reducible exact journal_May.mono _ _ _ _)
      | (with_reducible exact journal_get.mono _ _ _ _)
      | (with_reducible exact journal_versions.mono _ _)
      | (with_reducible exact LeO.refl _)
      | (with_reducible exact LeO.none _)
      | (with_reducible refine LeO.ite ?_ ?_)
      | (with_reducible refine LeO.bind ?_ (fun _ => ?_))
      | exact ih0 _ _ _
      | exact crc_Read.mono _ _
      | exact crc_Sum.mono _ _
      | exact journal_May.mono _ _ _ _
      | exact journal_get.mono _ _ _ _
      | exact journal_versions.mono _ _
      | exact LeO.none _
      | refine LeO.ite ?_ ?_
      | refine LeO.bind ?_ (fun _ => ?_)
def journal_Decode.T14 : Bool × List (List Nat × List Nat) := (true, [([], []), ([0], [0]), ([], []), ([], []), ([2, 3], [2, 3]), ([4], [4]), ([], []), ([1, 5, 6], [1, 5, 6]), ([], []), ([8, 7, 1, 0, 1, 2, 3, 4, 5, 6, 7, 8], [7, 8])])
def journal_Decode.B14 : List Nat := [0, 1, 0, 0, 12, 28, 0, 127, 0, 511]
theorem journal_Decode.tab14 : rtab .any (opsOf Try.f28 14) = journal_Decode.T14 := by kernel_rfl
theorem journal_Decode.bits14 : waitsOk journal_Decode.T14.2 journal_Decode.B14 = true := by kernel_rfl
set_option maxHeartbeats 8000000 in
set_option maxRecDepth 100000 in
theorem journal_Decode.calls (k : Nat) (A0 : Option Addr) (c0 : Nat) (l0 : List Int) (r1 : Int) (r2 : ByteArray) (r3 : List (S72)) (r4 : Int) (w : World) (hr0 : Kd.C (Kd.int .u8) w A0 l0.length l0) (hc0 : l0.length ≤ c0) (h : journal_Decode.f k l0 = some (r1, r2, r3, r4)) :
    Calls Try.prog 28 #[.slice A0 l0.length c0] w fun e w' => ∃ v2_ : Value, e = .returned (.tuple #[.agg #[.int .i64 r1, .string r2, v2_], .int .i64 r4]) ∧ Kd.R k72 72 w' w.heap.size (fun _ => True) v2_ r3 ∧ Below w.heap.size w w' := by
  have hu48 := Try.underlying48
  have HR0 := Aside0.mk hr0
  have HC0 := Aside0.mk hc0
  clear hr0 hc0
  have HB := Aside0.mk (Below.refl w.heap.size w)
  have H : (if (l0.length : Int) > 262144 then (some (0, (⟨#[]⟩ : ByteArray), ([] : List (S72)), 3)) else (if (l0.length : Int) < 15 then (some (0, (⟨#[]⟩ : ByteArray), ([] : List (S72)), 2)) else (if 0 ≤ (wrap64 ((l0.length : Int) - 4)) then (if (wrap64 ((l0.length : Int) - 4)) ≤ (l0.length : Int) then ((crc_Read.f k (l0.drop ((wrap64 ((l0.length : Int) - 4)) : Int).toNat)).bind fun bt161 => ((crc_Sum.f k (l0.take ((wrap64 ((l0.length : Int) - 4)) : Int).toNat)).bind fun t164 => (if bt161.1 = t164 then ((journal_get.f k (l0.take ((wrap64 ((l0.length : Int) - 4)) : Int).toNat) 8 2).bind fun t166 => (if 4 ≤ ((l0.take ((wrap64 ((l0.length : Int) - 4)) : Int).toNat).length : Int) then (if (strOfNums ((l0.take ((wrap64 ((l0.length : Int) - 4)) : Int).toNat).take 4)).toList = ([83, 66, 74, 49] : List UInt8) then (if (wrap64 ((l0.length : Int) - 4)) < (wrap64 ((wrap64 (10 + t166)) + 1)) then (none) else (if 0 ≤ (wrap64 (10 + t166)) then (if (wrap64 (10 + t166)) < ((l0.take ((wrap64 ((l0.length : Int) - 4)) : Int).toNat).length : Int) then (journal_Decode.j0 k (l0.take ((wrap64 ((l0.length : Int) - 4)) : Int).toNat) (wrap64 (10 + t166)) ((wrap64 ((l0.length : Int) - 4)) != (wrap64 ((wrap64 ((wrap64 (10 + t166)) + 1)) + (wrap64 (13 * (wrap64 (rd (l0.take ((wrap64 ((l0.length : Int) - 4)) : Int).toNat) (wrap64 (10 + t166)))))))))) else (none)) else (none))) else (none)) else (none))) else (some (0, (⟨#[]⟩ : ByteArray), ([] : List (S72)), 5))))) else (none)) else (none)))) = some (r1, r2, r3, r4) := h
  clear h
  by_cases c2 : (l0.length : Int) > 262144
  · rw [if_pos c2] at H
    have c2b0 : decide (262144 < (l0.length : Int)) = true := decide_eq_true c2
    have c2b1 : decide (262144 < l0.length) = true := decide_eq_true (by omega)
    clear c2
    simp only [Option.some.injEq, Prod.mk.injEq] at H
    obtain ⟨rfl, rfl, rfl, rfl⟩ := H
    go_enter Try.func28, Try.ntmps28
    go_wp2_with (first | ((with_reducible refine gate_dst (N := 2) rfl ?_); refine box_event ?hg (N := 2) ?hd (cs := #[.int .i64 0, .string (⟨#[]⟩ : ByteArray), .slice none 0 0]) (t := 48) ?hr ?_; (case hd => rfl); (case hg => rfl); (case hr => first | (go_simp; done) | (go_simp; rfl)); intro gb159 hg w3 hbox hb; have n0_ := Aside0.mk (below_step (by repeat (first | (with_reducible first | exact HB.out | apply below_alloc | apply pw_below_drewN | apply below_drew1) | exact HB.out)) hb); have n1_ := Aside0.mk (hbox); have n2_ := Aside0.mk ((by rw [hg]; exact (below_size (by repeat (first | (with_reducible first | exact HB.out | apply below_alloc | apply pw_below_drewN | apply below_drew1) | exact HB.out))) : w.heap.size ≤ gb159)); have n3_ := Aside0.mk ((by rw [hg]; exact (below_size (by repeat (first | (with_reducible first | exact HB.out | apply below_alloc | apply pw_below_drewN | apply below_drew1) | exact HB.out))) : w.heap.size ≤ gb159)); clear HB; have HB := n0_; have BK159 := n1_; have GW159 := n2_; have GE159 := n3_; clear n0_ n1_ n2_ n3_; clear hb hbox hg; have hcz4_0 : w3.cell? ⟨gb159, 0, none⟩ = some (.int .i64 0) := (blk_cell BK159.out 0).trans rfl; have hcz4_1 : w3.cell? ⟨gb159, 1, none⟩ = some (.string (⟨#[]⟩ : ByteArray)) := (blk_cell BK159.out 1).trans rfl; have hcz4_2 : w3.cell? ⟨gb159, 2, none⟩ = some (.slice none 0 0) := (blk_cell BK159.out 2).trans rfl; have hfz4_0 := blk_frozen BK159.out 0; have hfz4_1 := blk_frozen BK159.out 1; have hfz4_2 := blk_frozen BK159.out 2))
    refine bodyPost_ret (results_ct rfl _ _ gb159 48 #[.int .i64 0, .string (⟨#[]⟩ : ByteArray), .slice none 0 0] (0, 0) _ rfl (by (with_reducible repeat (first | refine blk_drewN ?_ _ | refine blk_drew ?_ | refine blk_alloc ?_ _)); refine blk_put (cs := #[.int .i64 0, .string (⟨#[]⟩ : ByteArray), .slice none 0 0]) ?_ 2 _ rfl; (with_reducible repeat (first | refine blk_drewN ?_ _ | refine blk_drew ?_ | refine blk_alloc ?_ _)); refine blk_put (cs := #[.int .i64 0, .string (⟨#[]⟩ : ByteArray), .slice none 0 0]) ?_ 1 _ rfl; (with_reducible repeat (first | refine blk_drewN ?_ _ | refine blk_drew ?_ | refine blk_alloc ?_ _)); refine blk_put (cs := #[.int .i64 0, .string (⟨#[]⟩ : ByteArray), .slice none 0 0]) ?_ 0 _ rfl; (with_reducible repeat (first | refine blk_drewN ?_ _ | refine blk_drew ?_ | refine blk_alloc ?_ _)); exact BK159.out) Try.underlying48 rfl (by kernel_rfl)) rfl ?_
    exact ⟨_, by first | rfl | (simp [errW_none, errW_some] <;> rfl) | (simp [*, errW_none, errW_some] <;> rfl), by first | exact Kd.R_nil _ _ _ _ _ | exact Kd.N_nil _ _ _ _ _ | exact Kd.V_nil _ _ _ _ _ | exact Kd.Q_nil _ _ _ _ _ | exact Kd.S_nil _ _ _ _ _, by repeat (first | (with_reducible first | exact HB.out | apply below_alloc | apply pw_below_drewN | apply below_drew1 | refine below_set ?_ GE159.out) | exact HB.out)⟩
  · rw [if_neg c2] at H
    have c2b0 : decide (262144 < (l0.length : Int)) = false := decide_eq_false c2
    have c2b1 : decide (262144 < l0.length) = false := decide_eq_false (by omega)
    clear c2
    by_cases c5 : (l0.length : Int) < 15
    · rw [if_pos c5] at H
      have c5b0 : decide ((l0.length : Int) < 15) = true := decide_eq_true c5
      have c5b1 : decide (l0.length < 15) = true := decide_eq_true (by omega)
      clear c5
      simp only [Option.some.injEq, Prod.mk.injEq] at H
      obtain ⟨rfl, rfl, rfl, rfl⟩ := H
      go_enter Try.func28, Try.ntmps28
      go_wp2_with (first | ((with_reducible refine gate_dst (N := 2) rfl ?_); refine box_event ?hg (N := 2) ?hd (cs := #[.int .i64 0, .string (⟨#[]⟩ : ByteArray), .slice none 0 0]) (t := 48) ?hr ?_; (case hd => rfl); (case hg => rfl); (case hr => first | (go_simp; done) | (go_simp; rfl)); intro gb159 hg w6 hbox hb; have n0_ := Aside0.mk (below_step (by repeat (first | (with_reducible first | exact HB.out | apply below_alloc | apply pw_below_drewN | apply below_drew1) | exact HB.out)) hb); have n1_ := Aside0.mk (hbox); have n2_ := Aside0.mk ((by rw [hg]; exact (below_size (by repeat (first | (with_reducible first | exact HB.out | apply below_alloc | apply pw_below_drewN | apply below_drew1) | exact HB.out))) : w.heap.size ≤ gb159)); have n3_ := Aside0.mk ((by rw [hg]; exact (below_size (by repeat (first | (with_reducible first | exact HB.out | apply below_alloc | apply pw_below_drewN | apply below_drew1) | exact HB.out))) : w.heap.size ≤ gb159)); clear HB; have HB := n0_; have BK159 := n1_; have GW159 := n2_; have GE159 := n3_; clear n0_ n1_ n2_ n3_; clear hb hbox hg; have hcz7_0 : w6.cell? ⟨gb159, 0, none⟩ = some (.int .i64 0) := (blk_cell BK159.out 0).trans rfl; have hcz7_1 : w6.cell? ⟨gb159, 1, none⟩ = some (.string (⟨#[]⟩ : ByteArray)) := (blk_cell BK159.out 1).trans rfl; have hcz7_2 : w6.cell? ⟨gb159, 2, none⟩ = some (.slice none 0 0) := (blk_cell BK159.out 2).trans rfl; have hfz7_0 := blk_frozen BK159.out 0; have hfz7_1 := blk_frozen BK159.out 1; have hfz7_2 := blk_frozen BK159.out 2))
      refine bodyPost_ret (results_ct rfl _ _ gb159 48 #[.int .i64 0, .string (⟨#[]⟩ : ByteArray), .slice none 0 0] (0, 0) _ rfl (by (with_reducible repeat (first | refine blk_drewN ?_ _ | refine blk_drew ?_ | refine blk_alloc ?_ _)); refine blk_put (cs := #[.int .i64 0, .string (⟨#[]⟩ : ByteArray), .slice none 0 0]) ?_ 2 _ rfl; (with_reducible repeat (first | refine blk_drewN ?_ _ | refine blk_drew ?_ | refine blk_alloc ?_ _)); refine blk_put (cs := #[.int .i64 0, .string (⟨#[]⟩ : ByteArray), .slice none 0 0]) ?_ 1 _ rfl; (with_reducible repeat (first | refine blk_drewN ?_ _ | refine blk_drew ?_ | refine blk_alloc ?_ _)); refine blk_put (cs := #[.int .i64 0, .string (⟨#[]⟩ : ByteArray), .slice none 0 0]) ?_ 0 _ rfl; (with_reducible repeat (first | refine blk_drewN ?_ _ | refine blk_drew ?_ | refine blk_alloc ?_ _)); exact BK159.out) Try.underlying48 rfl (by kernel_rfl)) rfl ?_
      exact ⟨_, by first | rfl | (simp [errW_none, errW_some] <;> rfl) | (simp [*, errW_none, errW_some] <;> rfl), by first | exact Kd.R_nil _ _ _ _ _ | exact Kd.N_nil _ _ _ _ _ | exact Kd.V_nil _ _ _ _ _ | exact Kd.Q_nil _ _ _ _ _ | exact Kd.S_nil _ _ _ _ _, by repeat (first | (with_reducible first | exact HB.out | apply below_alloc | apply pw_below_drewN | apply below_drew1 | refine below_set ?_ GE159.out) | exact HB.out)⟩
    · rw [if_neg c5] at H
      have c5b0 : decide ((l0.length : Int) < 15) = false := decide_eq_false c5
      have c5b1 : decide (l0.length < 15) = false := decide_eq_false (by omega)
      clear c5
      obtain ⟨ji8, hji8⟩ : ∃ j_ : Int, (wrap64 ((l0.length : Int) - 4)) = j_ := ⟨_, rfl⟩
      replace H : (if 0 ≤ (ji8) then (if (ji8) ≤ (l0.length : Int) then ((crc_Read.f k (l0.drop ((ji8) : Int).toNat)).bind fun bt161 => ((crc_Sum.f k (l0.take ((ji8) : Int).toNat)).bind fun t164 => (if bt161.1 = t164 then ((journal_get.f k (l0.take ((ji8) : Int).toNat) 8 2).bind fun t166 => (if 4 ≤ ((l0.take ((ji8) : Int).toNat).length : Int) then (if (strOfNums ((l0.take ((ji8) : Int).toNat).take 4)).toList = ([83, 66, 74, 49] : List UInt8) then (if (ji8) < (wrap64 ((wrap64 (10 + t166)) + 1)) then (none) else (if 0 ≤ (wrap64 (10 + t166)) then (if (wrap64 (10 + t166)) < ((l0.take ((ji8) : Int).toNat).length : Int) then (journal_Decode.j0 k (l0.take ((ji8) : Int).toNat) (wrap64 (10 + t166)) ((ji8) != (wrap64 ((wrap64 ((wrap64 (10 + t166)) + 1)) + (wrap64 (13 * (wrap64 (rd (l0.take ((ji8) : Int).toNat) (wrap64 (10 + t166)))))))))) else (none)) else (none))) else (none)) else (none))) else (some (0, (⟨#[]⟩ : ByteArray), ([] : List (S72)), 5))))) else (none)) else (none)) = some (r1, r2, r3, r4) := by first | (rw [hji8] at H; exact H) | (simp only [hji8] at H ⊢; exact H)
      have hji8w : (IntKind.i64.wrap ((l0.length : Int) - 4)) = ji8 := (i64_w _).trans hji8
      by_cases c9 : 0 ≤ (ji8)
      · rw [if_pos c9] at H
        have c9b0 := eq_true c9
        have c9b1 : decide (0 ≤ (ji8)) = true := decide_eq_true c9
        clear c9
        by_cases c10 : (ji8) ≤ (l0.length : Int)
        · rw [if_pos c10] at H
          have c10b0 := eq_true c10
          have c10b1 : decide ((ji8) ≤ (l0.length : Int)) = true := decide_eq_true c10
          clear c10
          replace H := Option.bind_eq_some_iff.mp H
          obtain ⟨⟨t161, t162⟩, A110, H⟩ := H
          replace H : ((crc_Sum.f k (l0.take ((ji8) : Int).toNat)).bind fun t164 => (if t161 = t164 then ((journal_get.f k (l0.take ((ji8) : Int).toNat) 8 2).bind fun t166 => (if 4 ≤ ((l0.take ((ji8) : Int).toNat).length : Int) then (if (strOfNums ((l0.take ((ji8) : Int).toNat).take 4)).toList = ([83, 66, 74, 49] : List UInt8) then (if (ji8) < (wrap64 ((wrap64 (10 + t166)) + 1)) then (none) else (if 0 ≤ (wrap64 (10 + t166)) then (if (wrap64 (10 + t166)) < ((l0.take ((ji8) : Int).toNat).length : Int) then (journal_Decode.j0 k (l0.take ((ji8) : Int).toNat) (wrap64 (10 + t166)) ((ji8) != (wrap64 ((wrap64 ((wrap64 (10 + t166)) + 1)) + (wrap64 (13 * (wrap64 (rd (l0.take ((ji8) : Int).toNat) (wrap64 (10 + t166)))))))))) else (none)) else (none))) else (none)) else (none))) else (some (0, (⟨#[]⟩ : ByteArray), ([] : List (S72)), 5)))) = some (r1, r2, r3, r4) := H
          have A11 := Aside0.mk A110
          clear A110
          have c12b0 := eq_true (of_decide_eq_true (by first | (with_reducible assumption) | assumption) : 0 ≤ (ji8))
          have c13b0 := eq_true (of_decide_eq_true (by first | (with_reducible assumption) | assumption) : (ji8) ≤ (l0.length : Int))
          replace H := Option.bind_eq_some_iff.mp H
          obtain ⟨t164, A140, H⟩ := H
          replace H : (if t161 = t164 then ((journal_get.f k (l0.take ((ji8) : Int).toNat) 8 2).bind fun t166 => (if 4 ≤ ((l0.take ((ji8) : Int).toNat).length : Int) then (if (strOfNums ((l0.take ((ji8) : Int).toNat).take 4)).toList = ([83, 66, 74, 49] : List UInt8) then (if (ji8) < (wrap64 ((wrap64 (10 + t166)) + 1)) then (none) else (if 0 ≤ (wrap64 (10 + t166)) then (if (wrap64 (10 + t166)) < ((l0.take ((ji8) : Int).toNat).length : Int) then (journal_Decode.j0 k (l0.take ((ji8) : Int).toNat) (wrap64 (10 + t166)) ((ji8) != (wrap64 ((wrap64 ((wrap64 (10 + t166)) + 1)) + (wrap64 (13 * (wrap64 (rd (l0.take ((ji8) : Int).toNat) (wrap64 (10 + t166)))))))))) else (none)) else (none))) else (none)) else (none))) else (some (0, (⟨#[]⟩ : ByteArray), ([] : List (S72)), 5))) = some (r1, r2, r3, r4) := H
          have A14 := Aside0.mk A140
          clear A140
          by_cases c15 : t161 = t164
          · rw [if_pos c15] at H
            have c15b0 : (t161 == t164) = true := beq_iff_eq.mpr c15
            have c15b1 : (t161 != t164) = false := bne_eq_false_iff_eq.mpr c15
            clear c15
            have c16b0 := eq_true (of_decide_eq_true (by first | (with_reducible assumption) | assumption) : 0 ≤ (ji8))
            have c17b0 := eq_true (of_decide_eq_true (by first | (with_reducible assumption) | assumption) : (ji8) ≤ (l0.length : Int))
            replace H := Option.bind_eq_some_iff.mp H
            obtain ⟨t166, A180, H⟩ := H
            replace H : (if 4 ≤ ((l0.take ((ji8) : Int).toNat).length : Int) then (if (strOfNums ((l0.take ((ji8) : Int).toNat).take 4)).toList = ([83, 66, 74, 49] : List UInt8) then (if (ji8) < (wrap64 ((wrap64 (10 + t166)) + 1)) then (none) else (if 0 ≤ (wrap64 (10 + t166)) then (if (wrap64 (10 + t166)) < ((l0.take ((ji8) : Int).toNat).length : Int) then (journal_Decode.j0 k (l0.take ((ji8) : Int).toNat) (wrap64 (10 + t166)) ((ji8) != (wrap64 ((wrap64 ((wrap64 (10 + t166)) + 1)) + (wrap64 (13 * (wrap64 (rd (l0.take ((ji8) : Int).toNat) (wrap64 (10 + t166)))))))))) else (none)) else (none))) else (none)) else (none)) = some (r1, r2, r3, r4) := H
            have A18 := Aside0.mk A180
            clear A180
            have HC19 := Aside0.mk H
            clear H
            have hn_ : (l0.take ((ji8) : Int).toNat).length = ((ji8) : Int).toNat := (by rw [List.length_take]; have h_ := of_decide_eq_true c10b1; omega)
            go_enter Try.func28, Try.ntmps28
            go_upto_region 11 with (first | ((with_reducible refine gate_dst (N := 2) rfl ?_); refine box_event ?hg (N := 2) ?hd (cs := #[.int .i64 0, .string (⟨#[]⟩ : ByteArray), .slice none 0 0]) (t := 48) ?hr ?_; (case hd => rfl); (case hg => rfl); (case hr => first | (go_simp; done) | (go_simp; rfl)); intro gb159 hg w20 hbox hb; have n0_ := Aside0.mk (below_step (by repeat (first | (with_reducible first | exact HB.out | apply below_alloc | apply pw_below_drewN | apply below_drew1) | exact HB.out)) hb); have n1_ := Aside0.mk (hbox); have n2_ := Aside0.mk ((by rw [hg]; exact (below_size (by repeat (first | (with_reducible first | exact HB.out | apply below_alloc | apply pw_below_drewN | apply below_drew1) | exact HB.out))) : w.heap.size ≤ gb159)); have n3_ := Aside0.mk ((by rw [hg]; exact (below_size (by repeat (first | (with_reducible first | exact HB.out | apply below_alloc | apply pw_below_drewN | apply below_drew1) | exact HB.out))) : w.heap.size ≤ gb159)); clear HB; have HB := n0_; have BK159 := n1_; have GW159 := n2_; have GE159 := n3_; clear n0_ n1_ n2_ n3_; clear hb hbox hg; obtain ⟨i021, hi021, _, hsz21, _⟩ := info_parts info5; obtain ⟨A21, hcut21, hA21, hC21⟩ := print_drop_of (P := Try.prog) (Value.int .u8) 0 22 5 .i64 Try.underlying22 hi021 hsz21 A0 c0 l0 (ji8) (of_decide_eq_true (by first | (with_reducible assumption) | assumption)) (of_decide_eq_true (by first | (with_reducible assumption) | assumption)) HC0.out; have HR160 := Aside0.mk (Kd.C_of_reads (h1 := fun _ => rfl) (hA21 _ (Kd.reads_of_C HR0.out))); have HC160 := Aside0.mk hC21; clear hA21 hC21 hi021 hsz21) | ((with_reducible refine gate_callee (f := 58) rfl ?_); refine goesL_ (some 28) rfl rfl Try.func58 (by kernel_rfl) rfl #[.slice A21 (l0.drop ((ji8) : Int).toNat).length (c0 - (ji8).toNat)] rfl (by (try simp only [List.map_toArray, List.map_cons, List.map_nil]); first | done | (rw [show (l0.drop ((ji8) : Int).toNat).length = (l0.length - (ji8).toNat) from List.length_drop] <;> rfl) | (simp only [hji8]; rfl) | rfl | (simp only [List.length_drop, List.length_take]; rfl)) ?_; (with_reducible refine (crc_Read.calls k _ _ (l0.drop ((ji8) : Int).toNat) t161 t162 _ ?side1 ?side2 A11.out).mono ?_); (case side1 => repeat (first | exact (Kd.C_below HR160.out HB.out) | (with_reducible refine Kd.C_alloc ?_ _) | (with_reducible refine Kd.C_drewN ?_ _) | (with_reducible refine Kd.C_drew ?_))); (case side2 => exact HC160.out); rintro e w' ⟨rfl, ⟨nd, rfl⟩⟩; refine ⟨_, rfl, ?_⟩; obtain ⟨i022, hi022, _, hsz22, _⟩ := info_parts info5; obtain ⟨hcut22, hA22, hC22⟩ := print_take_of (P := Try.prog) (Value.int .u8) 0 22 5 .i64 Try.underlying22 hi022 hsz22 A0 c0 l0 (ji8) (of_decide_eq_true (by first | (with_reducible assumption) | assumption)) (of_decide_eq_true (by first | (with_reducible assumption) | assumption)) HC0.out; have HR163 := Aside0.mk (Kd.C_of_reads (h1 := fun _ => rfl) (hA22 _ (Kd.reads_of_C HR0.out))); have HC163 := Aside0.mk hC22; clear hA22 hC22 hi022 hsz22) | ((with_reducible refine gate_callee (f := 55) rfl ?_); refine goesL_ (some 35) rfl rfl Try.func55 (by kernel_rfl) rfl #[.slice A0 (l0.take ((ji8) : Int).toNat).length c0] rfl (by (try simp only [List.map_toArray, List.map_cons, List.map_nil]); first | done | (rw [show (l0.take ((ji8) : Int).toNat).length = (ji8).toNat from (by rw [List.length_take]; have h_ : ((ji8) : Int) ≤ (l0.length : Int) := of_decide_eq_true (by first | (with_reducible assumption) | assumption); omega)] <;> rfl) | (simp only [hji8]; rfl) | rfl | (simp only [List.length_drop, List.length_take]; rfl)) ?_; (with_reducible refine (crc_Sum.calls k _ _ (l0.take ((ji8) : Int).toNat) t164 _ ?side1 ?side2 A14.out).mono ?_); (case side1 => repeat (first | exact (Kd.C_below HR163.out (by repeat (first | (with_reducible first | exact HB.out | apply below_alloc | apply pw_below_drewN | apply below_drew1 | refine below_set ?_ GE159.out) | exact HB.out))) | (with_reducible refine Kd.C_alloc ?_ _) | (with_reducible refine Kd.C_drewN ?_ _) | (with_reducible refine Kd.C_drew ?_))); (case side2 => exact HC163.out); rintro e w' ⟨rfl, ⟨nd, rfl⟩⟩; refine ⟨_, rfl, ?_⟩; obtain ⟨i023, hi023, _, hsz23, _⟩ := info_parts info5; obtain ⟨hcut23, hA23, hC23⟩ := print_take_of (P := Try.prog) (Value.int .u8) 0 22 5 .i64 Try.underlying22 hi023 hsz23 A0 c0 l0 (ji8) (of_decide_eq_true (by first | (with_reducible assumption) | assumption)) (of_decide_eq_true (by first | (with_reducible assumption) | assumption)) HC0.out; have HR165 := Aside0.mk (Kd.C_of_reads (h1 := fun _ => rfl) (hA23 _ (Kd.reads_of_C HR0.out))); have HC165 := Aside0.mk hC23; clear hA23 hC23 hi023 hsz23) | ((with_reducible refine gate_callee (f := 59) rfl ?_); refine goesL_ (some 42) rfl rfl Try.func59 (by kernel_rfl) rfl #[.slice A0 (l0.take ((ji8) : Int).toNat).length c0, .int .i64 8, .int .i64 2] rfl (by (try simp only [List.map_toArray, List.map_cons, List.map_nil]); first | done | (rw [show (l0.take ((ji8) : Int).toNat).length = (ji8).toNat from (by rw [List.length_take]; have h_ : ((ji8) : Int) ≤ (l0.length : Int) := of_decide_eq_true (by first | (with_reducible assumption) | assumption); omega)] <;> rfl) | (simp only [hji8]; rfl) | rfl | (simp only [List.length_drop, List.length_take]; rfl)) ?_; (with_reducible refine (journal_get.calls k _ _ (l0.take ((ji8) : Int).toNat) 8 2 t166 _ ?side1 ?side2 A18.out).mono ?_); (case side1 => repeat (first | exact (Kd.C_below HR165.out (by repeat (first | (with_reducible first | exact HB.out | apply below_alloc | apply pw_below_drewN | apply below_drew1 | refine below_set ?_ GE159.out) | exact HB.out))) | (with_reducible refine Kd.C_alloc ?_ _) | (with_reducible refine Kd.C_drewN ?_ _) | (with_reducible refine Kd.C_drew ?_))); (case side2 => exact HC165.out); rintro e w' ⟨rfl, ⟨nd, rfl⟩⟩; refine ⟨_, rfl, ?_⟩))
            (try simp only [Act.put, List.setIfInBounds_toArray, List.set_cons_zero, List.set_cons_succ])
            go_cut [66] (fun v66 wc => ∃ (kq : Nat) (x66_18 : Bool), v66 = .bool x66_18 ∧ Aside0 (journal_Decode.j0 kq (l0.take ((ji8) : Int).toNat) (wrap64 (10 + t166)) x66_18 = some (r1, r2, r3, r4)) ∧ Aside0 (kq ≤ k) ∧ Aside0 (wc.heap[gb159]? = some (.cells #[.int .i64 0, .string (⟨#[]⟩ : ByteArray), (.slice none 0 0)] 48 (0, 0))) ∧ Aside0 (Below w.heap.size w wc))
            case first =>
              have H := HC19.out
              clear HC19
              by_cases c24 : 4 ≤ ((l0.take ((ji8) : Int).toNat).length : Int)
              · rw [if_pos c24] at H
                have c24b0 := eq_true c24
                have c24b1 : decide (4 ≤ ((l0.take ((ji8) : Int).toNat).length : Int)) = true := decide_eq_true c24
                clear c24
                by_cases c25 : (strOfNums ((l0.take ((ji8) : Int).toNat).take 4)).toList = ([83, 66, 74, 49] : List UInt8)
                · rw [if_pos c25] at H
                  have c25b0 : ((strOfNums ((l0.take ((ji8) : Int).toNat).take 4)).toList == ([83, 66, 74, 49] : List UInt8)) = true := beq_iff_eq.mpr c25
                  have c25b1 : ((strOfNums ((l0.take ((ji8) : Int).toNat).take 4)).toList != ([83, 66, 74, 49] : List UInt8)) = false := bne_eq_false_iff_eq.mpr c25
                  clear c25
                  (first | rw [c25b0] | (simp only [i64_w, i32_w]; rw [c25b0]) | skip)
                  by_cases c26 : (ji8) < (wrap64 ((wrap64 (10 + t166)) + 1))
                  · rw [if_pos c26] at H
                    exact absurd H (by simp)
                  · rw [if_neg c26] at H
                    have c26b0 : decide ((ji8) < (wrap64 ((wrap64 (10 + t166)) + 1))) = false := decide_eq_false c26
                    clear c26
                    obtain ⟨ji29, hji29⟩ : ∃ j_ : Int, (wrap64 (10 + t166)) = j_ := ⟨_, rfl⟩
                    replace H : (if 0 ≤ (ji29) then (if (ji29) < ((l0.take ((ji8) : Int).toNat).length : Int) then (journal_Decode.j0 k (l0.take ((ji8) : Int).toNat) ji29 ((ji8) != (wrap64 ((wrap64 ((ji29) + 1)) + (wrap64 (13 * (wrap64 (rd (l0.take ((ji8) : Int).toNat) (ji29))))))))) else (none)) else (none)) = some (r1, r2, r3, r4) := by first | (rw [hji29] at H; exact H) | (simp only [hji29] at H ⊢; exact H)
                    (try rw [hji29] at c26b0)
                    have hji29w : (IntKind.i64.wrap (10 + t166)) = ji29 := (i64_w _).trans hji29
                    by_cases c30 : 0 ≤ (ji29)
                    · rw [if_pos c30] at H
                      have c30b0 : decide (0 ≤ (ji29)) = true := decide_eq_true c30
                      clear c30
                      by_cases c31 : (ji29) < ((l0.take ((ji8) : Int).toNat).length : Int)
                      · rw [if_pos c31] at H
                        have c31b0 : decide ((ji29) < ((l0.take ((ji8) : Int).toNat).length : Int)) = true := decide_eq_true c31
                        clear c31
                        have H' := Aside0.mk H
                        clear H
                        obtain ⟨i032, hi032, _, hsz32, _⟩ := info_parts info5
                        obtain ⟨hcut32, hA32, hC32⟩ := print_take_of (P := Try.prog) (Value.int .u8) 0 22 5 .i64 Try.underlying22 hi032 hsz32 A0 c0 (l0.take ((ji8) : Int).toNat) 4 (by omega) (of_decide_eq_true (by first | (with_reducible assumption) | assumption)) HC165.out
                        have hl_ : (List.take (Int.toNat 4) (l0.take ((ji8) : Int).toNat)).length = 4 := (by have h_ := of_decide_eq_true c24b1; rw [List.length_take]; omega)
                        simp only [hl_, hn_] at hcut32
                        have HR167 := Aside0.mk (Kd.C_of_reads (h1 := fun _ => rfl) (hA32 _ (Kd.reads_of_C HR165.out)))
                        have HC167 := Aside0.mk hC32
                        clear hA32 hC32 hi032 hsz32
                        have hcv33 := Kd.C_string (P := Try.prog) (A := A0) (c := c0) Try.underlying22 Try.underlying5 Try.underlying9 (Kd.C_below HR167.out HB.out)
                        have hcv33d := fun m_ => Kd.C_string (P := Try.prog) (A := A0) (c := c0) Try.underlying22 Try.underlying5 Try.underlying9 (Kd.C_drewN (Kd.C_below HR167.out HB.out) m_)
                        rw [hl_] at hcv33
                        simp only [hl_] at hcv33d
                        have p168 : 0 ≤ ((ji29) : Int) := of_decide_eq_true (by first | (with_reducible assumption) | assumption)
                        have q168 : (ji29) < ((l0.take ((ji8) : Int).toNat).length : Int) := of_decide_eq_true (by first | (with_reducible assumption) | assumption)
                        obtain ⟨ad168, e168, hx168_0⟩ := Kd.at_int HR165.out (ji29) p168 q168
                        cases e168
                        replace hx168_0 := (HB.out.cell (World.block_lt_of_cell? w _ hx168_0)).trans hx168_0
                        replace p168 := eq_true p168
                        have hq168_ : (ji29 < max ji8 0) = True := eq_true (by have h_ := q168; rw [hn_] at h_; omega)
                        replace q168 := eq_true q168
                        go_wp2
                        (try subst hji29)
                        go_meet
                        case rel => exact ⟨_, (((ji8) != (wrap64 ((wrap64 (((wrap64 (10 + t166))) + 1)) + (wrap64 (13 * (wrap64 (rd (l0.take ((ji8) : Int).toNat) ((wrap64 (10 + t166))))))))))), (by first | rfl | (simp; done) | (simp only [← hji8, ← hji29] <;> (first | rfl | simp)) | (simp [*]; done)), H', ⟨by first | omega | exact Nat.le_refl _⟩, ⟨by (with_reducible repeat (first | refine blk_drewN ?_ _ | refine blk_drew ?_ | refine blk_alloc ?_ _)); exact BK159.out⟩, ⟨by repeat (first | (with_reducible first | exact HB.out | apply below_alloc | apply pw_below_drewN | apply below_drew1 | refine below_set ?_ GE159.out) | exact HB.out)⟩⟩
                      · rw [if_neg c31] at H
                        exact absurd H (by simp)
                    · rw [if_neg c30] at H
                      exact absurd H (by simp)
                · rw [if_neg c25] at H
                  exact absurd H (by simp)
              · rw [if_neg c24] at H
                exact absurd H (by simp)
            case rest =>
              clear HC19
              try clear c1
              try clear p1
              try clear q1
              try clear hx1
              try clear c2
              try clear c2b0
              try clear c2b1
              try clear p2
              try clear hcv2
              try clear c3
              try clear hcv3
              try clear c5
              try clear c5b0
              try clear c5b1
              try clear p6
              try clear c9
              try clear c9b0
              try clear c9b1
              try clear c10
              try clear c10b0
              try clear c10b1
              try clear c12
              try clear c12b0
              try clear c13
              try clear c13b0
              try clear c15
              try clear c15b0
              try clear c15b1
              try clear c16
              try clear c16b0
              try clear p16
              try clear q16
              try clear hx16
              try clear c17
              try clear c17b0
              try clear c24
              try clear c24b0
              try clear c24b1
              try clear c25
              try clear c25b0
              try clear c25b1
              try clear c26
              try clear c26b0
              try clear c28
              try clear hcv28
              try clear c30
              try clear c30b0
              try clear c31
              try clear c31b0
              try clear hcv33
              try clear hcv35
              try clear hcz4_0
              try clear hcz4_1
              try clear hcz4_2
              try clear hcz7_0
              try clear hcz7_1
              try clear hcz7_2
              try clear hfz4_0
              try clear hfz4_1
              try clear hfz4_2
              try clear hfz7_0
              try clear hfz7_1
              try clear hfz7_2
              try clear hx168_0
              try clear p168
              try clear q168
              obtain ⟨kq, x66_18, rfl, HA, HJ18, BK159, HB⟩ := hcut
              cases kq with
              | zero => exact absurd HA.out (by simp [journal_Decode.j0])
              | succ kj18 =>
                have H := HA.out
                clear HA
                simp only [journal_Decode.j0] at H
                by_cases c36 : x66_18 = true
                · subst c36
                  have H1 : (none) = some (r1, r2, r3, r4) := by rw [if_pos rfl] at H; exact H
                  clear H
                  have H := H1
                  clear H1
                  exact absurd H (by simp)
                · replace c36 := Bool.eq_false_iff.mpr c36
                  subst c36
                  have H1 : (if 0 ≤ (wrap64 ((wrap64 (10 + t166)) + 1)) then (if (wrap64 ((wrap64 (10 + t166)) + 1)) ≤ ((l0.take ((ji8) : Int).toNat).length : Int) then ((journal_versions.f kj18 ((l0.take ((ji8) : Int).toNat).drop ((wrap64 ((wrap64 (10 + t166)) + 1)) : Int).toNat)).bind fun bt170 => ((journal_get.f kj18 (l0.take ((ji8) : Int).toNat) 4 4).bind fun t174 => (if 10 ≤ (wrap64 (10 + t166)) then (if (wrap64 (10 + t166)) ≤ ((l0.take ((ji8) : Int).toNat).length : Int) then (if bt170.2 = true then ((journal_May.f kj18 t174 (strOfNums (((l0.take ((ji8) : Int).toNat).take ((wrap64 (10 + t166)) : Int).toNat).drop 10)) bt170.1).bind fun t177 => (if t177 = true then (some (t174, strOfNums (((l0.take ((ji8) : Int).toNat).take ((wrap64 (10 + t166)) : Int).toNat).drop 10), bt170.1, 0)) else (none))) else (none)) else (none)) else (none)))) else (none)) else (none)) = some (r1, r2, r3, r4) := by rw [if_neg (show ¬ (false = true) by decide)] at H; exact H
                  clear H
                  have H := H1
                  clear H1
                  obtain ⟨ji38, hji38⟩ : ∃ j_ : Int, (wrap64 ((wrap64 (10 + t166)) + 1)) = j_ := ⟨_, rfl⟩
                  replace H : (if 0 ≤ (ji38) then (if (ji38) ≤ ((l0.take ((ji8) : Int).toNat).length : Int) then ((journal_versions.f kj18 ((l0.take ((ji8) : Int).toNat).drop ((ji38) : Int).toNat)).bind fun bt170 => ((journal_get.f kj18 (l0.take ((ji8) : Int).toNat) 4 4).bind fun t174 => (if 10 ≤ (wrap64 (10 + t166)) then (if (wrap64 (10 + t166)) ≤ ((l0.take ((ji8) : Int).toNat).length : Int) then (if bt170.2 = true then ((journal_May.f kj18 t174 (strOfNums (((l0.take ((ji8) : Int).toNat).take ((wrap64 (10 + t166)) : Int).toNat).drop 10)) bt170.1).bind fun t177 => (if t177 = true then (some (t174, strOfNums (((l0.take ((ji8) : Int).toNat).take ((wrap64 (10 + t166)) : Int).toNat).drop 10), bt170.1, 0)) else (none))) else (none)) else (none)) else (none)))) else (none)) else (none)) = some (r1, r2, r3, r4) := by first | (rw [hji38] at H; exact H) | (simp only [hji38] at H ⊢; exact H)
                  have hji38w : (IntKind.i64.wrap ((wrap64 (10 + t166)) + 1)) = ji38 := (i64_w _).trans hji38
                  by_cases c39 : 0 ≤ (ji38)
                  · rw [if_pos c39] at H
                    have c39b0 := eq_true c39
                    have c39b1 : decide (0 ≤ (ji38)) = true := decide_eq_true c39
                    clear c39
                    by_cases c40 : (ji38) ≤ ((l0.take ((ji8) : Int).toNat).length : Int)
                    · rw [if_pos c40] at H
                      have c40b0 := eq_true c40
                      have c40b1 : decide ((ji38) ≤ ((l0.take ((ji8) : Int).toNat).length : Int)) = true := decide_eq_true c40
                      clear c40
                      replace H := Option.bind_eq_some_iff.mp H
                      obtain ⟨⟨t170, t171⟩, A410, H⟩ := H
                      replace H : ((journal_get.f kj18 (l0.take ((ji8) : Int).toNat) 4 4).bind fun t174 => (if 10 ≤ (wrap64 (10 + t166)) then (if (wrap64 (10 + t166)) ≤ ((l0.take ((ji8) : Int).toNat).length : Int) then (if t171 = true then ((journal_May.f kj18 t174 (strOfNums (((l0.take ((ji8) : Int).toNat).take ((wrap64 (10 + t166)) : Int).toNat).drop 10)) t170).bind fun t177 => (if t177 = true then (some (t174, strOfNums (((l0.take ((ji8) : Int).toNat).take ((wrap64 (10 + t166)) : Int).toNat).drop 10), t170, 0)) else (none))) else (none)) else (none)) else (none))) = some (r1, r2, r3, r4) := H
                      have A41 := Aside0.mk A410
                      clear A410
                      replace H := Option.bind_eq_some_iff.mp H
                      obtain ⟨t174, A420, H⟩ := H
                      replace H : (if 10 ≤ (wrap64 (10 + t166)) then (if (wrap64 (10 + t166)) ≤ ((l0.take ((ji8) : Int).toNat).length : Int) then (if t171 = true then ((journal_May.f kj18 t174 (strOfNums (((l0.take ((ji8) : Int).toNat).take ((wrap64 (10 + t166)) : Int).toNat).drop 10)) t170).bind fun t177 => (if t177 = true then (some (t174, strOfNums (((l0.take ((ji8) : Int).toNat).take ((wrap64 (10 + t166)) : Int).toNat).drop 10), t170, 0)) else (none))) else (none)) else (none)) else (none)) = some (r1, r2, r3, r4) := H
                      have A42 := Aside0.mk A420
                      clear A420
                      by_cases c43 : 10 ≤ (wrap64 (10 + t166))
                      · rw [if_pos c43] at H
                        have c43b0 := eq_true c43
                        have c43b1 : decide (10 ≤ (wrap64 (10 + t166))) = true := decide_eq_true c43
                        by_cases c44 : (wrap64 (10 + t166)) ≤ ((l0.take ((ji8) : Int).toNat).length : Int)
                        · rw [if_pos c44] at H
                          have c44b0 := eq_true c44
                          have c44b1 : decide ((wrap64 (10 + t166)) ≤ ((l0.take ((ji8) : Int).toNat).length : Int)) = true := decide_eq_true c44
                          by_cases c45 : t171 = true
                          · subst c45
                            have H1 : ((journal_May.f kj18 t174 (strOfNums (((l0.take ((ji8) : Int).toNat).take ((wrap64 (10 + t166)) : Int).toNat).drop 10)) t170).bind fun t177 => (if t177 = true then (some (t174, strOfNums (((l0.take ((ji8) : Int).toNat).take ((wrap64 (10 + t166)) : Int).toNat).drop 10), t170, 0)) else (none))) = some (r1, r2, r3, r4) := by rw [if_pos rfl] at H; exact H
                            clear H
                            have H := H1
                            clear H1
                            replace H := Option.bind_eq_some_iff.mp H
                            obtain ⟨t177, A460, H⟩ := H
                            replace H : (if t177 = true then (some (t174, strOfNums (((l0.take ((ji8) : Int).toNat).take ((wrap64 (10 + t166)) : Int).toNat).drop 10), t170, 0)) else (none)) = some (r1, r2, r3, r4) := H
                            have A46 := Aside0.mk A460
                            clear A460
                            by_cases c47 : t177 = true
                            · subst c47
                              have H1 : (some (t174, strOfNums (((l0.take ((ji8) : Int).toNat).take ((wrap64 (10 + t166)) : Int).toNat).drop 10), t170, 0)) = some (r1, r2, r3, r4) := by rw [if_pos rfl] at H; exact H
                              clear H
                              have H := H1
                              clear H1
                              simp only [Option.some.injEq, Prod.mk.injEq] at H
                              obtain ⟨rfl, rfl, rfl, rfl⟩ := H
                              obtain ⟨i048, hi048, _, hsz48, _⟩ := info_parts info5
                              obtain ⟨A48, hcut48, hA48, hC48⟩ := print_drop_of (P := Try.prog) (Value.int .u8) 0 22 5 .i64 Try.underlying22 hi048 hsz48 A0 c0 (l0.take ((ji8) : Int).toNat) (ji38) (of_decide_eq_true (by first | (with_reducible assumption) | assumption)) (of_decide_eq_true (by first | (with_reducible assumption) | assumption)) HC165.out
                              simp only [hn_] at hcut48
                              have HR169 := Aside0.mk (Kd.C_of_reads (h1 := fun _ => rfl) (hA48 _ (Kd.reads_of_C HR165.out)))
                              have HC169 := Aside0.mk hC48
                              clear hA48 hC48 hi048 hsz48
                              try go_wp2_with (first | ((with_reducible refine gate_callee (f := 60) rfl ?_); refine goesL_ (some 73) rfl rfl Try.func60 (by kernel_rfl) rfl #[.slice A48 ((l0.take ((ji8) : Int).toNat).drop ((ji38) : Int).toNat).length (c0 - (ji38).toNat)] rfl (by (try simp only [List.map_toArray, List.map_cons, List.map_nil]); first | done | (rw [show ((l0.take ((ji8) : Int).toNat).drop ((ji38) : Int).toNat).length = ((l0.take ((ji8) : Int).toNat).length - (ji38).toNat) from List.length_drop] <;> rfl) | (simp only [hji38, hji8]; rfl) | rfl | (simp only [List.length_drop, hn_]; rfl) | (simp only [List.length_drop, List.length_take]; rfl)) ?_; (with_reducible refine (journal_versions.calls kj18 _ _ ((l0.take ((ji8) : Int).toNat).drop ((ji38) : Int).toNat) t170 true _ ?side1 ?side2 A41.out).mono ?_); (case side1 => repeat (first | exact (Kd.C_below HR169.out HB.out) | (with_reducible refine Kd.C_alloc ?_ _) | (with_reducible refine Kd.C_drewN ?_ _) | (with_reducible refine Kd.C_drew ?_))); (case side2 => exact HC169.out); rintro e w49 ⟨v172, rfl, ho0, hb⟩; refine ⟨_, rfl, ?_⟩; have n0_ := Aside0.mk (Kd.R_lower ho0 (below_size (by repeat (first | (with_reducible first | exact HB.out | apply below_alloc | apply pw_below_drewN | apply below_drew1 | refine below_set ?_ GE159.out) | exact HB.out)))); have n1_ := Aside0.mk (blk_below (g := gb159) (o := .cells #[.int .i64 0, .string (⟨#[]⟩ : ByteArray), .slice none 0 0] 48 (0, 0)) (by (with_reducible repeat (first | refine blk_drewN ?_ _ | refine blk_drew ?_ | refine blk_alloc ?_ _)); exact BK159.out) hb); have n2_ := Aside0.mk (below_step (by repeat (first | (with_reducible first | exact HB.out | apply below_alloc | apply pw_below_drewN | apply below_drew1 | refine below_set ?_ GE159.out) | exact HB.out)) hb); clear BK159; clear HB; have HO173 := n0_; have BK159 := n1_; have HB := n2_; clear n0_ n1_ n2_; (try clear hb); (try clear hb2); (try clear hk); (try clear hi); (try clear ho0)))
                              have n0_ := Aside0.mk (Kd.R_drew HO173.out)
                              have n1_ := Aside0.mk (blk_drew BK159.out)
                              have n2_ := Aside0.mk (below_drew1 HB.out)
                              clear HO173
                              clear BK159
                              clear HB
                              have HO173 := n0_
                              have BK159 := n1_
                              have HB := n2_
                              clear n0_ n1_ n2_
                              obtain ⟨i051, hi051, _, hsz51, _⟩ := info_parts info5
                              obtain ⟨A51, hcut51, hA51, hC51⟩ := print_mid_of (P := Try.prog) (Value.int .u8) 0 22 5 .i64 .i64 Try.underlying22 hi051 hsz51 A0 c0 (l0.take ((ji8) : Int).toNat) 10 (wrap64 (10 + t166)) (by omega) (by first | omega | exact of_decide_eq_true (by first | (with_reducible assumption) | assumption)) (of_decide_eq_true (by first | (with_reducible assumption) | assumption)) HC165.out
                              simp only [hn_] at hcut51
                              have HR175 := Aside0.mk (Kd.C_of_reads (h1 := fun _ => rfl) (hA51 _ (Kd.reads_of_C HR165.out)))
                              have HC175 := Aside0.mk hC51
                              clear hA51 hC51 hi051 hsz51
                              have hl2_ : (((l0.take ((ji8) : Int).toNat).take ((wrap64 (10 + t166)) : Int).toNat).drop 10).length = (min ((wrap64 (10 + t166)) : Int).toNat ((ji8) : Int).toNat - 10) := (by rw [List.length_drop, List.length_take, hn_])
                              obtain ⟨Ao53, co53, eo53⟩ := Kd.R_slice HO173.out
                              subst eo53
                              refine start_ (n := 10) (S := fun w' => (convert 22 9 (.slice A51 (min ((wrap64 (10 + t166)) : Int).toNat ((ji8) : Int).toNat - 10) (c0 - 10))).run Try.prog w' = .ok (.string (strOfNums (((l0.take ((ji8) : Int).toNat).take ((wrap64 (10 + t166)) : Int).toNat).drop 10))) w') (ds := []) #[false, false, false, false, false, false, false, false, false, false] (by kernel_rfl) rfl rfl ((by rw [← hl2_]; exact Kd.C_string (P := Try.prog) (A := A51) (c := (c0 - 10)) Try.underlying22 Try.underlying5 Try.underlying9 (Kd.C_below HR175.out (by repeat (first | (with_reducible first | exact HB.out | apply below_alloc | apply pw_below_drewN | apply below_drew1 | refine below_set ?_ GE176.out) | exact HB.out))))) (fun hHeld => ?_); refine with_tabW journal_Decode.tab14 journal_Decode.bits14 (fun HT_ HW_ => ?_)
                              generalize w49.drew = w50 at HO173 BK159 HB HR175 hHeld ⊢
                              refine pure_ (i := 0) (N := some 76) (v := ?_) (a' := ?_) #[true, false, false, false, false, false, false, false, false, false] rfl rfl (any_of HT_.out (by kernel_rfl)) (fun _ _ _ h => h) (Or.inl ⟨by rfl, ?_⟩) ?_ ?_
                              rotate_left
                              · intro w'
                                go_simp
                                with_reducible rfl
                              rotate_left
                              · simp only [Act.put, List.setIfInBounds_toArray, List.set_cons_zero, List.set_cons_succ, i64_w, i32_w]
                                rfl
                              refine pure_ (i := 2) (N := some 78) (v := ?_) (a' := ?_) #[true, false, true, false, false, false, false, false, false, false] rfl rfl (any_of HT_.out (by kernel_rfl)) (fun _ _ _ h => h) (Or.inl ⟨by rfl, ?_⟩) ?_ ?_
                              rotate_left
                              · intro w'
                                go_simp
                                with_reducible rfl
                              rotate_left
                              · simp only [Act.put, List.setIfInBounds_toArray, List.set_cons_zero, List.set_cons_succ, i64_w, i32_w]
                                rfl
                              refine pure_ (i := 3) (N := some 79) (v := ?_) (a' := ?_) #[true, false, true, true, false, false, false, false, false, false] rfl rfl (any_of HT_.out (by kernel_rfl)) (fun _ _ _ h => h) (Or.inl ⟨by rfl, ?_⟩) ?_ ?_
                              rotate_left
                              · intro w'
                                go_simp
                                with_reducible rfl
                              rotate_left
                              · simp only [Act.put, List.setIfInBounds_toArray, List.set_cons_zero, List.set_cons_succ, i64_w, i32_w]
                                rfl
                              refine pure_ (i := 4) (N := some 80) (v := ?_) (a' := ?_) #[true, false, true, true, true, false, false, false, false, false] rfl rfl (any_of HT_.out (by kernel_rfl)) (fun _ _ _ h => h) (Or.inl ⟨by rfl, ?_⟩) ?_ ?_
                              rotate_left
                              · intro w'
                                go_simp
                                with_reducible rfl
                              rotate_left
                              · simp only [Act.put, List.setIfInBounds_toArray, List.set_cons_zero, List.set_cons_succ, i64_w, i32_w]
                                rfl
                              refine pure_ (i := 6) (N := some 82) (v := ?_) (a' := ?_) #[true, false, true, true, true, false, true, false, false, false] rfl rfl (any_of HT_.out (by kernel_rfl)) (fun _ _ _ h => h) (Or.inl ⟨by rfl, ?_⟩) ?_ ?_
                              rotate_left
                              · intro w'
                                go_simp
                                with_reducible rfl
                              rotate_left
                              · simp only [Act.put, List.setIfInBounds_toArray, List.set_cons_zero, List.set_cons_succ, i64_w, i32_w]
                                rfl
                              refine take_ (i := 5) (N := some 81) (v := ?_) (a' := ?_) #[true, false, true, true, true, true, true, false, false, false] rfl rfl (take_ofW HT_.out HW_.out (by kernel_rfl)) (fun _ _ _ h => h) (Or.inl ⟨by rfl, ?_⟩) hHeld ?_ ?_
                              rotate_left
                              · intro w' s0
                                go_simp
                                with_reducible rfl
                              rotate_left
                              · simp only [Act.put, List.setIfInBounds_toArray, List.set_cons_zero, List.set_cons_succ, i64_w, i32_w]
                                rfl
                              refine join_ (σ := Nat) 1 #[true, true, true, true, true, true, true, true, true, false] (fun s_ => [(77, .int .i64 t174), (10, .pointer (some ⟨s_, 0, none⟩)), (83, .agg #[.int .i64 t174, .string (strOfNums (((l0.take ((ji8) : Int).toNat).take ((wrap64 (10 + t166)) : Int).toNat).drop 10)), .slice Ao53 t170.length co53])]) (fun s_ w' => ((convert 22 9 (.slice A51 (min ((wrap64 (10 + t166)) : Int).toNat ((ji8) : Int).toNat - 10) (c0 - 10))).run Try.prog w' = .ok (.string (strOfNums (((l0.take ((ji8) : Int).toNat).take ((wrap64 (10 + t166)) : Int).toNat).drop 10))) w') ∧ (Kd.R k72 72 w' w.heap.size (fun _ => True) (.slice Ao53 t170.length co53) t170) ∧ (w'.heap[gb159]? = some (.cells #[.int .i64 0, .string (⟨#[]⟩ : ByteArray), .slice none 0 0] 48 (0, 0))) ∧ (w'.heap[s_]? = some (.cells #[.int .i64 0, .string (⟨#[]⟩ : ByteArray), .slice none 0 0] 48 (0, 0))) ∧ (w.heap.size ≤ s_) ∧ (w.heap.size ≤ s_) ∧ (gb159 ≠ s_) ∧ (s_ ≠ gb159) ∧ (Below w.heap.size w w')) ?_ ?_
                              rotate_left
                              · intro hCont
                                refine two_ (i := 1) (j := 8) (Ni := some 77) (Nj := some 10) #[true, true, true, true, true, true, true, false, false, false] #[true, false, true, true, true, true, true, false, true, false] rfl rfl rfl rfl (two_of HT_.out (by kernel_rfl)) (by decide) (by decide) (fun K hK => ?_) (fun K hK => ?_)
                                · skip
                                  refine goes_ Try.func59 (by kernel_rfl) rfl #[.slice A0 (l0.take ((ji8) : Int).toNat).length c0, .int .i64 4, .int .i64 4] (by rfl) rfl rfl (by (try simp only [List.map_toArray, List.map_cons, List.map_nil]); first | done | (rw [show (l0.take ((ji8) : Int).toNat).length = (ji8).toNat from (by rw [List.length_take]; have h_ : ((ji8) : Int) ≤ (l0.length : Int) := of_decide_eq_true (by first | (with_reducible assumption) | assumption); omega)] <;> rfl) | (simp only [hji8]; rfl) | rfl | (simp only [List.length_drop, hn_]; rfl) | (simp only [List.length_drop, List.length_take]; rfl)) ?_
                                  with_reducible refine (journal_get.calls kj18 _ _ (l0.take ((ji8) : Int).toNat) 4 4 t174 _ ?side1 ?side2 A42.out).mono ?_
                                  (case side1 => repeat (first | exact (Kd.C_below HR165.out HB.out) | (with_reducible refine Kd.C_alloc ?_ _) | (with_reducible refine Kd.C_drewN ?_ _) | (with_reducible refine Kd.C_drew ?_)))
                                  (case side2 => exact HC165.out)
                                  rintro e w' ⟨rfl, ⟨nd, rfl⟩⟩
                                  refine ⟨_, rfl, ?_⟩
                                  refine hK.out _ _ ((by rw [← hl2_]; exact Kd.C_string (P := Try.prog) (A := A51) (c := (c0 - 10)) Try.underlying22 Try.underlying5 Try.underlying9 (Kd.C_below HR175.out (by repeat (first | (with_reducible first | exact HB.out | apply below_alloc | apply pw_below_drewN | apply below_drew1 | refine below_set ?_ GE176.out) | exact HB.out))))) (fun hHeld => ?_)
                                  clear hK K
                                  refine norm_ (a' := ?_) ?_ ?_
                                  rotate_left
                                  · show Act.put _ (some 77) _ = _
                                    simp only [Act.put, List.setIfInBounds_toArray, List.set_cons_zero, List.set_cons_succ, i64_w, i32_w]
                                    rfl
                                  refine pure_ (i := 7) (N := some 83) (v := ?_) (a' := ?_) #[true, true, true, true, true, true, true, true, false, false] rfl rfl (any_of HT_.out (by kernel_rfl)) (fun _ _ _ h => h) (Or.inl ⟨by rfl, ?_⟩) ?_ ?_
                                  rotate_left
                                  · intro w'
                                    go_simp
                                    with_reducible rfl
                                  rotate_left
                                  · simp only [Act.put, List.setIfInBounds_toArray, List.set_cons_zero, List.set_cons_succ, i64_w, i32_w]
                                    rfl
                                  refine one_ (i := 8) (N := some 10) #[true, true, true, true, true, true, true, true, true, false] rfl rfl (one_of HT_.out (by kernel_rfl)) (by decide) (fun K hK => ?_)
                                  refine box_step ?hg (N := 10) ?hd (cs := #[.int .i64 0, .string (⟨#[]⟩ : ByteArray), .slice none 0 0]) (t := 48) ?hr ?_; (case hd => rfl); (case hg => rfl); (case hr => first | (go_simp; done) | (go_simp; rfl))
                                  intro gb176 hg w54 hbox hb
                                  have n0_ := Aside0.mk (Kd.R_below (by (with_reducible repeat (first | apply Kd.R_alloc | apply Kd.R_drewN | apply Kd.R_drew)); exact HO173.out) hb)
                                  have n1_ := Aside0.mk (blk_below (g := gb159) (o := .cells #[.int .i64 0, .string (⟨#[]⟩ : ByteArray), .slice none 0 0] 48 (0, 0)) (by (with_reducible repeat (first | refine blk_drewN ?_ _ | refine blk_drew ?_ | refine blk_alloc ?_ _)); exact BK159.out) hb)
                                  have n2_ := Aside0.mk (below_step (by repeat (first | (with_reducible first | exact HB.out | apply below_alloc | apply pw_below_drewN | apply below_drew1 | refine below_set ?_ GE159.out) | exact HB.out)) hb)
                                  have n3_ := Aside0.mk (hbox)
                                  have n4_ := Aside0.mk ((by rw [hg]; exact (below_size (by repeat (first | (with_reducible first | exact HB.out | apply below_alloc | apply pw_below_drewN | apply below_drew1 | refine below_set ?_ GE159.out) | exact HB.out))) : w.heap.size ≤ gb176))
                                  have n5_ := Aside0.mk ((by rw [hg]; exact (below_size (by repeat (first | (with_reducible first | exact HB.out | apply below_alloc | apply pw_below_drewN | apply below_drew1 | refine below_set ?_ GE159.out) | exact HB.out))) : w.heap.size ≤ gb176))
                                  have n6_ := Aside0.mk ((by rw [hg]; exact Nat.ne_of_lt (blk_lt (g := gb159) (o := .cells #[.int .i64 0, .string (⟨#[]⟩ : ByteArray), .slice none 0 0] 48 (0, 0)) (by (with_reducible repeat (first | refine blk_drewN ?_ _ | refine blk_drew ?_ | refine blk_alloc ?_ _)); exact BK159.out)) : gb159 ≠ gb176))
                                  have n7_ := Aside0.mk ((by rw [hg]; exact Nat.ne_of_gt (blk_lt (g := gb159) (o := .cells #[.int .i64 0, .string (⟨#[]⟩ : ByteArray), .slice none 0 0] 48 (0, 0)) (by (with_reducible repeat (first | refine blk_drewN ?_ _ | refine blk_drew ?_ | refine blk_alloc ?_ _)); exact BK159.out)) : gb176 ≠ gb159))
                                  clear HO173
                                  clear BK159
                                  clear HB
                                  have HO173 := n0_
                                  have BK159 := n1_
                                  have HB := n2_
                                  have BK176 := n3_
                                  have GW176 := n4_
                                  have GE176 := n5_
                                  have NB159_176 := n6_
                                  have NB176_159 := n7_
                                  clear n0_ n1_ n2_ n3_ n4_ n5_ n6_ n7_
                                  clear hb hbox hg
                                  refine hK.out _ _ ((by rw [← hl2_]; exact Kd.C_string (P := Try.prog) (A := A51) (c := (c0 - 10)) Try.underlying22 Try.underlying5 Try.underlying9 (Kd.C_below HR175.out (by repeat (first | (with_reducible first | exact HB.out | apply below_alloc | apply pw_below_drewN | apply below_drew1 | refine below_set ?_ GE176.out) | exact HB.out))))) (fun hHeld => ?_)
                                  clear hK K
                                  refine norm_ (a' := ?_) ?_ ?_
                                  rotate_left
                                  · show Act.put _ (some 10) _ = _
                                    simp only [Act.put, List.setIfInBounds_toArray, List.set_cons_zero, List.set_cons_succ, i64_w, i32_w]
                                    rfl
                                  exact norm_ (by simp only [putAll, Act.put, List.setIfInBounds_toArray, List.set_cons_zero, List.set_cons_succ]) (hCont (gb176) _ ⟨hHeld, (by (with_reducible repeat (first | apply Kd.R_alloc | apply Kd.R_drewN | apply Kd.R_drew)); exact HO173.out), (by (with_reducible repeat (first | refine blk_drewN ?_ _ | refine blk_drew ?_ | refine blk_alloc ?_ _)); exact BK159.out), (by (with_reducible repeat (first | refine blk_drewN ?_ _ | refine blk_drew ?_ | refine blk_alloc ?_ _)); exact BK176.out), GW176.out, GE176.out, NB159_176.out, NB176_159.out, (by repeat (first | (with_reducible first | exact HB.out | apply below_alloc | apply pw_below_drewN | apply below_drew1 | refine below_set ?_ GE159.out | refine below_set ?_ GE176.out) | exact HB.out))⟩)
                                · skip
                                  refine box_step ?hg (N := 10) ?hd (cs := #[.int .i64 0, .string (⟨#[]⟩ : ByteArray), .slice none 0 0]) (t := 48) ?hr ?_; (case hd => rfl); (case hg => rfl); (case hr => first | (go_simp; done) | (go_simp; rfl))
                                  intro gb176 hg w53 hbox hb
                                  have n0_ := Aside0.mk (Kd.R_below (by (with_reducible repeat (first | apply Kd.R_alloc | apply Kd.R_drewN | apply Kd.R_drew)); exact HO173.out) hb)
                                  have n1_ := Aside0.mk (blk_below (g := gb159) (o := .cells #[.int .i64 0, .string (⟨#[]⟩ : ByteArray), .slice none 0 0] 48 (0, 0)) (by (with_reducible repeat (first | refine blk_drewN ?_ _ | refine blk_drew ?_ | refine blk_alloc ?_ _)); exact BK159.out) hb)
                                  have n2_ := Aside0.mk (below_step (by repeat (first | (with_reducible first | exact HB.out | apply below_alloc | apply pw_below_drewN | apply below_drew1 | refine below_set ?_ GE159.out) | exact HB.out)) hb)
                                  have n3_ := Aside0.mk (hbox)
                                  have n4_ := Aside0.mk ((by rw [hg]; exact (below_size (by repeat (first | (with_reducible first | exact HB.out | apply below_alloc | apply pw_below_drewN | apply below_drew1 | refine below_set ?_ GE159.out) | exact HB.out))) : w.heap.size ≤ gb176))
                                  have n5_ := Aside0.mk ((by rw [hg]; exact (below_size (by repeat (first | (with_reducible first | exact HB.out | apply below_alloc | apply pw_below_drewN | apply below_drew1 | refine below_set ?_ GE159.out) | exact HB.out))) : w.heap.size ≤ gb176))
                                  have n6_ := Aside0.mk ((by rw [hg]; exact Nat.ne_of_lt (blk_lt (g := gb159) (o := .cells #[.int .i64 0, .string (⟨#[]⟩ : ByteArray), .slice none 0 0] 48 (0, 0)) (by (with_reducible repeat (first | refine blk_drewN ?_ _ | refine blk_drew ?_ | refine blk_alloc ?_ _)); exact BK159.out)) : gb159 ≠ gb176))
                                  have n7_ := Aside0.mk ((by rw [hg]; exact Nat.ne_of_gt (blk_lt (g := gb159) (o := .cells #[.int .i64 0, .string (⟨#[]⟩ : ByteArray), .slice none 0 0] 48 (0, 0)) (by (with_reducible repeat (first | refine blk_drewN ?_ _ | refine blk_drew ?_ | refine blk_alloc ?_ _)); exact BK159.out)) : gb176 ≠ gb159))
                                  clear HO173
                                  clear BK159
                                  clear HB
                                  have HO173 := n0_
                                  have BK159 := n1_
                                  have HB := n2_
                                  have BK176 := n3_
                                  have GW176 := n4_
                                  have GE176 := n5_
                                  have NB159_176 := n6_
                                  have NB176_159 := n7_
                                  clear n0_ n1_ n2_ n3_ n4_ n5_ n6_ n7_
                                  clear hb hbox hg
                                  refine hK.out _ _ ((by rw [← hl2_]; exact Kd.C_string (P := Try.prog) (A := A51) (c := (c0 - 10)) Try.underlying22 Try.underlying5 Try.underlying9 (Kd.C_below HR175.out (by repeat (first | (with_reducible first | exact HB.out | apply below_alloc | apply pw_below_drewN | apply below_drew1 | refine below_set ?_ GE176.out) | exact HB.out))))) (fun hHeld => ?_)
                                  clear hK K
                                  refine norm_ (a' := ?_) ?_ ?_
                                  rotate_left
                                  · show Act.put _ (some 10) _ = _
                                    simp only [Act.put, List.setIfInBounds_toArray, List.set_cons_zero, List.set_cons_succ, i64_w, i32_w]
                                    rfl
                                  refine one_ (i := 1) (N := some 77) #[true, true, true, true, true, true, true, false, true, false] rfl rfl (one_of HT_.out (by kernel_rfl)) (by decide) (fun K hK => ?_)
                                  refine goes_ Try.func59 (by kernel_rfl) rfl #[.slice A0 (l0.take ((ji8) : Int).toNat).length c0, .int .i64 4, .int .i64 4] (by rfl) rfl rfl (by (try simp only [List.map_toArray, List.map_cons, List.map_nil]); first | done | (rw [show (l0.take ((ji8) : Int).toNat).length = (ji8).toNat from (by rw [List.length_take]; have h_ : ((ji8) : Int) ≤ (l0.length : Int) := of_decide_eq_true (by first | (with_reducible assumption) | assumption); omega)] <;> rfl) | (simp only [hji8]; rfl) | rfl | (simp only [List.length_drop, hn_]; rfl) | (simp only [List.length_drop, List.length_take]; rfl)) ?_
                                  with_reducible refine (journal_get.calls kj18 _ _ (l0.take ((ji8) : Int).toNat) 4 4 t174 _ ?side1 ?side2 A42.out).mono ?_
                                  (case side1 => repeat (first | exact (Kd.C_below HR165.out HB.out) | (with_reducible refine Kd.C_alloc ?_ _) | (with_reducible refine Kd.C_drewN ?_ _) | (with_reducible refine Kd.C_drew ?_)))
                                  (case side2 => exact HC165.out)
                                  rintro e w' ⟨rfl, ⟨nd, rfl⟩⟩
                                  refine ⟨_, rfl, ?_⟩
                                  obtain ⟨Ao54, co54, eo54⟩ := Kd.R_slice HO173.out
                                  (first | subst eo54 | (injection eo54 with f1_ f2_ f3_; have f4_ := f1_.symm; have f5_ := f3_.symm; clear f1_ f2_ f3_; subst f4_; subst f5_))
                                  refine hK.out _ _ ((by rw [← hl2_]; exact Kd.C_string (P := Try.prog) (A := A51) (c := (c0 - 10)) Try.underlying22 Try.underlying5 Try.underlying9 (Kd.C_below HR175.out (by repeat (first | (with_reducible first | exact HB.out | apply below_alloc | apply pw_below_drewN | apply below_drew1 | refine below_set ?_ GE176.out) | exact HB.out))))) (fun hHeld => ?_)
                                  clear hK K
                                  refine norm_ (a' := ?_) ?_ ?_
                                  rotate_left
                                  · show Act.put _ (some 77) _ = _
                                    simp only [Act.put, List.setIfInBounds_toArray, List.set_cons_zero, List.set_cons_succ, i64_w, i32_w]
                                    rfl
                                  refine pure_ (i := 7) (N := some 83) (v := ?_) (a' := ?_) #[true, true, true, true, true, true, true, true, true, false] rfl rfl (any_of HT_.out (by kernel_rfl)) (fun _ _ _ h => h) (Or.inl ⟨by rfl, ?_⟩) ?_ ?_
                                  rotate_left
                                  · intro w'
                                    go_simp
                                    with_reducible rfl
                                  rotate_left
                                  · simp only [Act.put, List.setIfInBounds_toArray, List.set_cons_zero, List.set_cons_succ, i64_w, i32_w]
                                    rfl
                                  exact norm_ (by simp only [putAll, Act.put, List.setIfInBounds_toArray, List.set_cons_zero, List.set_cons_succ]) (hCont (gb176) _ ⟨hHeld, (by (with_reducible repeat (first | apply Kd.R_alloc | apply Kd.R_drewN | apply Kd.R_drew)); exact HO173.out), (by (with_reducible repeat (first | refine blk_drewN ?_ _ | refine blk_drew ?_ | refine blk_alloc ?_ _)); exact BK159.out), (by (with_reducible repeat (first | refine blk_drewN ?_ _ | refine blk_drew ?_ | refine blk_alloc ?_ _)); exact BK176.out), GW176.out, GE176.out, NB159_176.out, NB176_159.out, (by repeat (first | (with_reducible first | exact HB.out | apply below_alloc | apply pw_below_drewN | apply below_drew1 | refine below_set ?_ GE159.out | refine below_set ?_ GE176.out) | exact HB.out))⟩)
                              rintro gb176 w55 ⟨hS_, h0_, h1_, h2_, h3_, h4_, h5_, h6_, h7_⟩
                              have n0_ : Aside0 (Kd.R k72 72 w55 w.heap.size (fun _ => True) (.slice Ao53 t170.length co53) t170) := ⟨h0_⟩
                              have n1_ : Aside0 (w55.heap[gb159]? = some (.cells #[.int .i64 0, .string (⟨#[]⟩ : ByteArray), .slice none 0 0] 48 (0, 0))) := ⟨h1_⟩
                              have n2_ : Aside0 (w55.heap[gb176]? = some (.cells #[.int .i64 0, .string (⟨#[]⟩ : ByteArray), .slice none 0 0] 48 (0, 0))) := ⟨h2_⟩
                              have n3_ : Aside0 (w.heap.size ≤ gb176) := ⟨h3_⟩
                              have n4_ : Aside0 (w.heap.size ≤ gb176) := ⟨h4_⟩
                              have n5_ : Aside0 (gb159 ≠ gb176) := ⟨h5_⟩
                              have n6_ : Aside0 (gb176 ≠ gb159) := ⟨h6_⟩
                              have n7_ : Aside0 (Below w.heap.size w w55) := ⟨h7_⟩
                              clear HO173
                              clear BK159
                              clear HB
                              clear h0_ h1_ h2_ h3_ h4_ h5_ h6_ h7_
                              have HO173 := n0_
                              have BK159 := n1_
                              have BK176 := n2_
                              have GW176 := n3_
                              have GE176 := n4_
                              have NB159_176 := n5_
                              have NB176_159 := n6_
                              have HB := n7_
                              clear n0_ n1_ n2_ n3_ n4_ n5_ n6_ n7_
                              have hHeld : (convert 22 9 (.slice A51 (min ((wrap64 (10 + t166)) : Int).toNat ((ji8) : Int).toNat - 10) (c0 - 10))).run Try.prog w55 = .ok (.string (strOfNums (((l0.take ((ji8) : Int).toNat).take ((wrap64 (10 + t166)) : Int).toNat).drop 10))) w55 := hS_
                              refine norm_ (a' := ?_) ?_ ?_
                              rotate_left
                              · simp only [putAll, Act.put, List.setIfInBounds_toArray, List.set_cons_zero, List.set_cons_succ]
                                rfl
                              refine one_ (i := 9) (N := none) #[true, true, true, true, true, true, true, true, true, true] rfl rfl (one_of HT_.out (by kernel_rfl)) (by decide) (fun K hK => ?_)
                              have hs56 : w55.cell? ⟨gb176, 0, none⟩ = some (.int .i64 0) := (blk_cell BK176.out 0).trans rfl
                              have hfs56 := blk_frozen BK176.out 0
                              have hns56_0 := NB159_176.out
                              have hms56_0 := NB176_159.out
                              have hs57 : w55.cell? ⟨gb176, 1, none⟩ = some (.string (⟨#[]⟩ : ByteArray)) := (blk_cell BK176.out 1).trans rfl
                              have hfs57 := blk_frozen BK176.out 1
                              have hns57_0 := NB159_176.out
                              have hms57_0 := NB176_159.out
                              have hs58 : w55.cell? ⟨gb176, 2, none⟩ = some (.slice none 0 0) := (blk_cell BK176.out 2).trans rfl
                              have hfs58 := blk_frozen BK176.out 2
                              have hns58_0 := NB159_176.out
                              have hms58_0 := NB176_159.out
                              refine skip_ (w1 := ?_) (by rfl) rfl ?_ ?_
                              rotate_left
                              · go_simp
                                rfl
                              refine hK.out _ _ ((by rw [← hl2_]; exact Kd.C_string (P := Try.prog) (A := A51) (c := (c0 - 10)) Try.underlying22 Try.underlying5 Try.underlying9 (Kd.C_below HR175.out (by repeat (first | (with_reducible first | exact HB.out | apply below_alloc | apply pw_below_drewN | apply below_drew1 | refine below_set ?_ GE176.out) | exact HB.out))))) (fun hHeld => ?_)
                              clear hK K
                              refine done_ (done_of HT_.out (by kernel_rfl)) ?_
                              have hnb59 := NB176_159.out
                              have hnc59 := NB159_176.out
                              have hcz60_0 : w55.cell? ⟨gb176, 0, none⟩ = some (.int .i64 0) := (blk_cell BK176.out 0).trans rfl
                              have hcz60_1 : w55.cell? ⟨gb176, 1, none⟩ = some (.string (⟨#[]⟩ : ByteArray)) := (blk_cell BK176.out 1).trans rfl
                              have hcz60_2 : w55.cell? ⟨gb176, 2, none⟩ = some (.slice none 0 0) := (blk_cell BK176.out 2).trans rfl
                              have hfz60_0 := blk_frozen BK176.out 0
                              have hfz60_1 := blk_frozen BK176.out 1
                              have hfz60_2 := blk_frozen BK176.out 2
                              try go_wp2_with (first | (go_at_call 26; (with_reducible refine (journal_May.calls kj18 t174 (strOfNums (((l0.take ((ji8) : Int).toNat).take ((wrap64 (10 + t166)) : Int).toNat).drop 10)) _ _ t170 true _ ?side1 ?side2 A46.out).mono ?_); (case side1 => refine (Kd.R_reads' (e := 72) (base := w.heap.size) (ok := fun k_ => True) (n := t170.length) (c := co53) ?_).2.2; exact (by (with_reducible repeat (first | apply Kd.R_alloc | apply Kd.R_drewN | apply Kd.R_drew)); exact (Kd.R_mono (Kd.R_far (p := ⟨gb176, 2, none⟩) (Kd.R_far (p := ⟨gb176, 1, none⟩) (Kd.R_far (p := ⟨gb176, 0, none⟩) (Kd.R_types HO173.out BK176.out (by decide)) (fun _ hk => hk.2) (.int .i64 t174)) (fun _ hk => hk.2) (.string (strOfNums (((l0.take ((ji8) : Int).toNat).take ((wrap64 (10 + t166)) : Int).toNat).drop 10)))) (fun _ hk => hk.2) (.slice Ao53 t170.length co53)) (fun _ h_ => h_.1)))); (case side2 => exact (Kd.R_reads' HO173.out).2.1); rintro e w61 ⟨rfl, hb⟩; have n0_ := Aside0.mk (Kd.R_below (by (with_reducible repeat (first | apply Kd.R_alloc | apply Kd.R_drewN | apply Kd.R_drew)); exact (Kd.R_mono (Kd.R_far (p := ⟨gb176, 2, none⟩) (Kd.R_far (p := ⟨gb176, 1, none⟩) (Kd.R_far (p := ⟨gb176, 0, none⟩) (Kd.R_types HO173.out BK176.out (by decide)) (fun _ hk => hk.2) (.int .i64 t174)) (fun _ hk => hk.2) (.string (strOfNums (((l0.take ((ji8) : Int).toNat).take ((wrap64 (10 + t166)) : Int).toNat).drop 10)))) (fun _ hk => hk.2) (.slice Ao53 t170.length co53)) (fun _ h_ => h_.1))) hb); have n1_ := Aside0.mk (blk_below (g := gb159) (o := .cells #[.int .i64 0, .string (⟨#[]⟩ : ByteArray), .slice none 0 0] 48 (0, 0)) (by (with_reducible repeat (first | refine blk_drewN ?_ _ | refine blk_drew ?_ | refine blk_alloc ?_ _)); refine blk_far ?_ NB159_176.out _; (with_reducible repeat (first | refine blk_drewN ?_ _ | refine blk_drew ?_ | refine blk_alloc ?_ _)); refine blk_far ?_ NB159_176.out _; (with_reducible repeat (first | refine blk_drewN ?_ _ | refine blk_drew ?_ | refine blk_alloc ?_ _)); refine blk_far ?_ NB159_176.out _; (with_reducible repeat (first | refine blk_drewN ?_ _ | refine blk_drew ?_ | refine blk_alloc ?_ _)); exact BK159.out) hb); have n2_ := Aside0.mk (blk_below (g := gb176) (o := .cells #[.int .i64 t174, .string (strOfNums (((l0.take ((ji8) : Int).toNat).take ((wrap64 (10 + t166)) : Int).toNat).drop 10)), .slice Ao53 t170.length co53] 48 (0, 0)) (by (with_reducible repeat (first | refine blk_drewN ?_ _ | refine blk_drew ?_ | refine blk_alloc ?_ _)); refine blk_put (cs := #[.int .i64 t174, .string (strOfNums (((l0.take ((ji8) : Int).toNat).take ((wrap64 (10 + t166)) : Int).toNat).drop 10)), .slice none 0 0]) ?_ 2 _ rfl; (with_reducible repeat (first | refine blk_drewN ?_ _ | refine blk_drew ?_ | refine blk_alloc ?_ _)); refine blk_put (cs := #[.int .i64 t174, .string (⟨#[]⟩ : ByteArray), .slice none 0 0]) ?_ 1 _ rfl; (with_reducible repeat (first | refine blk_drewN ?_ _ | refine blk_drew ?_ | refine blk_alloc ?_ _)); refine blk_put (cs := #[.int .i64 0, .string (⟨#[]⟩ : ByteArray), .slice none 0 0]) ?_ 0 _ rfl; (with_reducible repeat (first | refine blk_drewN ?_ _ | refine blk_drew ?_ | refine blk_alloc ?_ _)); exact BK176.out) hb); have n3_ := Aside0.mk (below_step (by repeat (first | (with_reducible first | exact HB.out | apply below_alloc | apply pw_below_drewN | apply below_drew1 | refine below_set ?_ GE159.out | refine below_set ?_ GE176.out) | exact HB.out)) hb); clear HO173; clear BK159; clear BK176; clear HB; have HO173 := n0_; have BK159 := n1_; have BK176 := n2_; have HB := n3_; clear n0_ n1_ n2_ n3_; (try clear hb); (try clear hb2); (try clear hk); (try clear hi); have hcz62_0 : w61.cell? ⟨gb176, 0, none⟩ = some (.int .i64 t174) := (blk_cell BK176.out 0).trans rfl; have hcz62_1 : w61.cell? ⟨gb176, 1, none⟩ = some (.string (strOfNums (((l0.take ((ji8) : Int).toNat).take ((wrap64 (10 + t166)) : Int).toNat).drop 10))) := (blk_cell BK176.out 1).trans rfl; have hcz62_2 : w61.cell? ⟨gb176, 2, none⟩ = some (.slice Ao53 t170.length co53) := (blk_cell BK176.out 2).trans rfl; have hfz62_0 := blk_frozen BK176.out 0; have hfz62_1 := blk_frozen BK176.out 1; have hfz62_2 := blk_frozen BK176.out 2; have hcz63_0 : w61.cell? ⟨gb159, 0, none⟩ = some (.int .i64 0) := (blk_cell BK159.out 0).trans rfl; have hcz63_1 : w61.cell? ⟨gb159, 1, none⟩ = some (.string (⟨#[]⟩ : ByteArray)) := (blk_cell BK159.out 1).trans rfl; have hcz63_2 : w61.cell? ⟨gb159, 2, none⟩ = some (.slice none 0 0) := (blk_cell BK159.out 2).trans rfl; have hfz63_0 := blk_frozen BK159.out 0; have hfz63_1 := blk_frozen BK159.out 1; have hfz63_2 := blk_frozen BK159.out 2))
                              refine bodyPost_ret (results_ct rfl _ _ gb159 48 #[.int .i64 t174, .string (strOfNums (((l0.take ((ji8) : Int).toNat).take ((wrap64 (10 + t166)) : Int).toNat).drop 10)), .slice Ao53 t170.length co53] (0, 0) _ rfl (by (with_reducible repeat (first | refine blk_drewN ?_ _ | refine blk_drew ?_ | refine blk_alloc ?_ _)); refine blk_put (cs := #[.int .i64 t174, .string (strOfNums (((l0.take ((ji8) : Int).toNat).take ((wrap64 (10 + t166)) : Int).toNat).drop 10)), .slice none 0 0]) ?_ 2 _ rfl; (with_reducible repeat (first | refine blk_drewN ?_ _ | refine blk_drew ?_ | refine blk_alloc ?_ _)); refine blk_put (cs := #[.int .i64 t174, .string (⟨#[]⟩ : ByteArray), .slice none 0 0]) ?_ 1 _ rfl; (with_reducible repeat (first | refine blk_drewN ?_ _ | refine blk_drew ?_ | refine blk_alloc ?_ _)); refine blk_put (cs := #[.int .i64 0, .string (⟨#[]⟩ : ByteArray), .slice none 0 0]) ?_ 0 _ rfl; (with_reducible repeat (first | refine blk_drewN ?_ _ | refine blk_drew ?_ | refine blk_alloc ?_ _)); exact BK159.out) Try.underlying48 rfl (by kernel_rfl)) rfl ?_
                              exact ⟨_, by first | rfl | (simp [errW_none, errW_some] <;> rfl) | (simp only [← hji8, ← hji38]; first | rfl | (simp [errW_none, errW_some] <;> rfl)) | (simp [*, errW_none, errW_some] <;> rfl), by (with_reducible repeat (first | apply Kd.R_alloc | apply Kd.R_drewN | apply Kd.R_drew)); exact Kd.R_mono (Kd.R_far (p := ⟨gb159, 2, none⟩) (Kd.R_far (p := ⟨gb159, 1, none⟩) (Kd.R_far (p := ⟨gb159, 0, none⟩) (Kd.R_types HO173.out BK159.out (by decide)) (fun _ hk => hk.2) (.int .i64 t174)) (fun _ hk => hk.2) (.string (strOfNums (((l0.take ((ji8) : Int).toNat).take ((wrap64 (10 + t166)) : Int).toNat).drop 10)))) (fun _ hk => hk.2) (.slice Ao53 t170.length co53)) (fun _ hk => trivial), by repeat (first | (with_reducible first | exact HB.out | apply below_alloc | apply pw_below_drewN | apply below_drew1 | refine below_set ?_ GE159.out | refine below_set ?_ GE176.out) | exact HB.out)⟩
                            · replace c47 := Bool.eq_false_iff.mpr c47
                              subst c47
                              have H1 : (none) = some (r1, r2, r3, r4) := by rw [if_neg (show ¬ (false = true) by decide)] at H; exact H
                              clear H
                              have H := H1
                              clear H1
                              exact absurd H (by simp)
                          · replace c45 := Bool.eq_false_iff.mpr c45
                            subst c45
                            have H1 : (none) = some (r1, r2, r3, r4) := by rw [if_neg (show ¬ (false = true) by decide)] at H; exact H
                            clear H
                            have H := H1
                            clear H1
                            exact absurd H (by simp)
                        · rw [if_neg c44] at H
                          exact absurd H (by simp)
                      · rw [if_neg c43] at H
                        exact absurd H (by simp)
                    · rw [if_neg c40] at H
                      exact absurd H (by simp)
                  · rw [if_neg c39] at H
                    exact absurd H (by simp)
          · rw [if_neg c15] at H
            have c15b0 : (t161 == t164) = false := beq_eq_false_iff_ne.mpr c15
            have c15b1 : (t161 != t164) = true := bne_iff_ne.mpr c15
            simp only [Option.some.injEq, Prod.mk.injEq] at H
            obtain ⟨rfl, rfl, rfl, rfl⟩ := H
            go_enter Try.func28, Try.ntmps28
            go_wp2_with (first | ((with_reducible refine gate_dst (N := 2) rfl ?_); refine box_event ?hg (N := 2) ?hd (cs := #[.int .i64 0, .string (⟨#[]⟩ : ByteArray), .slice none 0 0]) (t := 48) ?hr ?_; (case hd => rfl); (case hg => rfl); (case hr => first | (go_simp; done) | (go_simp; rfl)); intro gb159 hg w92 hbox hb; have n0_ := Aside0.mk (below_step (by repeat (first | (with_reducible first | exact HB.out | apply below_alloc | apply pw_below_drewN | apply below_drew1) | exact HB.out)) hb); have n1_ := Aside0.mk (hbox); have n2_ := Aside0.mk ((by rw [hg]; exact (below_size (by repeat (first | (with_reducible first | exact HB.out | apply below_alloc | apply pw_below_drewN | apply below_drew1) | exact HB.out))) : w.heap.size ≤ gb159)); have n3_ := Aside0.mk ((by rw [hg]; exact (below_size (by repeat (first | (with_reducible first | exact HB.out | apply below_alloc | apply pw_below_drewN | apply below_drew1) | exact HB.out))) : w.heap.size ≤ gb159)); clear HB; have HB := n0_; have BK159 := n1_; have GW159 := n2_; have GE159 := n3_; clear n0_ n1_ n2_ n3_; clear hb hbox hg; obtain ⟨i093, hi093, _, hsz93, _⟩ := info_parts info5; obtain ⟨A93, hcut93, hA93, hC93⟩ := print_drop_of (P := Try.prog) (Value.int .u8) 0 22 5 .i64 Try.underlying22 hi093 hsz93 A0 c0 l0 (ji8) (of_decide_eq_true (by first | (with_reducible assumption) | assumption)) (of_decide_eq_true (by first | (with_reducible assumption) | assumption)) HC0.out; have HR160 := Aside0.mk (Kd.C_of_reads (h1 := fun _ => rfl) (hA93 _ (Kd.reads_of_C HR0.out))); have HC160 := Aside0.mk hC93; clear hA93 hC93 hi093 hsz93) | ((with_reducible refine gate_callee (f := 58) rfl ?_); refine goesL_ (some 28) rfl rfl Try.func58 (by kernel_rfl) rfl #[.slice A93 (l0.drop ((ji8) : Int).toNat).length (c0 - (ji8).toNat)] rfl (by (try simp only [List.map_toArray, List.map_cons, List.map_nil]); first | done | (rw [show (l0.drop ((ji8) : Int).toNat).length = (l0.length - (ji8).toNat) from List.length_drop] <;> rfl) | (simp only [hji8]; rfl) | rfl | (simp only [List.length_drop, hn_]; rfl) | (simp only [List.length_drop, List.length_take]; rfl)) ?_; (with_reducible refine (crc_Read.calls k _ _ (l0.drop ((ji8) : Int).toNat) t161 t162 _ ?side1 ?side2 A11.out).mono ?_); (case side1 => repeat (first | exact (Kd.C_below HR160.out HB.out) | (with_reducible refine Kd.C_alloc ?_ _) | (with_reducible refine Kd.C_drewN ?_ _) | (with_reducible refine Kd.C_drew ?_))); (case side2 => exact HC160.out); rintro e w' ⟨rfl, ⟨nd, rfl⟩⟩; refine ⟨_, rfl, ?_⟩; (try (rw [drewN_self w92]; generalize hq_ : World.drewN w92 _ = w92; have n0_ : Aside0 (w92.heap[gb159]? = some (.cells #[.int .i64 0, .string (⟨#[]⟩ : ByteArray), .slice none 0 0] 48 (0, 0))) := ⟨by rw [← hq_]; exact (by (with_reducible repeat (first | refine blk_drewN ?_ _ | refine blk_drew ?_ | refine blk_alloc ?_ _)); exact BK159.out)⟩; have n1_ : Aside0 (Below w.heap.size w w92) := ⟨by rw [← hq_]; exact (by repeat (first | (with_reducible first | exact HB.out | apply below_alloc | apply pw_below_drewN | apply below_drew1 | refine below_set ?_ GE159.out) | exact HB.out))⟩; clear BK159 HB hq_; have BK159 := n0_; have HB := n1_; clear n0_ n1_)); obtain ⟨i094, hi094, _, hsz94, _⟩ := info_parts info5; obtain ⟨hcut94, hA94, hC94⟩ := print_take_of (P := Try.prog) (Value.int .u8) 0 22 5 .i64 Try.underlying22 hi094 hsz94 A0 c0 l0 (ji8) (of_decide_eq_true (by first | (with_reducible assumption) | assumption)) (of_decide_eq_true (by first | (with_reducible assumption) | assumption)) HC0.out; have HR163 := Aside0.mk (Kd.C_of_reads (h1 := fun _ => rfl) (hA94 _ (Kd.reads_of_C HR0.out))); have HC163 := Aside0.mk hC94; clear hA94 hC94 hi094 hsz94) | ((with_reducible refine gate_callee (f := 55) rfl ?_); refine goesL_ (some 35) rfl rfl Try.func55 (by kernel_rfl) rfl #[.slice A0 (l0.take ((ji8) : Int).toNat).length c0] rfl (by (try simp only [List.map_toArray, List.map_cons, List.map_nil]); first | done | (rw [show (l0.take ((ji8) : Int).toNat).length = (ji8).toNat from (by rw [List.length_take]; have h_ : ((ji8) : Int) ≤ (l0.length : Int) := of_decide_eq_true (by first | (with_reducible assumption) | assumption); omega)] <;> rfl) | (simp only [hji8]; rfl) | rfl | (simp only [List.length_drop, hn_]; rfl) | (simp only [List.length_drop, List.length_take]; rfl)) ?_; (with_reducible refine (crc_Sum.calls k _ _ (l0.take ((ji8) : Int).toNat) t164 _ ?side1 ?side2 A14.out).mono ?_); (case side1 => repeat (first | exact (Kd.C_below HR163.out HB.out) | (with_reducible refine Kd.C_alloc ?_ _) | (with_reducible refine Kd.C_drewN ?_ _) | (with_reducible refine Kd.C_drew ?_))); (case side2 => exact HC163.out); rintro e w' ⟨rfl, ⟨nd, rfl⟩⟩; refine ⟨_, rfl, ?_⟩; (try (rw [drewN_self w92]; generalize hq_ : World.drewN w92 _ = w92; have n0_ : Aside0 (w92.heap[gb159]? = some (.cells #[.int .i64 0, .string (⟨#[]⟩ : ByteArray), .slice none 0 0] 48 (0, 0))) := ⟨by rw [← hq_]; exact (by (with_reducible repeat (first | refine blk_drewN ?_ _ | refine blk_drew ?_ | refine blk_alloc ?_ _)); exact BK159.out)⟩; have n1_ : Aside0 (Below w.heap.size w w92) := ⟨by rw [← hq_]; exact (by repeat (first | (with_reducible first | exact HB.out | apply below_alloc | apply pw_below_drewN | apply below_drew1 | refine below_set ?_ GE159.out) | exact HB.out))⟩; clear BK159 HB hq_; have BK159 := n0_; have HB := n1_; clear n0_ n1_)); have hcz95_0 : w92.cell? ⟨gb159, 0, none⟩ = some (.int .i64 0) := (blk_cell BK159.out 0).trans rfl; have hcz95_1 : w92.cell? ⟨gb159, 1, none⟩ = some (.string (⟨#[]⟩ : ByteArray)) := (blk_cell BK159.out 1).trans rfl; have hcz95_2 : w92.cell? ⟨gb159, 2, none⟩ = some (.slice none 0 0) := (blk_cell BK159.out 2).trans rfl; have hfz95_0 := blk_frozen BK159.out 0; have hfz95_1 := blk_frozen BK159.out 1; have hfz95_2 := blk_frozen BK159.out 2))
            refine bodyPost_ret (results_ct rfl _ _ gb159 48 #[.int .i64 0, .string (⟨#[]⟩ : ByteArray), .slice none 0 0] (0, 0) _ rfl (by (with_reducible repeat (first | refine blk_drewN ?_ _ | refine blk_drew ?_ | refine blk_alloc ?_ _)); refine blk_put (cs := #[.int .i64 0, .string (⟨#[]⟩ : ByteArray), .slice none 0 0]) ?_ 2 _ rfl; (with_reducible repeat (first | refine blk_drewN ?_ _ | refine blk_drew ?_ | refine blk_alloc ?_ _)); refine blk_put (cs := #[.int .i64 0, .string (⟨#[]⟩ : ByteArray), .slice none 0 0]) ?_ 1 _ rfl; (with_reducible repeat (first | refine blk_drewN ?_ _ | refine blk_drew ?_ | refine blk_alloc ?_ _)); refine blk_put (cs := #[.int .i64 0, .string (⟨#[]⟩ : ByteArray), .slice none 0 0]) ?_ 0 _ rfl; (with_reducible repeat (first | refine blk_drewN ?_ _ | refine blk_drew ?_ | refine blk_alloc ?_ _)); exact BK159.out) Try.underlying48 rfl (by kernel_rfl)) rfl ?_
            exact ⟨_, by first | rfl | (simp [errW_none, errW_some] <;> rfl) | (simp only [← hji8]; first | rfl | (simp [errW_none, errW_some] <;> rfl)) | (simp [*, errW_none, errW_some] <;> rfl), by first | exact Kd.R_nil _ _ _ _ _ | exact Kd.N_nil _ _ _ _ _ | exact Kd.V_nil _ _ _ _ _ | exact Kd.Q_nil _ _ _ _ _ | exact Kd.S_nil _ _ _ _ _, by repeat (first | (with_reducible first | exact HB.out | apply below_alloc | apply pw_below_drewN | apply below_drew1 | refine below_set ?_ GE159.out) | exact HB.out)⟩
        · rw [if_neg c10] at H
          exact absurd H (by simp)
      · rw [if_neg c9] at H
        exact absurd H (by simp)

end Go.Proofs.Ytnlpipjdpmaggaa.PJournalBursts
