/- WRITTEN FOR THIS CLAIM by a program of the prover's own (the kit's printing program, with constructs added): for each Go function that the statement reaches a Lean function with the same answers, and the proof of that. Not trusted: Lean checks it. -/
import Derived.Test.YtnlpipjdpmaggaaPJournalReadsx0
import Derived.Test.YtnlpipjdpmaggaaPJournalReadsx2
import Derived.Test.YtnlpipjdpmaggaaPJournalAddsx8
import Derived.Test.YtnlpipjdpmaggaaPJournalAddsx9
import Derived.Test.YtnlpipjdpmaggaaPJournalAddsx10
import Derived.Test.YtnlpipjdpmaggaaPJournalAddsx11
namespace Go.Proofs.Ytnlpipjdpmaggaa.PJournalReads
open Go.RowKit Go.Proofs.YtnlpipjdpmaggaaW.PrintWords Go.Proofs.YtnlpipjdpmaggaaW.PrintLast Go.Proofs.YtnlpipjdpmaggaaW.PrintMore
attribute [local go_sem] max2_int min2_int max_two min_two max_three min_three max_four min_four   -- for this text's walks alone
set_option linter.unusedVariables false
set_option linter.unusedSimpArgs false


set_option maxHeartbeats 8000000 in
set_option maxRecDepth 100000 in
theorem law7Adds.calls (k : Nat) (A0 : Option Addr) (c0 : Nat) (l0 : List Int) (A1 : Option Addr) (c1 : Nat) (l1 : List Int) (r : Bool) (w : World) (hr0 : Kd.C (Kd.int .u8) w A0 l0.length l0) (hc0 : l0.length ≤ c0) (hr1 : Kd.C (Kd.int .u8) w A1 l1.length l1) (hc1 : l1.length ≤ c1) (h : law7Adds.f k l0 l1 = some r) :
  Calls Try.prog 12 #[.slice A0 l0.length c0, .slice A1 l1.length c1] w fun e w' => e = .returned (.bool r) ∧ Below w.heap.size w w' := by
 have hu48 := Try.underlying48
 have hu72 := Try.underlying72
 have HR0 := Aside0.mk hr0
 have HC0 := Aside0.mk hc0
 clear hr0 hc0
 have HR1 := Aside0.mk hr1
 have HC1 := Aside0.mk hc1
 clear hr1 hc1
 have HB := Aside0.mk (Below.refl w.heap.size w)
 have H : ((strongboxlaw7_awake.f k).bind fun t248 => (if t248 = true then (if (l0.length : Int) > 60 then (law7Adds.j0 k l0 l1 true) else (law7Adds.j0 k l0 l1 (decide ((l1.length : Int) > 60)))) else (none))) = some r := h
 clear h
 replace H := Option.bind_eq_some_iff.mp H
 obtain ⟨t248, A30, H⟩ := H
 replace H : (if t248 = true then (if (l0.length : Int) > 60 then (law7Adds.j0 k l0 l1 true) else (law7Adds.j0 k l0 l1 (decide ((l1.length : Int) > 60)))) else (none)) = some r := H
 have A3 := Aside0.mk A30
 clear A30
 by_cases c4 : t248 = true
 case neg =>
  replace c4 := Bool.eq_false_iff.mpr c4
  subst c4
  have H1 : (none) = some r := by rw [if_neg (show ¬ (false = true) by decide)] at H; exact H
  clear H
  have H := H1
  clear H1
  exact absurd H (by simp)
 subst c4
 have H1 : (if (l0.length : Int) > 60 then (law7Adds.j0 k l0 l1 true) else (law7Adds.j0 k l0 l1 (decide ((l1.length : Int) > 60)))) = some r := by rw [if_pos rfl] at H; exact H
 clear H
 have H := H1
 clear H1
 have HC5 := Aside0.mk H
 clear H
 go_enter Try.func12, Try.ntmps12
 go_upto_region 3 with (first | ((with_reducible refine gate_callee (f := 21) rfl ?_); refine goesL_ (some 24) rfl rfl Try.func21 (by kernel_rfl) rfl #[] rfl (by (try simp only [List.map_toArray, List.map_cons, List.map_nil]); first | done | rfl | (simp only [List.length_drop, List.length_take]; rfl)) ?_; (with_reducible refine (strongboxlaw7_awake.calls k  true _ A3.out).mono ?_); rintro e w6 ⟨rfl, hb⟩; refine ⟨_, rfl, ?_⟩; have n0_ := Aside0.mk (below_step (by repeat (first | (with_reducible first | exact HB.out | apply below_alloc | apply pw_below_drewN | apply below_drew1) | exact HB.out)) hb); clear HB; have HB := n0_; clear n0_; (try clear hb); (try clear hb2); (try clear hk); (try clear hi)))
 (try simp only [Act.put, List.setIfInBounds_toArray, List.set_cons_zero, List.set_cons_succ])
 go_cut [33] (fun v33 wc => ∃ (kq : Nat) (x33_4 : Bool), v33 = .bool x33_4 ∧ Aside0 (law7Adds.j0 kq l0 l1 x33_4 = some r) ∧ Aside0 (kq ≤ k) ∧ Aside0 (Below w.heap.size w wc))
 case first =>
  have H := HC5.out
  clear HC5
  by_cases c7 : (l0.length : Int) > 60
  ·rw [if_pos c7] at H
   have c7b0 : decide (60 < (l0.length : Int)) = true := decide_eq_true c7
   have c7b1 : decide (60 < l0.length) = true := decide_eq_true (by omega)
   clear c7
   (first | rw [c7b0] | (simp only [i64_w, i32_w]; rw [c7b0]) | skip)
   have H' := Aside0.mk H
   clear H
   go_wp2
   go_meet
   case rel => exact ⟨_, (true), (by first | rfl | (simp; done) | (simp [*]; done)), H', ⟨by first | omega | exact Nat.le_refl _⟩, ⟨by repeat (first | (with_reducible first | exact HB.out | apply below_alloc | apply pw_below_drewN | apply below_drew1) | exact HB.out)⟩⟩
  ·rw [if_neg c7] at H
   have c7b0 : decide (60 < (l0.length : Int)) = false := decide_eq_false c7
   have c7b1 : decide (60 < l0.length) = false := decide_eq_false (by omega)
   clear c7
   (first | rw [c7b0] | (simp only [i64_w, i32_w]; rw [c7b0]) | skip)
   have H' := Aside0.mk H
   clear H
   go_wp2
   go_meet
   case rel => exact ⟨_, (decide ((l1.length : Int) > 60)), (by first | rfl | (simp; done) | (simp [*]; done)), H', ⟨by first | omega | exact Nat.le_refl _⟩, ⟨by repeat (first | (with_reducible first | exact HB.out | apply below_alloc | apply pw_below_drewN | apply below_drew1) | exact HB.out)⟩⟩
 case rest =>
  clear HC5; (try clear c1); (try clear c2); (try clear p2); (try clear c4); (try clear c7); (try clear c7b0); (try clear c7b1)
  obtain ⟨kq, x33_4, rfl, HA, HJ4, HB⟩ := hcut
  cases kq with
  | zero => exact absurd HA.out (by simp [law7Adds.j0])
  | succ kj4 =>
   have H := HA.out
   clear HA
   simp only [law7Adds.j0] at H
   by_cases c8 : x33_4 = true
   ·subst c8
    have H1 : (some true) = some r := by rw [if_pos rfl] at H; exact H
    clear H
    have H := H1
    clear H1
    obtain rfl := Option.some.inj H
    go_wp2
    go_ret
    exact ⟨by first | rfl | (simp [errW_none, errW_some] <;> rfl) | (simp [*, errW_none, errW_some] <;> rfl), by repeat (first | (with_reducible first | exact HB.out | apply below_alloc | apply pw_below_drewN | apply below_drew1) | exact HB.out)⟩
   ·replace c8 := Bool.eq_false_iff.mpr c8
    subst c8
    have H1 : (law7Adds.l0 kj4 l0 l1 0 ([] : List Int) 0 0 (⟨#[120]⟩ : ByteArray) ([] : List (S72))) = some r := by rw [if_neg (show ¬ (false = true) by decide)] at H; exact H
    clear H
    have H := H1
    clear H1
    have H' := Aside0.mk H
    clear H
    go_wp2_with (first | ((with_reducible refine gate_dst (N := 5) rfl ?_); (try (refine gate_guard (by rfl) ?_; dsimp only)); refine box_event ?hg (N := 5) ?hd (cs := #[.int .i64 0, .string (⟨#[]⟩ : ByteArray), .slice none 0 0]) (t := 48) ?hr ?_; (case hd => rfl); (case hg => rfl); (case hr => first | (go_simp; done) | (go_simp; rfl)); intro gb249 hg w9 hbox hb; have n0_ := Aside0.mk (below_step (by repeat (first | (with_reducible first | exact HB.out | apply below_alloc | apply pw_below_drewN | apply below_drew1) | exact HB.out)) hb); have n1_ := Aside0.mk (hbox); have n2_ := Aside0.mk ((by rw [hg]; exact (below_size (by repeat (first | (with_reducible first | exact HB.out | apply below_alloc | apply pw_below_drewN | apply below_drew1) | exact HB.out))) : w.heap.size ≤ gb249)); have n3_ := Aside0.mk ((by rw [hg]; exact (below_size (by repeat (first | (with_reducible first | exact HB.out | apply below_alloc | apply pw_below_drewN | apply below_drew1) | exact HB.out))) : w.heap.size ≤ gb249)); clear HB; have HB := n0_; have BK249 := n1_; have GW249 := n2_; have GE249 := n3_; clear n0_ n1_ n2_ n3_; clear hb hbox hg; have hcz10_0 : w9.cell? ⟨gb249, 0, none⟩ = some (.int .i64 0) := (blk_cell BK249.out 0).trans rfl; have hcz10_1 : w9.cell? ⟨gb249, 1, none⟩ = some (.string (⟨#[]⟩ : ByteArray)) := (blk_cell BK249.out 1).trans rfl; have hcz10_2 : w9.cell? ⟨gb249, 2, none⟩ = some (.slice none 0 0) := (blk_cell BK249.out 2).trans rfl; have hfz10_0 := blk_frozen BK249.out 0; have hfz10_1 := blk_frozen BK249.out 1; have hfz10_2 := blk_frozen BK249.out 2))
    go_loopg [6, 7, 8] kj4 (fun kq v6 v7 v8 w' => ∃ (x6_2 : Int) (x7_2 : List Int) (x8_2 : Int) (x250000_2 : Int) (x250001_2 : ByteArray) (x250002_2 : List (S72)) (u250002 : Value), v6 = .int .i64 x6_2 ∧ v8 = .int .i64 x8_2 ∧ Aside0 (law7Adds.l0 kq l0 l1 x6_2 x7_2 x8_2 x250000_2 x250001_2 x250002_2 = some r) ∧ Aside0 (kq ≤ kj4) ∧ Aside0 (Kd.R (Kd.int .i64) 3 w' w.heap.size (fun _ => True) v7 x7_2) ∧ Aside0 (Kd.R k72 72 w' w.heap.size (fun _ => True) u250002 x250002_2) ∧ Aside0 (w'.heap[gb249]? = some (.cells #[.int .i64 x250000_2, .string x250001_2, u250002] 48 (0, 0))) ∧ Aside0 (Below w.heap.size w w'))
    case atStart => exact ⟨(0), (([] : List Int)), (0), (0), ((⟨#[120]⟩ : ByteArray)), (([] : List (S72))), (.slice none 0 0), (by first | rfl | (simp; done) | (simp [*]; done)), (by first | rfl | (simp; done) | (simp [*]; done)), H', ⟨Nat.le_refl _⟩, ⟨by first | exact Kd.R_nil _ _ _ _ _ | exact Kd.N_nil _ _ _ _ _ | exact Kd.V_nil _ _ _ _ _ | exact Kd.Q_nil _ _ _ _ _ | exact Kd.S_nil _ _ _ _ _⟩, ⟨by first | exact Kd.R_nil _ _ _ _ _ | exact Kd.N_nil _ _ _ _ _ | exact Kd.V_nil _ _ _ _ _ | exact Kd.Q_nil _ _ _ _ _ | exact Kd.S_nil _ _ _ _ _⟩, ⟨by (with_reducible repeat (first | refine blk_drewN ?_ _ | refine blk_drew ?_ | refine blk_alloc ?_ _)); refine blk_put (cs := #[.int .i64 0, .string (⟨#[120]⟩ : ByteArray), .slice none 0 0]) ?_ 2 _ rfl; (with_reducible repeat (first | refine blk_drewN ?_ _ | refine blk_drew ?_ | refine blk_alloc ?_ _)); refine blk_put (cs := #[.int .i64 0, .string (⟨#[]⟩ : ByteArray), .slice none 0 0]) ?_ 1 _ rfl; (with_reducible repeat (first | refine blk_drewN ?_ _ | refine blk_drew ?_ | refine blk_alloc ?_ _)); refine blk_put (cs := #[.int .i64 0, .string (⟨#[]⟩ : ByteArray), .slice none 0 0]) ?_ 0 _ rfl; (with_reducible repeat (first | refine blk_drewN ?_ _ | refine blk_drew ?_ | refine blk_alloc ?_ _)); exact BK249.out⟩, ⟨by repeat (first | (with_reducible first | exact HB.out | apply below_alloc | apply pw_below_drewN | apply below_drew1 | refine below_set ?_ GE249.out) | exact HB.out)⟩⟩
    case round =>
     clear H'
     (try clear c1); (try clear c2); (try clear p2); (try clear c4); (try clear c7); (try clear c7b0); (try clear c7b1); (try clear c8); (try clear hcz10_0); (try clear hcz10_1); (try clear hcz10_2); (try clear hfz10_0); (try clear hfz10_1); (try clear hfz10_2); (try clear p2)
     obtain ⟨x6_2, x7_2, x8_2, x250000_2, x250001_2, x250002_2, u250002, rfl, rfl, HA, HK2, HO_7, HO_250002, BK249, HB⟩ := hrel
     cases gk with
     | zero => exact absurd HA.out (by simp [law7Adds.l0])
     | succ k2 =>
      have H := HA.out
      clear HA
      simp only [law7Adds.l0] at H
      by_cases c11 : x8_2 < (l0.length : Int)
      ·rw [if_pos c11] at H
       have c11b0 : decide (x8_2 < (l0.length : Int)) = true := decide_eq_true c11
       clear c11
       by_cases c12 : 0 ≤ x8_2
       case neg => rw [if_neg c12] at H; exact absurd H (by simp)
       rw [if_pos c12] at H
       have c12b0 : decide (0 ≤ x8_2) = true := decide_eq_true c12
       clear c12
       replace H := Option.bind_eq_some_iff.mp H
       obtain ⟨⟨t251, t252, t253, t256⟩, A130, H⟩ := H
       replace H : ((journal_Add.f k2 t251 t252 t253 (wrap64 ((wrap64 ((wrap64 (x6_2 + 1)) + (Int.tmod (wrap64 (rd l0 x8_2)) 9))) - 1)) false 0 0).bind fun bt258 => (if t256 = 0 then (if bt258.2.2.2 = 1 then (if x7_2.length < 17592186044416 then (law7Adds.l0 k2 l0 l1 (wrap64 ((wrap64 (x6_2 + 1)) + (Int.tmod (wrap64 (rd l0 x8_2)) 9))) (x7_2 ++ [wrap64 ((wrap64 (x6_2 + 1)) + (Int.tmod (wrap64 (rd l0 x8_2)) 9))]) (wrap64 (x8_2 + 1)) t251 t252 t253) else (none)) else (none)) else (none))) = some r := H
       have A13 := Aside0.mk A130
       clear A130
       replace H := Option.bind_eq_some_iff.mp H
       obtain ⟨⟨t258, t259, t260, t263⟩, A140, H⟩ := H
       replace H : (if t256 = 0 then (if t263 = 1 then (if x7_2.length < 17592186044416 then (law7Adds.l0 k2 l0 l1 (wrap64 ((wrap64 (x6_2 + 1)) + (Int.tmod (wrap64 (rd l0 x8_2)) 9))) (x7_2 ++ [wrap64 ((wrap64 (x6_2 + 1)) + (Int.tmod (wrap64 (rd l0 x8_2)) 9))]) (wrap64 (x8_2 + 1)) t251 t252 t253) else (none)) else (none)) else (none)) = some r := H
       have A14 := Aside0.mk A140
       clear A140
       by_cases c15 : t256 = 0
       case neg => rw [if_neg c15] at H; exact absurd H (by simp)
       rw [if_pos c15] at H
       have c15b0 : (t256 == 0) = true := beq_iff_eq.mpr c15
       have c15b1 : (t256 != 0) = false := bne_eq_false_iff_eq.mpr c15
       clear c15
       by_cases c16 : t263 = 1
       case neg => rw [if_neg c16] at H; exact absurd H (by simp)
       rw [if_pos c16] at H
       have c16b0 : (t263 == 1) = true := beq_iff_eq.mpr c16
       have c16b1 : (t263 != 1) = false := bne_eq_false_iff_eq.mpr c16
       clear c16
       by_cases c17 : x7_2.length < 17592186044416
       case neg => rw [if_neg c17] at H; exact absurd H (by simp)
       rw [if_pos c17] at H
       have LMc17 := Aside0.mk c17
       clear c17
       obtain ⟨y265, hy265⟩ : ∃ y_ : List Int, y_ = (x7_2 ++ [wrap64 ((wrap64 (x6_2 + 1)) + (Int.tmod (wrap64 (rd l0 x8_2)) 9))]) := ⟨_, rfl⟩
       replace H : (law7Adds.l0 k2 l0 l1 (wrap64 ((wrap64 (x6_2 + 1)) + (Int.tmod (wrap64 (rd l0 x8_2)) 9))) y265 (wrap64 (x8_2 + 1)) t251 t252 t253) = some r := by first | (rw [hy265]; with_reducible exact H) | (have H2_ := (Option.bind_some _ _).symm.trans H; rw [hy265]; with_reducible exact H2_) | (have H2_ := (Option.bind_some _ _).symm.trans H; with_reducible exact H2_) | with_reducible exact H | (rw [hy265]; exact H) | exact H
       have Ny265 := Aside0.mk hy265
       clear hy265
       have H' := Aside0.mk H
       clear H
       have p250 : 0 ≤ (x8_2 : Int) := of_decide_eq_true (by first | (with_reducible assumption) | assumption)
       have q250 : x8_2 < (l0.length : Int) := of_decide_eq_true (by first | (with_reducible assumption) | assumption)
       obtain ⟨ad250, e250, hx250_0⟩ := Kd.at_int HR0.out x8_2 p250 q250
       cases e250
       replace hx250_0 := (HB.out.cell (World.block_lt_of_cell? w _ hx250_0)).trans hx250_0
       replace p250 := eq_true p250
       replace q250 := eq_true q250
       have hcz18_0 : wr.cell? ⟨gb249, 0, none⟩ = some (.int .i64 x250000_2) := (blk_cell BK249.out 0).trans rfl
       have hcz18_1 : wr.cell? ⟨gb249, 1, none⟩ = some (.string x250001_2) := (blk_cell BK249.out 1).trans rfl
       have hcz18_2 : wr.cell? ⟨gb249, 2, none⟩ = some (u250002) := (blk_cell BK249.out 2).trans rfl
       have hfz18_0 := blk_frozen BK249.out 0
       have hfz18_1 := blk_frozen BK249.out 1
       have hfz18_2 := blk_frozen BK249.out 2
       obtain ⟨Ao19, co19, eo19⟩ := Kd.R_slice HO_250002.out
       subst eo19
       go_wp2_with (first | ((with_reducible refine gate_callee (f := 38) rfl ?_); refine goesL_ (some 54) rfl rfl Try.func38 (by kernel_rfl) rfl #[.agg #[.int .i64 x250000_2, .string x250001_2, .slice Ao19 x250002_2.length co19], .agg #[.int .i64 (wrap64 ((wrap64 (x6_2 + 1)) + (Int.tmod (wrap64 (rd l0 x8_2)) 9))), .bool false, .int .i64 0, .int .u32 0]] rfl (by (try simp only [List.map_toArray, List.map_cons, List.map_nil]); first | done | rfl | (simp only [List.length_drop, List.length_take]; rfl)) ?_; (with_reducible refine (journal_Add.calls k2 x250000_2 x250001_2 _ _ x250002_2 (wrap64 ((wrap64 (x6_2 + 1)) + (Int.tmod (wrap64 (rd l0 x8_2)) 9))) false 0 0 t251 t252 t253 t256 _ ?side1 ?side2 A13.out).mono ?_); (case side1 => repeat (first | exact (Kd.R_reads' HO_250002.out).2.2 | (with_reducible refine Kd.C_alloc ?_ _) | (with_reducible refine Kd.C_drewN ?_ _) | (with_reducible refine Kd.C_drew ?_))); (case side2 => exact (Kd.R_reads' HO_250002.out).2.1); rintro e w20 ⟨v254, rfl, ho0, hb⟩; refine ⟨_, rfl, ?_⟩; have n0_ := Aside0.mk (Kd.R_below (by (with_reducible repeat (first | apply Kd.R_alloc | apply Kd.R_drewN | apply Kd.R_drew)); exact HO_7.out) hb); have n1_ := Aside0.mk (Kd.R_elder' (by (with_reducible repeat (first | apply Kd.R_alloc | apply Kd.R_drewN | apply Kd.R_drew)); exact HO_250002.out) (Kd.R_base ho0) hb); have n2_ := Aside0.mk (Kd.R_lower (Kd.R_new' ho0 (Kd.R_lt (by (with_reducible repeat (first | apply Kd.R_alloc | apply Kd.R_drewN | apply Kd.R_drew)); exact HO_250002.out))) (below_size (by repeat (first | (with_reducible first | exact HB.out | apply below_alloc | apply pw_below_drewN | apply below_drew1 | refine below_set ?_ GE249.out) | exact HB.out)))); have n3_ := Aside0.mk (blk_below (g := gb249) (o := .cells #[.int .i64 x250000_2, .string x250001_2, .slice Ao19 x250002_2.length co19] 48 (0, 0)) (by (with_reducible repeat (first | refine blk_drewN ?_ _ | refine blk_drew ?_ | refine blk_alloc ?_ _)); exact BK249.out) hb); have n4_ := Aside0.mk (below_step (by repeat (first | (with_reducible first | exact HB.out | apply below_alloc | apply pw_below_drewN | apply below_drew1 | refine below_set ?_ GE249.out) | exact HB.out)) hb); clear HO_7; clear HO_250002; clear BK249; clear HB; have HO_7 := n0_; have HO_250002 := n1_; have HO255 := n2_; have BK249 := n3_; have HB := n4_; clear n0_ n1_ n2_ n3_ n4_; (try clear hb); (try clear hb2); (try clear hk); (try clear hi); (try clear ho0)) | ((with_reducible refine gate_dst (N := 9) rfl ?_); (try (refine gate_guard (by rfl) ?_; dsimp only)); refine box_event ?hg (N := 9) ?hd (cs := #[.int .i64 0, .string (⟨#[]⟩ : ByteArray), .slice none 0 0]) (t := 48) ?hr ?_; (case hd => rfl); (case hg => rfl); (case hr => first | (go_simp; done) | (go_simp; rfl)); intro gb257 hg w21 hbox hb; have n0_ := Aside0.mk (Kd.R_below (by (with_reducible repeat (first | apply Kd.R_alloc | apply Kd.R_drewN | apply Kd.R_drew)); exact HO_7.out) hb); have n1_ := Aside0.mk (Kd.R_below (by (with_reducible repeat (first | apply Kd.R_alloc | apply Kd.R_drewN | apply Kd.R_drew)); exact HO_250002.out) hb); have n2_ := Aside0.mk (Kd.R_below (by (with_reducible repeat (first | apply Kd.R_alloc | apply Kd.R_drewN | apply Kd.R_drew)); exact HO255.out) hb); have n3_ := Aside0.mk (blk_below (g := gb249) (o := .cells #[.int .i64 x250000_2, .string x250001_2, .slice Ao19 x250002_2.length co19] 48 (0, 0)) (by (with_reducible repeat (first | refine blk_drewN ?_ _ | refine blk_drew ?_ | refine blk_alloc ?_ _)); exact BK249.out) hb); have n4_ := Aside0.mk (below_step (by repeat (first | (with_reducible first | exact HB.out | apply below_alloc | apply pw_below_drewN | apply below_drew1 | refine below_set ?_ GE249.out) | exact HB.out)) hb); have n5_ := Aside0.mk (hbox); have n6_ := Aside0.mk ((by rw [hg]; exact (below_size (by repeat (first | (with_reducible first | exact HB.out | apply below_alloc | apply pw_below_drewN | apply below_drew1 | refine below_set ?_ GE249.out) | exact HB.out))) : w.heap.size ≤ gb257)); have n7_ := Aside0.mk ((by rw [hg]; exact (below_size (by repeat (first | (with_reducible first | exact HB.out | apply below_alloc | apply pw_below_drewN | apply below_drew1 | refine below_set ?_ GE249.out) | exact HB.out))) : w.heap.size ≤ gb257)); have n8_ := Aside0.mk ((by rw [hg]; exact Nat.ne_of_lt (blk_lt (g := gb249) (o := .cells #[.int .i64 x250000_2, .string x250001_2, .slice Ao19 x250002_2.length co19] 48 (0, 0)) (by (with_reducible repeat (first | refine blk_drewN ?_ _ | refine blk_drew ?_ | refine blk_alloc ?_ _)); exact BK249.out)) : gb249 ≠ gb257)); have n9_ := Aside0.mk ((by rw [hg]; exact Nat.ne_of_gt (blk_lt (g := gb249) (o := .cells #[.int .i64 x250000_2, .string x250001_2, .slice Ao19 x250002_2.length co19] 48 (0, 0)) (by (with_reducible repeat (first | refine blk_drewN ?_ _ | refine blk_drew ?_ | refine blk_alloc ?_ _)); exact BK249.out)) : gb257 ≠ gb249)); clear HO_7; clear HO_250002; clear HO255; clear BK249; clear HB; have HO_7 := n0_; have HO_250002 := n1_; have HO255 := n2_; have BK249 := n3_; have HB := n4_; have BK257 := n5_; have GW257 := n6_; have GE257 := n7_; have NB249_257 := n8_; have NB257_249 := n9_; clear n0_ n1_ n2_ n3_ n4_ n5_ n6_ n7_ n8_ n9_; clear hb hbox hg; have hnb22 := NB257_249.out; have hnc22 := NB249_257.out; have hcz23_0 : w21.cell? ⟨gb257, 0, none⟩ = some (.int .i64 0) := (blk_cell BK257.out 0).trans rfl; have hcz23_1 : w21.cell? ⟨gb257, 1, none⟩ = some (.string (⟨#[]⟩ : ByteArray)) := (blk_cell BK257.out 1).trans rfl; have hcz23_2 : w21.cell? ⟨gb257, 2, none⟩ = some (.slice none 0 0) := (blk_cell BK257.out 2).trans rfl; have hfz23_0 := blk_frozen BK257.out 0; have hfz23_1 := blk_frozen BK257.out 1; have hfz23_2 := blk_frozen BK257.out 2; obtain ⟨Ao24, co24, eo24⟩ := Kd.R_slice HO255.out; subst eo24) | ((with_reducible refine gate_callee (f := 38) rfl ?_); refine goesL_ (some 62) rfl rfl Try.func38 (by kernel_rfl) rfl #[.agg #[.int .i64 t251, .string t252, .slice Ao24 t253.length co24], .agg #[.int .i64 (wrap64 ((wrap64 ((wrap64 (x6_2 + 1)) + (Int.tmod (wrap64 (rd l0 x8_2)) 9))) - 1)), .bool false, .int .i64 0, .int .u32 0]] rfl (by (try simp only [List.map_toArray, List.map_cons, List.map_nil]); first | done | rfl | (simp only [List.length_drop, List.length_take]; rfl)) ?_; (with_reducible refine (journal_Add.calls k2 t251 t252 _ _ t253 (wrap64 ((wrap64 ((wrap64 (x6_2 + 1)) + (Int.tmod (wrap64 (rd l0 x8_2)) 9))) - 1)) false 0 0 t258 t259 t260 t263 _ ?side1 ?side2 A14.out).mono ?_); (case side1 => refine (Kd.R_reads' (e := 72) (base := w.heap.size) (ok := fun k_ => (True ∧ some k_ ≠ (.slice Ao19 x250002_2.length co19 : Value).ownBlock)) (n := t253.length) (c := co24) ?_).2.2; exact (by (with_reducible repeat (first | apply Kd.R_alloc | apply Kd.R_drewN | apply Kd.R_drew)); exact (Kd.R_mono (Kd.R_far (p := ⟨gb257, 2, none⟩) (Kd.R_far (p := ⟨gb257, 1, none⟩) (Kd.R_far (p := ⟨gb257, 0, none⟩) (Kd.R_types HO255.out BK257.out (by decide)) (fun _ hk => hk.2) (.int .i64 t251)) (fun _ hk => hk.2) (.string t252)) (fun _ hk => hk.2) (.slice Ao24 t253.length co24)) (fun _ h_ => h_.1)))); (case side2 => exact (Kd.R_reads' HO255.out).2.1); rintro e w25 ⟨v261, rfl, ho0, hb⟩; refine ⟨_, rfl, ?_⟩; have n0_ := Aside0.mk (Kd.R_below (by (with_reducible repeat (first | apply Kd.R_alloc | apply Kd.R_drewN | apply Kd.R_drew)); exact (Kd.R_mono (Kd.R_far (p := ⟨gb257, 2, none⟩) (Kd.R_far (p := ⟨gb257, 1, none⟩) (Kd.R_far (p := ⟨gb257, 0, none⟩) (Kd.R_types HO_7.out BK257.out (by decide)) (fun _ hk => hk.2) (.int .i64 t251)) (fun _ hk => hk.2) (.string t252)) (fun _ hk => hk.2) (.slice Ao24 t253.length co24)) (fun _ h_ => h_.1))) hb); have n1_ := Aside0.mk (Kd.R_elder' (by (with_reducible repeat (first | apply Kd.R_alloc | apply Kd.R_drewN | apply Kd.R_drew)); exact (Kd.R_mono (Kd.R_far (p := ⟨gb257, 2, none⟩) (Kd.R_far (p := ⟨gb257, 1, none⟩) (Kd.R_far (p := ⟨gb257, 0, none⟩) (Kd.R_types HO_250002.out BK257.out (by decide)) (fun _ hk => hk.2) (.int .i64 t251)) (fun _ hk => hk.2) (.string t252)) (fun _ hk => hk.2) (.slice Ao24 t253.length co24)) (fun _ h_ => h_.1))) (Kd.R_base ho0) hb); have n2_ := Aside0.mk (Kd.R_elder' (by (with_reducible repeat (first | apply Kd.R_alloc | apply Kd.R_drewN | apply Kd.R_drew)); exact (Kd.R_mono (Kd.R_far (p := ⟨gb257, 2, none⟩) (Kd.R_far (p := ⟨gb257, 1, none⟩) (Kd.R_far (p := ⟨gb257, 0, none⟩) (Kd.R_types HO255.out BK257.out (by decide)) (fun _ hk => hk.2) (.int .i64 t251)) (fun _ hk => hk.2) (.string t252)) (fun _ hk => hk.2) (.slice Ao24 t253.length co24)) (fun _ h_ => h_.1))) (Kd.R_base ho0) hb); have n3_ := Aside0.mk (Kd.R_lower (Kd.R_new' (Kd.R_new' ho0 (Kd.R_lt (by (with_reducible repeat (first | apply Kd.R_alloc | apply Kd.R_drewN | apply Kd.R_drew)); exact (Kd.R_mono (Kd.R_far (p := ⟨gb257, 2, none⟩) (Kd.R_far (p := ⟨gb257, 1, none⟩) (Kd.R_far (p := ⟨gb257, 0, none⟩) (Kd.R_types HO_250002.out BK257.out (by decide)) (fun _ hk => hk.2) (.int .i64 t251)) (fun _ hk => hk.2) (.string t252)) (fun _ hk => hk.2) (.slice Ao24 t253.length co24)) (fun _ h_ => h_.1))))) (Kd.R_lt (by (with_reducible repeat (first | apply Kd.R_alloc | apply Kd.R_drewN | apply Kd.R_drew)); exact (Kd.R_mono (Kd.R_far (p := ⟨gb257, 2, none⟩) (Kd.R_far (p := ⟨gb257, 1, none⟩) (Kd.R_far (p := ⟨gb257, 0, none⟩) (Kd.R_types HO255.out BK257.out (by decide)) (fun _ hk => hk.2) (.int .i64 t251)) (fun _ hk => hk.2) (.string t252)) (fun _ hk => hk.2) (.slice Ao24 t253.length co24)) (fun _ h_ => h_.1))))) (below_size (by repeat (first | (with_reducible first | exact HB.out | apply below_alloc | apply pw_below_drewN | apply below_drew1 | refine below_set ?_ GE249.out | refine below_set ?_ GE257.out) | exact HB.out)))); have n4_ := Aside0.mk (blk_below (g := gb249) (o := .cells #[.int .i64 x250000_2, .string x250001_2, .slice Ao19 x250002_2.length co19] 48 (0, 0)) (by (with_reducible repeat (first | refine blk_drewN ?_ _ | refine blk_drew ?_ | refine blk_alloc ?_ _)); refine blk_far ?_ NB249_257.out _; (with_reducible repeat (first | refine blk_drewN ?_ _ | refine blk_drew ?_ | refine blk_alloc ?_ _)); refine blk_far ?_ NB249_257.out _; (with_reducible repeat (first | refine blk_drewN ?_ _ | refine blk_drew ?_ | refine blk_alloc ?_ _)); refine blk_far ?_ NB249_257.out _; (with_reducible repeat (first | refine blk_drewN ?_ _ | refine blk_drew ?_ | refine blk_alloc ?_ _)); exact BK249.out) hb); have n5_ := Aside0.mk (blk_below (g := gb257) (o := .cells #[.int .i64 t251, .string t252, .slice Ao24 t253.length co24] 48 (0, 0)) (by (with_reducible repeat (first | refine blk_drewN ?_ _ | refine blk_drew ?_ | refine blk_alloc ?_ _)); refine blk_put (cs := #[.int .i64 t251, .string t252, .slice none 0 0]) ?_ 2 _ rfl; (with_reducible repeat (first | refine blk_drewN ?_ _ | refine blk_drew ?_ | refine blk_alloc ?_ _)); refine blk_put (cs := #[.int .i64 t251, .string (⟨#[]⟩ : ByteArray), .slice none 0 0]) ?_ 1 _ rfl; (with_reducible repeat (first | refine blk_drewN ?_ _ | refine blk_drew ?_ | refine blk_alloc ?_ _)); refine blk_put (cs := #[.int .i64 0, .string (⟨#[]⟩ : ByteArray), .slice none 0 0]) ?_ 0 _ rfl; (with_reducible repeat (first | refine blk_drewN ?_ _ | refine blk_drew ?_ | refine blk_alloc ?_ _)); exact BK257.out) hb); have n6_ := Aside0.mk (below_step (by repeat (first | (with_reducible first | exact HB.out | apply below_alloc | apply pw_below_drewN | apply below_drew1 | refine below_set ?_ GE249.out | refine below_set ?_ GE257.out) | exact HB.out)) hb); clear HO_7; clear HO_250002; clear HO255; clear BK249; clear BK257; clear HB; have HO_7 := n0_; have HO_250002 := n1_; have HO255 := n2_; have HO262 := n3_; have BK249 := n4_; have BK257 := n5_; have HB := n6_; clear n0_ n1_ n2_ n3_ n4_ n5_ n6_; (try clear hb); (try clear hb2); (try clear hk); (try clear hi); (try clear ho0)) | ((with_reducible refine gate_dst (N := 11) rfl ?_); (try (refine gate_guard (by rfl) ?_; dsimp only)); refine box_event ?hg (N := 11) ?hd (cs := #[.int .i64 0, .string (⟨#[]⟩ : ByteArray), .slice none 0 0]) (t := 48) ?hr ?_; (case hd => rfl); (case hg => rfl); (case hr => first | (go_simp; done) | (go_simp; rfl)); intro gb264 hg w26 hbox hb; have n0_ := Aside0.mk (Kd.R_below (by (with_reducible repeat (first | apply Kd.R_alloc | apply Kd.R_drewN | apply Kd.R_drew)); exact HO_7.out) hb); have n1_ := Aside0.mk (Kd.R_below (by (with_reducible repeat (first | apply Kd.R_alloc | apply Kd.R_drewN | apply Kd.R_drew)); exact HO_250002.out) hb); have n2_ := Aside0.mk (Kd.R_below (by (with_reducible repeat (first | apply Kd.R_alloc | apply Kd.R_drewN | apply Kd.R_drew)); exact HO255.out) hb); have n3_ := Aside0.mk (Kd.R_below (by (with_reducible repeat (first | apply Kd.R_alloc | apply Kd.R_drewN | apply Kd.R_drew)); exact HO262.out) hb); have n4_ := Aside0.mk (blk_below (g := gb249) (o := .cells #[.int .i64 x250000_2, .string x250001_2, .slice Ao19 x250002_2.length co19] 48 (0, 0)) (by (with_reducible repeat (first | refine blk_drewN ?_ _ | refine blk_drew ?_ | refine blk_alloc ?_ _)); exact BK249.out) hb); have n5_ := Aside0.mk (blk_below (g := gb257) (o := .cells #[.int .i64 t251, .string t252, .slice Ao24 t253.length co24] 48 (0, 0)) (by (with_reducible repeat (first | refine blk_drewN ?_ _ | refine blk_drew ?_ | refine blk_alloc ?_ _)); exact BK257.out) hb); have n6_ := Aside0.mk (below_step (by repeat (first | (with_reducible first | exact HB.out | apply below_alloc | apply pw_below_drewN | apply below_drew1 | refine below_set ?_ GE249.out | refine below_set ?_ GE257.out) | exact HB.out)) hb); have n7_ := Aside0.mk (hbox); have n8_ := Aside0.mk ((by rw [hg]; exact (below_size (by repeat (first | (with_reducible first | exact HB.out | apply below_alloc | apply pw_below_drewN | apply below_drew1 | refine below_set ?_ GE249.out | refine below_set ?_ GE257.out) | exact HB.out))) : w.heap.size ≤ gb264)); have n9_ := Aside0.mk ((by rw [hg]; exact (below_size (by repeat (first | (with_reducible first | exact HB.out | apply below_alloc | apply pw_below_drewN | apply below_drew1 | refine below_set ?_ GE249.out | refine below_set ?_ GE257.out) | exact HB.out))) : w.heap.size ≤ gb264)); have n10_ := Aside0.mk ((by rw [hg]; exact Nat.ne_of_lt (blk_lt (g := gb249) (o := .cells #[.int .i64 x250000_2, .string x250001_2, .slice Ao19 x250002_2.length co19] 48 (0, 0)) (by (with_reducible repeat (first | refine blk_drewN ?_ _ | refine blk_drew ?_ | refine blk_alloc ?_ _)); exact BK249.out)) : gb249 ≠ gb264)); have n11_ := Aside0.mk ((by rw [hg]; exact Nat.ne_of_gt (blk_lt (g := gb249) (o := .cells #[.int .i64 x250000_2, .string x250001_2, .slice Ao19 x250002_2.length co19] 48 (0, 0)) (by (with_reducible repeat (first | refine blk_drewN ?_ _ | refine blk_drew ?_ | refine blk_alloc ?_ _)); exact BK249.out)) : gb264 ≠ gb249)); have n12_ := Aside0.mk ((by rw [hg]; exact Nat.ne_of_lt (blk_lt (g := gb257) (o := .cells #[.int .i64 t251, .string t252, .slice Ao24 t253.length co24] 48 (0, 0)) (by (with_reducible repeat (first | refine blk_drewN ?_ _ | refine blk_drew ?_ | refine blk_alloc ?_ _)); exact BK257.out)) : gb257 ≠ gb264)); have n13_ := Aside0.mk ((by rw [hg]; exact Nat.ne_of_gt (blk_lt (g := gb257) (o := .cells #[.int .i64 t251, .string t252, .slice Ao24 t253.length co24] 48 (0, 0)) (by (with_reducible repeat (first | refine blk_drewN ?_ _ | refine blk_drew ?_ | refine blk_alloc ?_ _)); exact BK257.out)) : gb264 ≠ gb257)); clear HO_7; clear HO_250002; clear HO255; clear HO262; clear BK249; clear BK257; clear HB; have HO_7 := n0_; have HO_250002 := n1_; have HO255 := n2_; have HO262 := n3_; have BK249 := n4_; have BK257 := n5_; have HB := n6_; have BK264 := n7_; have GW264 := n8_; have GE264 := n9_; have NB249_264 := n10_; have NB264_249 := n11_; have NB257_264 := n12_; have NB264_257 := n13_; clear n0_ n1_ n2_ n3_ n4_ n5_ n6_ n7_ n8_ n9_ n10_ n11_ n12_ n13_; clear hb hbox hg; have hnb27 := NB264_249.out; have hnc27 := NB249_264.out; have hnb28 := NB264_257.out; have hnc28 := NB257_264.out; have hcz29_0 : w26.cell? ⟨gb264, 0, none⟩ = some (.int .i64 0) := (blk_cell BK264.out 0).trans rfl; have hcz29_1 : w26.cell? ⟨gb264, 1, none⟩ = some (.string (⟨#[]⟩ : ByteArray)) := (blk_cell BK264.out 1).trans rfl; have hcz29_2 : w26.cell? ⟨gb264, 2, none⟩ = some (.slice none 0 0) := (blk_cell BK264.out 2).trans rfl; have hfz29_0 := blk_frozen BK264.out 0; have hfz29_1 := blk_frozen BK264.out 1; have hfz29_2 := blk_frozen BK264.out 2; obtain ⟨Ao30, co30, eo30⟩ := Kd.R_slice HO262.out; subst eo30; have hcz31_0 : w26.cell? ⟨gb257, 0, none⟩ = some (.int .i64 t251) := (blk_cell BK257.out 0).trans rfl; have hcz31_1 : w26.cell? ⟨gb257, 1, none⟩ = some (.string t252) := (blk_cell BK257.out 1).trans rfl; have hcz31_2 : w26.cell? ⟨gb257, 2, none⟩ = some (.slice Ao24 t253.length co24) := (blk_cell BK257.out 2).trans rfl; have hfz31_0 := blk_frozen BK257.out 0; have hfz31_1 := blk_frozen BK257.out 1; have hfz31_2 := blk_frozen BK257.out 2; have hcz32_0 : w26.cell? ⟨gb249, 0, none⟩ = some (.int .i64 x250000_2) := (blk_cell BK249.out 0).trans rfl; have hcz32_1 : w26.cell? ⟨gb249, 1, none⟩ = some (.string x250001_2) := (blk_cell BK249.out 1).trans rfl; have hcz32_2 : w26.cell? ⟨gb249, 2, none⟩ = some (.slice Ao19 x250002_2.length co19) := (blk_cell BK249.out 2).trans rfl; have hfz32_0 := blk_frozen BK249.out 0; have hfz32_1 := blk_frozen BK249.out 1; have hfz32_2 := blk_frozen BK249.out 2) | ((with_reducible refine gate_builtin (b := .append) (xs := #[.tmp 72, .tmp 74]) rfl ?_); (try (refine gate_guard (by rfl) ?_; dsimp only)); at_builtin; refine Kd.R_append (Kd.int .i64) (w0 := w) w.heap.size rfl (.tmp 72) (.tmp 74) 74 3 (.int .i64 0) 8 rfl Try.underlying74 info3 rfl (by decide) (by omega) u7 x7_2 (wrap64 ((wrap64 (x6_2 + 1)) + (Int.tmod (wrap64 (rd l0 x8_2)) 9))) [.int .i64 (wrap64 ((wrap64 (x6_2 + 1)) + (Int.tmod (wrap64 (rd l0 x8_2)) 9)))] (fun _ => True) (fun _ => False) rfl (by first | (go_simp; done) | (go_simp; rfl)) ?aP (fun _ hk => hk.elim) ?aF ?aO ?aB ?aS ?aL ?_; (case aP => exact rfl); (case aB => exact (by repeat (first | (with_reducible first | exact HB.out | apply below_alloc | apply pw_below_drewN | apply below_drew1 | refine below_set ?_ GE249.out | refine below_set ?_ GE257.out | refine below_set ?_ GE264.out) | exact HB.out))); (case aF => exact (fun _ _ => trivial)); (case aO => exact (by (with_reducible repeat (first | apply Kd.R_alloc | apply Kd.R_drewN | apply Kd.R_drew)); exact Kd.R_mono (Kd.R_far (p := ⟨gb249, 2, none⟩) (Kd.R_far (p := ⟨gb249, 1, none⟩) (Kd.R_far (p := ⟨gb249, 0, none⟩) (Kd.R_far (p := ⟨gb264, 2, none⟩) (Kd.R_far (p := ⟨gb264, 1, none⟩) (Kd.R_far (p := ⟨gb264, 0, none⟩) (Kd.R_types (Kd.R_types HO_7.out BK264.out (by decide)) BK249.out (by decide)) (fun _ hk => hk.1.2) (.int .i64 t258)) (fun _ hk => hk.1.2) (.string t259)) (fun _ hk => hk.1.2) (.slice Ao30 t260.length co30)) (fun _ hk => hk.2) (.int .i64 t251)) (fun _ hk => hk.2) (.string t252)) (fun _ hk => hk.2) (.slice Ao24 t253.length co24)) (fun _ hk => trivial))); (case aS => exact (below_size (by repeat (first | (with_reducible first | exact HB.out | apply below_alloc | apply pw_below_drewN | apply below_drew1 | refine below_set ?_ GE249.out | refine below_set ?_ GE257.out | refine below_set ?_ GE264.out) | exact HB.out)))); (case aL => have := LMc17.out; omega); intro v266 w33 ho hb hg hat; rw [← Ny265.out] at ho; have n0_ := Aside0.mk (Kd.R_over' (by (with_reducible repeat (first | apply Kd.R_alloc | apply Kd.R_drewN | apply Kd.R_drew)); exact (Kd.R_mono (Kd.R_mono (Kd.R_far (p := ⟨gb249, 2, none⟩) (Kd.R_far (p := ⟨gb249, 1, none⟩) (Kd.R_far (p := ⟨gb249, 0, none⟩) (Kd.R_far (p := ⟨gb264, 2, none⟩) (Kd.R_far (p := ⟨gb264, 1, none⟩) (Kd.R_far (p := ⟨gb264, 0, none⟩) (Kd.R_types (Kd.R_types HO_250002.out BK264.out (by decide)) BK249.out (by decide)) (fun _ hk => hk.1.2) (.int .i64 t258)) (fun _ hk => hk.1.2) (.string t259)) (fun _ hk => hk.1.2) (.slice Ao30 t260.length co30)) (fun _ hk => hk.2) (.int .i64 t251)) (fun _ hk => hk.2) (.string t252)) (fun _ hk => hk.2) (.slice Ao24 t253.length co24)) (fun _ h_ => h_.1)) (fun _ h_ => h_.1))) (Kd.R_typed (by (with_reducible repeat (first | apply Kd.R_alloc | apply Kd.R_drewN | apply Kd.R_drew)); exact (Kd.R_mono (Kd.R_mono (Kd.R_far (p := ⟨gb249, 2, none⟩) (Kd.R_far (p := ⟨gb249, 1, none⟩) (Kd.R_far (p := ⟨gb249, 0, none⟩) (Kd.R_far (p := ⟨gb264, 2, none⟩) (Kd.R_far (p := ⟨gb264, 1, none⟩) (Kd.R_far (p := ⟨gb264, 0, none⟩) (Kd.R_types (Kd.R_types HO_7.out BK264.out (by decide)) BK249.out (by decide)) (fun _ hk => hk.1.2) (.int .i64 t258)) (fun _ hk => hk.1.2) (.string t259)) (fun _ hk => hk.1.2) (.slice Ao30 t260.length co30)) (fun _ hk => hk.2) (.int .i64 t251)) (fun _ hk => hk.2) (.string t252)) (fun _ hk => hk.2) (.slice Ao24 t253.length co24)) (fun _ h_ => h_.1)) (fun _ h_ => h_.1)))) (by decide) hg); have n1_ := Aside0.mk (blk_grown (g := gb249) (o := .cells #[.int .i64 t251, .string t252, .slice Ao24 t253.length co24] 48 (0, 0)) (by (with_reducible repeat (first | refine blk_drewN ?_ _ | refine blk_drew ?_ | refine blk_alloc ?_ _)); refine blk_put (cs := #[.int .i64 t251, .string t252, .slice Ao19 x250002_2.length co19]) ?_ 2 _ rfl; (with_reducible repeat (first | refine blk_drewN ?_ _ | refine blk_drew ?_ | refine blk_alloc ?_ _)); refine blk_put (cs := #[.int .i64 t251, .string x250001_2, .slice Ao19 x250002_2.length co19]) ?_ 1 _ rfl; (with_reducible repeat (first | refine blk_drewN ?_ _ | refine blk_drew ?_ | refine blk_alloc ?_ _)); refine blk_put (cs := #[.int .i64 x250000_2, .string x250001_2, .slice Ao19 x250002_2.length co19]) ?_ 0 _ rfl; (with_reducible repeat (first | refine blk_drewN ?_ _ | refine blk_drew ?_ | refine blk_alloc ?_ _)); refine blk_far ?_ NB249_264.out _; (with_reducible repeat (first | refine blk_drewN ?_ _ | refine blk_drew ?_ | refine blk_alloc ?_ _)); refine blk_far ?_ NB249_264.out _; (with_reducible repeat (first | refine blk_drewN ?_ _ | refine blk_drew ?_ | refine blk_alloc ?_ _)); refine blk_far ?_ NB249_264.out _; (with_reducible repeat (first | refine blk_drewN ?_ _ | refine blk_drew ?_ | refine blk_alloc ?_ _)); exact BK249.out) hg (Kd.R_ne HO_7.out BK249.out (by decide))); have n2_ := Aside0.mk (Kd.R_over' (by (with_reducible repeat (first | apply Kd.R_alloc | apply Kd.R_drewN | apply Kd.R_drew)); exact (Kd.R_mono (Kd.R_mono (Kd.R_far (p := ⟨gb249, 2, none⟩) (Kd.R_far (p := ⟨gb249, 1, none⟩) (Kd.R_far (p := ⟨gb249, 0, none⟩) (Kd.R_far (p := ⟨gb264, 2, none⟩) (Kd.R_far (p := ⟨gb264, 1, none⟩) (Kd.R_far (p := ⟨gb264, 0, none⟩) (Kd.R_types (Kd.R_types HO255.out BK264.out (by decide)) BK249.out (by decide)) (fun _ hk => hk.1.2) (.int .i64 t258)) (fun _ hk => hk.1.2) (.string t259)) (fun _ hk => hk.1.2) (.slice Ao30 t260.length co30)) (fun _ hk => hk.2) (.int .i64 t251)) (fun _ hk => hk.2) (.string t252)) (fun _ hk => hk.2) (.slice Ao24 t253.length co24)) (fun _ h_ => h_.1)) (fun _ h_ => h_.1))) (Kd.R_typed (by (with_reducible repeat (first | apply Kd.R_alloc | apply Kd.R_drewN | apply Kd.R_drew)); exact (Kd.R_mono (Kd.R_mono (Kd.R_far (p := ⟨gb249, 2, none⟩) (Kd.R_far (p := ⟨gb249, 1, none⟩) (Kd.R_far (p := ⟨gb249, 0, none⟩) (Kd.R_far (p := ⟨gb264, 2, none⟩) (Kd.R_far (p := ⟨gb264, 1, none⟩) (Kd.R_far (p := ⟨gb264, 0, none⟩) (Kd.R_types (Kd.R_types HO_7.out BK264.out (by decide)) BK249.out (by decide)) (fun _ hk => hk.1.2) (.int .i64 t258)) (fun _ hk => hk.1.2) (.string t259)) (fun _ hk => hk.1.2) (.slice Ao30 t260.length co30)) (fun _ hk => hk.2) (.int .i64 t251)) (fun _ hk => hk.2) (.string t252)) (fun _ hk => hk.2) (.slice Ao24 t253.length co24)) (fun _ h_ => h_.1)) (fun _ h_ => h_.1)))) (by decide) hg); have n3_ := Aside0.mk (blk_grown (g := gb257) (o := .cells #[.int .i64 t251, .string t252, .slice Ao24 t253.length co24] 48 (0, 0)) (by (with_reducible repeat (first | refine blk_drewN ?_ _ | refine blk_drew ?_ | refine blk_alloc ?_ _)); refine blk_far ?_ NB257_249.out _; (with_reducible repeat (first | refine blk_drewN ?_ _ | refine blk_drew ?_ | refine blk_alloc ?_ _)); refine blk_far ?_ NB257_249.out _; (with_reducible repeat (first | refine blk_drewN ?_ _ | refine blk_drew ?_ | refine blk_alloc ?_ _)); refine blk_far ?_ NB257_249.out _; (with_reducible repeat (first | refine blk_drewN ?_ _ | refine blk_drew ?_ | refine blk_alloc ?_ _)); refine blk_far ?_ NB257_264.out _; (with_reducible repeat (first | refine blk_drewN ?_ _ | refine blk_drew ?_ | refine blk_alloc ?_ _)); refine blk_far ?_ NB257_264.out _; (with_reducible repeat (first | refine blk_drewN ?_ _ | refine blk_drew ?_ | refine blk_alloc ?_ _)); refine blk_far ?_ NB257_264.out _; (with_reducible repeat (first | refine blk_drewN ?_ _ | refine blk_drew ?_ | refine blk_alloc ?_ _)); exact BK257.out) hg (Kd.R_ne HO_7.out BK257.out (by decide))); have n4_ := Aside0.mk (Kd.R_over' (by (with_reducible repeat (first | apply Kd.R_alloc | apply Kd.R_drewN | apply Kd.R_drew)); exact (Kd.R_mono (Kd.R_mono (Kd.R_far (p := ⟨gb249, 2, none⟩) (Kd.R_far (p := ⟨gb249, 1, none⟩) (Kd.R_far (p := ⟨gb249, 0, none⟩) (Kd.R_far (p := ⟨gb264, 2, none⟩) (Kd.R_far (p := ⟨gb264, 1, none⟩) (Kd.R_far (p := ⟨gb264, 0, none⟩) (Kd.R_types (Kd.R_types HO262.out BK264.out (by decide)) BK249.out (by decide)) (fun _ hk => hk.1.2) (.int .i64 t258)) (fun _ hk => hk.1.2) (.string t259)) (fun _ hk => hk.1.2) (.slice Ao30 t260.length co30)) (fun _ hk => hk.2) (.int .i64 t251)) (fun _ hk => hk.2) (.string t252)) (fun _ hk => hk.2) (.slice Ao24 t253.length co24)) (fun _ h_ => h_.1)) (fun _ h_ => h_.1))) (Kd.R_typed (by (with_reducible repeat (first | apply Kd.R_alloc | apply Kd.R_drewN | apply Kd.R_drew)); exact (Kd.R_mono (Kd.R_mono (Kd.R_far (p := ⟨gb249, 2, none⟩) (Kd.R_far (p := ⟨gb249, 1, none⟩) (Kd.R_far (p := ⟨gb249, 0, none⟩) (Kd.R_far (p := ⟨gb264, 2, none⟩) (Kd.R_far (p := ⟨gb264, 1, none⟩) (Kd.R_far (p := ⟨gb264, 0, none⟩) (Kd.R_types (Kd.R_types HO_7.out BK264.out (by decide)) BK249.out (by decide)) (fun _ hk => hk.1.2) (.int .i64 t258)) (fun _ hk => hk.1.2) (.string t259)) (fun _ hk => hk.1.2) (.slice Ao30 t260.length co30)) (fun _ hk => hk.2) (.int .i64 t251)) (fun _ hk => hk.2) (.string t252)) (fun _ hk => hk.2) (.slice Ao24 t253.length co24)) (fun _ h_ => h_.1)) (fun _ h_ => h_.1)))) (by decide) hg); have n5_ := Aside0.mk (blk_grown (g := gb264) (o := .cells #[.int .i64 t258, .string t259, .slice Ao30 t260.length co30] 48 (0, 0)) (by (with_reducible repeat (first | refine blk_drewN ?_ _ | refine blk_drew ?_ | refine blk_alloc ?_ _)); refine blk_far ?_ NB264_249.out _; (with_reducible repeat (first | refine blk_drewN ?_ _ | refine blk_drew ?_ | refine blk_alloc ?_ _)); refine blk_far ?_ NB264_249.out _; (with_reducible repeat (first | refine blk_drewN ?_ _ | refine blk_drew ?_ | refine blk_alloc ?_ _)); refine blk_far ?_ NB264_249.out _; (with_reducible repeat (first | refine blk_drewN ?_ _ | refine blk_drew ?_ | refine blk_alloc ?_ _)); refine blk_put (cs := #[.int .i64 t258, .string t259, .slice none 0 0]) ?_ 2 _ rfl; (with_reducible repeat (first | refine blk_drewN ?_ _ | refine blk_drew ?_ | refine blk_alloc ?_ _)); refine blk_put (cs := #[.int .i64 t258, .string (⟨#[]⟩ : ByteArray), .slice none 0 0]) ?_ 1 _ rfl; (with_reducible repeat (first | refine blk_drewN ?_ _ | refine blk_drew ?_ | refine blk_alloc ?_ _)); refine blk_put (cs := #[.int .i64 0, .string (⟨#[]⟩ : ByteArray), .slice none 0 0]) ?_ 0 _ rfl; (with_reducible repeat (first | refine blk_drewN ?_ _ | refine blk_drew ?_ | refine blk_alloc ?_ _)); exact BK264.out) hg (Kd.R_ne HO_7.out BK264.out (by decide))); have n6_ := Aside0.mk (hb); have n7_ := Aside0.mk (ho); clear HO_250002; clear BK249; clear HO255; clear BK257; clear HO262; clear BK264; clear HB; clear HO_7; have HO_250002 := n0_; have BK249 := n1_; have HO255 := n2_; have BK257 := n3_; have HO262 := n4_; have BK264 := n5_; have HB := n6_; have HO267 := n7_; clear n0_ n1_ n2_ n3_ n4_ n5_ n6_ n7_; clear ho hb hg hat))
       go_roundg k2
       case measure => have := HJ4.out; have := HK2.out; omega
       case rel => exact ⟨(wrap64 ((wrap64 (x6_2 + 1)) + (Int.tmod (wrap64 (rd l0 x8_2)) 9))), (y265), (wrap64 (x8_2 + 1)), (t251), (t252), (t253), (.slice Ao24 t253.length co24), (by first | rfl | (simp; done) | (simp [*]; done)), (by first | rfl | (simp; done) | (simp [*]; done)), H', ⟨by have := HJ4.out; have := HK2.out; omega⟩, ⟨by (with_reducible repeat (first | apply Kd.R_alloc | apply Kd.R_drewN | apply Kd.R_drew)); exact HO267.out⟩, ⟨by (with_reducible repeat (first | apply Kd.R_alloc | apply Kd.R_drewN | apply Kd.R_drew)); exact Kd.R_mono HO255.out (fun _ hk => trivial)⟩, ⟨by (with_reducible repeat (first | refine blk_drewN ?_ _ | refine blk_drew ?_ | refine blk_alloc ?_ _)); exact BK249.out⟩, ⟨by repeat (first | (with_reducible first | exact HB.out | apply below_alloc | apply pw_below_drewN | apply below_drew1 | refine below_set ?_ GE249.out | refine below_set ?_ GE257.out | refine below_set ?_ GE264.out) | exact HB.out)⟩⟩
      ·rw [if_neg c11] at H
       have c11b0 : decide (x8_2 < (l0.length : Int)) = false := decide_eq_false c11
       clear c11
       have H' := Aside0.mk H
       clear H
       go_wp2
       go_loopg [7, 13] k2 (fun kq v7 v13 w' => ∃ (x7_3 : List Int) (x13_3 : Int) (x250000_3 : Int) (x250001_3 : ByteArray) (x250002_3 : List (S72)) (u250002 : Value), v13 = .int .i64 x13_3 ∧ Aside0 (law7Adds.l1 kq l1 x7_3 x13_3 x250000_3 x250001_3 x250002_3 = some r) ∧ Aside0 (kq ≤ k2) ∧ Aside0 (Kd.R (Kd.int .i64) 3 w' w.heap.size (fun _ => True) v7 x7_3) ∧ Aside0 (Kd.R k72 72 w' w.heap.size (fun _ => True) u250002 x250002_3) ∧ Aside0 (w'.heap[gb249]? = some (.cells #[.int .i64 x250000_3, .string x250001_3, u250002] 48 (0, 0))) ∧ Aside0 (Below w.heap.size w w'))
       case atStart => exact ⟨(x7_2), (0), (x250000_2), (x250001_2), (x250002_2), (u250002), (by first | rfl | (simp; done) | (simp [*]; done)), H', ⟨Nat.le_refl _⟩, ⟨by (with_reducible repeat (first | apply Kd.R_alloc | apply Kd.R_drewN | apply Kd.R_drew)); exact HO_7.out⟩, ⟨by (with_reducible repeat (first | apply Kd.R_alloc | apply Kd.R_drewN | apply Kd.R_drew)); exact HO_250002.out⟩, ⟨by (with_reducible repeat (first | refine blk_drewN ?_ _ | refine blk_drew ?_ | refine blk_alloc ?_ _)); exact BK249.out⟩, ⟨by repeat (first | (with_reducible first | exact HB.out | apply below_alloc | apply pw_below_drewN | apply below_drew1 | refine below_set ?_ GE249.out) | exact HB.out)⟩⟩
       case round =>
        clear H'
        (try clear c1); (try clear c2); (try clear p2); (try clear q2); (try clear hx2); (try clear c3); (try clear c4); (try clear c5); (try clear p6); (try clear c7); (try clear c7b0); (try clear c7b1); (try clear c8); (try clear c11); (try clear c11b0); (try clear c12); (try clear c12b0); (try clear c15); (try clear c15b0); (try clear c15b1); (try clear c16); (try clear c16b0); (try clear c16b1); (try clear c17); (try clear c21); (try clear c22); (try clear p25); (try clear q25); (try clear hx25); (try clear c27); (try clear c28); (try clear c38); (try clear c43); (try clear c44); (try clear c51); (try clear c56); (try clear c57); (try clear hcz10_0); (try clear hcz10_1); (try clear hcz10_2); (try clear hcz18_0); (try clear hcz18_1); (try clear hcz18_2); (try clear hcz23_0); (try clear hcz23_1); (try clear hcz23_2); (try clear hcz29_0); (try clear hcz29_1); (try clear hcz29_2); (try clear hcz31_0)
        (try clear hcz31_1); (try clear hcz31_2); (try clear hcz32_0); (try clear hcz32_1); (try clear hcz32_2); (try clear hcz34_0); (try clear hcz34_1); (try clear hcz34_2); (try clear hcz39_0); (try clear hcz39_1); (try clear hcz39_2); (try clear hcz45_0); (try clear hcz45_1); (try clear hcz45_2); (try clear hcz47_0); (try clear hcz47_1); (try clear hcz47_2); (try clear hcz52_0); (try clear hcz52_1); (try clear hcz52_2); (try clear hcz58_0); (try clear hcz58_1); (try clear hcz58_2); (try clear hfz10_0); (try clear hfz10_1); (try clear hfz10_2); (try clear hfz18_0); (try clear hfz18_1); (try clear hfz18_2); (try clear hfz23_0); (try clear hfz23_1); (try clear hfz23_2); (try clear hfz29_0); (try clear hfz29_1); (try clear hfz29_2); (try clear hfz31_0); (try clear hfz31_1); (try clear hfz31_2); (try clear hfz32_0); (try clear hfz32_1); (try clear hfz32_2); (try clear hfz34_0); (try clear hfz34_1)
        (try clear hfz34_2); (try clear hfz39_0); (try clear hfz39_1); (try clear hfz39_2); (try clear hfz45_0); (try clear hfz45_1); (try clear hfz45_2); (try clear hfz47_0); (try clear hfz47_1); (try clear hfz47_2); (try clear hfz52_0); (try clear hfz52_1); (try clear hfz52_2); (try clear hfz58_0); (try clear hfz58_1); (try clear hfz58_2); (try clear hx250_0); (try clear p2); (try clear p250); (try clear q250)
        obtain ⟨x7_3, x13_3, x250000_3, x250001_3, x250002_3, u250002, rfl, HA, HK3, HO_7, HO_250002, BK249, HB⟩ := hrel
        cases gk with
        | zero => exact absurd HA.out (by simp [law7Adds.l1])
        | succ k3 =>
         have H := HA.out
         clear HA
         simp only [law7Adds.l1] at H
         have HC60 := Aside0.mk H
         clear H
         go_upto_region 19 with (fail)
         go_cut [84] (fun v84 wc => ∃ (kq : Nat) (x84_59 : Bool), v84 = .bool x84_59 ∧ Aside0 (law7Adds.j3 kq l1 x7_3 x13_3 x84_59 x250000_3 x250001_3 x250002_3 = some r) ∧ Aside0 (kq ≤ k3) ∧ Aside0 (Kd.R (Kd.int .i64) 3 wc w.heap.size (fun _ => True) u7 x7_3) ∧ Aside0 (Kd.R k72 72 wc w.heap.size (fun _ => True) u250002 x250002_3) ∧ Aside0 (wc.heap[gb249]? = some (.cells #[.int .i64 x250000_3, .string x250001_3, u250002] 48 (0, 0))) ∧ Aside0 (Below w.heap.size w wc))
         case first =>
          have H := HC60.out
          clear HC60
          by_cases c61 : x13_3 < (l1.length : Int)
          ·rw [if_pos c61] at H
           have c61b0 : decide (x13_3 < (l1.length : Int)) = true := decide_eq_true c61
           clear c61
           (first | rw [c61b0] | (simp only [i64_w, i32_w]; rw [c61b0]) | skip)
           have H' := Aside0.mk H
           clear H
           obtain ⟨Ao62, co62, eo62⟩ := Kd.R_slice HO_7.out
           subst eo62
           go_wp2
           go_meet
           case rel => exact ⟨_, (decide ((x7_3.length : Int) > 0)), (by first | rfl | (simp; done) | (simp [*]; done)), H', ⟨by have := HJ4.out; have := HK2.out; have := HK3.out; first | omega | exact Nat.le_refl _⟩, ⟨by (with_reducible repeat (first | apply Kd.R_alloc | apply Kd.R_drewN | apply Kd.R_drew)); exact HO_7.out⟩, ⟨by (with_reducible repeat (first | apply Kd.R_alloc | apply Kd.R_drewN | apply Kd.R_drew)); exact HO_250002.out⟩, ⟨by (with_reducible repeat (first | refine blk_drewN ?_ _ | refine blk_drew ?_ | refine blk_alloc ?_ _)); exact BK249.out⟩, ⟨by repeat (first | (with_reducible first | exact HB.out | apply below_alloc | apply pw_below_drewN | apply below_drew1 | refine below_set ?_ GE249.out) | exact HB.out)⟩⟩
          ·rw [if_neg c61] at H
           have c61b0 : decide (x13_3 < (l1.length : Int)) = false := decide_eq_false c61
           clear c61
           (first | rw [c61b0] | (simp only [i64_w, i32_w]; rw [c61b0]) | skip)
           have H' := Aside0.mk H
           clear H
           go_wp2
           go_meet
           case rel => exact ⟨_, (false), (by first | rfl | (simp; done) | (simp [*]; done)), H', ⟨by have := HJ4.out; have := HK2.out; have := HK3.out; first | omega | exact Nat.le_refl _⟩, ⟨by (with_reducible repeat (first | apply Kd.R_alloc | apply Kd.R_drewN | apply Kd.R_drew)); exact HO_7.out⟩, ⟨by (with_reducible repeat (first | apply Kd.R_alloc | apply Kd.R_drewN | apply Kd.R_drew)); exact HO_250002.out⟩, ⟨by (with_reducible repeat (first | refine blk_drewN ?_ _ | refine blk_drew ?_ | refine blk_alloc ?_ _)); exact BK249.out⟩, ⟨by repeat (first | (with_reducible first | exact HB.out | apply below_alloc | apply pw_below_drewN | apply below_drew1 | refine below_set ?_ GE249.out) | exact HB.out)⟩⟩
         case rest =>
          clear HC60; (try clear c1); (try clear c2); (try clear p2); (try clear q2); (try clear hx2); (try clear c3); (try clear c4); (try clear c5); (try clear c6); (try clear p6); (try clear c7); (try clear c7b0); (try clear c7b1); (try clear c8); (try clear c11); (try clear c11b0); (try clear c12); (try clear c12b0); (try clear c15); (try clear c15b0); (try clear c15b1); (try clear c16); (try clear c16b0); (try clear c16b1); (try clear c17); (try clear c21); (try clear c22); (try clear p25); (try clear q25); (try clear hx25); (try clear c27); (try clear c28); (try clear c38); (try clear c43); (try clear c44); (try clear c51); (try clear c56); (try clear c57); (try clear c61); (try clear c61b0); (try clear hcz10_0); (try clear hcz10_1); (try clear hcz10_2); (try clear hcz18_0); (try clear hcz18_1); (try clear hcz18_2); (try clear hcz23_0); (try clear hcz23_1); (try clear hcz23_2); (try clear hcz29_0)
          (try clear hcz29_1); (try clear hcz29_2); (try clear hcz31_0); (try clear hcz31_1); (try clear hcz31_2); (try clear hcz32_0); (try clear hcz32_1); (try clear hcz32_2); (try clear hcz34_0); (try clear hcz34_1); (try clear hcz34_2); (try clear hcz39_0); (try clear hcz39_1); (try clear hcz39_2); (try clear hcz45_0); (try clear hcz45_1); (try clear hcz45_2); (try clear hcz47_0); (try clear hcz47_1); (try clear hcz47_2); (try clear hcz52_0); (try clear hcz52_1); (try clear hcz52_2); (try clear hcz58_0); (try clear hcz58_1); (try clear hcz58_2); (try clear hfz10_0); (try clear hfz10_1); (try clear hfz10_2); (try clear hfz18_0); (try clear hfz18_1); (try clear hfz18_2); (try clear hfz23_0); (try clear hfz23_1); (try clear hfz23_2); (try clear hfz29_0); (try clear hfz29_1); (try clear hfz29_2); (try clear hfz31_0); (try clear hfz31_1); (try clear hfz31_2); (try clear hfz32_0); (try clear hfz32_1)
          (try clear hfz32_2); (try clear hfz34_0); (try clear hfz34_1); (try clear hfz34_2); (try clear hfz39_0); (try clear hfz39_1); (try clear hfz39_2); (try clear hfz45_0); (try clear hfz45_1); (try clear hfz45_2); (try clear hfz47_0); (try clear hfz47_1); (try clear hfz47_2); (try clear hfz52_0); (try clear hfz52_1); (try clear hfz52_2); (try clear hfz58_0); (try clear hfz58_1); (try clear hfz58_2); (try clear hx250_0); (try clear p2); (try clear p25); (try clear p250); (try clear p6); (try clear q2); (try clear q25); (try clear q250)
          obtain ⟨kq, x84_59, rfl, HA, HJ59, HO_7, HO_250002, BK249, HB⟩ := hcut
          cases kq with
          | zero => exact absurd HA.out (by simp [law7Adds.j3])
          | succ kj59 =>
           have H := HA.out
           clear HA
           simp only [law7Adds.j3] at H
           by_cases c63 : x84_59 = true
           ·subst c63
            have H1 : (if 0 ≤ x13_3 then (if x13_3 < (l1.length : Int) then (if (x7_3.length : Int) = 0 then (none) else (if 0 ≤ (Int.tmod (wrap64 (rd l1 x13_3)) (x7_3.length : Int)) then (if (Int.tmod (wrap64 (rd l1 x13_3)) (x7_3.length : Int)) < (x7_3.length : Int) then ((journal_Drop.f x250000_3 x250001_3 x250002_3 (rd x7_3 (Int.tmod (wrap64 (rd l1 x13_3)) (x7_3.length : Int)))).bind fun bt270 => ((journal_Drop.f bt270.1 bt270.2.1 bt270.2.2.1 (rd x7_3 (Int.tmod (wrap64 (rd l1 x13_3)) (x7_3.length : Int)))).bind fun bt278 => (if bt270.2.2.2 = true then (if bt278.2.2.2 = true then (none) else ((some (([] : List Int) : List Int)).bind fun y285 => (if (Int.tmod (wrap64 (rd l1 x13_3)) (x7_3.length : Int)) ≤ (x7_3.length : Int) then ((some (x7_3.take ((Int.tmod (wrap64 (rd l1 x13_3)) (x7_3.length : Int)) : Int).toNat : List Int)).bind fun y288 => (if y285.length + y288.length < 17592186044416 then ((some (y285 ++ y288 : List Int)).bind fun y292 => (if 0 ≤ (wrap64 ((Int.tmod (wrap64 (rd l1 x13_3)) (x7_3.length : Int)) + 1)) then (if (wrap64 ((Int.tmod (wrap64 (rd l1 x13_3)) (x7_3.length : Int)) + 1)) ≤ (x7_3.length : Int) then ((some (x7_3.drop ((wrap64 ((Int.tmod (wrap64 (rd l1 x13_3)) (x7_3.length : Int)) + 1)) : Int).toNat : List Int)).bind fun y295 => (if y292.length + y295.length < 17592186044416 then (law7Adds.l1 kj59 l1 (y292 ++ y295) (wrap64 (x13_3 + 1)) bt270.1 bt270.2.1 bt270.2.2.1) else (none))) else (none)) else (none))) else (none))) else (none)))) else (none)))) else (none)) else (none))) else (none)) else (none)) = some r := by rw [if_pos rfl] at H; exact H
            clear H
            have H := H1
            clear H1
            by_cases c64 : 0 ≤ x13_3
            case neg => rw [if_neg c64] at H; exact absurd H (by simp)
            rw [if_pos c64] at H
            have c64b0 : decide (0 ≤ x13_3) = true := decide_eq_true c64
            clear c64
            by_cases c65 : x13_3 < (l1.length : Int)
            case neg => rw [if_neg c65] at H; exact absurd H (by simp)
            rw [if_pos c65] at H
            have c65b0 : decide (x13_3 < (l1.length : Int)) = true := decide_eq_true c65
            clear c65
            by_cases c66 : (x7_3.length : Int) = 0
            case pos => rw [if_pos c66] at H; exact absurd H (by simp)
            rw [if_neg c66] at H
            have c66b0 : ((x7_3.length : Int) == 0) = false := beq_eq_false_iff_ne.mpr c66
            have c66b1 : ((x7_3.length : Int) != 0) = true := bne_iff_ne.mpr c66
            have c66b2 : ¬ (x7_3 = []) := fun h_ => c66 (by rw [h_]; rfl)
            obtain ⟨ji67, hji67⟩ : ∃ j_ : Int, (Int.tmod (wrap64 (rd l1 x13_3)) (x7_3.length : Int)) = j_ := ⟨_, rfl⟩
            replace H : (if 0 ≤ (ji67) then (if (ji67) < (x7_3.length : Int) then ((journal_Drop.f x250000_3 x250001_3 x250002_3 (rd x7_3 (ji67))).bind fun bt270 => ((journal_Drop.f bt270.1 bt270.2.1 bt270.2.2.1 (rd x7_3 (ji67))).bind fun bt278 => (if bt270.2.2.2 = true then (if bt278.2.2.2 = true then (none) else ((some (([] : List Int) : List Int)).bind fun y285 => (if (ji67) ≤ (x7_3.length : Int) then ((some (x7_3.take ((ji67) : Int).toNat : List Int)).bind fun y288 => (if y285.length + y288.length < 17592186044416 then ((some (y285 ++ y288 : List Int)).bind fun y292 => (if 0 ≤ (wrap64 ((ji67) + 1)) then (if (wrap64 ((ji67) + 1)) ≤ (x7_3.length : Int) then ((some (x7_3.drop ((wrap64 ((ji67) + 1)) : Int).toNat : List Int)).bind fun y295 => (if y292.length + y295.length < 17592186044416 then (law7Adds.l1 kj59 l1 (y292 ++ y295) (wrap64 (x13_3 + 1)) bt270.1 bt270.2.1 bt270.2.2.1) else (none))) else (none)) else (none))) else (none))) else (none)))) else (none)))) else (none)) else (none)) = some r := by first | (rw [hji67] at H; exact H) | (simp only [hji67] at H ⊢; exact H)
            by_cases c68 : 0 ≤ (ji67)
            case neg => rw [if_neg c68] at H; exact absurd H (by simp)
            rw [if_pos c68] at H
            have c68b0 : decide (0 ≤ (ji67)) = true := decide_eq_true c68
            clear c68
            by_cases c69 : (ji67) < (x7_3.length : Int)
            case neg => rw [if_neg c69] at H; exact absurd H (by simp)
            rw [if_pos c69] at H
            have c69b0 : decide ((ji67) < (x7_3.length : Int)) = true := decide_eq_true c69
            clear c69
            replace H := Option.bind_eq_some_iff.mp H
            obtain ⟨⟨t270, t271, t272, t275⟩, A700, H⟩ := H
            replace H : ((journal_Drop.f t270 t271 t272 (rd x7_3 (ji67))).bind fun bt278 => (if t275 = true then (if bt278.2.2.2 = true then (none) else ((some (([] : List Int) : List Int)).bind fun y285 => (if (ji67) ≤ (x7_3.length : Int) then ((some (x7_3.take ((ji67) : Int).toNat : List Int)).bind fun y288 => (if y285.length + y288.length < 17592186044416 then ((some (y285 ++ y288 : List Int)).bind fun y292 => (if 0 ≤ (wrap64 ((ji67) + 1)) then (if (wrap64 ((ji67) + 1)) ≤ (x7_3.length : Int) then ((some (x7_3.drop ((wrap64 ((ji67) + 1)) : Int).toNat : List Int)).bind fun y295 => (if y292.length + y295.length < 17592186044416 then (law7Adds.l1 kj59 l1 (y292 ++ y295) (wrap64 (x13_3 + 1)) t270 t271 t272) else (none))) else (none)) else (none))) else (none))) else (none)))) else (none))) = some r := H
            have A70 := Aside0.mk A700
            clear A700
            replace H := Option.bind_eq_some_iff.mp H
            obtain ⟨⟨t278, t279, t280, t283⟩, A710, H⟩ := H
            replace H : (if t275 = true then (if t283 = true then (none) else ((some (([] : List Int) : List Int)).bind fun y285 => (if (ji67) ≤ (x7_3.length : Int) then ((some (x7_3.take ((ji67) : Int).toNat : List Int)).bind fun y288 => (if y285.length + y288.length < 17592186044416 then ((some (y285 ++ y288 : List Int)).bind fun y292 => (if 0 ≤ (wrap64 ((ji67) + 1)) then (if (wrap64 ((ji67) + 1)) ≤ (x7_3.length : Int) then ((some (x7_3.drop ((wrap64 ((ji67) + 1)) : Int).toNat : List Int)).bind fun y295 => (if y292.length + y295.length < 17592186044416 then (law7Adds.l1 kj59 l1 (y292 ++ y295) (wrap64 (x13_3 + 1)) t270 t271 t272) else (none))) else (none)) else (none))) else (none))) else (none)))) else (none)) = some r := H
            have A71 := Aside0.mk A710
            clear A710
            by_cases c72 : t275 = true
            case neg =>
             replace c72 := Bool.eq_false_iff.mpr c72
             subst c72
             have H1 : (none) = some r := by rw [if_neg (show ¬ (false = true) by decide)] at H; exact H
             clear H
             have H := H1
             clear H1
             exact absurd H (by simp)
            subst c72
            have H1 : (if t283 = true then (none) else ((some (([] : List Int) : List Int)).bind fun y285 => (if (ji67) ≤ (x7_3.length : Int) then ((some (x7_3.take ((ji67) : Int).toNat : List Int)).bind fun y288 => (if y285.length + y288.length < 17592186044416 then ((some (y285 ++ y288 : List Int)).bind fun y292 => (if 0 ≤ (wrap64 ((ji67) + 1)) then (if (wrap64 ((ji67) + 1)) ≤ (x7_3.length : Int) then ((some (x7_3.drop ((wrap64 ((ji67) + 1)) : Int).toNat : List Int)).bind fun y295 => (if y292.length + y295.length < 17592186044416 then (law7Adds.l1 kj59 l1 (y292 ++ y295) (wrap64 (x13_3 + 1)) t270 t271 t272) else (none))) else (none)) else (none))) else (none))) else (none)))) = some r := by rw [if_pos rfl] at H; exact H
            clear H
            have H := H1
            clear H1
            by_cases c73 : t283 = true
            case pos =>
             subst c73
             have H1 : (none) = some r := by rw [if_pos rfl] at H; exact H
             clear H
             have H := H1
             clear H1
             exact absurd H (by simp)
            replace c73 := Bool.eq_false_iff.mpr c73
            subst c73
            have H1 : ((some (([] : List Int) : List Int)).bind fun y285 => (if (ji67) ≤ (x7_3.length : Int) then ((some (x7_3.take ((ji67) : Int).toNat : List Int)).bind fun y288 => (if y285.length + y288.length < 17592186044416 then ((some (y285 ++ y288 : List Int)).bind fun y292 => (if 0 ≤ (wrap64 ((ji67) + 1)) then (if (wrap64 ((ji67) + 1)) ≤ (x7_3.length : Int) then ((some (x7_3.drop ((wrap64 ((ji67) + 1)) : Int).toNat : List Int)).bind fun y295 => (if y292.length + y295.length < 17592186044416 then (law7Adds.l1 kj59 l1 (y292 ++ y295) (wrap64 (x13_3 + 1)) t270 t271 t272) else (none))) else (none)) else (none))) else (none))) else (none))) = some r := by rw [if_neg (show ¬ (false = true) by decide)] at H; exact H
            clear H
            have H := H1
            clear H1
            obtain ⟨y285, hy285⟩ : ∃ y_ : List Int, y_ = (([] : List Int)) := ⟨_, rfl⟩
            replace H : (if (ji67) ≤ (x7_3.length : Int) then ((some (x7_3.take ((ji67) : Int).toNat : List Int)).bind fun y288 => (if y285.length + y288.length < 17592186044416 then ((some (y285 ++ y288 : List Int)).bind fun y292 => (if 0 ≤ (wrap64 ((ji67) + 1)) then (if (wrap64 ((ji67) + 1)) ≤ (x7_3.length : Int) then ((some (x7_3.drop ((wrap64 ((ji67) + 1)) : Int).toNat : List Int)).bind fun y295 => (if y292.length + y295.length < 17592186044416 then (law7Adds.l1 kj59 l1 (y292 ++ y295) (wrap64 (x13_3 + 1)) t270 t271 t272) else (none))) else (none)) else (none))) else (none))) else (none)) = some r := by first | (rw [hy285]; with_reducible exact H) | (have H2_ := (Option.bind_some _ _).symm.trans H; rw [hy285]; with_reducible exact H2_) | (have H2_ := (Option.bind_some _ _).symm.trans H; with_reducible exact H2_) | with_reducible exact H | (rw [hy285]; exact H) | exact H
            have Ny285 := Aside0.mk hy285
            clear hy285
            have c93b0 := eq_true (of_decide_eq_true (by first | (with_reducible assumption) | assumption) : 0 ≤ (ji67))
            by_cases c94 : (ji67) ≤ (x7_3.length : Int)
            case neg => rw [if_neg c94] at H; exact absurd H (by simp)
            rw [if_pos c94] at H
            have c94b0 := eq_true c94
            have c94b1 : decide ((ji67) ≤ (x7_3.length : Int)) = true := decide_eq_true c94
            clear c94
            obtain ⟨y288, hy288⟩ : ∃ y_ : List Int, y_ = (x7_3.take ((ji67) : Int).toNat) := ⟨_, rfl⟩
            replace H : (if y285.length + y288.length < 17592186044416 then ((some (y285 ++ y288 : List Int)).bind fun y292 => (if 0 ≤ (wrap64 ((ji67) + 1)) then (if (wrap64 ((ji67) + 1)) ≤ (x7_3.length : Int) then ((some (x7_3.drop ((wrap64 ((ji67) + 1)) : Int).toNat : List Int)).bind fun y295 => (if y292.length + y295.length < 17592186044416 then (law7Adds.l1 kj59 l1 (y292 ++ y295) (wrap64 (x13_3 + 1)) t270 t271 t272) else (none))) else (none)) else (none))) else (none)) = some r := by first | (rw [hy288]; with_reducible exact H) | (have H2_ := (Option.bind_some _ _).symm.trans H; rw [hy288]; with_reducible exact H2_) | (have H2_ := (Option.bind_some _ _).symm.trans H; with_reducible exact H2_) | with_reducible exact H | (rw [hy288]; exact H) | exact H
            have Ny288 := Aside0.mk hy288
            clear hy288
            by_cases c95 : y285.length + y288.length < 17592186044416
            case neg => rw [if_neg c95] at H; exact absurd H (by simp)
            rw [if_pos c95] at H
            have LMc95 := Aside0.mk c95
            clear c95
            obtain ⟨y292, hy292⟩ : ∃ y_ : List Int, y_ = (y285 ++ y288) := ⟨_, rfl⟩
            replace H : (if 0 ≤ (wrap64 ((ji67) + 1)) then (if (wrap64 ((ji67) + 1)) ≤ (x7_3.length : Int) then ((some (x7_3.drop ((wrap64 ((ji67) + 1)) : Int).toNat : List Int)).bind fun y295 => (if y292.length + y295.length < 17592186044416 then (law7Adds.l1 kj59 l1 (y292 ++ y295) (wrap64 (x13_3 + 1)) t270 t271 t272) else (none))) else (none)) else (none)) = some r := by first | (rw [hy292]; with_reducible exact H) | (have H2_ := (Option.bind_some _ _).symm.trans H; rw [hy292]; with_reducible exact H2_) | (have H2_ := (Option.bind_some _ _).symm.trans H; with_reducible exact H2_) | with_reducible exact H | (rw [hy292]; exact H) | exact H
            have Ny292 := Aside0.mk hy292
            clear hy292
            obtain ⟨ji96, hji96⟩ : ∃ j_ : Int, (wrap64 ((ji67) + 1)) = j_ := ⟨_, rfl⟩
            replace H : (if 0 ≤ (ji96) then (if (ji96) ≤ (x7_3.length : Int) then ((some (x7_3.drop ((ji96) : Int).toNat : List Int)).bind fun y295 => (if y292.length + y295.length < 17592186044416 then (law7Adds.l1 kj59 l1 (y292 ++ y295) (wrap64 (x13_3 + 1)) t270 t271 t272) else (none))) else (none)) else (none)) = some r := by first | (rw [hji96] at H; exact H) | (simp only [hji96] at H ⊢; exact H)
            (try rw [hji96] at A70)
            (try rw [hji96] at A71)
            have hji96w : (IntKind.i64.wrap ((ji67) + 1)) = ji96 := (i64_w _).trans hji96
            by_cases c97 : 0 ≤ (ji96)
            case neg => rw [if_neg c97] at H; exact absurd H (by simp)
            rw [if_pos c97] at H
            have c97b0 := eq_true c97
            have c97b1 : decide (0 ≤ (ji96)) = true := decide_eq_true c97
            clear c97
            by_cases c98 : (ji96) ≤ (x7_3.length : Int)
            case neg => rw [if_neg c98] at H; exact absurd H (by simp)
            rw [if_pos c98] at H
            have c98b0 := eq_true c98
            have c98b1 : decide ((ji96) ≤ (x7_3.length : Int)) = true := decide_eq_true c98
            clear c98
            obtain ⟨y295, hy295⟩ : ∃ y_ : List Int, y_ = (x7_3.drop ((ji96) : Int).toNat) := ⟨_, rfl⟩
            replace H : (if y292.length + y295.length < 17592186044416 then (law7Adds.l1 kj59 l1 (y292 ++ y295) (wrap64 (x13_3 + 1)) t270 t271 t272) else (none)) = some r := by first | (rw [hy295]; with_reducible exact H) | (have H2_ := (Option.bind_some _ _).symm.trans H; rw [hy295]; with_reducible exact H2_) | (have H2_ := (Option.bind_some _ _).symm.trans H; with_reducible exact H2_) | with_reducible exact H | (rw [hy295]; exact H) | exact H
            have Ny295 := Aside0.mk hy295
            clear hy295
            by_cases c99 : y292.length + y295.length < 17592186044416
            case neg => rw [if_neg c99] at H; exact absurd H (by simp)
            rw [if_pos c99] at H
            have LMc99 := Aside0.mk c99
            clear c99
            obtain ⟨y299, hy299⟩ : ∃ y_ : List Int, y_ = (y292 ++ y295) := ⟨_, rfl⟩
            replace H : (law7Adds.l1 kj59 l1 y299 (wrap64 (x13_3 + 1)) t270 t271 t272) = some r := by first | (rw [hy299]; with_reducible exact H) | (have H2_ := (Option.bind_some _ _).symm.trans H; rw [hy299]; with_reducible exact H2_) | (have H2_ := (Option.bind_some _ _).symm.trans H; with_reducible exact H2_) | with_reducible exact H | (rw [hy299]; exact H) | exact H
            have Ny299 := Aside0.mk hy299
            clear hy299
            have H' := Aside0.mk H
            clear H
            have p268 : 0 ≤ (x13_3 : Int) := of_decide_eq_true (by first | (with_reducible assumption) | assumption)
            have q268 : x13_3 < (l1.length : Int) := of_decide_eq_true (by first | (with_reducible assumption) | assumption)
            obtain ⟨ad268, e268, hx268_0⟩ := Kd.at_int HR1.out x13_3 p268 q268
            cases e268
            replace hx268_0 := (HB.out.cell (World.block_lt_of_cell? w _ hx268_0)).trans hx268_0
            replace p268 := eq_true p268
            replace q268 := eq_true q268
            obtain ⟨Ao100, co100, eo100⟩ := Kd.R_slice HO_7.out
            subst eo100
            obtain ⟨Ao101, co101, eo101⟩ := Kd.R_slice HO_250002.out
            subst eo101
            try go_wp2
            have n0_ := Aside0.mk (Kd.R_drew HO_7.out)
            have n1_ := Aside0.mk (Kd.R_drew HO_250002.out)
            have n2_ := Aside0.mk (blk_drew BK249.out)
            have n3_ := Aside0.mk (below_drew1 HB.out)
            clear HO_7; clear HO_250002; clear BK249; clear HB; have HO_7 := n0_; have HO_250002 := n1_; have BK249 := n2_; have HB := n3_; clear n0_ n1_ n2_ n3_
            have p269 : 0 ≤ ((ji67) : Int) := of_decide_eq_true (by first | (with_reducible assumption) | assumption)
            have q269 : (ji67) < (x7_3.length : Int) := of_decide_eq_true (by first | (with_reducible assumption) | assumption)
            obtain ⟨ad269, e269, hx269_0⟩ := Kd.at_int (Kd.R_reads' HO_7.out).2.2 (ji67) p269 q269
            cases e269
            replace p269 := eq_true p269
            replace q269 := eq_true q269
            refine start_ (n := 12) (S := fun w' => w'.cell? ⟨gb249, 0, none⟩ = some (.int .i64 x250000_3) ∧ w'.cell? ⟨gb249, 1, none⟩ = some (.string x250001_3) ∧ w'.cell? ⟨gb249, 2, none⟩ = some (.slice Ao101 x250002_3.length co101) ∧ w'.cell? (ad269.add ((ji67)).toNat) = some (.int .i64 (rd x7_3 (ji67)))) (ds := []) #[false, false, false, false, false, false, false, false, false, false, false, false] (by kernel_rfl) rfl rfl ⟨(blk_cell BK249.out 0).trans rfl, (blk_cell BK249.out 1).trans rfl, (blk_cell BK249.out 2).trans rfl, hx269_0⟩ (fun hHeld => ?_); refine with_tabW law7Adds.tab22 law7Adds.bits22 (fun HT_ HW_ => ?_)
            generalize wc.drew = w102 at HO_7 HO_250002 BK249 HB hx269_0 hHeld ⊢
            refine pure_ (i := 1) (N := some 97) (v := ?_) (a' := ?_) (bA_12 2) rfl rfl (any_of HT_.out (by kernel_rfl)) (fun _ _ _ h => h) (Or.inl ⟨by rfl, ?_⟩) ?_ ?_
            rotate_left; · (intro w'; go_simp; with_reducible rfl)
            rotate_left; · (simp only [Act.put, List.setIfInBounds_toArray, List.set_cons_zero, List.set_cons_succ, i64_w, i32_w]; rfl)
            refine pure_ (i := 2) (N := some 98) (v := ?_) (a' := ?_) (bA_12 6) rfl rfl (any_of HT_.out (by kernel_rfl)) (fun _ _ _ h => h) (Or.inl ⟨by rfl, ?_⟩) ?_ ?_
            rotate_left; · (intro w'; go_simp; with_reducible rfl)
            rotate_left; · (simp only [Act.put, List.setIfInBounds_toArray, List.set_cons_zero, List.set_cons_succ, i64_w, i32_w]; rfl)
            refine pure_ (i := 3) (N := some 99) (v := ?_) (a' := ?_) (bA_12 14) rfl rfl (any_of HT_.out (by kernel_rfl)) (fun _ _ _ h => h) (Or.inl ⟨by rfl, ?_⟩) ?_ ?_
            rotate_left; · (intro w'; go_simp; with_reducible rfl)
            rotate_left; · (simp only [Act.put, List.setIfInBounds_toArray, List.set_cons_zero, List.set_cons_succ, i64_w, i32_w]; rfl)
            refine take_ (i := 0) (N := some 96) (v := ?_) (a' := ?_) (bA_12 15) rfl rfl (take_ofW HT_.out HW_.out (by kernel_rfl)) (fun _ _ _ h => h) (Or.inl ⟨by rfl, ?_⟩) hHeld ?_ ?_
            rotate_left; · (rintro w' ⟨s0, s1, s2, s3⟩; go_simp; with_reducible rfl)
            rotate_left; · (simp only [Act.put, List.setIfInBounds_toArray, List.set_cons_zero, List.set_cons_succ, i64_w, i32_w]; rfl)
            refine take_ (i := 4) (N := some 100) (v := ?_) (a' := ?_) (bA_12 31) rfl rfl (take_ofW HT_.out HW_.out (by kernel_rfl)) (fun _ _ _ h => h) (Or.inl ⟨by rfl, ?_⟩) hHeld ?_ ?_
            rotate_left; · (rintro w' ⟨s0, s1, s2, s3⟩; go_simp; with_reducible rfl)
            rotate_left; · (simp only [Act.put, List.setIfInBounds_toArray, List.set_cons_zero, List.set_cons_succ, i64_w, i32_w]; rfl)
            refine join_ (σ := Value × Nat) 2 (bA_12 1023) (fun s_ => [(101, .tuple #[.agg #[.int .i64 t270, .string t271, s_.1], .bool true]), (15, .pointer (some ⟨s_.2, 0, none⟩)), (95, .tuple #[.agg #[.int .i64 t270, .string t271, s_.1], .bool true]), (102, .agg #[.int .i64 t270, .string t271, s_.1]), (103, .bool true)]) (fun s_ w' => (w'.cell? ⟨gb249, 0, none⟩ = some (.int .i64 x250000_3) ∧ w'.cell? ⟨gb249, 1, none⟩ = some (.string x250001_3) ∧ w'.cell? ⟨gb249, 2, none⟩ = some (.slice Ao101 x250002_3.length co101) ∧ w'.cell? (ad269.add ((ji67)).toNat) = some (.int .i64 (rd x7_3 (ji67)))) ∧ (Kd.R k72 72 w' w.heap.size (fun k_ => some k_ ≠ (.slice Ao101 x250002_3.length co101 : Value).ownBlock) s_.1 t272) ∧ (Kd.R k72 72 w' w.heap.size (fun k_ => some k_ ≠ (s_.1 : Value).ownBlock) (.slice Ao101 x250002_3.length co101) x250002_3) ∧ (Kd.R (Kd.int .i64) 3 w' w.heap.size (fun _ => True) (.slice (some ad269) x7_3.length co100) x7_3) ∧ (w'.heap[gb249]? = some (.cells #[.int .i64 x250000_3, .string x250001_3, .slice Ao101 x250002_3.length co101] 48 (0, 0))) ∧ (w'.heap[s_.2]? = some (.cells #[.int .i64 0, .string (⟨#[]⟩ : ByteArray), .slice none 0 0] 48 (0, 0))) ∧ (w.heap.size ≤ s_.2) ∧ (w.heap.size ≤ s_.2) ∧ (gb249 ≠ s_.2) ∧ (s_.2 ≠ gb249) ∧ (Below w.heap.size w w')) ?_ ?_
            rotate_left
            ·intro hCont
             refine two_ (i := 5) (j := 9) (Ni := some 101) (Nj := some 15) (bA_12 63) (bA_12 543) rfl rfl rfl rfl (two_of HT_.out (by kernel_rfl)) (by decide) (by decide) (fun K hK => ?_) (fun K hK => ?_)
             ·skip
              refine goes_ Try.func40 (by kernel_rfl) rfl #[.agg #[.int .i64 x250000_3, .string x250001_3, .slice Ao101 x250002_3.length co101], .int .i64 (rd x7_3 (ji67))] (by rfl) rfl rfl (by (try simp only [List.map_toArray, List.map_cons, List.map_nil]); first | done | (simp only [hji67]; rfl) | rfl | (simp only [List.length_drop, List.length_take]; rfl)) ?_
              with_reducible refine (journal_Drop.calls x250000_3 x250001_3 _ _ x250002_3 (rd x7_3 (ji67)) t270 t271 t272 true _ ?side1 ?side2 A70.out).mono ?_
              (case side1 => repeat (first | exact (Kd.R_reads' HO_250002.out).2.2 | (with_reducible refine Kd.C_alloc ?_ _) | (with_reducible refine Kd.C_drewN ?_ _) | (with_reducible refine Kd.C_drew ?_)))
              (case side2 => exact (Kd.R_reads' HO_250002.out).2.1)
              rintro e w103 ⟨v273, rfl, ho0, hb⟩
              have HS3_ := (hb.cell (World.block_lt_of_cell? _ _ (hHeld.2.2.2))).trans (hHeld.2.2.2)
              refine ⟨_, rfl, ?_⟩
              have n0_ := Aside0.mk (Kd.R_below (by (with_reducible repeat (first | apply Kd.R_alloc | apply Kd.R_drewN | apply Kd.R_drew)); exact HO_7.out) hb)
              have n1_ := Aside0.mk (Kd.R_elder' (by (with_reducible repeat (first | apply Kd.R_alloc | apply Kd.R_drewN | apply Kd.R_drew)); exact HO_250002.out) (Kd.R_base ho0) hb)
              have n2_ := Aside0.mk (Kd.R_lower (Kd.R_new' ho0 (Kd.R_lt (by (with_reducible repeat (first | apply Kd.R_alloc | apply Kd.R_drewN | apply Kd.R_drew)); exact HO_250002.out))) (below_size (by repeat (first | (with_reducible first | exact HB.out | apply below_alloc | apply pw_below_drewN | apply below_drew1 | refine below_set ?_ GE249.out) | exact HB.out))))
              have n3_ := Aside0.mk (blk_below (g := gb249) (o := .cells #[.int .i64 x250000_3, .string x250001_3, .slice Ao101 x250002_3.length co101] 48 (0, 0)) (by (with_reducible repeat (first | refine blk_drewN ?_ _ | refine blk_drew ?_ | refine blk_alloc ?_ _)); exact BK249.out) hb)
              have n4_ := Aside0.mk (below_step (by repeat (first | (with_reducible first | exact HB.out | apply below_alloc | apply pw_below_drewN | apply below_drew1 | refine below_set ?_ GE249.out) | exact HB.out)) hb)
              clear HO_7; clear HO_250002; clear BK249; clear HB; have HO_7 := n0_; have HO_250002 := n1_; have HO274 := n2_; have BK249 := n3_; have HB := n4_; clear n0_ n1_ n2_ n3_ n4_
              (try clear hb)
              (try clear hb2)
              (try clear hk)
              (try clear hi)
              (try clear ho0)
              refine hK.out _ _ ⟨(blk_cell BK249.out 0).trans rfl, (blk_cell BK249.out 1).trans rfl, (blk_cell BK249.out 2).trans rfl, HS3_⟩ (fun hHeld => ?_)
              clear hK K
              refine norm_ (a' := ?_) ?_ ?_
              rotate_left
              ·show Act.put _ (some 101) _ = _
               simp only [Act.put, List.setIfInBounds_toArray, List.set_cons_zero, List.set_cons_succ, i64_w, i32_w]
               rfl
              refine pure_ (i := 6) (N := some 95) (v := ?_) (a' := ?_) (bA_12 127) rfl rfl (any_of HT_.out (by kernel_rfl)) (fun _ _ _ h => h) (Or.inl ⟨by rfl, ?_⟩) ?_ ?_
              rotate_left; · (intro w'; go_simp; with_reducible rfl)
              rotate_left; · (simp only [Act.put, List.setIfInBounds_toArray, List.set_cons_zero, List.set_cons_succ, i64_w, i32_w]; rfl)
              refine pure_ (i := 7) (N := some 102) (v := ?_) (a' := ?_) (bA_12 255) rfl rfl (any_of HT_.out (by kernel_rfl)) (fun _ _ _ h => h) (Or.inl ⟨by rfl, ?_⟩) ?_ ?_
              rotate_left; · (intro w'; go_simp; with_reducible rfl)
              rotate_left; · (simp only [Act.put, List.setIfInBounds_toArray, List.set_cons_zero, List.set_cons_succ, i64_w, i32_w]; rfl)
              refine pure_ (i := 8) (N := some 103) (v := ?_) (a' := ?_) (bA_12 511) rfl rfl (any_of HT_.out (by kernel_rfl)) (fun _ _ _ h => h) (Or.inl ⟨by rfl, ?_⟩) ?_ ?_
              rotate_left; · (intro w'; go_simp; with_reducible rfl)
              rotate_left; · (simp only [Act.put, List.setIfInBounds_toArray, List.set_cons_zero, List.set_cons_succ, i64_w, i32_w]; rfl)
              refine one_ (i := 9) (N := some 15) (bA_12 1023) rfl rfl (one_of HT_.out (by kernel_rfl)) (by decide) (fun K hK => ?_)
              refine box_step ?hg (N := 15) ?hd (cs := #[.int .i64 0, .string (⟨#[]⟩ : ByteArray), .slice none 0 0]) (t := 48) ?hr ?_; (case hd => rfl); (case hg => rfl); (case hr => first | (go_simp; done) | (go_simp; rfl))
              intro gb276 hg w104 hbox hb
              have HS3_ := (hb.cell (World.block_lt_of_cell? _ _ (hHeld.2.2.2))).trans (hHeld.2.2.2)
              have n0_ := Aside0.mk (Kd.R_below (by (with_reducible repeat (first | apply Kd.R_alloc | apply Kd.R_drewN | apply Kd.R_drew)); exact HO_7.out) hb)
              have n1_ := Aside0.mk (Kd.R_below (by (with_reducible repeat (first | apply Kd.R_alloc | apply Kd.R_drewN | apply Kd.R_drew)); exact HO_250002.out) hb)
              have n2_ := Aside0.mk (Kd.R_below (by (with_reducible repeat (first | apply Kd.R_alloc | apply Kd.R_drewN | apply Kd.R_drew)); exact HO274.out) hb)
              have n3_ := Aside0.mk (blk_below (g := gb249) (o := .cells #[.int .i64 x250000_3, .string x250001_3, .slice Ao101 x250002_3.length co101] 48 (0, 0)) (by (with_reducible repeat (first | refine blk_drewN ?_ _ | refine blk_drew ?_ | refine blk_alloc ?_ _)); exact BK249.out) hb)
              have n4_ := Aside0.mk (below_step (by repeat (first | (with_reducible first | exact HB.out | apply below_alloc | apply pw_below_drewN | apply below_drew1 | refine below_set ?_ GE249.out) | exact HB.out)) hb)
              have n5_ := Aside0.mk (hbox)
              have n6_ := Aside0.mk ((by rw [hg]; exact (below_size (by repeat (first | (with_reducible first | exact HB.out | apply below_alloc | apply pw_below_drewN | apply below_drew1 | refine below_set ?_ GE249.out) | exact HB.out))) : w.heap.size ≤ gb276))
              have n7_ := Aside0.mk ((by rw [hg]; exact (below_size (by repeat (first | (with_reducible first | exact HB.out | apply below_alloc | apply pw_below_drewN | apply below_drew1 | refine below_set ?_ GE249.out) | exact HB.out))) : w.heap.size ≤ gb276))
              have n8_ := Aside0.mk ((by rw [hg]; exact Nat.ne_of_lt (blk_lt (g := gb249) (o := .cells #[.int .i64 x250000_3, .string x250001_3, .slice Ao101 x250002_3.length co101] 48 (0, 0)) (by (with_reducible repeat (first | refine blk_drewN ?_ _ | refine blk_drew ?_ | refine blk_alloc ?_ _)); exact BK249.out)) : gb249 ≠ gb276))
              have n9_ := Aside0.mk ((by rw [hg]; exact Nat.ne_of_gt (blk_lt (g := gb249) (o := .cells #[.int .i64 x250000_3, .string x250001_3, .slice Ao101 x250002_3.length co101] 48 (0, 0)) (by (with_reducible repeat (first | refine blk_drewN ?_ _ | refine blk_drew ?_ | refine blk_alloc ?_ _)); exact BK249.out)) : gb276 ≠ gb249))
              clear HO_7; clear HO_250002; clear HO274; clear BK249; clear HB; have HO_7 := n0_; have HO_250002 := n1_; have HO274 := n2_; have BK249 := n3_; have HB := n4_; have BK276 := n5_; have GW276 := n6_; have GE276 := n7_; have NB249_276 := n8_; have NB276_249 := n9_; clear n0_ n1_ n2_ n3_ n4_ n5_ n6_ n7_ n8_ n9_; clear hb hbox hg
              refine hK.out _ _ ⟨(blk_cell BK249.out 0).trans rfl, (blk_cell BK249.out 1).trans rfl, (blk_cell BK249.out 2).trans rfl, HS3_⟩ (fun hHeld => ?_)
              clear hK K
              refine norm_ (a' := ?_) ?_ ?_
              rotate_left
              ·show Act.put _ (some 15) _ = _
               simp only [Act.put, List.setIfInBounds_toArray, List.set_cons_zero, List.set_cons_succ, i64_w, i32_w]
               rfl
              exact norm_ (by simp only [putAll, Act.put, List.setIfInBounds_toArray, List.set_cons_zero, List.set_cons_succ]) (hCont (v273, gb276) _ ⟨hHeld, (by (with_reducible repeat (first | apply Kd.R_alloc | apply Kd.R_drewN | apply Kd.R_drew)); exact Kd.R_mono HO274.out (fun _ hk => hk.2)), (by (with_reducible repeat (first | apply Kd.R_alloc | apply Kd.R_drewN | apply Kd.R_drew)); exact Kd.R_mono HO_250002.out (fun _ hk => hk.2)), (by (with_reducible repeat (first | apply Kd.R_alloc | apply Kd.R_drewN | apply Kd.R_drew)); exact HO_7.out), (by (with_reducible repeat (first | refine blk_drewN ?_ _ | refine blk_drew ?_ | refine blk_alloc ?_ _)); exact BK249.out), (by (with_reducible repeat (first | refine blk_drewN ?_ _ | refine blk_drew ?_ | refine blk_alloc ?_ _)); exact BK276.out), GW276.out, GE276.out, NB249_276.out, NB276_249.out, (by repeat (first | (with_reducible first | exact HB.out | apply below_alloc | apply pw_below_drewN | apply below_drew1 | refine below_set ?_ GE249.out | refine below_set ?_ GE276.out) | exact HB.out))⟩)
             ·skip
              refine box_step ?hg (N := 15) ?hd (cs := #[.int .i64 0, .string (⟨#[]⟩ : ByteArray), .slice none 0 0]) (t := 48) ?hr ?_; (case hd => rfl); (case hg => rfl); (case hr => first | (go_simp; done) | (go_simp; rfl))
              intro gb276 hg w103 hbox hb
              have HS3_ := (hb.cell (World.block_lt_of_cell? _ _ (hHeld.2.2.2))).trans (hHeld.2.2.2)
              have n0_ := Aside0.mk (Kd.R_below (by (with_reducible repeat (first | apply Kd.R_alloc | apply Kd.R_drewN | apply Kd.R_drew)); exact HO_7.out) hb)
              have n1_ := Aside0.mk (Kd.R_below (by (with_reducible repeat (first | apply Kd.R_alloc | apply Kd.R_drewN | apply Kd.R_drew)); exact HO_250002.out) hb)
              have n2_ := Aside0.mk (blk_below (g := gb249) (o := .cells #[.int .i64 x250000_3, .string x250001_3, .slice Ao101 x250002_3.length co101] 48 (0, 0)) (by (with_reducible repeat (first | refine blk_drewN ?_ _ | refine blk_drew ?_ | refine blk_alloc ?_ _)); exact BK249.out) hb)
              have n3_ := Aside0.mk (below_step (by repeat (first | (with_reducible first | exact HB.out | apply below_alloc | apply pw_below_drewN | apply below_drew1 | refine below_set ?_ GE249.out) | exact HB.out)) hb)
              have n4_ := Aside0.mk (hbox)
              have n5_ := Aside0.mk ((by rw [hg]; exact (below_size (by repeat (first | (with_reducible first | exact HB.out | apply below_alloc | apply pw_below_drewN | apply below_drew1 | refine below_set ?_ GE249.out) | exact HB.out))) : w.heap.size ≤ gb276))
              have n6_ := Aside0.mk ((by rw [hg]; exact (below_size (by repeat (first | (with_reducible first | exact HB.out | apply below_alloc | apply pw_below_drewN | apply below_drew1 | refine below_set ?_ GE249.out) | exact HB.out))) : w.heap.size ≤ gb276))
              have n7_ := Aside0.mk ((by rw [hg]; exact Nat.ne_of_lt (blk_lt (g := gb249) (o := .cells #[.int .i64 x250000_3, .string x250001_3, .slice Ao101 x250002_3.length co101] 48 (0, 0)) (by (with_reducible repeat (first | refine blk_drewN ?_ _ | refine blk_drew ?_ | refine blk_alloc ?_ _)); exact BK249.out)) : gb249 ≠ gb276))
              have n8_ := Aside0.mk ((by rw [hg]; exact Nat.ne_of_gt (blk_lt (g := gb249) (o := .cells #[.int .i64 x250000_3, .string x250001_3, .slice Ao101 x250002_3.length co101] 48 (0, 0)) (by (with_reducible repeat (first | refine blk_drewN ?_ _ | refine blk_drew ?_ | refine blk_alloc ?_ _)); exact BK249.out)) : gb276 ≠ gb249))
              clear HO_7; clear HO_250002; clear BK249; clear HB; have HO_7 := n0_; have HO_250002 := n1_; have BK249 := n2_; have HB := n3_; have BK276 := n4_; have GW276 := n5_; have GE276 := n6_; have NB249_276 := n7_; have NB276_249 := n8_; clear n0_ n1_ n2_ n3_ n4_ n5_ n6_ n7_ n8_; clear hb hbox hg
              refine hK.out _ _ ⟨(blk_cell BK249.out 0).trans rfl, (blk_cell BK249.out 1).trans rfl, (blk_cell BK249.out 2).trans rfl, HS3_⟩ (fun hHeld => ?_)
              clear hK K
              refine norm_ (a' := ?_) ?_ ?_
              rotate_left
              ·show Act.put _ (some 15) _ = _
               simp only [Act.put, List.setIfInBounds_toArray, List.set_cons_zero, List.set_cons_succ, i64_w, i32_w]
               rfl
              refine one_ (i := 5) (N := some 101) (bA_12 575) rfl rfl (one_of HT_.out (by kernel_rfl)) (by decide) (fun K hK => ?_)
              refine goes_ Try.func40 (by kernel_rfl) rfl #[.agg #[.int .i64 x250000_3, .string x250001_3, .slice Ao101 x250002_3.length co101], .int .i64 (rd x7_3 (ji67))] (by rfl) rfl rfl (by (try simp only [List.map_toArray, List.map_cons, List.map_nil]); first | done | (simp only [hji67]; rfl) | rfl | (simp only [List.length_drop, List.length_take]; rfl)) ?_
              with_reducible refine (journal_Drop.calls x250000_3 x250001_3 _ _ x250002_3 (rd x7_3 (ji67)) t270 t271 t272 true _ ?side1 ?side2 A70.out).mono ?_
              (case side1 => repeat (first | exact (Kd.R_reads' HO_250002.out).2.2 | (with_reducible refine Kd.C_alloc ?_ _) | (with_reducible refine Kd.C_drewN ?_ _) | (with_reducible refine Kd.C_drew ?_)))
              (case side2 => exact (Kd.R_reads' HO_250002.out).2.1)
              rintro e w104 ⟨v273, rfl, ho0, hb⟩
              have HS3_ := (hb.cell (World.block_lt_of_cell? _ _ (hHeld.2.2.2))).trans (hHeld.2.2.2)
              refine ⟨_, rfl, ?_⟩
              have n0_ := Aside0.mk (Kd.R_below (by (with_reducible repeat (first | apply Kd.R_alloc | apply Kd.R_drewN | apply Kd.R_drew)); exact HO_7.out) hb)
              have n1_ := Aside0.mk (Kd.R_elder' (by (with_reducible repeat (first | apply Kd.R_alloc | apply Kd.R_drewN | apply Kd.R_drew)); exact HO_250002.out) (Kd.R_base ho0) hb)
              have n2_ := Aside0.mk (Kd.R_lower (Kd.R_new' ho0 (Kd.R_lt (by (with_reducible repeat (first | apply Kd.R_alloc | apply Kd.R_drewN | apply Kd.R_drew)); exact HO_250002.out))) (below_size (by repeat (first | (with_reducible first | exact HB.out | apply below_alloc | apply pw_below_drewN | apply below_drew1 | refine below_set ?_ GE249.out | refine below_set ?_ GE276.out) | exact HB.out))))
              have n3_ := Aside0.mk (blk_below (g := gb249) (o := .cells #[.int .i64 x250000_3, .string x250001_3, .slice Ao101 x250002_3.length co101] 48 (0, 0)) (by (with_reducible repeat (first | refine blk_drewN ?_ _ | refine blk_drew ?_ | refine blk_alloc ?_ _)); exact BK249.out) hb)
              have n4_ := Aside0.mk (blk_below (g := gb276) (o := .cells #[.int .i64 0, .string (⟨#[]⟩ : ByteArray), .slice none 0 0] 48 (0, 0)) (by (with_reducible repeat (first | refine blk_drewN ?_ _ | refine blk_drew ?_ | refine blk_alloc ?_ _)); exact BK276.out) hb)
              have n5_ := Aside0.mk (below_step (by repeat (first | (with_reducible first | exact HB.out | apply below_alloc | apply pw_below_drewN | apply below_drew1 | refine below_set ?_ GE249.out | refine below_set ?_ GE276.out) | exact HB.out)) hb)
              clear HO_7; clear HO_250002; clear BK249; clear BK276; clear HB; have HO_7 := n0_; have HO_250002 := n1_; have HO274 := n2_; have BK249 := n3_; have BK276 := n4_; have HB := n5_; clear n0_ n1_ n2_ n3_ n4_ n5_
              (try clear hb)
              (try clear hb2)
              (try clear hk)
              (try clear hi)
              (try clear ho0)
              refine hK.out _ _ ⟨(blk_cell BK249.out 0).trans rfl, (blk_cell BK249.out 1).trans rfl, (blk_cell BK249.out 2).trans rfl, HS3_⟩ (fun hHeld => ?_)
              clear hK K
              refine norm_ (a' := ?_) ?_ ?_
              rotate_left
              ·show Act.put _ (some 101) _ = _
               simp only [Act.put, List.setIfInBounds_toArray, List.set_cons_zero, List.set_cons_succ, i64_w, i32_w]
               rfl
              refine pure_ (i := 6) (N := some 95) (v := ?_) (a' := ?_) (bA_12 639) rfl rfl (any_of HT_.out (by kernel_rfl)) (fun _ _ _ h => h) (Or.inl ⟨by rfl, ?_⟩) ?_ ?_
              rotate_left; · (intro w'; go_simp; with_reducible rfl)
              rotate_left; · (simp only [Act.put, List.setIfInBounds_toArray, List.set_cons_zero, List.set_cons_succ, i64_w, i32_w]; rfl)
              refine pure_ (i := 7) (N := some 102) (v := ?_) (a' := ?_) (bA_12 767) rfl rfl (any_of HT_.out (by kernel_rfl)) (fun _ _ _ h => h) (Or.inl ⟨by rfl, ?_⟩) ?_ ?_
              rotate_left; · (intro w'; go_simp; with_reducible rfl)
              rotate_left; · (simp only [Act.put, List.setIfInBounds_toArray, List.set_cons_zero, List.set_cons_succ, i64_w, i32_w]; rfl)
              refine pure_ (i := 8) (N := some 103) (v := ?_) (a' := ?_) (bA_12 1023) rfl rfl (any_of HT_.out (by kernel_rfl)) (fun _ _ _ h => h) (Or.inl ⟨by rfl, ?_⟩) ?_ ?_
              rotate_left; · (intro w'; go_simp; with_reducible rfl)
              rotate_left; · (simp only [Act.put, List.setIfInBounds_toArray, List.set_cons_zero, List.set_cons_succ, i64_w, i32_w]; rfl)
              exact norm_ (by simp only [putAll, Act.put, List.setIfInBounds_toArray, List.set_cons_zero, List.set_cons_succ]) (hCont (v273, gb276) _ ⟨hHeld, (by (with_reducible repeat (first | apply Kd.R_alloc | apply Kd.R_drewN | apply Kd.R_drew)); exact Kd.R_mono HO274.out (fun _ hk => hk.2)), (by (with_reducible repeat (first | apply Kd.R_alloc | apply Kd.R_drewN | apply Kd.R_drew)); exact Kd.R_mono HO_250002.out (fun _ hk => hk.2)), (by (with_reducible repeat (first | apply Kd.R_alloc | apply Kd.R_drewN | apply Kd.R_drew)); exact HO_7.out), (by (with_reducible repeat (first | refine blk_drewN ?_ _ | refine blk_drew ?_ | refine blk_alloc ?_ _)); exact BK249.out), (by (with_reducible repeat (first | refine blk_drewN ?_ _ | refine blk_drew ?_ | refine blk_alloc ?_ _)); exact BK276.out), GW276.out, GE276.out, NB249_276.out, NB276_249.out, (by repeat (first | (with_reducible first | exact HB.out | apply below_alloc | apply pw_below_drewN | apply below_drew1 | refine below_set ?_ GE249.out | refine below_set ?_ GE276.out) | exact HB.out))⟩)
            rintro ⟨v273, gb276⟩ w105 ⟨hS_, h0_, h1_, h2_, h3_, h4_, h5_, h6_, h7_, h8_, h9_⟩
            have n0_ : Aside0 (Kd.R k72 72 w105 w.heap.size (fun k_ => some k_ ≠ (.slice Ao101 x250002_3.length co101 : Value).ownBlock) v273 t272) := ⟨h0_⟩
            have n1_ : Aside0 (Kd.R k72 72 w105 w.heap.size (fun k_ => some k_ ≠ (v273 : Value).ownBlock) (.slice Ao101 x250002_3.length co101) x250002_3) := ⟨h1_⟩
            have n2_ : Aside0 (Kd.R (Kd.int .i64) 3 w105 w.heap.size (fun _ => True) (.slice (some ad269) x7_3.length co100) x7_3) := ⟨h2_⟩
            have n3_ : Aside0 (w105.heap[gb249]? = some (.cells #[.int .i64 x250000_3, .string x250001_3, .slice Ao101 x250002_3.length co101] 48 (0, 0))) := ⟨h3_⟩
            have n4_ : Aside0 (w105.heap[gb276]? = some (.cells #[.int .i64 0, .string (⟨#[]⟩ : ByteArray), .slice none 0 0] 48 (0, 0))) := ⟨h4_⟩
            have n5_ : Aside0 (w.heap.size ≤ gb276) := ⟨h5_⟩
            have n6_ : Aside0 (w.heap.size ≤ gb276) := ⟨h6_⟩
            have n7_ : Aside0 (gb249 ≠ gb276) := ⟨h7_⟩
            have n8_ : Aside0 (gb276 ≠ gb249) := ⟨h8_⟩
            have n9_ : Aside0 (Below w.heap.size w w105) := ⟨h9_⟩
            clear HO_7; clear HO_250002; clear BK249; clear HB; clear h0_ h1_ h2_ h3_ h4_ h5_ h6_ h7_ h8_ h9_; have HO274 := n0_; have HO_250002 := n1_; have HO_7 := n2_; have BK249 := n3_; have BK276 := n4_; have GW276 := n5_; have GE276 := n6_; have NB249_276 := n7_; have NB276_249 := n8_; have HB := n9_; clear n0_ n1_ n2_ n3_ n4_ n5_ n6_ n7_ n8_ n9_
            have hHeld : w105.cell? ⟨gb249, 0, none⟩ = some (.int .i64 x250000_3) ∧ w105.cell? ⟨gb249, 1, none⟩ = some (.string x250001_3) ∧ w105.cell? ⟨gb249, 2, none⟩ = some (.slice Ao101 x250002_3.length co101) ∧ w105.cell? (ad269.add ((ji67)).toNat) = some (.int .i64 (rd x7_3 (ji67))) := hS_
            obtain ⟨Ao108, co108, eo108⟩ := Kd.R_slice HO274.out
            (first | subst eo108 | (injection eo108 with f1_ f2_ f3_; have f4_ := f1_.symm; have f5_ := f3_.symm; clear f1_ f2_ f3_; subst f4_; subst f5_))
            refine norm_ (a' := ?_) ?_ ?_
            rotate_left
            ·simp only [putAll, Act.put, List.setIfInBounds_toArray, List.set_cons_zero, List.set_cons_succ]
             rfl
            refine one_ (i := 10) (N := none) (bA_12 2047) rfl rfl (one_of HT_.out (by kernel_rfl)) (by decide) (fun K hK => ?_)
            have hs106 : w105.cell? ⟨gb276, 0, none⟩ = some (.int .i64 0) := (blk_cell BK276.out 0).trans rfl
            have hfs106 := blk_frozen BK276.out 0
            have hns106_0 := NB249_276.out
            have hms106_0 := NB276_249.out
            have hs107 : w105.cell? ⟨gb276, 1, none⟩ = some (.string (⟨#[]⟩ : ByteArray)) := (blk_cell BK276.out 1).trans rfl
            have hfs107 := blk_frozen BK276.out 1
            have hns107_0 := NB249_276.out
            have hms107_0 := NB276_249.out
            have hs109 : w105.cell? ⟨gb276, 2, none⟩ = some (.slice none 0 0) := (blk_cell BK276.out 2).trans rfl
            have hfs109 := blk_frozen BK276.out 2
            have hns109_0 := NB249_276.out
            have hms109_0 := NB276_249.out
            refine skip_ (w1 := ?_) (by rfl) rfl ?_ ?_
            rotate_left
            ·go_simp
             rfl
            refine hK.out _ _ ⟨((cell_far (p := ⟨gb276, _, none⟩) NB249_276.out _).trans (((cell_far (p := ⟨gb276, _, none⟩) NB249_276.out _).trans (((cell_far (p := ⟨gb276, _, none⟩) NB249_276.out _).trans (hHeld.1)))))), ((cell_far (p := ⟨gb276, _, none⟩) NB249_276.out _).trans (((cell_far (p := ⟨gb276, _, none⟩) NB249_276.out _).trans (((cell_far (p := ⟨gb276, _, none⟩) NB249_276.out _).trans (hHeld.2.1)))))), ((cell_far (p := ⟨gb276, _, none⟩) NB249_276.out _).trans (((cell_far (p := ⟨gb276, _, none⟩) NB249_276.out _).trans (((cell_far (p := ⟨gb276, _, none⟩) NB249_276.out _).trans (hHeld.2.2.1)))))), ((cell_far (p := ⟨gb276, _, none⟩) (by first | exact Kd.own_blk (Kd.R_ne HO_7.out BK276.out (by decide)) | (rw [add_block]; exact Kd.own_blk (Kd.R_ne HO_7.out BK276.out (by decide))) | (show (Addr.add _ _).block ≠ _; rw [add_block]; exact Kd.own_blk (Kd.R_ne HO_7.out BK276.out (by decide))) | (dsimp only; exact Kd.own_blk (Kd.R_ne HO_7.out BK276.out (by decide)))) _).trans (((cell_far (p := ⟨gb276, _, none⟩) (by first | exact Kd.own_blk (Kd.R_ne HO_7.out BK276.out (by decide)) | (rw [add_block]; exact Kd.own_blk (Kd.R_ne HO_7.out BK276.out (by decide))) | (show (Addr.add _ _).block ≠ _; rw [add_block]; exact Kd.own_blk (Kd.R_ne HO_7.out BK276.out (by decide))) | (dsimp only; exact Kd.own_blk (Kd.R_ne HO_7.out BK276.out (by decide)))) _).trans (((cell_far (p := ⟨gb276, _, none⟩) (by first | exact Kd.own_blk (Kd.R_ne HO_7.out BK276.out (by decide)) | (rw [add_block]; exact Kd.own_blk (Kd.R_ne HO_7.out BK276.out (by decide))) | (show (Addr.add _ _).block ≠ _; rw [add_block]; exact Kd.own_blk (Kd.R_ne HO_7.out BK276.out (by decide))) | (dsimp only; exact Kd.own_blk (Kd.R_ne HO_7.out BK276.out (by decide)))) _).trans (hHeld.2.2.2))))))⟩ (fun hHeld => ?_)
            clear hK K
            refine pure_ (i := 11) (N := some 16) (v := ?_) (a' := ?_) (bA_12 4095) rfl rfl (any_of HT_.out (by kernel_rfl)) (fun _ _ _ h => h) (Or.inl ⟨by rfl, ?_⟩) ?_ ?_
            rotate_left; · (intro w'; go_simp; with_reducible rfl)
            rotate_left; · (simp only [Act.put, List.setIfInBounds_toArray, List.set_cons_zero, List.set_cons_succ, i64_w, i32_w]; rfl)
            refine done_ (done_of HT_.out (by kernel_rfl)) ?_
            try go_wp2
            have n0_ : Aside0 (Kd.R (Kd.int .i64) 3 (((w105.setCell ⟨gb276, 0, none⟩ (.int .i64 t270)).setCell ⟨gb276, 1, none⟩ (.string t271)).setCell ⟨gb276, 2, none⟩ (.slice Ao108 t272.length co108)) w.heap.size (fun _ => True) (.slice (some ad269) x7_3.length co100) x7_3) := ⟨by (with_reducible repeat (first | apply Kd.R_alloc | apply Kd.R_drewN | apply Kd.R_drew)); exact Kd.R_mono (Kd.R_far (p := ⟨gb276, 2, none⟩) (Kd.R_far (p := ⟨gb276, 1, none⟩) (Kd.R_far (p := ⟨gb276, 0, none⟩) (Kd.R_types HO_7.out BK276.out (by decide)) (fun _ hk => hk.2) (.int .i64 t270)) (fun _ hk => hk.2) (.string t271)) (fun _ hk => hk.2) (.slice Ao108 t272.length co108)) (fun _ hk => trivial)⟩
            have n1_ : Aside0 (Kd.R k72 72 (((w105.setCell ⟨gb276, 0, none⟩ (.int .i64 t270)).setCell ⟨gb276, 1, none⟩ (.string t271)).setCell ⟨gb276, 2, none⟩ (.slice Ao108 t272.length co108)) w.heap.size (fun k_ => some k_ ≠ (.slice Ao108 t272.length co108 : Value).ownBlock) (.slice Ao101 x250002_3.length co101) x250002_3) := ⟨by (with_reducible repeat (first | apply Kd.R_alloc | apply Kd.R_drewN | apply Kd.R_drew)); exact Kd.R_mono (Kd.R_far (p := ⟨gb276, 2, none⟩) (Kd.R_far (p := ⟨gb276, 1, none⟩) (Kd.R_far (p := ⟨gb276, 0, none⟩) (Kd.R_types HO_250002.out BK276.out (by decide)) (fun _ hk => hk.2) (.int .i64 t270)) (fun _ hk => hk.2) (.string t271)) (fun _ hk => hk.2) (.slice Ao108 t272.length co108)) (fun _ hk => hk.1)⟩
            have n2_ : Aside0 (Kd.R k72 72 (((w105.setCell ⟨gb276, 0, none⟩ (.int .i64 t270)).setCell ⟨gb276, 1, none⟩ (.string t271)).setCell ⟨gb276, 2, none⟩ (.slice Ao108 t272.length co108)) w.heap.size (fun k_ => some k_ ≠ (.slice Ao101 x250002_3.length co101 : Value).ownBlock) (.slice Ao108 t272.length co108) t272) := ⟨by (with_reducible repeat (first | apply Kd.R_alloc | apply Kd.R_drewN | apply Kd.R_drew)); exact Kd.R_mono (Kd.R_far (p := ⟨gb276, 2, none⟩) (Kd.R_far (p := ⟨gb276, 1, none⟩) (Kd.R_far (p := ⟨gb276, 0, none⟩) (Kd.R_types HO274.out BK276.out (by decide)) (fun _ hk => hk.2) (.int .i64 t270)) (fun _ hk => hk.2) (.string t271)) (fun _ hk => hk.2) (.slice Ao108 t272.length co108)) (fun _ hk => hk.1)⟩
            have n3_ : Aside0 ((((w105.setCell ⟨gb276, 0, none⟩ (.int .i64 t270)).setCell ⟨gb276, 1, none⟩ (.string t271)).setCell ⟨gb276, 2, none⟩ (.slice Ao108 t272.length co108)).heap[gb249]? = some (.cells #[.int .i64 x250000_3, .string x250001_3, .slice Ao101 x250002_3.length co101] 48 (0, 0))) := ⟨by (with_reducible repeat (first | refine blk_drewN ?_ _ | refine blk_drew ?_ | refine blk_alloc ?_ _)); refine blk_far ?_ NB249_276.out _; (with_reducible repeat (first | refine blk_drewN ?_ _ | refine blk_drew ?_ | refine blk_alloc ?_ _)); refine blk_far ?_ NB249_276.out _; (with_reducible repeat (first | refine blk_drewN ?_ _ | refine blk_drew ?_ | refine blk_alloc ?_ _)); refine blk_far ?_ NB249_276.out _; (with_reducible repeat (first | refine blk_drewN ?_ _ | refine blk_drew ?_ | refine blk_alloc ?_ _)); exact BK249.out⟩
            have n4_ : Aside0 ((((w105.setCell ⟨gb276, 0, none⟩ (.int .i64 t270)).setCell ⟨gb276, 1, none⟩ (.string t271)).setCell ⟨gb276, 2, none⟩ (.slice Ao108 t272.length co108)).heap[gb276]? = some (.cells #[.int .i64 t270, .string t271, .slice Ao108 t272.length co108] 48 (0, 0))) := ⟨by (with_reducible repeat (first | refine blk_drewN ?_ _ | refine blk_drew ?_ | refine blk_alloc ?_ _)); refine blk_put (cs := #[.int .i64 t270, .string t271, .slice none 0 0]) ?_ 2 _ rfl; (with_reducible repeat (first | refine blk_drewN ?_ _ | refine blk_drew ?_ | refine blk_alloc ?_ _)); refine blk_put (cs := #[.int .i64 t270, .string (⟨#[]⟩ : ByteArray), .slice none 0 0]) ?_ 1 _ rfl; (with_reducible repeat (first | refine blk_drewN ?_ _ | refine blk_drew ?_ | refine blk_alloc ?_ _)); refine blk_put (cs := #[.int .i64 0, .string (⟨#[]⟩ : ByteArray), .slice none 0 0]) ?_ 0 _ rfl; (with_reducible repeat (first | refine blk_drewN ?_ _ | refine blk_drew ?_ | refine blk_alloc ?_ _)); exact BK276.out⟩
            have n5_ : Aside0 (Below w.heap.size w (((w105.setCell ⟨gb276, 0, none⟩ (.int .i64 t270)).setCell ⟨gb276, 1, none⟩ (.string t271)).setCell ⟨gb276, 2, none⟩ (.slice Ao108 t272.length co108))) := ⟨by repeat (first | (with_reducible first | exact HB.out | apply below_alloc | apply pw_below_drewN | apply below_drew1 | refine below_set ?_ GE249.out | refine below_set ?_ GE276.out) | exact HB.out)⟩
            (try clear HO_7)
            (try clear HO_250002)
            (try clear HO274)
            (try clear BK249)
            (try clear BK276)
            (try clear HB)
            generalize (((w105.setCell ⟨gb276, 0, none⟩ (.int .i64 t270)).setCell ⟨gb276, 1, none⟩ (.string t271)).setCell ⟨gb276, 2, none⟩ (.slice Ao108 t272.length co108)) = w110 at n0_ n1_ n2_ n3_ n4_ n5_ ⊢
            have HO_7 := n0_; have HO_250002 := n1_; have HO274 := n2_; have BK249 := n3_; have BK276 := n4_; have HB := n5_; clear n0_ n1_ n2_ n3_ n4_ n5_
            have n0_ := Aside0.mk (Kd.R_drew HO_7.out)
            have n1_ := Aside0.mk (Kd.R_drew HO_250002.out)
            have n2_ := Aside0.mk (Kd.R_drew HO274.out)
            have n3_ := Aside0.mk (blk_drew BK249.out)
            have n4_ := Aside0.mk (blk_drew BK276.out)
            have n5_ := Aside0.mk (below_drew1 HB.out)
            clear HO_7; clear HO_250002; clear HO274; clear BK249; clear BK276; clear HB; have HO_7 := n0_; have HO_250002 := n1_; have HO274 := n2_; have BK249 := n3_; have BK276 := n4_; have HB := n5_; clear n0_ n1_ n2_ n3_ n4_ n5_
            have p277 : 0 ≤ ((ji67) : Int) := of_decide_eq_true (by first | (with_reducible assumption) | assumption)
            have q277 : (ji67) < (x7_3.length : Int) := of_decide_eq_true (by first | (with_reducible assumption) | assumption)
            obtain ⟨ad277, e277, hx277_0⟩ := Kd.at_int (Kd.R_reads' HO_7.out).2.2 (ji67) p277 q277
            obtain rfl : ad269 = ad277 := (by injection e277)
            replace p277 := eq_true p277
            replace q277 := eq_true q277
            refine start_ (n := 12) (S := fun w' => w'.cell? ⟨gb276, 0, none⟩ = some (.int .i64 t270) ∧ w'.cell? ⟨gb276, 1, none⟩ = some (.string t271) ∧ w'.cell? ⟨gb276, 2, none⟩ = some (.slice Ao108 t272.length co108) ∧ w'.cell? (ad269.add ((ji67)).toNat) = some (.int .i64 (rd x7_3 (ji67)))) (ds := []) #[false, false, false, false, false, false, false, false, false, false, false, false] (by kernel_rfl) rfl rfl ⟨(blk_cell BK276.out 0).trans rfl, (blk_cell BK276.out 1).trans rfl, (blk_cell BK276.out 2).trans rfl, hx277_0⟩ (fun hHeld => ?_); refine with_tabW law7Adds.tab23 law7Adds.bits23 (fun HT_ HW_ => ?_)
            generalize w110.drew = w111 at HO_7 HO_250002 HO274 BK249 BK276 HB hx277_0 hHeld ⊢
            refine pure_ (i := 1) (N := some 106) (v := ?_) (a' := ?_) (bA_12 2) rfl rfl (any_of HT_.out (by kernel_rfl)) (fun _ _ _ h => h) (Or.inl ⟨by rfl, ?_⟩) ?_ ?_
            rotate_left; · (intro w'; go_simp; with_reducible rfl)
            rotate_left; · (simp only [Act.put, List.setIfInBounds_toArray, List.set_cons_zero, List.set_cons_succ, i64_w, i32_w]; rfl)
            refine pure_ (i := 2) (N := some 107) (v := ?_) (a' := ?_) (bA_12 6) rfl rfl (any_of HT_.out (by kernel_rfl)) (fun _ _ _ h => h) (Or.inl ⟨by rfl, ?_⟩) ?_ ?_
            rotate_left; · (intro w'; go_simp; with_reducible rfl)
            rotate_left; · (simp only [Act.put, List.setIfInBounds_toArray, List.set_cons_zero, List.set_cons_succ, i64_w, i32_w]; rfl)
            refine pure_ (i := 3) (N := some 108) (v := ?_) (a' := ?_) (bA_12 14) rfl rfl (any_of HT_.out (by kernel_rfl)) (fun _ _ _ h => h) (Or.inl ⟨by rfl, ?_⟩) ?_ ?_
            rotate_left; · (intro w'; go_simp; with_reducible rfl)
            rotate_left; · (simp only [Act.put, List.setIfInBounds_toArray, List.set_cons_zero, List.set_cons_succ, i64_w, i32_w]; rfl)
            refine take_ (i := 0) (N := some 105) (v := ?_) (a' := ?_) (bA_12 15) rfl rfl (take_ofW HT_.out HW_.out (by kernel_rfl)) (fun _ _ _ h => h) (Or.inl ⟨by rfl, ?_⟩) hHeld ?_ ?_
            rotate_left; · (rintro w' ⟨s0, s1, s2, s3⟩; go_simp; with_reducible rfl)
            rotate_left; · (simp only [Act.put, List.setIfInBounds_toArray, List.set_cons_zero, List.set_cons_succ, i64_w, i32_w]; rfl)
            refine take_ (i := 4) (N := some 109) (v := ?_) (a' := ?_) (bA_12 31) rfl rfl (take_ofW HT_.out HW_.out (by kernel_rfl)) (fun _ _ _ h => h) (Or.inl ⟨by rfl, ?_⟩) hHeld ?_ ?_
            rotate_left; · (rintro w' ⟨s0, s1, s2, s3⟩; go_simp; with_reducible rfl)
            rotate_left; · (simp only [Act.put, List.setIfInBounds_toArray, List.set_cons_zero, List.set_cons_succ, i64_w, i32_w]; rfl)
            refine join_ (σ := Value × Nat) 2 (bA_12 1023) (fun s_ => [(110, .tuple #[.agg #[.int .i64 t278, .string t279, s_.1], .bool false]), (17, .pointer (some ⟨s_.2, 0, none⟩)), (104, .tuple #[.agg #[.int .i64 t278, .string t279, s_.1], .bool false]), (111, .agg #[.int .i64 t278, .string t279, s_.1]), (112, .bool false)]) (fun s_ w' => (w'.cell? ⟨gb276, 0, none⟩ = some (.int .i64 t270) ∧ w'.cell? ⟨gb276, 1, none⟩ = some (.string t271) ∧ w'.cell? ⟨gb276, 2, none⟩ = some (.slice Ao108 t272.length co108) ∧ w'.cell? (ad269.add ((ji67)).toNat) = some (.int .i64 (rd x7_3 (ji67)))) ∧ (Kd.R k72 72 w' w.heap.size (fun k_ => some k_ ≠ (s_.1 : Value).ownBlock ∧ some k_ ≠ (.slice Ao101 x250002_3.length co101 : Value).ownBlock) (.slice Ao108 t272.length co108) t272) ∧ (Kd.R k72 72 w' w.heap.size (fun k_ => some k_ ≠ (.slice Ao108 t272.length co108 : Value).ownBlock ∧ some k_ ≠ (.slice Ao101 x250002_3.length co101 : Value).ownBlock) s_.1 t280) ∧ (Kd.R k72 72 w' w.heap.size (fun k_ => some k_ ≠ (.slice Ao108 t272.length co108 : Value).ownBlock ∧ some k_ ≠ (s_.1 : Value).ownBlock) (.slice Ao101 x250002_3.length co101) x250002_3) ∧ (Kd.R (Kd.int .i64) 3 w' w.heap.size (fun _ => True) (.slice (some ad269) x7_3.length co100) x7_3) ∧ (w'.heap[gb249]? = some (.cells #[.int .i64 x250000_3, .string x250001_3, .slice Ao101 x250002_3.length co101] 48 (0, 0))) ∧ (w'.heap[gb276]? = some (.cells #[.int .i64 t270, .string t271, .slice Ao108 t272.length co108] 48 (0, 0))) ∧ (w'.heap[s_.2]? = some (.cells #[.int .i64 0, .string (⟨#[]⟩ : ByteArray), .slice none 0 0] 48 (0, 0))) ∧ (w.heap.size ≤ s_.2) ∧ (w.heap.size ≤ s_.2) ∧ (gb249 ≠ s_.2) ∧ (s_.2 ≠ gb249) ∧ (gb276 ≠ s_.2) ∧ (s_.2 ≠ gb276) ∧ (Below w.heap.size w w')) ?_ ?_
            rotate_left
            ·intro hCont
             refine two_ (i := 5) (j := 9) (Ni := some 110) (Nj := some 17) (bA_12 63) (bA_12 543) rfl rfl rfl rfl (two_of HT_.out (by kernel_rfl)) (by decide) (by decide) (fun K hK => ?_) (fun K hK => ?_)
             ·skip
              refine goes_ Try.func40 (by kernel_rfl) rfl #[.agg #[.int .i64 t270, .string t271, .slice Ao108 t272.length co108], .int .i64 (rd x7_3 (ji67))] (by rfl) rfl rfl (by (try simp only [List.map_toArray, List.map_cons, List.map_nil]); first | done | (simp only [hji67]; rfl) | rfl | (simp only [List.length_drop, List.length_take]; rfl)) ?_
              with_reducible refine (journal_Drop.calls t270 t271 _ _ t272 (rd x7_3 (ji67)) t278 t279 t280 false _ ?side1 ?side2 A71.out).mono ?_
              (case side1 => repeat (first | exact (Kd.R_reads' HO274.out).2.2 | (with_reducible refine Kd.C_alloc ?_ _) | (with_reducible refine Kd.C_drewN ?_ _) | (with_reducible refine Kd.C_drew ?_)))
              (case side2 => exact (Kd.R_reads' HO274.out).2.1)
              rintro e w112 ⟨v281, rfl, ho0, hb⟩
              have HS3_ := (hb.cell (World.block_lt_of_cell? _ _ (hHeld.2.2.2))).trans (hHeld.2.2.2)
              refine ⟨_, rfl, ?_⟩
              have n0_ := Aside0.mk (Kd.R_below (by (with_reducible repeat (first | apply Kd.R_alloc | apply Kd.R_drewN | apply Kd.R_drew)); exact HO_7.out) hb)
              have n1_ := Aside0.mk (Kd.R_elder' (by (with_reducible repeat (first | apply Kd.R_alloc | apply Kd.R_drewN | apply Kd.R_drew)); exact HO_250002.out) (Kd.R_base ho0) hb)
              have n2_ := Aside0.mk (Kd.R_elder' (by (with_reducible repeat (first | apply Kd.R_alloc | apply Kd.R_drewN | apply Kd.R_drew)); exact HO274.out) (Kd.R_base ho0) hb)
              have n3_ := Aside0.mk (Kd.R_lower (Kd.R_new' (Kd.R_new' ho0 (Kd.R_lt (by (with_reducible repeat (first | apply Kd.R_alloc | apply Kd.R_drewN | apply Kd.R_drew)); exact HO_250002.out))) (Kd.R_lt (by (with_reducible repeat (first | apply Kd.R_alloc | apply Kd.R_drewN | apply Kd.R_drew)); exact HO274.out))) (below_size (by repeat (first | (with_reducible first | exact HB.out | apply below_alloc | apply pw_below_drewN | apply below_drew1 | refine below_set ?_ GE249.out | refine below_set ?_ GE276.out) | exact HB.out))))
              have n4_ := Aside0.mk (blk_below (g := gb249) (o := .cells #[.int .i64 x250000_3, .string x250001_3, .slice Ao101 x250002_3.length co101] 48 (0, 0)) (by (with_reducible repeat (first | refine blk_drewN ?_ _ | refine blk_drew ?_ | refine blk_alloc ?_ _)); exact BK249.out) hb)
              have n5_ := Aside0.mk (blk_below (g := gb276) (o := .cells #[.int .i64 t270, .string t271, .slice Ao108 t272.length co108] 48 (0, 0)) (by (with_reducible repeat (first | refine blk_drewN ?_ _ | refine blk_drew ?_ | refine blk_alloc ?_ _)); exact BK276.out) hb)
              have n6_ := Aside0.mk (below_step (by repeat (first | (with_reducible first | exact HB.out | apply below_alloc | apply pw_below_drewN | apply below_drew1 | refine below_set ?_ GE249.out | refine below_set ?_ GE276.out) | exact HB.out)) hb)
              clear HO_7; clear HO_250002; clear HO274; clear BK249; clear BK276; clear HB; have HO_7 := n0_; have HO_250002 := n1_; have HO274 := n2_; have HO282 := n3_; have BK249 := n4_; have BK276 := n5_; have HB := n6_; clear n0_ n1_ n2_ n3_ n4_ n5_ n6_
              (try clear hb)
              (try clear hb2)
              (try clear hk)
              (try clear hi)
              (try clear ho0)
              refine hK.out _ _ ⟨(blk_cell BK276.out 0).trans rfl, (blk_cell BK276.out 1).trans rfl, (blk_cell BK276.out 2).trans rfl, HS3_⟩ (fun hHeld => ?_)
              clear hK K
              refine norm_ (a' := ?_) ?_ ?_
              rotate_left
              ·show Act.put _ (some 110) _ = _
               simp only [Act.put, List.setIfInBounds_toArray, List.set_cons_zero, List.set_cons_succ, i64_w, i32_w]
               rfl
              refine pure_ (i := 6) (N := some 104) (v := ?_) (a' := ?_) (bA_12 127) rfl rfl (any_of HT_.out (by kernel_rfl)) (fun _ _ _ h => h) (Or.inl ⟨by rfl, ?_⟩) ?_ ?_
              rotate_left; · (intro w'; go_simp; with_reducible rfl)
              rotate_left; · (simp only [Act.put, List.setIfInBounds_toArray, List.set_cons_zero, List.set_cons_succ, i64_w, i32_w]; rfl)
              refine pure_ (i := 7) (N := some 111) (v := ?_) (a' := ?_) (bA_12 255) rfl rfl (any_of HT_.out (by kernel_rfl)) (fun _ _ _ h => h) (Or.inl ⟨by rfl, ?_⟩) ?_ ?_
              rotate_left; · (intro w'; go_simp; with_reducible rfl)
              rotate_left; · (simp only [Act.put, List.setIfInBounds_toArray, List.set_cons_zero, List.set_cons_succ, i64_w, i32_w]; rfl)
              refine pure_ (i := 8) (N := some 112) (v := ?_) (a' := ?_) (bA_12 511) rfl rfl (any_of HT_.out (by kernel_rfl)) (fun _ _ _ h => h) (Or.inl ⟨by rfl, ?_⟩) ?_ ?_
              rotate_left; · (intro w'; go_simp; with_reducible rfl)
              rotate_left; · (simp only [Act.put, List.setIfInBounds_toArray, List.set_cons_zero, List.set_cons_succ, i64_w, i32_w]; rfl)
              refine one_ (i := 9) (N := some 17) (bA_12 1023) rfl rfl (one_of HT_.out (by kernel_rfl)) (by decide) (fun K hK => ?_)
              refine box_step ?hg (N := 17) ?hd (cs := #[.int .i64 0, .string (⟨#[]⟩ : ByteArray), .slice none 0 0]) (t := 48) ?hr ?_; (case hd => rfl); (case hg => rfl); (case hr => first | (go_simp; done) | (go_simp; rfl))
              intro gb284 hg w113 hbox hb
              have HS3_ := (hb.cell (World.block_lt_of_cell? _ _ (hHeld.2.2.2))).trans (hHeld.2.2.2)
              have n0_ := Aside0.mk (Kd.R_below (by (with_reducible repeat (first | apply Kd.R_alloc | apply Kd.R_drewN | apply Kd.R_drew)); exact HO_7.out) hb)
              have n1_ := Aside0.mk (Kd.R_below (by (with_reducible repeat (first | apply Kd.R_alloc | apply Kd.R_drewN | apply Kd.R_drew)); exact HO_250002.out) hb)
              have n2_ := Aside0.mk (Kd.R_below (by (with_reducible repeat (first | apply Kd.R_alloc | apply Kd.R_drewN | apply Kd.R_drew)); exact HO274.out) hb)
              have n3_ := Aside0.mk (Kd.R_below (by (with_reducible repeat (first | apply Kd.R_alloc | apply Kd.R_drewN | apply Kd.R_drew)); exact HO282.out) hb)
              have n4_ := Aside0.mk (blk_below (g := gb249) (o := .cells #[.int .i64 x250000_3, .string x250001_3, .slice Ao101 x250002_3.length co101] 48 (0, 0)) (by (with_reducible repeat (first | refine blk_drewN ?_ _ | refine blk_drew ?_ | refine blk_alloc ?_ _)); exact BK249.out) hb)
              have n5_ := Aside0.mk (blk_below (g := gb276) (o := .cells #[.int .i64 t270, .string t271, .slice Ao108 t272.length co108] 48 (0, 0)) (by (with_reducible repeat (first | refine blk_drewN ?_ _ | refine blk_drew ?_ | refine blk_alloc ?_ _)); exact BK276.out) hb)
              have n6_ := Aside0.mk (below_step (by repeat (first | (with_reducible first | exact HB.out | apply below_alloc | apply pw_below_drewN | apply below_drew1 | refine below_set ?_ GE249.out | refine below_set ?_ GE276.out) | exact HB.out)) hb)
              have n7_ := Aside0.mk (hbox)
              have n8_ := Aside0.mk ((by rw [hg]; exact (below_size (by repeat (first | (with_reducible first | exact HB.out | apply below_alloc | apply pw_below_drewN | apply below_drew1 | refine below_set ?_ GE249.out | refine below_set ?_ GE276.out) | exact HB.out))) : w.heap.size ≤ gb284))
              have n9_ := Aside0.mk ((by rw [hg]; exact (below_size (by repeat (first | (with_reducible first | exact HB.out | apply below_alloc | apply pw_below_drewN | apply below_drew1 | refine below_set ?_ GE249.out | refine below_set ?_ GE276.out) | exact HB.out))) : w.heap.size ≤ gb284))
              have n10_ := Aside0.mk ((by rw [hg]; exact Nat.ne_of_lt (blk_lt (g := gb249) (o := .cells #[.int .i64 x250000_3, .string x250001_3, .slice Ao101 x250002_3.length co101] 48 (0, 0)) (by (with_reducible repeat (first | refine blk_drewN ?_ _ | refine blk_drew ?_ | refine blk_alloc ?_ _)); exact BK249.out)) : gb249 ≠ gb284))
              have n11_ := Aside0.mk ((by rw [hg]; exact Nat.ne_of_gt (blk_lt (g := gb249) (o := .cells #[.int .i64 x250000_3, .string x250001_3, .slice Ao101 x250002_3.length co101] 48 (0, 0)) (by (with_reducible repeat (first | refine blk_drewN ?_ _ | refine blk_drew ?_ | refine blk_alloc ?_ _)); exact BK249.out)) : gb284 ≠ gb249))
              have n12_ := Aside0.mk ((by rw [hg]; exact Nat.ne_of_lt (blk_lt (g := gb276) (o := .cells #[.int .i64 t270, .string t271, .slice Ao108 t272.length co108] 48 (0, 0)) (by (with_reducible repeat (first | refine blk_drewN ?_ _ | refine blk_drew ?_ | refine blk_alloc ?_ _)); exact BK276.out)) : gb276 ≠ gb284))
              have n13_ := Aside0.mk ((by rw [hg]; exact Nat.ne_of_gt (blk_lt (g := gb276) (o := .cells #[.int .i64 t270, .string t271, .slice Ao108 t272.length co108] 48 (0, 0)) (by (with_reducible repeat (first | refine blk_drewN ?_ _ | refine blk_drew ?_ | refine blk_alloc ?_ _)); exact BK276.out)) : gb284 ≠ gb276))
              clear HO_7; clear HO_250002; clear HO274; clear HO282; clear BK249; clear BK276; clear HB; have HO_7 := n0_; have HO_250002 := n1_; have HO274 := n2_; have HO282 := n3_; have BK249 := n4_; have BK276 := n5_; have HB := n6_; have BK284 := n7_; have GW284 := n8_; have GE284 := n9_; have NB249_284 := n10_; have NB284_249 := n11_; have NB276_284 := n12_; have NB284_276 := n13_; clear n0_ n1_ n2_ n3_ n4_ n5_ n6_ n7_ n8_ n9_ n10_ n11_ n12_ n13_; clear hb hbox hg
              refine hK.out _ _ ⟨(blk_cell BK276.out 0).trans rfl, (blk_cell BK276.out 1).trans rfl, (blk_cell BK276.out 2).trans rfl, HS3_⟩ (fun hHeld => ?_)
              clear hK K
              refine norm_ (a' := ?_) ?_ ?_
              rotate_left
              ·show Act.put _ (some 17) _ = _
               simp only [Act.put, List.setIfInBounds_toArray, List.set_cons_zero, List.set_cons_succ, i64_w, i32_w]
               rfl
              exact norm_ (by simp only [putAll, Act.put, List.setIfInBounds_toArray, List.set_cons_zero, List.set_cons_succ]) (hCont (v281, gb284) _ ⟨hHeld, (by (with_reducible repeat (first | apply Kd.R_alloc | apply Kd.R_drewN | apply Kd.R_drew)); exact Kd.R_mono HO274.out (fun _ hk => ⟨hk.2, hk.1⟩)), (by (with_reducible repeat (first | apply Kd.R_alloc | apply Kd.R_drewN | apply Kd.R_drew)); exact Kd.R_mono HO282.out (fun _ hk => ⟨hk.2, hk.1.2⟩)), (by (with_reducible repeat (first | apply Kd.R_alloc | apply Kd.R_drewN | apply Kd.R_drew)); exact HO_250002.out), (by (with_reducible repeat (first | apply Kd.R_alloc | apply Kd.R_drewN | apply Kd.R_drew)); exact HO_7.out), (by (with_reducible repeat (first | refine blk_drewN ?_ _ | refine blk_drew ?_ | refine blk_alloc ?_ _)); exact BK249.out), (by (with_reducible repeat (first | refine blk_drewN ?_ _ | refine blk_drew ?_ | refine blk_alloc ?_ _)); exact BK276.out), (by (with_reducible repeat (first | refine blk_drewN ?_ _ | refine blk_drew ?_ | refine blk_alloc ?_ _)); exact BK284.out), GW284.out, GE284.out, NB249_284.out, NB284_249.out, NB276_284.out, NB284_276.out, (by repeat (first | (with_reducible first | exact HB.out | apply below_alloc | apply pw_below_drewN | apply below_drew1 | refine below_set ?_ GE249.out | refine below_set ?_ GE276.out | refine below_set ?_ GE284.out) | exact HB.out))⟩)
             ·skip
              refine box_step ?hg (N := 17) ?hd (cs := #[.int .i64 0, .string (⟨#[]⟩ : ByteArray), .slice none 0 0]) (t := 48) ?hr ?_; (case hd => rfl); (case hg => rfl); (case hr => first | (go_simp; done) | (go_simp; rfl))
              intro gb284 hg w112 hbox hb
              have HS3_ := (hb.cell (World.block_lt_of_cell? _ _ (hHeld.2.2.2))).trans (hHeld.2.2.2)
              have n0_ := Aside0.mk (Kd.R_below (by (with_reducible repeat (first | apply Kd.R_alloc | apply Kd.R_drewN | apply Kd.R_drew)); exact HO_7.out) hb)
              have n1_ := Aside0.mk (Kd.R_below (by (with_reducible repeat (first | apply Kd.R_alloc | apply Kd.R_drewN | apply Kd.R_drew)); exact HO_250002.out) hb)
              have n2_ := Aside0.mk (Kd.R_below (by (with_reducible repeat (first | apply Kd.R_alloc | apply Kd.R_drewN | apply Kd.R_drew)); exact HO274.out) hb)
              have n3_ := Aside0.mk (blk_below (g := gb249) (o := .cells #[.int .i64 x250000_3, .string x250001_3, .slice Ao101 x250002_3.length co101] 48 (0, 0)) (by (with_reducible repeat (first | refine blk_drewN ?_ _ | refine blk_drew ?_ | refine blk_alloc ?_ _)); exact BK249.out) hb)
              have n4_ := Aside0.mk (blk_below (g := gb276) (o := .cells #[.int .i64 t270, .string t271, .slice Ao108 t272.length co108] 48 (0, 0)) (by (with_reducible repeat (first | refine blk_drewN ?_ _ | refine blk_drew ?_ | refine blk_alloc ?_ _)); exact BK276.out) hb)
              have n5_ := Aside0.mk (below_step (by repeat (first | (with_reducible first | exact HB.out | apply below_alloc | apply pw_below_drewN | apply below_drew1 | refine below_set ?_ GE249.out | refine below_set ?_ GE276.out) | exact HB.out)) hb)
              have n6_ := Aside0.mk (hbox)
              have n7_ := Aside0.mk ((by rw [hg]; exact (below_size (by repeat (first | (with_reducible first | exact HB.out | apply below_alloc | apply pw_below_drewN | apply below_drew1 | refine below_set ?_ GE249.out | refine below_set ?_ GE276.out) | exact HB.out))) : w.heap.size ≤ gb284))
              have n8_ := Aside0.mk ((by rw [hg]; exact (below_size (by repeat (first | (with_reducible first | exact HB.out | apply below_alloc | apply pw_below_drewN | apply below_drew1 | refine below_set ?_ GE249.out | refine below_set ?_ GE276.out) | exact HB.out))) : w.heap.size ≤ gb284))
              have n9_ := Aside0.mk ((by rw [hg]; exact Nat.ne_of_lt (blk_lt (g := gb249) (o := .cells #[.int .i64 x250000_3, .string x250001_3, .slice Ao101 x250002_3.length co101] 48 (0, 0)) (by (with_reducible repeat (first | refine blk_drewN ?_ _ | refine blk_drew ?_ | refine blk_alloc ?_ _)); exact BK249.out)) : gb249 ≠ gb284))
              have n10_ := Aside0.mk ((by rw [hg]; exact Nat.ne_of_gt (blk_lt (g := gb249) (o := .cells #[.int .i64 x250000_3, .string x250001_3, .slice Ao101 x250002_3.length co101] 48 (0, 0)) (by (with_reducible repeat (first | refine blk_drewN ?_ _ | refine blk_drew ?_ | refine blk_alloc ?_ _)); exact BK249.out)) : gb284 ≠ gb249))
              have n11_ := Aside0.mk ((by rw [hg]; exact Nat.ne_of_lt (blk_lt (g := gb276) (o := .cells #[.int .i64 t270, .string t271, .slice Ao108 t272.length co108] 48 (0, 0)) (by (with_reducible repeat (first | refine blk_drewN ?_ _ | refine blk_drew ?_ | refine blk_alloc ?_ _)); exact BK276.out)) : gb276 ≠ gb284))
              have n12_ := Aside0.mk ((by rw [hg]; exact Nat.ne_of_gt (blk_lt (g := gb276) (o := .cells #[.int .i64 t270, .string t271, .slice Ao108 t272.length co108] 48 (0, 0)) (by (with_reducible repeat (first | refine blk_drewN ?_ _ | refine blk_drew ?_ | refine blk_alloc ?_ _)); exact BK276.out)) : gb284 ≠ gb276))
              clear HO_7; clear HO_250002; clear HO274; clear BK249; clear BK276; clear HB; have HO_7 := n0_; have HO_250002 := n1_; have HO274 := n2_; have BK249 := n3_; have BK276 := n4_; have HB := n5_; have BK284 := n6_; have GW284 := n7_; have GE284 := n8_; have NB249_284 := n9_; have NB284_249 := n10_; have NB276_284 := n11_; have NB284_276 := n12_; clear n0_ n1_ n2_ n3_ n4_ n5_ n6_ n7_ n8_ n9_ n10_ n11_ n12_; clear hb hbox hg
              refine hK.out _ _ ⟨(blk_cell BK276.out 0).trans rfl, (blk_cell BK276.out 1).trans rfl, (blk_cell BK276.out 2).trans rfl, HS3_⟩ (fun hHeld => ?_)
              clear hK K
              refine norm_ (a' := ?_) ?_ ?_
              rotate_left
              ·show Act.put _ (some 17) _ = _
               simp only [Act.put, List.setIfInBounds_toArray, List.set_cons_zero, List.set_cons_succ, i64_w, i32_w]
               rfl
              refine one_ (i := 5) (N := some 110) (bA_12 575) rfl rfl (one_of HT_.out (by kernel_rfl)) (by decide) (fun K hK => ?_)
              refine goes_ Try.func40 (by kernel_rfl) rfl #[.agg #[.int .i64 t270, .string t271, .slice Ao108 t272.length co108], .int .i64 (rd x7_3 (ji67))] (by rfl) rfl rfl (by (try simp only [List.map_toArray, List.map_cons, List.map_nil]); first | done | (simp only [hji67]; rfl) | rfl | (simp only [List.length_drop, List.length_take]; rfl)) ?_
              with_reducible refine (journal_Drop.calls t270 t271 _ _ t272 (rd x7_3 (ji67)) t278 t279 t280 false _ ?side1 ?side2 A71.out).mono ?_
              (case side1 => repeat (first | exact (Kd.R_reads' HO274.out).2.2 | (with_reducible refine Kd.C_alloc ?_ _) | (with_reducible refine Kd.C_drewN ?_ _) | (with_reducible refine Kd.C_drew ?_)))
              (case side2 => exact (Kd.R_reads' HO274.out).2.1)
              rintro e w113 ⟨v281, rfl, ho0, hb⟩
              have HS3_ := (hb.cell (World.block_lt_of_cell? _ _ (hHeld.2.2.2))).trans (hHeld.2.2.2)
              refine ⟨_, rfl, ?_⟩
              have n0_ := Aside0.mk (Kd.R_below (by (with_reducible repeat (first | apply Kd.R_alloc | apply Kd.R_drewN | apply Kd.R_drew)); exact HO_7.out) hb)
              have n1_ := Aside0.mk (Kd.R_elder' (by (with_reducible repeat (first | apply Kd.R_alloc | apply Kd.R_drewN | apply Kd.R_drew)); exact HO_250002.out) (Kd.R_base ho0) hb)
              have n2_ := Aside0.mk (Kd.R_elder' (by (with_reducible repeat (first | apply Kd.R_alloc | apply Kd.R_drewN | apply Kd.R_drew)); exact HO274.out) (Kd.R_base ho0) hb)
              have n3_ := Aside0.mk (Kd.R_lower (Kd.R_new' (Kd.R_new' ho0 (Kd.R_lt (by (with_reducible repeat (first | apply Kd.R_alloc | apply Kd.R_drewN | apply Kd.R_drew)); exact HO_250002.out))) (Kd.R_lt (by (with_reducible repeat (first | apply Kd.R_alloc | apply Kd.R_drewN | apply Kd.R_drew)); exact HO274.out))) (below_size (by repeat (first | (with_reducible first | exact HB.out | apply below_alloc | apply pw_below_drewN | apply below_drew1 | refine below_set ?_ GE249.out | refine below_set ?_ GE276.out | refine below_set ?_ GE284.out) | exact HB.out))))
              have n4_ := Aside0.mk (blk_below (g := gb249) (o := .cells #[.int .i64 x250000_3, .string x250001_3, .slice Ao101 x250002_3.length co101] 48 (0, 0)) (by (with_reducible repeat (first | refine blk_drewN ?_ _ | refine blk_drew ?_ | refine blk_alloc ?_ _)); exact BK249.out) hb)
              have n5_ := Aside0.mk (blk_below (g := gb276) (o := .cells #[.int .i64 t270, .string t271, .slice Ao108 t272.length co108] 48 (0, 0)) (by (with_reducible repeat (first | refine blk_drewN ?_ _ | refine blk_drew ?_ | refine blk_alloc ?_ _)); exact BK276.out) hb)
              have n6_ := Aside0.mk (blk_below (g := gb284) (o := .cells #[.int .i64 0, .string (⟨#[]⟩ : ByteArray), .slice none 0 0] 48 (0, 0)) (by (with_reducible repeat (first | refine blk_drewN ?_ _ | refine blk_drew ?_ | refine blk_alloc ?_ _)); exact BK284.out) hb)
              have n7_ := Aside0.mk (below_step (by repeat (first | (with_reducible first | exact HB.out | apply below_alloc | apply pw_below_drewN | apply below_drew1 | refine below_set ?_ GE249.out | refine below_set ?_ GE276.out | refine below_set ?_ GE284.out) | exact HB.out)) hb)
              clear HO_7; clear HO_250002; clear HO274; clear BK249; clear BK276; clear BK284; clear HB; have HO_7 := n0_; have HO_250002 := n1_; have HO274 := n2_; have HO282 := n3_; have BK249 := n4_; have BK276 := n5_; have BK284 := n6_; have HB := n7_; clear n0_ n1_ n2_ n3_ n4_ n5_ n6_ n7_
              (try clear hb)
              (try clear hb2)
              (try clear hk)
              (try clear hi)
              (try clear ho0)
              refine hK.out _ _ ⟨(blk_cell BK276.out 0).trans rfl, (blk_cell BK276.out 1).trans rfl, (blk_cell BK276.out 2).trans rfl, HS3_⟩ (fun hHeld => ?_)
              clear hK K
              refine norm_ (a' := ?_) ?_ ?_
              rotate_left
              ·show Act.put _ (some 110) _ = _
               simp only [Act.put, List.setIfInBounds_toArray, List.set_cons_zero, List.set_cons_succ, i64_w, i32_w]
               rfl
              refine pure_ (i := 6) (N := some 104) (v := ?_) (a' := ?_) (bA_12 639) rfl rfl (any_of HT_.out (by kernel_rfl)) (fun _ _ _ h => h) (Or.inl ⟨by rfl, ?_⟩) ?_ ?_
              rotate_left; · (intro w'; go_simp; with_reducible rfl)
              rotate_left; · (simp only [Act.put, List.setIfInBounds_toArray, List.set_cons_zero, List.set_cons_succ, i64_w, i32_w]; rfl)
              refine pure_ (i := 7) (N := some 111) (v := ?_) (a' := ?_) (bA_12 767) rfl rfl (any_of HT_.out (by kernel_rfl)) (fun _ _ _ h => h) (Or.inl ⟨by rfl, ?_⟩) ?_ ?_
              rotate_left; · (intro w'; go_simp; with_reducible rfl)
              rotate_left; · (simp only [Act.put, List.setIfInBounds_toArray, List.set_cons_zero, List.set_cons_succ, i64_w, i32_w]; rfl)
              refine pure_ (i := 8) (N := some 112) (v := ?_) (a' := ?_) (bA_12 1023) rfl rfl (any_of HT_.out (by kernel_rfl)) (fun _ _ _ h => h) (Or.inl ⟨by rfl, ?_⟩) ?_ ?_
              rotate_left; · (intro w'; go_simp; with_reducible rfl)
              rotate_left; · (simp only [Act.put, List.setIfInBounds_toArray, List.set_cons_zero, List.set_cons_succ, i64_w, i32_w]; rfl)
              exact norm_ (by simp only [putAll, Act.put, List.setIfInBounds_toArray, List.set_cons_zero, List.set_cons_succ]) (hCont (v281, gb284) _ ⟨hHeld, (by (with_reducible repeat (first | apply Kd.R_alloc | apply Kd.R_drewN | apply Kd.R_drew)); exact Kd.R_mono HO274.out (fun _ hk => ⟨hk.2, hk.1⟩)), (by (with_reducible repeat (first | apply Kd.R_alloc | apply Kd.R_drewN | apply Kd.R_drew)); exact Kd.R_mono HO282.out (fun _ hk => ⟨hk.2, hk.1.2⟩)), (by (with_reducible repeat (first | apply Kd.R_alloc | apply Kd.R_drewN | apply Kd.R_drew)); exact HO_250002.out), (by (with_reducible repeat (first | apply Kd.R_alloc | apply Kd.R_drewN | apply Kd.R_drew)); exact HO_7.out), (by (with_reducible repeat (first | refine blk_drewN ?_ _ | refine blk_drew ?_ | refine blk_alloc ?_ _)); exact BK249.out), (by (with_reducible repeat (first | refine blk_drewN ?_ _ | refine blk_drew ?_ | refine blk_alloc ?_ _)); exact BK276.out), (by (with_reducible repeat (first | refine blk_drewN ?_ _ | refine blk_drew ?_ | refine blk_alloc ?_ _)); exact BK284.out), GW284.out, GE284.out, NB249_284.out, NB284_249.out, NB276_284.out, NB284_276.out, (by repeat (first | (with_reducible first | exact HB.out | apply below_alloc | apply pw_below_drewN | apply below_drew1 | refine below_set ?_ GE249.out | refine below_set ?_ GE276.out | refine below_set ?_ GE284.out) | exact HB.out))⟩)
            rintro ⟨v281, gb284⟩ w114 ⟨hS_, h0_, h1_, h2_, h3_, h4_, h5_, h6_, h7_, h8_, h9_, h10_, h11_, h12_, h13_⟩
            have n0_ : Aside0 (Kd.R k72 72 w114 w.heap.size (fun k_ => some k_ ≠ (v281 : Value).ownBlock ∧ some k_ ≠ (.slice Ao101 x250002_3.length co101 : Value).ownBlock) (.slice Ao108 t272.length co108) t272) := ⟨h0_⟩
            have n1_ : Aside0 (Kd.R k72 72 w114 w.heap.size (fun k_ => some k_ ≠ (.slice Ao108 t272.length co108 : Value).ownBlock ∧ some k_ ≠ (.slice Ao101 x250002_3.length co101 : Value).ownBlock) v281 t280) := ⟨h1_⟩
            have n2_ : Aside0 (Kd.R k72 72 w114 w.heap.size (fun k_ => some k_ ≠ (.slice Ao108 t272.length co108 : Value).ownBlock ∧ some k_ ≠ (v281 : Value).ownBlock) (.slice Ao101 x250002_3.length co101) x250002_3) := ⟨h2_⟩
            have n3_ : Aside0 (Kd.R (Kd.int .i64) 3 w114 w.heap.size (fun _ => True) (.slice (some ad269) x7_3.length co100) x7_3) := ⟨h3_⟩
            have n4_ : Aside0 (w114.heap[gb249]? = some (.cells #[.int .i64 x250000_3, .string x250001_3, .slice Ao101 x250002_3.length co101] 48 (0, 0))) := ⟨h4_⟩
            have n5_ : Aside0 (w114.heap[gb276]? = some (.cells #[.int .i64 t270, .string t271, .slice Ao108 t272.length co108] 48 (0, 0))) := ⟨h5_⟩
            have n6_ : Aside0 (w114.heap[gb284]? = some (.cells #[.int .i64 0, .string (⟨#[]⟩ : ByteArray), .slice none 0 0] 48 (0, 0))) := ⟨h6_⟩
            have n7_ : Aside0 (w.heap.size ≤ gb284) := ⟨h7_⟩
            have n8_ : Aside0 (w.heap.size ≤ gb284) := ⟨h8_⟩
            have n9_ : Aside0 (gb249 ≠ gb284) := ⟨h9_⟩
            have n10_ : Aside0 (gb284 ≠ gb249) := ⟨h10_⟩
            have n11_ : Aside0 (gb276 ≠ gb284) := ⟨h11_⟩
            have n12_ : Aside0 (gb284 ≠ gb276) := ⟨h12_⟩
            have n13_ : Aside0 (Below w.heap.size w w114) := ⟨h13_⟩
            clear HO_7; clear HO_250002; clear HO274; clear BK249; clear BK276; clear HB; clear h0_ h1_ h2_ h3_ h4_ h5_ h6_ h7_ h8_ h9_ h10_ h11_ h12_ h13_; have HO274 := n0_; have HO282 := n1_; have HO_250002 := n2_; have HO_7 := n3_; have BK249 := n4_; have BK276 := n5_; have BK284 := n6_; have GW284 := n7_; have GE284 := n8_; have NB249_284 := n9_; have NB284_249 := n10_; have NB276_284 := n11_; have NB284_276 := n12_; have HB := n13_; clear n0_ n1_ n2_ n3_ n4_ n5_ n6_ n7_ n8_ n9_ n10_ n11_ n12_ n13_
            have hHeld : w114.cell? ⟨gb276, 0, none⟩ = some (.int .i64 t270) ∧ w114.cell? ⟨gb276, 1, none⟩ = some (.string t271) ∧ w114.cell? ⟨gb276, 2, none⟩ = some (.slice Ao108 t272.length co108) ∧ w114.cell? (ad269.add ((ji67)).toNat) = some (.int .i64 (rd x7_3 (ji67))) := hS_
            obtain ⟨Ao117, co117, eo117⟩ := Kd.R_slice HO282.out
            (first | subst eo117 | (injection eo117 with f1_ f2_ f3_; have f4_ := f1_.symm; have f5_ := f3_.symm; clear f1_ f2_ f3_; subst f4_; subst f5_))
            refine norm_ (a' := ?_) ?_ ?_
            rotate_left
            ·simp only [putAll, Act.put, List.setIfInBounds_toArray, List.set_cons_zero, List.set_cons_succ]
             rfl
            refine one_ (i := 10) (N := none) (bA_12 2047) rfl rfl (one_of HT_.out (by kernel_rfl)) (by decide) (fun K hK => ?_)
            have hs115 : w114.cell? ⟨gb284, 0, none⟩ = some (.int .i64 0) := (blk_cell BK284.out 0).trans rfl
            have hfs115 := blk_frozen BK284.out 0
            have hns115_0 := NB249_284.out
            have hns115_1 := NB276_284.out
            have hms115_0 := NB284_249.out
            have hms115_1 := NB284_276.out
            have hs116 : w114.cell? ⟨gb284, 1, none⟩ = some (.string (⟨#[]⟩ : ByteArray)) := (blk_cell BK284.out 1).trans rfl
            have hfs116 := blk_frozen BK284.out 1
            have hns116_0 := NB249_284.out
            have hns116_1 := NB276_284.out
            have hms116_0 := NB284_249.out
            have hms116_1 := NB284_276.out
            have hs118 : w114.cell? ⟨gb284, 2, none⟩ = some (.slice none 0 0) := (blk_cell BK284.out 2).trans rfl
            have hfs118 := blk_frozen BK284.out 2
            have hns118_0 := NB249_284.out
            have hns118_1 := NB276_284.out
            have hms118_0 := NB284_249.out
            have hms118_1 := NB284_276.out
            refine skip_ (w1 := ?_) (by rfl) rfl ?_ ?_
            rotate_left
            ·go_simp
             rfl
            refine hK.out _ _ ⟨((cell_far (p := ⟨gb284, _, none⟩) NB276_284.out _).trans (((cell_far (p := ⟨gb284, _, none⟩) NB276_284.out _).trans (((cell_far (p := ⟨gb284, _, none⟩) NB276_284.out _).trans (hHeld.1)))))), ((cell_far (p := ⟨gb284, _, none⟩) NB276_284.out _).trans (((cell_far (p := ⟨gb284, _, none⟩) NB276_284.out _).trans (((cell_far (p := ⟨gb284, _, none⟩) NB276_284.out _).trans (hHeld.2.1)))))), ((cell_far (p := ⟨gb284, _, none⟩) NB276_284.out _).trans (((cell_far (p := ⟨gb284, _, none⟩) NB276_284.out _).trans (((cell_far (p := ⟨gb284, _, none⟩) NB276_284.out _).trans (hHeld.2.2.1)))))), ((cell_far (p := ⟨gb284, _, none⟩) (by first | exact Kd.own_blk (Kd.R_ne HO_7.out BK284.out (by decide)) | (rw [add_block]; exact Kd.own_blk (Kd.R_ne HO_7.out BK284.out (by decide))) | (show (Addr.add _ _).block ≠ _; rw [add_block]; exact Kd.own_blk (Kd.R_ne HO_7.out BK284.out (by decide))) | (dsimp only; exact Kd.own_blk (Kd.R_ne HO_7.out BK284.out (by decide)))) _).trans (((cell_far (p := ⟨gb284, _, none⟩) (by first | exact Kd.own_blk (Kd.R_ne HO_7.out BK284.out (by decide)) | (rw [add_block]; exact Kd.own_blk (Kd.R_ne HO_7.out BK284.out (by decide))) | (show (Addr.add _ _).block ≠ _; rw [add_block]; exact Kd.own_blk (Kd.R_ne HO_7.out BK284.out (by decide))) | (dsimp only; exact Kd.own_blk (Kd.R_ne HO_7.out BK284.out (by decide)))) _).trans (((cell_far (p := ⟨gb284, _, none⟩) (by first | exact Kd.own_blk (Kd.R_ne HO_7.out BK284.out (by decide)) | (rw [add_block]; exact Kd.own_blk (Kd.R_ne HO_7.out BK284.out (by decide))) | (show (Addr.add _ _).block ≠ _; rw [add_block]; exact Kd.own_blk (Kd.R_ne HO_7.out BK284.out (by decide))) | (dsimp only; exact Kd.own_blk (Kd.R_ne HO_7.out BK284.out (by decide)))) _).trans (hHeld.2.2.2))))))⟩ (fun hHeld => ?_)
            clear hK K
            refine pure_ (i := 11) (N := some 18) (v := ?_) (a' := ?_) (bA_12 4095) rfl rfl (any_of HT_.out (by kernel_rfl)) (fun _ _ _ h => h) (Or.inl ⟨by rfl, ?_⟩) ?_ ?_
            rotate_left; · (intro w'; go_simp; with_reducible rfl)
            rotate_left; · (simp only [Act.put, List.setIfInBounds_toArray, List.set_cons_zero, List.set_cons_succ, i64_w, i32_w]; rfl)
            refine done_ (done_of HT_.out (by kernel_rfl)) ?_
            have hnb119 := NB276_249.out
            have hnc119 := NB249_276.out
            have hnb120 := NB276_284.out
            have hnc120 := NB284_276.out
            have hcz121_0 : w114.cell? ⟨gb276, 0, none⟩ = some (.int .i64 t270) := (blk_cell BK276.out 0).trans rfl
            have hcz121_1 : w114.cell? ⟨gb276, 1, none⟩ = some (.string t271) := (blk_cell BK276.out 1).trans rfl
            have hcz121_2 : w114.cell? ⟨gb276, 2, none⟩ = some (.slice Ao108 t272.length co108) := (blk_cell BK276.out 2).trans rfl
            have hfz121_0 := blk_frozen BK276.out 0
            have hfz121_1 := blk_frozen BK276.out 1
            have hfz121_2 := blk_frozen BK276.out 2
            have hnb122 := NB249_284.out
            have hnc122 := NB284_249.out
            have hcz123_0 : w114.cell? ⟨gb249, 0, none⟩ = some (.int .i64 x250000_3) := (blk_cell BK249.out 0).trans rfl
            have hcz123_1 : w114.cell? ⟨gb249, 1, none⟩ = some (.string x250001_3) := (blk_cell BK249.out 1).trans rfl
            have hcz123_2 : w114.cell? ⟨gb249, 2, none⟩ = some (.slice Ao101 x250002_3.length co101) := (blk_cell BK249.out 2).trans rfl
            have hfz123_0 := blk_frozen BK249.out 0
            have hfz123_1 := blk_frozen BK249.out 1
            have hfz123_2 := blk_frozen BK249.out 2
            try go_wp2
            have n0_ : Aside0 (Kd.R (Kd.int .i64) 3 ((((((w114.setCell ⟨gb284, 0, none⟩ (.int .i64 t278)).setCell ⟨gb284, 1, none⟩ (.string t279)).setCell ⟨gb284, 2, none⟩ (.slice Ao117 t280.length co117)).setCell ⟨gb249, 0, none⟩ (.int .i64 t270)).setCell ⟨gb249, 1, none⟩ (.string t271)).setCell ⟨gb249, 2, none⟩ (.slice Ao108 t272.length co108)) w.heap.size (fun _ => True) (.slice (some ad269) x7_3.length co100) x7_3) := ⟨by (with_reducible repeat (first | apply Kd.R_alloc | apply Kd.R_drewN | apply Kd.R_drew)); exact Kd.R_mono (Kd.R_far (p := ⟨gb249, 2, none⟩) (Kd.R_far (p := ⟨gb249, 1, none⟩) (Kd.R_far (p := ⟨gb249, 0, none⟩) (Kd.R_far (p := ⟨gb284, 2, none⟩) (Kd.R_far (p := ⟨gb284, 1, none⟩) (Kd.R_far (p := ⟨gb284, 0, none⟩) (Kd.R_types (Kd.R_types HO_7.out BK284.out (by decide)) BK249.out (by decide)) (fun _ hk => hk.1.2) (.int .i64 t278)) (fun _ hk => hk.1.2) (.string t279)) (fun _ hk => hk.1.2) (.slice Ao117 t280.length co117)) (fun _ hk => hk.2) (.int .i64 t270)) (fun _ hk => hk.2) (.string t271)) (fun _ hk => hk.2) (.slice Ao108 t272.length co108)) (fun _ hk => trivial)⟩
            have n1_ : Aside0 (Kd.R k72 72 ((((((w114.setCell ⟨gb284, 0, none⟩ (.int .i64 t278)).setCell ⟨gb284, 1, none⟩ (.string t279)).setCell ⟨gb284, 2, none⟩ (.slice Ao117 t280.length co117)).setCell ⟨gb249, 0, none⟩ (.int .i64 t270)).setCell ⟨gb249, 1, none⟩ (.string t271)).setCell ⟨gb249, 2, none⟩ (.slice Ao108 t272.length co108)) w.heap.size (fun k_ => some k_ ≠ (.slice Ao108 t272.length co108 : Value).ownBlock ∧ some k_ ≠ (.slice Ao117 t280.length co117 : Value).ownBlock) (.slice Ao101 x250002_3.length co101) x250002_3) := ⟨by (with_reducible repeat (first | apply Kd.R_alloc | apply Kd.R_drewN | apply Kd.R_drew)); exact Kd.R_mono (Kd.R_far (p := ⟨gb249, 2, none⟩) (Kd.R_far (p := ⟨gb249, 1, none⟩) (Kd.R_far (p := ⟨gb249, 0, none⟩) (Kd.R_far (p := ⟨gb284, 2, none⟩) (Kd.R_far (p := ⟨gb284, 1, none⟩) (Kd.R_far (p := ⟨gb284, 0, none⟩) (Kd.R_types (Kd.R_types HO_250002.out BK284.out (by decide)) BK249.out (by decide)) (fun _ hk => hk.1.2) (.int .i64 t278)) (fun _ hk => hk.1.2) (.string t279)) (fun _ hk => hk.1.2) (.slice Ao117 t280.length co117)) (fun _ hk => hk.2) (.int .i64 t270)) (fun _ hk => hk.2) (.string t271)) (fun _ hk => hk.2) (.slice Ao108 t272.length co108)) (fun _ hk => ⟨hk.1.1.1, hk.1.1.2⟩)⟩
            have n2_ : Aside0 (Kd.R k72 72 ((((((w114.setCell ⟨gb284, 0, none⟩ (.int .i64 t278)).setCell ⟨gb284, 1, none⟩ (.string t279)).setCell ⟨gb284, 2, none⟩ (.slice Ao117 t280.length co117)).setCell ⟨gb249, 0, none⟩ (.int .i64 t270)).setCell ⟨gb249, 1, none⟩ (.string t271)).setCell ⟨gb249, 2, none⟩ (.slice Ao108 t272.length co108)) w.heap.size (fun k_ => some k_ ≠ (.slice Ao101 x250002_3.length co101 : Value).ownBlock ∧ some k_ ≠ (.slice Ao117 t280.length co117 : Value).ownBlock) (.slice Ao108 t272.length co108) t272) := ⟨by (with_reducible repeat (first | apply Kd.R_alloc | apply Kd.R_drewN | apply Kd.R_drew)); exact Kd.R_mono (Kd.R_far (p := ⟨gb249, 2, none⟩) (Kd.R_far (p := ⟨gb249, 1, none⟩) (Kd.R_far (p := ⟨gb249, 0, none⟩) (Kd.R_far (p := ⟨gb284, 2, none⟩) (Kd.R_far (p := ⟨gb284, 1, none⟩) (Kd.R_far (p := ⟨gb284, 0, none⟩) (Kd.R_types (Kd.R_types HO274.out BK284.out (by decide)) BK249.out (by decide)) (fun _ hk => hk.1.2) (.int .i64 t278)) (fun _ hk => hk.1.2) (.string t279)) (fun _ hk => hk.1.2) (.slice Ao117 t280.length co117)) (fun _ hk => hk.2) (.int .i64 t270)) (fun _ hk => hk.2) (.string t271)) (fun _ hk => hk.2) (.slice Ao108 t272.length co108)) (fun _ hk => ⟨hk.1.1.2, hk.1.1.1⟩)⟩
            have n3_ : Aside0 (Kd.R k72 72 ((((((w114.setCell ⟨gb284, 0, none⟩ (.int .i64 t278)).setCell ⟨gb284, 1, none⟩ (.string t279)).setCell ⟨gb284, 2, none⟩ (.slice Ao117 t280.length co117)).setCell ⟨gb249, 0, none⟩ (.int .i64 t270)).setCell ⟨gb249, 1, none⟩ (.string t271)).setCell ⟨gb249, 2, none⟩ (.slice Ao108 t272.length co108)) w.heap.size (fun k_ => some k_ ≠ (.slice Ao101 x250002_3.length co101 : Value).ownBlock ∧ some k_ ≠ (.slice Ao108 t272.length co108 : Value).ownBlock) (.slice Ao117 t280.length co117) t280) := ⟨by (with_reducible repeat (first | apply Kd.R_alloc | apply Kd.R_drewN | apply Kd.R_drew)); exact Kd.R_mono (Kd.R_far (p := ⟨gb249, 2, none⟩) (Kd.R_far (p := ⟨gb249, 1, none⟩) (Kd.R_far (p := ⟨gb249, 0, none⟩) (Kd.R_far (p := ⟨gb284, 2, none⟩) (Kd.R_far (p := ⟨gb284, 1, none⟩) (Kd.R_far (p := ⟨gb284, 0, none⟩) (Kd.R_types (Kd.R_types HO282.out BK284.out (by decide)) BK249.out (by decide)) (fun _ hk => hk.1.2) (.int .i64 t278)) (fun _ hk => hk.1.2) (.string t279)) (fun _ hk => hk.1.2) (.slice Ao117 t280.length co117)) (fun _ hk => hk.2) (.int .i64 t270)) (fun _ hk => hk.2) (.string t271)) (fun _ hk => hk.2) (.slice Ao108 t272.length co108)) (fun _ hk => ⟨hk.1.1.2, hk.1.1.1⟩)⟩
            have n4_ : Aside0 (((((((w114.setCell ⟨gb284, 0, none⟩ (.int .i64 t278)).setCell ⟨gb284, 1, none⟩ (.string t279)).setCell ⟨gb284, 2, none⟩ (.slice Ao117 t280.length co117)).setCell ⟨gb249, 0, none⟩ (.int .i64 t270)).setCell ⟨gb249, 1, none⟩ (.string t271)).setCell ⟨gb249, 2, none⟩ (.slice Ao108 t272.length co108)).heap[gb249]? = some (.cells #[.int .i64 t270, .string t271, .slice Ao108 t272.length co108] 48 (0, 0))) := ⟨by (with_reducible repeat (first | refine blk_drewN ?_ _ | refine blk_drew ?_ | refine blk_alloc ?_ _)); refine blk_put (cs := #[.int .i64 t270, .string t271, .slice Ao101 x250002_3.length co101]) ?_ 2 _ rfl; (with_reducible repeat (first | refine blk_drewN ?_ _ | refine blk_drew ?_ | refine blk_alloc ?_ _)); refine blk_put (cs := #[.int .i64 t270, .string x250001_3, .slice Ao101 x250002_3.length co101]) ?_ 1 _ rfl; (with_reducible repeat (first | refine blk_drewN ?_ _ | refine blk_drew ?_ | refine blk_alloc ?_ _)); refine blk_put (cs := #[.int .i64 x250000_3, .string x250001_3, .slice Ao101 x250002_3.length co101]) ?_ 0 _ rfl; (with_reducible repeat (first | refine blk_drewN ?_ _ | refine blk_drew ?_ | refine blk_alloc ?_ _)); refine blk_far ?_ NB249_284.out _; (with_reducible repeat (first | refine blk_drewN ?_ _ | refine blk_drew ?_ | refine blk_alloc ?_ _)); refine blk_far ?_ NB249_284.out _; (with_reducible repeat (first | refine blk_drewN ?_ _ | refine blk_drew ?_ | refine blk_alloc ?_ _)); refine blk_far ?_ NB249_284.out _; (with_reducible repeat (first | refine blk_drewN ?_ _ | refine blk_drew ?_ | refine blk_alloc ?_ _)); exact BK249.out⟩
            have n5_ : Aside0 (((((((w114.setCell ⟨gb284, 0, none⟩ (.int .i64 t278)).setCell ⟨gb284, 1, none⟩ (.string t279)).setCell ⟨gb284, 2, none⟩ (.slice Ao117 t280.length co117)).setCell ⟨gb249, 0, none⟩ (.int .i64 t270)).setCell ⟨gb249, 1, none⟩ (.string t271)).setCell ⟨gb249, 2, none⟩ (.slice Ao108 t272.length co108)).heap[gb276]? = some (.cells #[.int .i64 t270, .string t271, .slice Ao108 t272.length co108] 48 (0, 0))) := ⟨by (with_reducible repeat (first | refine blk_drewN ?_ _ | refine blk_drew ?_ | refine blk_alloc ?_ _)); refine blk_far ?_ NB276_249.out _; (with_reducible repeat (first | refine blk_drewN ?_ _ | refine blk_drew ?_ | refine blk_alloc ?_ _)); refine blk_far ?_ NB276_249.out _; (with_reducible repeat (first | refine blk_drewN ?_ _ | refine blk_drew ?_ | refine blk_alloc ?_ _)); refine blk_far ?_ NB276_249.out _; (with_reducible repeat (first | refine blk_drewN ?_ _ | refine blk_drew ?_ | refine blk_alloc ?_ _)); refine blk_far ?_ NB276_284.out _; (with_reducible repeat (first | refine blk_drewN ?_ _ | refine blk_drew ?_ | refine blk_alloc ?_ _)); refine blk_far ?_ NB276_284.out _; (with_reducible repeat (first | refine blk_drewN ?_ _ | refine blk_drew ?_ | refine blk_alloc ?_ _)); refine blk_far ?_ NB276_284.out _; (with_reducible repeat (first | refine blk_drewN ?_ _ | refine blk_drew ?_ | refine blk_alloc ?_ _)); exact BK276.out⟩
            have n6_ : Aside0 (((((((w114.setCell ⟨gb284, 0, none⟩ (.int .i64 t278)).setCell ⟨gb284, 1, none⟩ (.string t279)).setCell ⟨gb284, 2, none⟩ (.slice Ao117 t280.length co117)).setCell ⟨gb249, 0, none⟩ (.int .i64 t270)).setCell ⟨gb249, 1, none⟩ (.string t271)).setCell ⟨gb249, 2, none⟩ (.slice Ao108 t272.length co108)).heap[gb284]? = some (.cells #[.int .i64 t278, .string t279, .slice Ao117 t280.length co117] 48 (0, 0))) := ⟨by (with_reducible repeat (first | refine blk_drewN ?_ _ | refine blk_drew ?_ | refine blk_alloc ?_ _)); refine blk_far ?_ NB284_249.out _; (with_reducible repeat (first | refine blk_drewN ?_ _ | refine blk_drew ?_ | refine blk_alloc ?_ _)); refine blk_far ?_ NB284_249.out _; (with_reducible repeat (first | refine blk_drewN ?_ _ | refine blk_drew ?_ | refine blk_alloc ?_ _)); refine blk_far ?_ NB284_249.out _; (with_reducible repeat (first | refine blk_drewN ?_ _ | refine blk_drew ?_ | refine blk_alloc ?_ _)); refine blk_put (cs := #[.int .i64 t278, .string t279, .slice none 0 0]) ?_ 2 _ rfl; (with_reducible repeat (first | refine blk_drewN ?_ _ | refine blk_drew ?_ | refine blk_alloc ?_ _)); refine blk_put (cs := #[.int .i64 t278, .string (⟨#[]⟩ : ByteArray), .slice none 0 0]) ?_ 1 _ rfl; (with_reducible repeat (first | refine blk_drewN ?_ _ | refine blk_drew ?_ | refine blk_alloc ?_ _)); refine blk_put (cs := #[.int .i64 0, .string (⟨#[]⟩ : ByteArray), .slice none 0 0]) ?_ 0 _ rfl; (with_reducible repeat (first | refine blk_drewN ?_ _ | refine blk_drew ?_ | refine blk_alloc ?_ _)); exact BK284.out⟩
            have n7_ : Aside0 (Below w.heap.size w ((((((w114.setCell ⟨gb284, 0, none⟩ (.int .i64 t278)).setCell ⟨gb284, 1, none⟩ (.string t279)).setCell ⟨gb284, 2, none⟩ (.slice Ao117 t280.length co117)).setCell ⟨gb249, 0, none⟩ (.int .i64 t270)).setCell ⟨gb249, 1, none⟩ (.string t271)).setCell ⟨gb249, 2, none⟩ (.slice Ao108 t272.length co108))) := ⟨by repeat (first | (with_reducible first | exact HB.out | apply below_alloc | apply pw_below_drewN | apply below_drew1 | refine below_set ?_ GE249.out | refine below_set ?_ GE276.out | refine below_set ?_ GE284.out) | exact HB.out)⟩
            (try clear HO_7)
            (try clear HO_250002)
            (try clear HO274)
            (try clear HO282)
            (try clear BK249)
            (try clear BK276)
            (try clear BK284)
            (try clear HB)
            generalize ((((((w114.setCell ⟨gb284, 0, none⟩ (.int .i64 t278)).setCell ⟨gb284, 1, none⟩ (.string t279)).setCell ⟨gb284, 2, none⟩ (.slice Ao117 t280.length co117)).setCell ⟨gb249, 0, none⟩ (.int .i64 t270)).setCell ⟨gb249, 1, none⟩ (.string t271)).setCell ⟨gb249, 2, none⟩ (.slice Ao108 t272.length co108)) = w124 at n0_ n1_ n2_ n3_ n4_ n5_ n6_ n7_ ⊢
            have HO_7 := n0_; have HO_250002 := n1_; have HO274 := n2_; have HO282 := n3_; have BK249 := n4_; have BK276 := n5_; have BK284 := n6_; have HB := n7_; clear n0_ n1_ n2_ n3_ n4_ n5_ n6_ n7_
            have n0_ := Aside0.mk (Kd.R_drew HO_7.out)
            have n1_ := Aside0.mk (Kd.R_drew HO_250002.out)
            have n2_ := Aside0.mk (Kd.R_drew HO274.out)
            have n3_ := Aside0.mk (Kd.R_drew HO282.out)
            have n4_ := Aside0.mk (blk_drew BK249.out)
            have n5_ := Aside0.mk (blk_drew BK276.out)
            have n6_ := Aside0.mk (blk_drew BK284.out)
            have n7_ := Aside0.mk (below_drew1 HB.out)
            clear HO_7; clear HO_250002; clear HO274; clear HO282; clear BK249; clear BK276; clear BK284; clear HB; have HO_7 := n0_; have HO_250002 := n1_; have HO274 := n2_; have HO282 := n3_; have BK249 := n4_; have BK276 := n5_; have BK284 := n6_; have HB := n7_; clear n0_ n1_ n2_ n3_ n4_ n5_ n6_ n7_
            have q126 : ((ji67) : Int) ≤ ((x7_3.length : Int) : Int) := of_decide_eq_true (by first | (with_reducible assumption) | assumption)
            obtain ⟨i0126, hi0126, _, hsz126, _⟩ := info_parts info3
            have hroom126 : x7_3.length ≤ co100 := (Kd.R_reads' HO_7.out).2.1
            have hC126 : Kd.C (Kd.int .i64) _ (some ad269) x7_3.length x7_3 := (Kd.R_reads' HO_7.out).2.2
            have hcut126 := cut_to (P := Try.prog) 74 3 .i64 Try.underlying74 hi0126 (some ad269) x7_3.length co100 (ji67) (of_decide_eq_true (by first | (with_reducible assumption) | assumption)) q126 hroom126
            have hr126 := Kd.C_take (m := ((ji67) : Int).toNat) hC126 (by omega)
            have hy126 : y288.length = ((ji67) : Int).toNat := (by rw [Ny288.out, List.length_take]; omega)
            rw [← Ny288.out] at hr126
            rw [← hy126] at hcut126
            have HR291 := Aside0.mk hr126
            have HC291 := Aside0.mk (show y288.length ≤ co100 from by omega)
            clear hr126 hC126 hroom126 hi0126 hsz126
            have KY126 := Aside0.mk hy126
            clear hy126
            have KL126 := Aside0.mk (show ((ji67) : Int).toNat ≤ x7_3.length from by omega)
            replace q126 := eq_true q126
            have q127 : ((ji96) : Int) ≤ ((x7_3.length : Int) : Int) := of_decide_eq_true (by first | (with_reducible assumption) | assumption)
            obtain ⟨i0127, hi0127, _, hsz127, _⟩ := info_parts info3
            have hroom127 : x7_3.length ≤ co100 := (Kd.R_reads' HO_7.out).2.1
            have hC127 : Kd.C (Kd.int .i64) _ (some ad269) x7_3.length x7_3 := (Kd.R_reads' HO_7.out).2.2
            have q0127 : (0 : Int) ≤ ((ji96) : Int) := of_decide_eq_true (by first | (with_reducible assumption) | assumption)
            have hcut127 := cut_from (P := Try.prog) 74 3 .i64 Try.underlying74 hi0127 1 hsz127 (some ad269) x7_3.length co100 (ji96) q0127 q127
            have hr127 := Kd.C_drop (m := ((ji96) : Int).toNat) (c := co100) hC127 (by omega) hroom127
            obtain ⟨A127, hA127⟩ : ∃ A1, A1 = (if co100 = ((ji96) : Int).toNat then (some ad269) else ((some ad269) : Option Addr).map (·.add (((ji96) : Int).toNat * 1))) := ⟨_, rfl⟩
            obtain ⟨c127, hc127⟩ : ∃ c1, c1 = co100 - ((ji96) : Int).toNat := ⟨_, rfl⟩
            have hy127 : y295.length = x7_3.length - ((ji96) : Int).toNat := (by rw [Ny295.out, List.length_drop] <;> omega)
            rw [show (x7_3).drop ((ji96) : Int).toNat = y295 from Ny295.out.symm] at hr127
            replace hr127 : Kd.C (Kd.int .i64) _ A127 y295.length y295 := (by rw [hA127]; exact hr127)
            rw [← hy127, ← hA127, ← hc127] at hcut127
            have HR298 := Aside0.mk hr127
            have HC298 := Aside0.mk (show y295.length ≤ c127 from by rw [hy127, hc127]; exact Nat.sub_le_sub_right hroom127 _)
            clear hr127 hC127 hroom127 hi0127 hsz127 hc127
            have KY127 := Aside0.mk hy127
            have KA127 := Aside0.mk hA127
            clear hy127 hA127
            have KL127 := Aside0.mk (show ((ji96) : Int).toNat ≤ x7_3.length from by omega)
            replace q127 := eq_true q127
            refine start_ (n := 11) (S := fun w' => True) (ds := []) #[false, false, false, false, false, false, false, false, false, false, false] (by kernel_rfl) rfl rfl trivial (fun hHeld => ?_); refine with_tabW law7Adds.tab27 law7Adds.bits27 (fun HT_ HW_ => ?_)
            generalize w124.drew = w125 at HO_7 HO_250002 HO274 HO282 BK249 BK276 BK284 HB HR291 HR298 hHeld ⊢
            refine pure_ (i := 1) (N := some 120) (v := ?_) (a' := ?_) (bA_11 2) rfl rfl (any_of HT_.out (by kernel_rfl)) (fun _ _ _ h => h) (Or.inl ⟨by rfl, ?_⟩) ?_ ?_
            rotate_left; · (intro w'; go_simp; with_reducible rfl)
            rotate_left; · (simp only [Act.put, List.setIfInBounds_toArray, List.set_cons_zero, List.set_cons_succ, i64_w, i32_w]; rfl)
            refine pure_ (i := 2) (N := some 121) (v := ?_) (a' := ?_) (bA_11 6) rfl rfl (any_of HT_.out (by kernel_rfl)) (fun _ _ _ h => h) (Or.inl ⟨by rfl, ?_⟩) ?_ ?_
            rotate_left; · (intro w'; go_simp; with_reducible rfl)
            rotate_left; · (simp only [Act.put, List.setIfInBounds_toArray, List.set_cons_zero, List.set_cons_succ, i64_w, i32_w]; rfl)
            refine pure_ (i := 3) (N := some 122) (v := ?_) (a' := ?_) (bA_11 14) rfl rfl (any_of HT_.out (by kernel_rfl)) (fun _ _ _ h => h) (Or.inl ⟨by rfl, ?_⟩) ?_ ?_
            rotate_left; · (intro w'; go_simp; with_reducible rfl)
            rotate_left; · (simp only [Act.put, List.setIfInBounds_toArray, List.set_cons_zero, List.set_cons_succ, i64_w, i32_w]; rfl)
            refine pure_ (i := 5) (N := some 124) (v := ?_) (a' := ?_) (bA_11 46) rfl rfl (any_of HT_.out (by kernel_rfl)) (fun _ _ _ h => h) (Or.inl ⟨by rfl, ?_⟩) ?_ ?_
            rotate_left; · (intro w'; go_simp; with_reducible rfl)
            rotate_left; · (simp only [Act.put, List.setIfInBounds_toArray, List.set_cons_zero, List.set_cons_succ, i64_w, i32_w]; rfl)
            refine pure_ (i := 6) (N := some 125) (v := ?_) (a' := ?_) (bA_11 110) rfl rfl (any_of HT_.out (by kernel_rfl)) (fun _ _ _ h => h) (Or.inl ⟨by rfl, ?_⟩) ?_ ?_
            rotate_left; · (intro w'; go_simp; with_reducible rfl)
            rotate_left; · (simp only [Act.put, List.setIfInBounds_toArray, List.set_cons_zero, List.set_cons_succ, i64_w, i32_w]; rfl)
            refine pure_ (i := 7) (N := some 126) (v := ?_) (a' := ?_) (bA_11 238) rfl rfl (any_of HT_.out (by kernel_rfl)) (fun _ _ _ h => h) (Or.inl ⟨by rfl, ?_⟩) ?_ ?_
            rotate_left; · (intro w'; go_simp; with_reducible rfl)
            rotate_left; · (simp only [Act.put, List.setIfInBounds_toArray, List.set_cons_zero, List.set_cons_succ, i64_w, i32_w]; rfl)
            refine pure_ (i := 8) (N := some 127) (v := ?_) (a' := ?_) (bA_11 494) rfl rfl (any_of HT_.out (by kernel_rfl)) (fun _ _ _ h => h) (Or.inl ⟨by rfl, ?_⟩) ?_ ?_
            rotate_left; · (intro w'; go_simp; with_reducible rfl)
            rotate_left; · (simp only [Act.put, List.setIfInBounds_toArray, List.set_cons_zero, List.set_cons_succ, i64_w, i32_w]; rfl)
            refine one_ (i := 0) (N := some 119) (bA_11 495) rfl rfl (one_of HT_.out (by kernel_rfl)) (by decide) (fun K hK => ?_)
            refine Kd.R_lit_step (Kd.int .i64) _ 3 ?hg (N := 119) ?hd (xs := ([] : List Int)) (inner := []) (ok := fun _ => True) (okp := fun _ => True) ?hr ?hp (fun _ hk => hk) trivial (Below.refl _ _) (Nat.le_refl _) (by simp) ?_; (case hd => rfl); (case hg => rfl); (case hr => first | (go_simp; done) | (go_simp; rfl)); (case hp => exact (Reps.none _ _))
            intro v286 w128 ho129 hb hg_ hnew_
            clear hg_ hnew_
            (first | rw [← Ny285.out] at ho129 | (simp only [Int.reduceToNat] at ho129; rw [← Ny285.out] at ho129))
            have n0_ := Aside0.mk (Kd.R_elder' (by (with_reducible repeat (first | apply Kd.R_alloc | apply Kd.R_drewN | apply Kd.R_drew)); exact HO_7.out) (Kd.R_base ho129) hb)
            have n1_ := Aside0.mk (Kd.R_below (by (with_reducible repeat (first | apply Kd.R_alloc | apply Kd.R_drewN | apply Kd.R_drew)); exact HO_250002.out) hb)
            have n2_ := Aside0.mk (Kd.R_below (by (with_reducible repeat (first | apply Kd.R_alloc | apply Kd.R_drewN | apply Kd.R_drew)); exact HO274.out) hb)
            have n3_ := Aside0.mk (Kd.R_below (by (with_reducible repeat (first | apply Kd.R_alloc | apply Kd.R_drewN | apply Kd.R_drew)); exact HO282.out) hb)
            have n4_ := Aside0.mk (Kd.R_lower (Kd.R_new' ho129 (Kd.R_lt (by (with_reducible repeat (first | apply Kd.R_alloc | apply Kd.R_drewN | apply Kd.R_drew)); exact HO_7.out))) (below_size (by repeat (first | (with_reducible first | exact HB.out | apply below_alloc | apply pw_below_drewN | apply below_drew1 | refine below_set ?_ GE249.out | refine below_set ?_ GE276.out | refine below_set ?_ GE284.out) | exact HB.out))))
            have n5_ := Aside0.mk (blk_below (g := gb249) (o := .cells #[.int .i64 t270, .string t271, .slice Ao108 t272.length co108] 48 (0, 0)) (by (with_reducible repeat (first | refine blk_drewN ?_ _ | refine blk_drew ?_ | refine blk_alloc ?_ _)); exact BK249.out) hb)
            have n6_ := Aside0.mk (blk_below (g := gb276) (o := .cells #[.int .i64 t270, .string t271, .slice Ao108 t272.length co108] 48 (0, 0)) (by (with_reducible repeat (first | refine blk_drewN ?_ _ | refine blk_drew ?_ | refine blk_alloc ?_ _)); exact BK276.out) hb)
            have n7_ := Aside0.mk (blk_below (g := gb284) (o := .cells #[.int .i64 t278, .string t279, .slice Ao117 t280.length co117] 48 (0, 0)) (by (with_reducible repeat (first | refine blk_drewN ?_ _ | refine blk_drew ?_ | refine blk_alloc ?_ _)); exact BK284.out) hb)
            have n8_ := Aside0.mk (Kd.C_below (by repeat (first | (with_reducible exact HR291.out) | (with_reducible refine Kd.C_alloc ?_ _) | (with_reducible refine Kd.C_drewN ?_ _) | (with_reducible refine Kd.C_drew ?_) | exact HR291.out)) hb)
            have n9_ := Aside0.mk (Kd.C_below (by repeat (first | (with_reducible exact HR298.out) | (with_reducible refine Kd.C_alloc ?_ _) | (with_reducible refine Kd.C_drewN ?_ _) | (with_reducible refine Kd.C_drew ?_) | exact HR298.out)) hb)
            have n10_ := Aside0.mk (below_step (by repeat (first | (with_reducible first | exact HB.out | apply below_alloc | apply pw_below_drewN | apply below_drew1 | refine below_set ?_ GE249.out | refine below_set ?_ GE276.out | refine below_set ?_ GE284.out) | exact HB.out)) hb)
            clear HO_7; clear HO_250002; clear HO274; clear HO282; clear BK249; clear BK276; clear BK284; clear HR291; clear HR298; clear HB; have HO_7 := n0_; have HO_250002 := n1_; have HO274 := n2_; have HO282 := n3_; have HO287 := n4_; have BK249 := n5_; have BK276 := n6_; have BK284 := n7_; have HR291 := n8_; have HR298 := n9_; have HB := n10_; clear n0_ n1_ n2_ n3_ n4_ n5_ n6_ n7_ n8_ n9_ n10_; clear hb ho129
            refine hK.out _ _ trivial (fun hHeld => ?_)
            clear hK K
            refine norm_ (a' := ?_) ?_ ?_
            rotate_left
            ·show Act.put _ (some 119) _ = _
             simp only [Act.put, List.setIfInBounds_toArray, List.set_cons_zero, List.set_cons_succ, i64_w, i32_w]
             rfl
            refine one_ (i := 4) (N := some 123) (bA_11 511) rfl rfl (one_of HT_.out (by kernel_rfl)) (by decide) (fun K hK => ?_)
            refine Kd.R_append_rows_step (Kd.int .i64) (w0 := w) w.heap.size (by rfl) (.tmp 119) (.tmp 122) 74 3 (.int .i64 0) 8 rfl Try.underlying74 info3 rfl (by decide) (by omega) v286 y285 y288 _ _ _ (fun k_ => some k_ ≠ (.slice (some ad269) x7_3.length co100 : Value).ownBlock) (fun _ => False) rfl rfl ?aO ?aR (fun _ _ h => h) (fun _ h => h.elim) ?aF ?aB ?aS ?aL ?_
            (case aR => repeat (first | exact (by repeat (first | (with_reducible exact HR291.out) | (with_reducible refine Kd.C_alloc ?_ _) | (with_reducible refine Kd.C_drewN ?_ _) | (with_reducible refine Kd.C_drew ?_) | exact HR291.out)) | (with_reducible refine Kd.C_alloc ?_ _) | (with_reducible refine Kd.C_drewN ?_ _) | (with_reducible refine Kd.C_drew ?_)))
            (case aB => exact (by repeat (first | (with_reducible first | exact HB.out | apply below_alloc | apply pw_below_drewN | apply below_drew1 | refine below_set ?_ GE249.out | refine below_set ?_ GE276.out | refine below_set ?_ GE284.out) | exact HB.out)))
            (case aF => exact (fun k_ hk => Kd.fresh' (Kd.R_lt (by (with_reducible repeat (first | apply Kd.R_alloc | apply Kd.R_drewN | apply Kd.R_drew)); exact HO_7.out)) k_ hk))
            (case aO => exact (by (with_reducible repeat (first | apply Kd.R_alloc | apply Kd.R_drewN | apply Kd.R_drew)); exact Kd.R_mono HO287.out (fun _ hk => hk.2)))
            (case aS => exact (below_size (by repeat (first | (with_reducible first | exact HB.out | apply below_alloc | apply pw_below_drewN | apply below_drew1 | refine below_set ?_ GE249.out | refine below_set ?_ GE276.out | refine below_set ?_ GE284.out) | exact HB.out))))
            (case aL => have := LMc95.out; omega)
            intro v293 w130 ho hb hg hat
            rw [← Ny292.out] at ho
            have n0_ := Aside0.mk (Kd.R_after (ok := (fun _ => True)) (by (with_reducible repeat (first | apply Kd.R_alloc | apply Kd.R_drewN | apply Kd.R_drew)); exact HO_7.out) hg hat)
            have n1_ := Aside0.mk (Kd.R_over' (by (with_reducible repeat (first | apply Kd.R_alloc | apply Kd.R_drewN | apply Kd.R_drew)); exact HO_250002.out) (Kd.R_typed (by (with_reducible repeat (first | apply Kd.R_alloc | apply Kd.R_drewN | apply Kd.R_drew)); exact HO287.out)) (by decide) hg)
            have n2_ := Aside0.mk (blk_grown (g := gb249) (o := .cells #[.int .i64 t270, .string t271, .slice Ao108 t272.length co108] 48 (0, 0)) (by (with_reducible repeat (first | refine blk_drewN ?_ _ | refine blk_drew ?_ | refine blk_alloc ?_ _)); exact BK249.out) hg (Kd.R_ne HO287.out BK249.out (by decide)))
            have n3_ := Aside0.mk (Kd.R_over' (by (with_reducible repeat (first | apply Kd.R_alloc | apply Kd.R_drewN | apply Kd.R_drew)); exact HO274.out) (Kd.R_typed (by (with_reducible repeat (first | apply Kd.R_alloc | apply Kd.R_drewN | apply Kd.R_drew)); exact HO287.out)) (by decide) hg)
            have n4_ := Aside0.mk (blk_grown (g := gb276) (o := .cells #[.int .i64 t270, .string t271, .slice Ao108 t272.length co108] 48 (0, 0)) (by (with_reducible repeat (first | refine blk_drewN ?_ _ | refine blk_drew ?_ | refine blk_alloc ?_ _)); exact BK276.out) hg (Kd.R_ne HO287.out BK276.out (by decide)))
            have n5_ := Aside0.mk (Kd.R_over' (by (with_reducible repeat (first | apply Kd.R_alloc | apply Kd.R_drewN | apply Kd.R_drew)); exact HO282.out) (Kd.R_typed (by (with_reducible repeat (first | apply Kd.R_alloc | apply Kd.R_drewN | apply Kd.R_drew)); exact HO287.out)) (by decide) hg)
            have n6_ := Aside0.mk (blk_grown (g := gb284) (o := .cells #[.int .i64 t278, .string t279, .slice Ao117 t280.length co117] 48 (0, 0)) (by (with_reducible repeat (first | refine blk_drewN ?_ _ | refine blk_drew ?_ | refine blk_alloc ?_ _)); exact BK284.out) hg (Kd.R_ne HO287.out BK284.out (by decide)))
            have n7_ := Aside0.mk (hb)
            have n8_ := Aside0.mk ((show Kd.C (Kd.int .i64) w130 (some ad269) y288.length y288 from by rw [Ny288.out]; exact Kd.C_take (m := ((ji67) : Int).toNat) ((Kd.R_reads' (Kd.R_after (ok := (fun _ => True)) (by (with_reducible repeat (first | apply Kd.R_alloc | apply Kd.R_drewN | apply Kd.R_drew)); exact HO_7.out) hg hat)).2.2) KL126.out))
            have n9_ := Aside0.mk ((show Kd.C (Kd.int .i64) w130 A127 y295.length y295 from by rw [Ny295.out, KA127.out]; exact Kd.C_drop (m := ((ji96) : Int).toNat) (c := co100) ((Kd.R_reads' (Kd.R_after (ok := (fun _ => True)) (by (with_reducible repeat (first | apply Kd.R_alloc | apply Kd.R_drewN | apply Kd.R_drew)); exact HO_7.out) hg hat)).2.2) KL127.out ((Kd.R_reads' (Kd.R_after (ok := (fun _ => True)) (by (with_reducible repeat (first | apply Kd.R_alloc | apply Kd.R_drewN | apply Kd.R_drew)); exact HO_7.out) hg hat)).2.1)))
            have n10_ := Aside0.mk (ho)
            clear HO_7; clear HO_250002; clear BK249; clear HO274; clear BK276; clear HO282; clear BK284; clear HB; clear HR291; clear HR298; clear HO287; have HO_7 := n0_; have HO_250002 := n1_; have BK249 := n2_; have HO274 := n3_; have BK276 := n4_; have HO282 := n5_; have BK284 := n6_; have HB := n7_; have HR291 := n8_; have HR298 := n9_; have HO294 := n10_; clear n0_ n1_ n2_ n3_ n4_ n5_ n6_ n7_ n8_ n9_ n10_; clear ho hb hg hat
            refine hK.out _ _ trivial (fun hHeld => ?_)
            clear hK K
            refine norm_ (a' := ?_) ?_ ?_
            rotate_left
            ·show Act.put _ (some 123) _ = _
             simp only [Act.put, List.setIfInBounds_toArray, List.set_cons_zero, List.set_cons_succ, i64_w, i32_w]
             rfl
            refine one_ (i := 9) (N := some 128) (bA_11 1023) rfl rfl (one_of HT_.out (by kernel_rfl)) (by decide) (fun K hK => ?_)
            refine Kd.R_append_rows_step (Kd.int .i64) (w0 := w) w.heap.size (by rfl) (.tmp 123) (.tmp 127) 74 3 (.int .i64 0) 8 rfl Try.underlying74 info3 rfl (by decide) (by omega) v293 y292 y295 _ _ _ (fun k_ => some k_ ≠ (.slice (some ad269) x7_3.length co100 : Value).ownBlock) (fun _ => False) rfl rfl ?aO ?aR (fun _ _ h => h) (fun _ h => h.elim) ?aF ?aB ?aS ?aL ?_
            (case aR => repeat (first | exact (by repeat (first | (with_reducible exact HR298.out) | (with_reducible refine Kd.C_alloc ?_ _) | (with_reducible refine Kd.C_drewN ?_ _) | (with_reducible refine Kd.C_drew ?_) | exact HR298.out)) | (with_reducible refine Kd.C_alloc ?_ _) | (with_reducible refine Kd.C_drewN ?_ _) | (with_reducible refine Kd.C_drew ?_)))
            (case aB => exact (by repeat (first | (with_reducible first | exact HB.out | apply below_alloc | apply pw_below_drewN | apply below_drew1 | refine below_set ?_ GE249.out | refine below_set ?_ GE276.out | refine below_set ?_ GE284.out) | exact HB.out)))
            (case aF => exact (fun k_ hk => Kd.fresh' (Kd.R_lt (by (with_reducible repeat (first | apply Kd.R_alloc | apply Kd.R_drewN | apply Kd.R_drew)); exact HO_7.out)) k_ hk))
            (case aO => exact (by (with_reducible repeat (first | apply Kd.R_alloc | apply Kd.R_drewN | apply Kd.R_drew)); exact HO294.out))
            (case aS => exact (below_size (by repeat (first | (with_reducible first | exact HB.out | apply below_alloc | apply pw_below_drewN | apply below_drew1 | refine below_set ?_ GE249.out | refine below_set ?_ GE276.out | refine below_set ?_ GE284.out) | exact HB.out))))
            (case aL => have := LMc99.out; omega)
            intro v300 w131 ho hb hg hat
            rw [← Ny299.out] at ho
            have n0_ := Aside0.mk (Kd.R_after (ok := (fun _ => True)) (by (with_reducible repeat (first | apply Kd.R_alloc | apply Kd.R_drewN | apply Kd.R_drew)); exact HO_7.out) hg hat)
            have n1_ := Aside0.mk (Kd.R_over' (by (with_reducible repeat (first | apply Kd.R_alloc | apply Kd.R_drewN | apply Kd.R_drew)); exact HO_250002.out) (Kd.R_typed (by (with_reducible repeat (first | apply Kd.R_alloc | apply Kd.R_drewN | apply Kd.R_drew)); exact HO294.out)) (by decide) hg)
            have n2_ := Aside0.mk (blk_grown (g := gb249) (o := .cells #[.int .i64 t270, .string t271, .slice Ao108 t272.length co108] 48 (0, 0)) (by (with_reducible repeat (first | refine blk_drewN ?_ _ | refine blk_drew ?_ | refine blk_alloc ?_ _)); exact BK249.out) hg (Kd.R_ne HO294.out BK249.out (by decide)))
            have n3_ := Aside0.mk (Kd.R_over' (by (with_reducible repeat (first | apply Kd.R_alloc | apply Kd.R_drewN | apply Kd.R_drew)); exact HO274.out) (Kd.R_typed (by (with_reducible repeat (first | apply Kd.R_alloc | apply Kd.R_drewN | apply Kd.R_drew)); exact HO294.out)) (by decide) hg)
            have n4_ := Aside0.mk (blk_grown (g := gb276) (o := .cells #[.int .i64 t270, .string t271, .slice Ao108 t272.length co108] 48 (0, 0)) (by (with_reducible repeat (first | refine blk_drewN ?_ _ | refine blk_drew ?_ | refine blk_alloc ?_ _)); exact BK276.out) hg (Kd.R_ne HO294.out BK276.out (by decide)))
            have n5_ := Aside0.mk (Kd.R_over' (by (with_reducible repeat (first | apply Kd.R_alloc | apply Kd.R_drewN | apply Kd.R_drew)); exact HO282.out) (Kd.R_typed (by (with_reducible repeat (first | apply Kd.R_alloc | apply Kd.R_drewN | apply Kd.R_drew)); exact HO294.out)) (by decide) hg)
            have n6_ := Aside0.mk (blk_grown (g := gb284) (o := .cells #[.int .i64 t278, .string t279, .slice Ao117 t280.length co117] 48 (0, 0)) (by (with_reducible repeat (first | refine blk_drewN ?_ _ | refine blk_drew ?_ | refine blk_alloc ?_ _)); exact BK284.out) hg (Kd.R_ne HO294.out BK284.out (by decide)))
            have n7_ := Aside0.mk (hb)
            have n8_ := Aside0.mk ((show Kd.C (Kd.int .i64) w131 (some ad269) y288.length y288 from by rw [Ny288.out]; exact Kd.C_take (m := ((ji67) : Int).toNat) ((Kd.R_reads' (Kd.R_after (ok := (fun _ => True)) (by (with_reducible repeat (first | apply Kd.R_alloc | apply Kd.R_drewN | apply Kd.R_drew)); exact HO_7.out) hg hat)).2.2) KL126.out))
            have n9_ := Aside0.mk ((show Kd.C (Kd.int .i64) w131 A127 y295.length y295 from by rw [Ny295.out, KA127.out]; exact Kd.C_drop (m := ((ji96) : Int).toNat) (c := co100) ((Kd.R_reads' (Kd.R_after (ok := (fun _ => True)) (by (with_reducible repeat (first | apply Kd.R_alloc | apply Kd.R_drewN | apply Kd.R_drew)); exact HO_7.out) hg hat)).2.2) KL127.out ((Kd.R_reads' (Kd.R_after (ok := (fun _ => True)) (by (with_reducible repeat (first | apply Kd.R_alloc | apply Kd.R_drewN | apply Kd.R_drew)); exact HO_7.out) hg hat)).2.1)))
            have n10_ := Aside0.mk (ho)
            clear HO_7; clear HO_250002; clear BK249; clear HO274; clear BK276; clear HO282; clear BK284; clear HB; clear HR291; clear HR298; clear HO294; have HO_7 := n0_; have HO_250002 := n1_; have BK249 := n2_; have HO274 := n3_; have BK276 := n4_; have HO282 := n5_; have BK284 := n6_; have HB := n7_; have HR291 := n8_; have HR298 := n9_; have HO301 := n10_; clear n0_ n1_ n2_ n3_ n4_ n5_ n6_ n7_ n8_ n9_ n10_; clear ho hb hg hat
            refine hK.out _ _ trivial (fun hHeld => ?_)
            clear hK K
            refine norm_ (a' := ?_) ?_ ?_
            rotate_left
            ·show Act.put _ (some 128) _ = _
             simp only [Act.put, List.setIfInBounds_toArray, List.set_cons_zero, List.set_cons_succ, i64_w, i32_w]
             rfl
            refine pure_ (i := 10) (N := some 7) (v := ?_) (a' := ?_) (bA_11 2047) rfl rfl (any_of HT_.out (by kernel_rfl)) (fun _ _ _ h => h) (Or.inl ⟨by rfl, ?_⟩) ?_ ?_
            rotate_left; · (intro w'; go_simp; with_reducible rfl)
            rotate_left; · (simp only [Act.put, List.setIfInBounds_toArray, List.set_cons_zero, List.set_cons_succ, i64_w, i32_w]; rfl)
            refine done_ (done_of HT_.out (by kernel_rfl)) ?_
            try go_wp2
            go_roundg kj59
            case measure => have := HJ4.out; have := HK2.out; have := HK3.out; have := HJ59.out; omega
            case rel => exact ⟨(y299), (wrap64 (x13_3 + 1)), (t270), (t271), (t272), (.slice Ao108 t272.length co108), (by first | rfl | (simp; done) | (simp [*]; done)), H', ⟨by have := HJ4.out; have := HK2.out; have := HK3.out; have := HJ59.out; omega⟩, ⟨by (with_reducible repeat (first | apply Kd.R_alloc | apply Kd.R_drewN | apply Kd.R_drew)); exact Kd.R_mono HO301.out (fun _ hk => trivial)⟩, ⟨by (with_reducible repeat (first | apply Kd.R_alloc | apply Kd.R_drewN | apply Kd.R_drew)); exact Kd.R_mono HO274.out (fun _ hk => trivial)⟩, ⟨by (with_reducible repeat (first | refine blk_drewN ?_ _ | refine blk_drew ?_ | refine blk_alloc ?_ _)); exact BK249.out⟩, ⟨by repeat (first | (with_reducible first | exact HB.out | apply below_alloc | apply pw_below_drewN | apply below_drew1 | refine below_set ?_ GE249.out | refine below_set ?_ GE276.out | refine below_set ?_ GE284.out) | exact HB.out)⟩⟩
           ·replace c63 := Bool.eq_false_iff.mpr c63
            subst c63
            have H1 : (law7Adds.l2 kj59 x7_3 0 x250000_3 x250001_3 x250002_3) = some r := by rw [if_neg (show ¬ (false = true) by decide)] at H; exact H
            clear H
            have H := H1
            clear H1
            have H' := Aside0.mk H
            clear H
            go_wp2
            go_loopg [19] kj59 (fun kq v19 w' => ∃ (x19_5 : Int), v19 = .int .i64 x19_5 ∧ Aside0 (law7Adds.l2 kq x7_3 x19_5 x250000_3 x250001_3 x250002_3 = some r) ∧ Aside0 (kq ≤ kj59) ∧ Aside0 (Kd.R (Kd.int .i64) 3 w' w.heap.size (fun _ => True) u7 x7_3) ∧ Aside0 (Kd.R k72 72 w' w.heap.size (fun _ => True) u250002 x250002_3) ∧ Aside0 (w'.heap[gb249]? = some (.cells #[.int .i64 x250000_3, .string x250001_3, u250002] 48 (0, 0))) ∧ Aside0 (Below w.heap.size w w'))
            case atStart => exact ⟨(0), (by first | rfl | (simp; done) | (simp [*]; done)), H', ⟨Nat.le_refl _⟩, ⟨by (with_reducible repeat (first | apply Kd.R_alloc | apply Kd.R_drewN | apply Kd.R_drew)); exact HO_7.out⟩, ⟨by (with_reducible repeat (first | apply Kd.R_alloc | apply Kd.R_drewN | apply Kd.R_drew)); exact HO_250002.out⟩, ⟨by (with_reducible repeat (first | refine blk_drewN ?_ _ | refine blk_drew ?_ | refine blk_alloc ?_ _)); exact BK249.out⟩, ⟨by repeat (first | (with_reducible first | exact HB.out | apply below_alloc | apply pw_below_drewN | apply below_drew1 | refine below_set ?_ GE249.out) | exact HB.out)⟩⟩
            case round =>
             clear H'
             (try clear p2); (try clear q2); (try clear hx2); (try clear c4); (try clear c6); (try clear p27); (try clear q27); (try clear hx27); (try clear c40); (try clear c63); (try clear c64); (try clear c65); (try clear c68); (try clear c69); (try clear hx277_0); (try clear p277); (try clear q277)
             obtain ⟨x19_5, rfl, HA, HK5, HO_7, HO_250002, BK249, HB⟩ := hrel
             cases gk with
             | zero => exact absurd HA.out (by simp [law7Adds.l2])
             | succ k5 =>
              have H := HA.out
              clear HA
              simp only [law7Adds.l2] at H
              by_cases c151 : x19_5 < (x7_3.length : Int)
              ·rw [if_pos c151] at H
               have c151b0 : decide (x19_5 < (x7_3.length : Int)) = true := decide_eq_true c151
               clear c151
               by_cases c152 : 0 ≤ x19_5
               case neg => rw [if_neg c152] at H; exact absurd H (by simp)
               rw [if_pos c152] at H
               have c152b0 : decide (0 ≤ x19_5) = true := decide_eq_true c152
               clear c152
               replace H := Option.bind_eq_some_iff.mp H
               obtain ⟨⟨t303, t304, t305, t306, t307⟩, A1530, H⟩ := H
               replace H : (if t307 = true then (if t303 = (rd x7_3 x19_5) then (if x19_5 ≥ (x250002_3.length : Int) then (none) else (if x19_5 < (x250002_3.length : Int) then (if ((rd_T72 x250002_3 x19_5).f0) = (rd x7_3 x19_5) then (law7Adds.l2 k5 x7_3 (wrap64 (x19_5 + 1)) x250000_3 x250001_3 x250002_3) else (none)) else (none))) else (none)) else (none)) = some r := H
               have A153 := Aside0.mk A1530
               clear A1530
               by_cases c154 : t307 = true
               case neg =>
                replace c154 := Bool.eq_false_iff.mpr c154
                subst c154
                have H1 : (none) = some r := by rw [if_neg (show ¬ (false = true) by decide)] at H; exact H
                clear H
                have H := H1
                clear H1
                exact absurd H (by simp)
               subst c154
               have H1 : (if t303 = (rd x7_3 x19_5) then (if x19_5 ≥ (x250002_3.length : Int) then (none) else (if x19_5 < (x250002_3.length : Int) then (if ((rd_T72 x250002_3 x19_5).f0) = (rd x7_3 x19_5) then (law7Adds.l2 k5 x7_3 (wrap64 (x19_5 + 1)) x250000_3 x250001_3 x250002_3) else (none)) else (none))) else (none)) = some r := by rw [if_pos rfl] at H; exact H
               clear H
               have H := H1
               clear H1
               by_cases c155 : t303 = (rd x7_3 x19_5)
               case neg => rw [if_neg c155] at H; exact absurd H (by simp)
               rw [if_pos c155] at H
               have c155b0 : (t303 == (rd x7_3 x19_5)) = true := beq_iff_eq.mpr c155
               have c155b1 : (t303 != (rd x7_3 x19_5)) = false := bne_eq_false_iff_eq.mpr c155
               clear c155
               by_cases c156 : x19_5 ≥ (x250002_3.length : Int)
               case pos => rw [if_pos c156] at H; exact absurd H (by simp)
               rw [if_neg c156] at H
               have c156b0 : decide ((x250002_3.length : Int) ≤ x19_5) = false := decide_eq_false c156
               clear c156
               by_cases c169 : x19_5 < (x250002_3.length : Int)
               case neg => rw [if_neg c169] at H; exact absurd H (by simp)
               rw [if_pos c169] at H
               have c169b0 : decide (x19_5 < (x250002_3.length : Int)) = true := decide_eq_true c169
               clear c169
               by_cases c170 : ((rd_T72 x250002_3 x19_5).f0) = (rd x7_3 x19_5)
               case neg => rw [if_neg c170] at H; exact absurd H (by simp)
               rw [if_pos c170] at H
               have c170b0 : (((rd_T72 x250002_3 x19_5).f0) == (rd x7_3 x19_5)) = true := beq_iff_eq.mpr c170
               have c170b1 : (((rd_T72 x250002_3 x19_5).f0) != (rd x7_3 x19_5)) = false := bne_eq_false_iff_eq.mpr c170
               clear c170
               have H' := Aside0.mk H
               clear H
               obtain ⟨Ao171, co171, eo171⟩ := Kd.R_slice HO_7.out
               subst eo171
               obtain ⟨Ao172, co172, eo172⟩ := Kd.R_slice HO_250002.out
               subst eo172
               try go_wp2
               have n0_ := Aside0.mk (Kd.R_drew HO_7.out)
               have n1_ := Aside0.mk (Kd.R_drew HO_250002.out)
               have n2_ := Aside0.mk (blk_drew BK249.out)
               have n3_ := Aside0.mk (below_drew1 HB.out)
               clear HO_7; clear HO_250002; clear BK249; clear HB; have HO_7 := n0_; have HO_250002 := n1_; have BK249 := n2_; have HB := n3_; clear n0_ n1_ n2_ n3_
               have p302 : 0 ≤ (x19_5 : Int) := of_decide_eq_true (by first | (with_reducible assumption) | assumption)
               have q302 : x19_5 < (x7_3.length : Int) := of_decide_eq_true (by first | (with_reducible assumption) | assumption)
               obtain ⟨ad302, e302, hx302_0⟩ := Kd.at_int (Kd.R_reads' HO_7.out).2.2 x19_5 p302 q302
               cases e302
               replace p302 := eq_true p302
               replace q302 := eq_true q302
               refine start_ (n := 12) (S := fun w' => w'.cell? ⟨gb249, 0, none⟩ = some (.int .i64 x250000_3) ∧ w'.cell? ⟨gb249, 1, none⟩ = some (.string x250001_3) ∧ w'.cell? ⟨gb249, 2, none⟩ = some (.slice Ao172 x250002_3.length co172) ∧ w'.cell? (ad302.add (x19_5).toNat) = some (.int .i64 (rd x7_3 x19_5))) (ds := []) #[false, false, false, false, false, false, false, false, false, false, false, false] (by kernel_rfl) rfl rfl ⟨(blk_cell BK249.out 0).trans rfl, (blk_cell BK249.out 1).trans rfl, (blk_cell BK249.out 2).trans rfl, hx302_0⟩ (fun hHeld => ?_); refine with_tabW law7Adds.tab31 law7Adds.bits31 (fun HT_ HW_ => ?_)
               generalize wr.drew = w173 at HO_7 HO_250002 BK249 HB hx302_0 hHeld ⊢
               refine pure_ (i := 1) (N := some 137) (v := ?_) (a' := ?_) (bA_12 2) rfl rfl (any_of HT_.out (by kernel_rfl)) (fun _ _ _ h => h) (Or.inl ⟨by rfl, ?_⟩) ?_ ?_
               rotate_left; · (intro w'; go_simp; with_reducible rfl)
               rotate_left; · (simp only [Act.put, List.setIfInBounds_toArray, List.set_cons_zero, List.set_cons_succ, i64_w, i32_w]; rfl)
               refine pure_ (i := 2) (N := some 138) (v := ?_) (a' := ?_) (bA_12 6) rfl rfl (any_of HT_.out (by kernel_rfl)) (fun _ _ _ h => h) (Or.inl ⟨by rfl, ?_⟩) ?_ ?_
               rotate_left; · (intro w'; go_simp; with_reducible rfl)
               rotate_left; · (simp only [Act.put, List.setIfInBounds_toArray, List.set_cons_zero, List.set_cons_succ, i64_w, i32_w]; rfl)
               refine pure_ (i := 3) (N := some 139) (v := ?_) (a' := ?_) (bA_12 14) rfl rfl (any_of HT_.out (by kernel_rfl)) (fun _ _ _ h => h) (Or.inl ⟨by rfl, ?_⟩) ?_ ?_
               rotate_left; · (intro w'; go_simp; with_reducible rfl)
               rotate_left; · (simp only [Act.put, List.setIfInBounds_toArray, List.set_cons_zero, List.set_cons_succ, i64_w, i32_w]; rfl)
               refine take_ (i := 0) (N := some 136) (v := ?_) (a' := ?_) (bA_12 15) rfl rfl (take_ofW HT_.out HW_.out (by kernel_rfl)) (fun _ _ _ h => h) (Or.inl ⟨by rfl, ?_⟩) hHeld ?_ ?_
               rotate_left; · (rintro w' ⟨s0, s1, s2, s3⟩; go_simp; with_reducible rfl)
               rotate_left; · (simp only [Act.put, List.setIfInBounds_toArray, List.set_cons_zero, List.set_cons_succ, i64_w, i32_w]; rfl)
               refine take_ (i := 4) (N := some 140) (v := ?_) (a' := ?_) (bA_12 31) rfl rfl (take_ofW HT_.out HW_.out (by kernel_rfl)) (fun _ _ _ h => h) (Or.inl ⟨by rfl, ?_⟩) hHeld ?_ ?_
               rotate_left; · (rintro w' ⟨s0, s1, s2, s3⟩; go_simp; with_reducible rfl)
               rotate_left; · (simp only [Act.put, List.setIfInBounds_toArray, List.set_cons_zero, List.set_cons_succ, i64_w, i32_w]; rfl)
               refine join_ (σ := Nat) 2 (bA_12 1023) (fun s_ => [(141, .tuple #[.agg #[.int .i64 t303, .bool t304, .int .i64 t305, .int .u32 t306], .bool true]), (20, .pointer (some ⟨s_, 0, none⟩)), (135, .tuple #[.agg #[.int .i64 t303, .bool t304, .int .i64 t305, .int .u32 t306], .bool true]), (142, .agg #[.int .i64 t303, .bool t304, .int .i64 t305, .int .u32 t306]), (143, .bool true)]) (fun s_ w' => (w'.cell? ⟨gb249, 0, none⟩ = some (.int .i64 x250000_3) ∧ w'.cell? ⟨gb249, 1, none⟩ = some (.string x250001_3) ∧ w'.cell? ⟨gb249, 2, none⟩ = some (.slice Ao172 x250002_3.length co172) ∧ w'.cell? (ad302.add (x19_5).toNat) = some (.int .i64 (rd x7_3 x19_5))) ∧ (Kd.R k72 72 w' w.heap.size (fun k_ => k_ ≠ s_) (.slice Ao172 x250002_3.length co172) x250002_3) ∧ (Kd.R (Kd.int .i64) 3 w' w.heap.size (fun _ => True) (.slice (some ad302) x7_3.length co171) x7_3) ∧ (w'.heap[gb249]? = some (.cells #[.int .i64 x250000_3, .string x250001_3, .slice Ao172 x250002_3.length co172] 48 (0, 0))) ∧ (w'.heap[s_]? = some (.cells #[.int .i64 0, .bool false, .int .i64 0, .int .u32 0] 72 (0, 0))) ∧ (w.heap.size ≤ s_) ∧ (w.heap.size ≤ s_) ∧ (gb249 ≠ s_) ∧ (s_ ≠ gb249) ∧ (Below w.heap.size w w')) ?_ ?_
               rotate_left
               ·intro hCont
                refine two_ (i := 5) (j := 9) (Ni := some 141) (Nj := some 20) (bA_12 63) (bA_12 543) rfl rfl rfl rfl (two_of HT_.out (by kernel_rfl)) (by decide) (by decide) (fun K hK => ?_) (fun K hK => ?_)
                ·skip
                 refine goes_ Try.func41 (by kernel_rfl) rfl #[.agg #[.int .i64 x250000_3, .string x250001_3, .slice Ao172 x250002_3.length co172], .int .i64 (rd x7_3 x19_5)] (by rfl) rfl rfl (by (try simp only [List.map_toArray, List.map_cons, List.map_nil]); first | done | rfl | (simp only [List.length_drop, List.length_take]; rfl)) ?_
                 with_reducible refine (journal_Find.calls x250000_3 x250001_3 _ _ x250002_3 (rd x7_3 x19_5) t303 t304 t305 t306 true _ ?side1 ?side2 A153.out).mono ?_
                 (case side1 => repeat (first | exact (Kd.R_reads' HO_250002.out).2.2 | (with_reducible refine Kd.C_alloc ?_ _) | (with_reducible refine Kd.C_drewN ?_ _) | (with_reducible refine Kd.C_drew ?_)))
                 (case side2 => exact (Kd.R_reads' HO_250002.out).2.1)
                 rintro e w174 ⟨rfl, hb⟩
                 have HS3_ := (hb.cell (World.block_lt_of_cell? _ _ (hHeld.2.2.2))).trans (hHeld.2.2.2)
                 refine ⟨_, rfl, ?_⟩
                 have n0_ := Aside0.mk (Kd.R_below (by (with_reducible repeat (first | apply Kd.R_alloc | apply Kd.R_drewN | apply Kd.R_drew)); exact HO_7.out) hb)
                 have n1_ := Aside0.mk (Kd.R_below (by (with_reducible repeat (first | apply Kd.R_alloc | apply Kd.R_drewN | apply Kd.R_drew)); exact HO_250002.out) hb)
                 have n2_ := Aside0.mk (blk_below (g := gb249) (o := .cells #[.int .i64 x250000_3, .string x250001_3, .slice Ao172 x250002_3.length co172] 48 (0, 0)) (by (with_reducible repeat (first | refine blk_drewN ?_ _ | refine blk_drew ?_ | refine blk_alloc ?_ _)); exact BK249.out) hb)
                 have n3_ := Aside0.mk (below_step (by repeat (first | (with_reducible first | exact HB.out | apply below_alloc | apply pw_below_drewN | apply below_drew1 | refine below_set ?_ GE249.out) | exact HB.out)) hb)
                 clear HO_7; clear HO_250002; clear BK249; clear HB; have HO_7 := n0_; have HO_250002 := n1_; have BK249 := n2_; have HB := n3_; clear n0_ n1_ n2_ n3_
                 (try clear hb)
                 (try clear hb2)
                 (try clear hk)
                 (try clear hi)
                 refine hK.out _ _ ⟨(blk_cell BK249.out 0).trans rfl, (blk_cell BK249.out 1).trans rfl, (blk_cell BK249.out 2).trans rfl, HS3_⟩ (fun hHeld => ?_)
                 clear hK K
                 refine norm_ (a' := ?_) ?_ ?_
                 rotate_left
                 ·show Act.put _ (some 141) _ = _
                  simp only [Act.put, List.setIfInBounds_toArray, List.set_cons_zero, List.set_cons_succ, i64_w, i32_w]
                  rfl
                 refine pure_ (i := 6) (N := some 135) (v := ?_) (a' := ?_) (bA_12 127) rfl rfl (any_of HT_.out (by kernel_rfl)) (fun _ _ _ h => h) (Or.inl ⟨by rfl, ?_⟩) ?_ ?_
                 rotate_left; · (intro w'; go_simp; with_reducible rfl)
                 rotate_left; · (simp only [Act.put, List.setIfInBounds_toArray, List.set_cons_zero, List.set_cons_succ, i64_w, i32_w]; rfl)
                 refine pure_ (i := 7) (N := some 142) (v := ?_) (a' := ?_) (bA_12 255) rfl rfl (any_of HT_.out (by kernel_rfl)) (fun _ _ _ h => h) (Or.inl ⟨by rfl, ?_⟩) ?_ ?_
                 rotate_left; · (intro w'; go_simp; with_reducible rfl)
                 rotate_left; · (simp only [Act.put, List.setIfInBounds_toArray, List.set_cons_zero, List.set_cons_succ, i64_w, i32_w]; rfl)
                 refine pure_ (i := 8) (N := some 143) (v := ?_) (a' := ?_) (bA_12 511) rfl rfl (any_of HT_.out (by kernel_rfl)) (fun _ _ _ h => h) (Or.inl ⟨by rfl, ?_⟩) ?_ ?_
                 rotate_left; · (intro w'; go_simp; with_reducible rfl)
                 rotate_left; · (simp only [Act.put, List.setIfInBounds_toArray, List.set_cons_zero, List.set_cons_succ, i64_w, i32_w]; rfl)
                 refine one_ (i := 9) (N := some 20) (bA_12 1023) rfl rfl (one_of HT_.out (by kernel_rfl)) (by decide) (fun K hK => ?_)
                 refine box_step ?hg (N := 20) ?hd (cs := #[.int .i64 0, .bool false, .int .i64 0, .int .u32 0]) (t := 72) ?hr ?_; (case hd => rfl); (case hg => rfl); (case hr => first | (go_simp; done) | (go_simp; rfl))
                 intro gb308 hg w175 hbox hb
                 have HS3_ := (hb.cell (World.block_lt_of_cell? _ _ (hHeld.2.2.2))).trans (hHeld.2.2.2)
                 have n0_ := Aside0.mk (Kd.R_below (by (with_reducible repeat (first | apply Kd.R_alloc | apply Kd.R_drewN | apply Kd.R_drew)); exact HO_7.out) hb)
                 have n1_ := Aside0.mk (Kd.R_below (Kd.R_elderB (by (with_reducible repeat (first | apply Kd.R_alloc | apply Kd.R_drewN | apply Kd.R_drew)); exact HO_250002.out) gb308 (Nat.le_of_eq hg.symm)) hb)
                 have n2_ := Aside0.mk (blk_below (g := gb249) (o := .cells #[.int .i64 x250000_3, .string x250001_3, .slice Ao172 x250002_3.length co172] 48 (0, 0)) (by (with_reducible repeat (first | refine blk_drewN ?_ _ | refine blk_drew ?_ | refine blk_alloc ?_ _)); exact BK249.out) hb)
                 have n3_ := Aside0.mk (below_step (by repeat (first | (with_reducible first | exact HB.out | apply below_alloc | apply pw_below_drewN | apply below_drew1 | refine below_set ?_ GE249.out) | exact HB.out)) hb)
                 have n4_ := Aside0.mk (hbox)
                 have n5_ := Aside0.mk ((by rw [hg]; exact (below_size (by repeat (first | (with_reducible first | exact HB.out | apply below_alloc | apply pw_below_drewN | apply below_drew1 | refine below_set ?_ GE249.out) | exact HB.out))) : w.heap.size ≤ gb308))
                 have n6_ := Aside0.mk ((by rw [hg]; exact (below_size (by repeat (first | (with_reducible first | exact HB.out | apply below_alloc | apply pw_below_drewN | apply below_drew1 | refine below_set ?_ GE249.out) | exact HB.out))) : w.heap.size ≤ gb308))
                 have n7_ := Aside0.mk ((by rw [hg]; exact Nat.ne_of_lt (blk_lt (g := gb249) (o := .cells #[.int .i64 x250000_3, .string x250001_3, .slice Ao172 x250002_3.length co172] 48 (0, 0)) (by (with_reducible repeat (first | refine blk_drewN ?_ _ | refine blk_drew ?_ | refine blk_alloc ?_ _)); exact BK249.out)) : gb249 ≠ gb308))
                 have n8_ := Aside0.mk ((by rw [hg]; exact Nat.ne_of_gt (blk_lt (g := gb249) (o := .cells #[.int .i64 x250000_3, .string x250001_3, .slice Ao172 x250002_3.length co172] 48 (0, 0)) (by (with_reducible repeat (first | refine blk_drewN ?_ _ | refine blk_drew ?_ | refine blk_alloc ?_ _)); exact BK249.out)) : gb308 ≠ gb249))
                 clear HO_7; clear HO_250002; clear BK249; clear HB; have HO_7 := n0_; have HO_250002 := n1_; have BK249 := n2_; have HB := n3_; have BK308 := n4_; have GW308 := n5_; have GE308 := n6_; have NB249_308 := n7_; have NB308_249 := n8_; clear n0_ n1_ n2_ n3_ n4_ n5_ n6_ n7_ n8_; clear hb hbox hg
                 refine hK.out _ _ ⟨(blk_cell BK249.out 0).trans rfl, (blk_cell BK249.out 1).trans rfl, (blk_cell BK249.out 2).trans rfl, HS3_⟩ (fun hHeld => ?_)
                 clear hK K
                 refine norm_ (a' := ?_) ?_ ?_
                 rotate_left
                 ·show Act.put _ (some 20) _ = _
                  simp only [Act.put, List.setIfInBounds_toArray, List.set_cons_zero, List.set_cons_succ, i64_w, i32_w]
                  rfl
                 exact norm_ (by simp only [putAll, Act.put, List.setIfInBounds_toArray, List.set_cons_zero, List.set_cons_succ]) (hCont (gb308) _ ⟨hHeld, (by (with_reducible repeat (first | apply Kd.R_alloc | apply Kd.R_drewN | apply Kd.R_drew)); exact Kd.R_mono HO_250002.out (fun _ hk => hk.2)), (by (with_reducible repeat (first | apply Kd.R_alloc | apply Kd.R_drewN | apply Kd.R_drew)); exact HO_7.out), (by (with_reducible repeat (first | refine blk_drewN ?_ _ | refine blk_drew ?_ | refine blk_alloc ?_ _)); exact BK249.out), (by (with_reducible repeat (first | refine blk_drewN ?_ _ | refine blk_drew ?_ | refine blk_alloc ?_ _)); exact BK308.out), GW308.out, GE308.out, NB249_308.out, NB308_249.out, (by repeat (first | (with_reducible first | exact HB.out | apply below_alloc | apply pw_below_drewN | apply below_drew1 | refine below_set ?_ GE249.out | refine below_set ?_ GE308.out) | exact HB.out))⟩)
                ·skip
                 refine box_step ?hg (N := 20) ?hd (cs := #[.int .i64 0, .bool false, .int .i64 0, .int .u32 0]) (t := 72) ?hr ?_; (case hd => rfl); (case hg => rfl); (case hr => first | (go_simp; done) | (go_simp; rfl))
                 intro gb308 hg w174 hbox hb
                 have HS3_ := (hb.cell (World.block_lt_of_cell? _ _ (hHeld.2.2.2))).trans (hHeld.2.2.2)
                 have n0_ := Aside0.mk (Kd.R_below (by (with_reducible repeat (first | apply Kd.R_alloc | apply Kd.R_drewN | apply Kd.R_drew)); exact HO_7.out) hb)
                 have n1_ := Aside0.mk (Kd.R_below (Kd.R_elderB (by (with_reducible repeat (first | apply Kd.R_alloc | apply Kd.R_drewN | apply Kd.R_drew)); exact HO_250002.out) gb308 (Nat.le_of_eq hg.symm)) hb)
                 have n2_ := Aside0.mk (blk_below (g := gb249) (o := .cells #[.int .i64 x250000_3, .string x250001_3, .slice Ao172 x250002_3.length co172] 48 (0, 0)) (by (with_reducible repeat (first | refine blk_drewN ?_ _ | refine blk_drew ?_ | refine blk_alloc ?_ _)); exact BK249.out) hb)
                 have n3_ := Aside0.mk (below_step (by repeat (first | (with_reducible first | exact HB.out | apply below_alloc | apply pw_below_drewN | apply below_drew1 | refine below_set ?_ GE249.out) | exact HB.out)) hb)
                 have n4_ := Aside0.mk (hbox)
                 have n5_ := Aside0.mk ((by rw [hg]; exact (below_size (by repeat (first | (with_reducible first | exact HB.out | apply below_alloc | apply pw_below_drewN | apply below_drew1 | refine below_set ?_ GE249.out) | exact HB.out))) : w.heap.size ≤ gb308))
                 have n6_ := Aside0.mk ((by rw [hg]; exact (below_size (by repeat (first | (with_reducible first | exact HB.out | apply below_alloc | apply pw_below_drewN | apply below_drew1 | refine below_set ?_ GE249.out) | exact HB.out))) : w.heap.size ≤ gb308))
                 have n7_ := Aside0.mk ((by rw [hg]; exact Nat.ne_of_lt (blk_lt (g := gb249) (o := .cells #[.int .i64 x250000_3, .string x250001_3, .slice Ao172 x250002_3.length co172] 48 (0, 0)) (by (with_reducible repeat (first | refine blk_drewN ?_ _ | refine blk_drew ?_ | refine blk_alloc ?_ _)); exact BK249.out)) : gb249 ≠ gb308))
                 have n8_ := Aside0.mk ((by rw [hg]; exact Nat.ne_of_gt (blk_lt (g := gb249) (o := .cells #[.int .i64 x250000_3, .string x250001_3, .slice Ao172 x250002_3.length co172] 48 (0, 0)) (by (with_reducible repeat (first | refine blk_drewN ?_ _ | refine blk_drew ?_ | refine blk_alloc ?_ _)); exact BK249.out)) : gb308 ≠ gb249))
                 clear HO_7; clear HO_250002; clear BK249; clear HB; have HO_7 := n0_; have HO_250002 := n1_; have BK249 := n2_; have HB := n3_; have BK308 := n4_; have GW308 := n5_; have GE308 := n6_; have NB249_308 := n7_; have NB308_249 := n8_; clear n0_ n1_ n2_ n3_ n4_ n5_ n6_ n7_ n8_; clear hb hbox hg
                 refine hK.out _ _ ⟨(blk_cell BK249.out 0).trans rfl, (blk_cell BK249.out 1).trans rfl, (blk_cell BK249.out 2).trans rfl, HS3_⟩ (fun hHeld => ?_)
                 clear hK K
                 refine norm_ (a' := ?_) ?_ ?_
                 rotate_left
                 ·show Act.put _ (some 20) _ = _
                  simp only [Act.put, List.setIfInBounds_toArray, List.set_cons_zero, List.set_cons_succ, i64_w, i32_w]
                  rfl
                 refine one_ (i := 5) (N := some 141) (bA_12 575) rfl rfl (one_of HT_.out (by kernel_rfl)) (by decide) (fun K hK => ?_)
                 refine goes_ Try.func41 (by kernel_rfl) rfl #[.agg #[.int .i64 x250000_3, .string x250001_3, .slice Ao172 x250002_3.length co172], .int .i64 (rd x7_3 x19_5)] (by rfl) rfl rfl (by (try simp only [List.map_toArray, List.map_cons, List.map_nil]); first | done | rfl | (simp only [List.length_drop, List.length_take]; rfl)) ?_
                 with_reducible refine (journal_Find.calls x250000_3 x250001_3 _ _ x250002_3 (rd x7_3 x19_5) t303 t304 t305 t306 true _ ?side1 ?side2 A153.out).mono ?_
                 (case side1 => repeat (first | exact (Kd.R_reads' HO_250002.out).2.2 | (with_reducible refine Kd.C_alloc ?_ _) | (with_reducible refine Kd.C_drewN ?_ _) | (with_reducible refine Kd.C_drew ?_)))
                 (case side2 => exact (Kd.R_reads' HO_250002.out).2.1)
                 rintro e w175 ⟨rfl, hb⟩
                 have HS3_ := (hb.cell (World.block_lt_of_cell? _ _ (hHeld.2.2.2))).trans (hHeld.2.2.2)
                 refine ⟨_, rfl, ?_⟩
                 have n0_ := Aside0.mk (Kd.R_below (by (with_reducible repeat (first | apply Kd.R_alloc | apply Kd.R_drewN | apply Kd.R_drew)); exact HO_7.out) hb)
                 have n1_ := Aside0.mk (Kd.R_below (by (with_reducible repeat (first | apply Kd.R_alloc | apply Kd.R_drewN | apply Kd.R_drew)); exact HO_250002.out) hb)
                 have n2_ := Aside0.mk (blk_below (g := gb249) (o := .cells #[.int .i64 x250000_3, .string x250001_3, .slice Ao172 x250002_3.length co172] 48 (0, 0)) (by (with_reducible repeat (first | refine blk_drewN ?_ _ | refine blk_drew ?_ | refine blk_alloc ?_ _)); exact BK249.out) hb)
                 have n3_ := Aside0.mk (blk_below (g := gb308) (o := .cells #[.int .i64 0, .bool false, .int .i64 0, .int .u32 0] 72 (0, 0)) (by (with_reducible repeat (first | refine blk_drewN ?_ _ | refine blk_drew ?_ | refine blk_alloc ?_ _)); exact BK308.out) hb)
                 have n4_ := Aside0.mk (below_step (by repeat (first | (with_reducible first | exact HB.out | apply below_alloc | apply pw_below_drewN | apply below_drew1 | refine below_set ?_ GE249.out | refine below_set ?_ GE308.out) | exact HB.out)) hb)
                 clear HO_7; clear HO_250002; clear BK249; clear BK308; clear HB; have HO_7 := n0_; have HO_250002 := n1_; have BK249 := n2_; have BK308 := n3_; have HB := n4_; clear n0_ n1_ n2_ n3_ n4_
                 (try clear hb)
                 (try clear hb2)
                 (try clear hk)
                 (try clear hi)
                 refine hK.out _ _ ⟨(blk_cell BK249.out 0).trans rfl, (blk_cell BK249.out 1).trans rfl, (blk_cell BK249.out 2).trans rfl, HS3_⟩ (fun hHeld => ?_)
                 clear hK K
                 refine norm_ (a' := ?_) ?_ ?_
                 rotate_left
                 ·show Act.put _ (some 141) _ = _
                  simp only [Act.put, List.setIfInBounds_toArray, List.set_cons_zero, List.set_cons_succ, i64_w, i32_w]
                  rfl
                 refine pure_ (i := 6) (N := some 135) (v := ?_) (a' := ?_) (bA_12 639) rfl rfl (any_of HT_.out (by kernel_rfl)) (fun _ _ _ h => h) (Or.inl ⟨by rfl, ?_⟩) ?_ ?_
                 rotate_left; · (intro w'; go_simp; with_reducible rfl)
                 rotate_left; · (simp only [Act.put, List.setIfInBounds_toArray, List.set_cons_zero, List.set_cons_succ, i64_w, i32_w]; rfl)
                 refine pure_ (i := 7) (N := some 142) (v := ?_) (a' := ?_) (bA_12 767) rfl rfl (any_of HT_.out (by kernel_rfl)) (fun _ _ _ h => h) (Or.inl ⟨by rfl, ?_⟩) ?_ ?_
                 rotate_left; · (intro w'; go_simp; with_reducible rfl)
                 rotate_left; · (simp only [Act.put, List.setIfInBounds_toArray, List.set_cons_zero, List.set_cons_succ, i64_w, i32_w]; rfl)
                 refine pure_ (i := 8) (N := some 143) (v := ?_) (a' := ?_) (bA_12 1023) rfl rfl (any_of HT_.out (by kernel_rfl)) (fun _ _ _ h => h) (Or.inl ⟨by rfl, ?_⟩) ?_ ?_
                 rotate_left; · (intro w'; go_simp; with_reducible rfl)
                 rotate_left; · (simp only [Act.put, List.setIfInBounds_toArray, List.set_cons_zero, List.set_cons_succ, i64_w, i32_w]; rfl)
                 exact norm_ (by simp only [putAll, Act.put, List.setIfInBounds_toArray, List.set_cons_zero, List.set_cons_succ]) (hCont (gb308) _ ⟨hHeld, (by (with_reducible repeat (first | apply Kd.R_alloc | apply Kd.R_drewN | apply Kd.R_drew)); exact Kd.R_mono HO_250002.out (fun _ hk => hk.2)), (by (with_reducible repeat (first | apply Kd.R_alloc | apply Kd.R_drewN | apply Kd.R_drew)); exact HO_7.out), (by (with_reducible repeat (first | refine blk_drewN ?_ _ | refine blk_drew ?_ | refine blk_alloc ?_ _)); exact BK249.out), (by (with_reducible repeat (first | refine blk_drewN ?_ _ | refine blk_drew ?_ | refine blk_alloc ?_ _)); exact BK308.out), GW308.out, GE308.out, NB249_308.out, NB308_249.out, (by repeat (first | (with_reducible first | exact HB.out | apply below_alloc | apply pw_below_drewN | apply below_drew1 | refine below_set ?_ GE249.out | refine below_set ?_ GE308.out) | exact HB.out))⟩)
               rintro gb308 w176 ⟨hS_, h0_, h1_, h2_, h3_, h4_, h5_, h6_, h7_, h8_⟩
               have n0_ : Aside0 (Kd.R k72 72 w176 w.heap.size (fun k_ => k_ ≠ gb308) (.slice Ao172 x250002_3.length co172) x250002_3) := ⟨h0_⟩
               have n1_ : Aside0 (Kd.R (Kd.int .i64) 3 w176 w.heap.size (fun _ => True) (.slice (some ad302) x7_3.length co171) x7_3) := ⟨h1_⟩
               have n2_ : Aside0 (w176.heap[gb249]? = some (.cells #[.int .i64 x250000_3, .string x250001_3, .slice Ao172 x250002_3.length co172] 48 (0, 0))) := ⟨h2_⟩
               have n3_ : Aside0 (w176.heap[gb308]? = some (.cells #[.int .i64 0, .bool false, .int .i64 0, .int .u32 0] 72 (0, 0))) := ⟨h3_⟩
               have n4_ : Aside0 (w.heap.size ≤ gb308) := ⟨h4_⟩
               have n5_ : Aside0 (w.heap.size ≤ gb308) := ⟨h5_⟩
               have n6_ : Aside0 (gb249 ≠ gb308) := ⟨h6_⟩
               have n7_ : Aside0 (gb308 ≠ gb249) := ⟨h7_⟩
               have n8_ : Aside0 (Below w.heap.size w w176) := ⟨h8_⟩
               clear HO_7; clear HO_250002; clear BK249; clear HB; clear h0_ h1_ h2_ h3_ h4_ h5_ h6_ h7_ h8_; have HO_250002 := n0_; have HO_7 := n1_; have BK249 := n2_; have BK308 := n3_; have GW308 := n4_; have GE308 := n5_; have NB249_308 := n6_; have NB308_249 := n7_; have HB := n8_; clear n0_ n1_ n2_ n3_ n4_ n5_ n6_ n7_ n8_
               have hHeld : w176.cell? ⟨gb249, 0, none⟩ = some (.int .i64 x250000_3) ∧ w176.cell? ⟨gb249, 1, none⟩ = some (.string x250001_3) ∧ w176.cell? ⟨gb249, 2, none⟩ = some (.slice Ao172 x250002_3.length co172) ∧ w176.cell? (ad302.add (x19_5).toNat) = some (.int .i64 (rd x7_3 x19_5)) := hS_
               refine norm_ (a' := ?_) ?_ ?_
               rotate_left
               ·simp only [putAll, Act.put, List.setIfInBounds_toArray, List.set_cons_zero, List.set_cons_succ]
                rfl
               refine one_ (i := 10) (N := none) (bA_12 2047) rfl rfl (one_of HT_.out (by kernel_rfl)) (by decide) (fun K hK => ?_)
               have hs177 : w176.cell? ⟨gb308, 0, none⟩ = some (.int .i64 0) := (blk_cell BK308.out 0).trans rfl
               have hfs177 := blk_frozen BK308.out 0
               have hns177_0 := NB249_308.out
               have hms177_0 := NB308_249.out
               have hs178 : w176.cell? ⟨gb308, 1, none⟩ = some (.bool false) := (blk_cell BK308.out 1).trans rfl
               have hfs178 := blk_frozen BK308.out 1
               have hns178_0 := NB249_308.out
               have hms178_0 := NB308_249.out
               have hs179 : w176.cell? ⟨gb308, 2, none⟩ = some (.int .i64 0) := (blk_cell BK308.out 2).trans rfl
               have hfs179 := blk_frozen BK308.out 2
               have hns179_0 := NB249_308.out
               have hms179_0 := NB308_249.out
               have hs180 : w176.cell? ⟨gb308, 3, none⟩ = some (.int .u32 0) := (blk_cell BK308.out 3).trans rfl
               have hfs180 := blk_frozen BK308.out 3
               have hns180_0 := NB249_308.out
               have hms180_0 := NB308_249.out
               refine skip_ (w1 := ?_) (by rfl) rfl ?_ ?_
               rotate_left
               ·go_simp
                rfl
               refine hK.out _ _ ⟨((cell_far (p := ⟨gb308, _, none⟩) NB249_308.out _).trans (((cell_far (p := ⟨gb308, _, none⟩) NB249_308.out _).trans (((cell_far (p := ⟨gb308, _, none⟩) NB249_308.out _).trans (((cell_far (p := ⟨gb308, _, none⟩) NB249_308.out _).trans (hHeld.1)))))))), ((cell_far (p := ⟨gb308, _, none⟩) NB249_308.out _).trans (((cell_far (p := ⟨gb308, _, none⟩) NB249_308.out _).trans (((cell_far (p := ⟨gb308, _, none⟩) NB249_308.out _).trans (((cell_far (p := ⟨gb308, _, none⟩) NB249_308.out _).trans (hHeld.2.1)))))))), ((cell_far (p := ⟨gb308, _, none⟩) NB249_308.out _).trans (((cell_far (p := ⟨gb308, _, none⟩) NB249_308.out _).trans (((cell_far (p := ⟨gb308, _, none⟩) NB249_308.out _).trans (((cell_far (p := ⟨gb308, _, none⟩) NB249_308.out _).trans (hHeld.2.2.1)))))))), ((cell_far (p := ⟨gb308, _, none⟩) (by first | exact Kd.own_blk (Kd.R_ne HO_7.out BK308.out (by decide)) | (rw [add_block]; exact Kd.own_blk (Kd.R_ne HO_7.out BK308.out (by decide))) | (show (Addr.add _ _).block ≠ _; rw [add_block]; exact Kd.own_blk (Kd.R_ne HO_7.out BK308.out (by decide))) | (dsimp only; exact Kd.own_blk (Kd.R_ne HO_7.out BK308.out (by decide)))) _).trans (((cell_far (p := ⟨gb308, _, none⟩) (by first | exact Kd.own_blk (Kd.R_ne HO_7.out BK308.out (by decide)) | (rw [add_block]; exact Kd.own_blk (Kd.R_ne HO_7.out BK308.out (by decide))) | (show (Addr.add _ _).block ≠ _; rw [add_block]; exact Kd.own_blk (Kd.R_ne HO_7.out BK308.out (by decide))) | (dsimp only; exact Kd.own_blk (Kd.R_ne HO_7.out BK308.out (by decide)))) _).trans (((cell_far (p := ⟨gb308, _, none⟩) (by first | exact Kd.own_blk (Kd.R_ne HO_7.out BK308.out (by decide)) | (rw [add_block]; exact Kd.own_blk (Kd.R_ne HO_7.out BK308.out (by decide))) | (show (Addr.add _ _).block ≠ _; rw [add_block]; exact Kd.own_blk (Kd.R_ne HO_7.out BK308.out (by decide))) | (dsimp only; exact Kd.own_blk (Kd.R_ne HO_7.out BK308.out (by decide)))) _).trans (((cell_far (p := ⟨gb308, _, none⟩) (by first | exact Kd.own_blk (Kd.R_ne HO_7.out BK308.out (by decide)) | (rw [add_block]; exact Kd.own_blk (Kd.R_ne HO_7.out BK308.out (by decide))) | (show (Addr.add _ _).block ≠ _; rw [add_block]; exact Kd.own_blk (Kd.R_ne HO_7.out BK308.out (by decide))) | (dsimp only; exact Kd.own_blk (Kd.R_ne HO_7.out BK308.out (by decide)))) _).trans (hHeld.2.2.2))))))))⟩ (fun hHeld => ?_)
               clear hK K
               refine pure_ (i := 11) (N := some 21) (v := ?_) (a' := ?_) (bA_12 4095) rfl rfl (any_of HT_.out (by kernel_rfl)) (fun _ _ _ h => h) (Or.inl ⟨by rfl, ?_⟩) ?_ ?_
               rotate_left; · (intro w'; go_simp; with_reducible rfl)
               rotate_left; · (simp only [Act.put, List.setIfInBounds_toArray, List.set_cons_zero, List.set_cons_succ, i64_w, i32_w]; rfl)
               refine done_ (done_of HT_.out (by kernel_rfl)) ?_
               try go_wp2
               have n0_ : Aside0 (Kd.R (Kd.int .i64) 3 ((((w176.setCell ⟨gb308, 0, none⟩ (.int .i64 t303)).setCell ⟨gb308, 1, none⟩ (.bool t304)).setCell ⟨gb308, 2, none⟩ (.int .i64 t305)).setCell ⟨gb308, 3, none⟩ (.int .u32 t306)) w.heap.size (fun _ => True) (.slice (some ad302) x7_3.length co171) x7_3) := ⟨by (with_reducible repeat (first | apply Kd.R_alloc | apply Kd.R_drewN | apply Kd.R_drew)); exact Kd.R_mono (Kd.R_far (p := ⟨gb308, 3, none⟩) (Kd.R_far (p := ⟨gb308, 2, none⟩) (Kd.R_far (p := ⟨gb308, 1, none⟩) (Kd.R_far (p := ⟨gb308, 0, none⟩) (Kd.R_types HO_7.out BK308.out (by decide)) (fun _ hk => hk.2) (.int .i64 t303)) (fun _ hk => hk.2) (.bool t304)) (fun _ hk => hk.2) (.int .i64 t305)) (fun _ hk => hk.2) (.int .u32 t306)) (fun _ hk => trivial)⟩
               have n1_ : Aside0 (Kd.R k72 72 ((((w176.setCell ⟨gb308, 0, none⟩ (.int .i64 t303)).setCell ⟨gb308, 1, none⟩ (.bool t304)).setCell ⟨gb308, 2, none⟩ (.int .i64 t305)).setCell ⟨gb308, 3, none⟩ (.int .u32 t306)) w.heap.size (fun k_ => k_ ≠ gb308) (.slice Ao172 x250002_3.length co172) x250002_3) := ⟨by (with_reducible repeat (first | apply Kd.R_alloc | apply Kd.R_drewN | apply Kd.R_drew)); exact Kd.R_mono (Kd.R_far (p := ⟨gb308, 3, none⟩) (Kd.R_far (p := ⟨gb308, 2, none⟩) (Kd.R_far (p := ⟨gb308, 1, none⟩) (Kd.R_far (p := ⟨gb308, 0, none⟩) (Kd.R_mono HO_250002.out (fun k_ hk => (⟨hk, hk⟩ : _ ∧ k_ ≠ gb308))) (fun _ hk => hk.2) (.int .i64 t303)) (fun _ hk => hk.2) (.bool t304)) (fun _ hk => hk.2) (.int .i64 t305)) (fun _ hk => hk.2) (.int .u32 t306)) (fun _ hk => hk.1)⟩
               have n2_ : Aside0 (((((w176.setCell ⟨gb308, 0, none⟩ (.int .i64 t303)).setCell ⟨gb308, 1, none⟩ (.bool t304)).setCell ⟨gb308, 2, none⟩ (.int .i64 t305)).setCell ⟨gb308, 3, none⟩ (.int .u32 t306)).heap[gb249]? = some (.cells #[.int .i64 x250000_3, .string x250001_3, .slice Ao172 x250002_3.length co172] 48 (0, 0))) := ⟨by (with_reducible repeat (first | refine blk_drewN ?_ _ | refine blk_drew ?_ | refine blk_alloc ?_ _)); refine blk_far ?_ NB249_308.out _; (with_reducible repeat (first | refine blk_drewN ?_ _ | refine blk_drew ?_ | refine blk_alloc ?_ _)); refine blk_far ?_ NB249_308.out _; (with_reducible repeat (first | refine blk_drewN ?_ _ | refine blk_drew ?_ | refine blk_alloc ?_ _)); refine blk_far ?_ NB249_308.out _; (with_reducible repeat (first | refine blk_drewN ?_ _ | refine blk_drew ?_ | refine blk_alloc ?_ _)); refine blk_far ?_ NB249_308.out _; (with_reducible repeat (first | refine blk_drewN ?_ _ | refine blk_drew ?_ | refine blk_alloc ?_ _)); exact BK249.out⟩
               have n3_ : Aside0 (((((w176.setCell ⟨gb308, 0, none⟩ (.int .i64 t303)).setCell ⟨gb308, 1, none⟩ (.bool t304)).setCell ⟨gb308, 2, none⟩ (.int .i64 t305)).setCell ⟨gb308, 3, none⟩ (.int .u32 t306)).heap[gb308]? = some (.cells #[.int .i64 t303, .bool t304, .int .i64 t305, .int .u32 t306] 72 (0, 0))) := ⟨by (with_reducible repeat (first | refine blk_drewN ?_ _ | refine blk_drew ?_ | refine blk_alloc ?_ _)); refine blk_put (cs := #[.int .i64 t303, .bool t304, .int .i64 t305, .int .u32 0]) ?_ 3 _ rfl; (with_reducible repeat (first | refine blk_drewN ?_ _ | refine blk_drew ?_ | refine blk_alloc ?_ _)); refine blk_put (cs := #[.int .i64 t303, .bool t304, .int .i64 0, .int .u32 0]) ?_ 2 _ rfl; (with_reducible repeat (first | refine blk_drewN ?_ _ | refine blk_drew ?_ | refine blk_alloc ?_ _)); refine blk_put (cs := #[.int .i64 t303, .bool false, .int .i64 0, .int .u32 0]) ?_ 1 _ rfl; (with_reducible repeat (first | refine blk_drewN ?_ _ | refine blk_drew ?_ | refine blk_alloc ?_ _)); refine blk_put (cs := #[.int .i64 0, .bool false, .int .i64 0, .int .u32 0]) ?_ 0 _ rfl; (with_reducible repeat (first | refine blk_drewN ?_ _ | refine blk_drew ?_ | refine blk_alloc ?_ _)); exact BK308.out⟩
               have n4_ : Aside0 (Below w.heap.size w ((((w176.setCell ⟨gb308, 0, none⟩ (.int .i64 t303)).setCell ⟨gb308, 1, none⟩ (.bool t304)).setCell ⟨gb308, 2, none⟩ (.int .i64 t305)).setCell ⟨gb308, 3, none⟩ (.int .u32 t306))) := ⟨by repeat (first | (with_reducible first | exact HB.out | apply below_alloc | apply pw_below_drewN | apply below_drew1 | refine below_set ?_ GE249.out | refine below_set ?_ GE308.out) | exact HB.out)⟩
               (try clear HO_7)
               (try clear HO_250002)
               (try clear BK249)
               (try clear BK308)
               (try clear HB)
               generalize ((((w176.setCell ⟨gb308, 0, none⟩ (.int .i64 t303)).setCell ⟨gb308, 1, none⟩ (.bool t304)).setCell ⟨gb308, 2, none⟩ (.int .i64 t305)).setCell ⟨gb308, 3, none⟩ (.int .u32 t306)) = w181 at n0_ n1_ n2_ n3_ n4_ ⊢
               have HO_7 := n0_; have HO_250002 := n1_; have BK249 := n2_; have BK308 := n3_; have HB := n4_; clear n0_ n1_ n2_ n3_ n4_
               have n0_ := Aside0.mk (Kd.R_drew HO_7.out)
               have n1_ := Aside0.mk (Kd.R_drew HO_250002.out)
               have n2_ := Aside0.mk (blk_drew BK249.out)
               have n3_ := Aside0.mk (blk_drew BK308.out)
               have n4_ := Aside0.mk (below_drew1 HB.out)
               clear HO_7; clear HO_250002; clear BK249; clear BK308; clear HB; have HO_7 := n0_; have HO_250002 := n1_; have BK249 := n2_; have BK308 := n3_; have HB := n4_; clear n0_ n1_ n2_ n3_ n4_
               have p309 : 0 ≤ (x19_5 : Int) := of_decide_eq_true (by first | (with_reducible assumption) | assumption)
               have q309 : x19_5 < (x7_3.length : Int) := of_decide_eq_true (by first | (with_reducible assumption) | assumption)
               obtain ⟨ad309, e309, hx309_0⟩ := Kd.at_int (Kd.R_reads' HO_7.out).2.2 x19_5 p309 q309
               obtain rfl : ad302 = ad309 := (by injection e309)
               replace p309 := eq_true p309
               replace q309 := eq_true q309
               have p310 : 0 ≤ (x19_5 : Int) := of_decide_eq_true (by first | (with_reducible assumption) | assumption)
               have q310 : x19_5 < (x250002_3.length : Int) := of_decide_eq_true (by first | (with_reducible assumption) | assumption)
               obtain ⟨ad310, e310, hx310_0, hx310_1, hx310_2, hx310_3⟩ := at_T72 (Kd.R_reads' HO_250002.out).2.2 x19_5 p310 q310
               cases e310
               replace p310 := eq_true p310
               replace q310 := eq_true q310
               have p311 : 0 ≤ (x19_5 : Int) := of_decide_eq_true (by first | (with_reducible assumption) | assumption)
               have q311 : x19_5 < (x7_3.length : Int) := of_decide_eq_true (by first | (with_reducible assumption) | assumption)
               obtain ⟨ad311, e311, hx311_0⟩ := Kd.at_int (Kd.R_reads' HO_7.out).2.2 x19_5 p311 q311
               obtain rfl : ad302 = ad311 := (by injection e311)
               replace p311 := eq_true p311
               replace q311 := eq_true q311
               refine start_ (n := 31) (S := fun w' => w'.cell? ⟨gb308, 0, none⟩ = some (.int .i64 t303) ∧ w'.cell? ⟨gb308, 1, none⟩ = some (.bool t304) ∧ w'.cell? ⟨gb308, 2, none⟩ = some (.int .i64 t305) ∧ w'.cell? ⟨gb308, 3, none⟩ = some (.int .u32 t306) ∧ w'.cell? ⟨gb249, 0, none⟩ = some (.int .i64 x250000_3) ∧ w'.cell? ⟨gb249, 1, none⟩ = some (.string x250001_3) ∧ w'.cell? ⟨gb249, 2, none⟩ = some (.slice (some ad310) x250002_3.length co172) ∧ w'.cell? (ad302.add (x19_5).toNat) = some (.int .i64 (rd x7_3 x19_5)) ∧ w'.cell? (ad310.add ((x19_5).toNat * 4)) = some (.int .i64 ((rd_T72 x250002_3 x19_5).f0)) ∧ w'.cell? ⟨(ad310.add ((x19_5).toNat * 4)).block, (ad310.add ((x19_5).toNat * 4)).off + 1, none⟩ = some (.bool ((rd_T72 x250002_3 x19_5).f1)) ∧ w'.cell? ⟨(ad310.add ((x19_5).toNat * 4)).block, (ad310.add ((x19_5).toNat * 4)).off + 2, none⟩ = some (.int .i64 ((rd_T72 x250002_3 x19_5).f2)) ∧ w'.cell? ⟨(ad310.add ((x19_5).toNat * 4)).block, (ad310.add ((x19_5).toNat * 4)).off + 3, none⟩ = some (.int .u32 ((rd_T72 x250002_3 x19_5).f3)) ∧ w'.cell? (ad302.add (x19_5).toNat) = some (.int .i64 (rd x7_3 x19_5))) (ds := []) #[false, false, false, false, false, false, false, false, false, false, false, false, false, false, false, false, false, false, false, false, false, false, false, false, false, false, false, false, false, false, false] (by kernel_rfl) rfl rfl ⟨(blk_cell BK308.out 0).trans rfl, (blk_cell BK308.out 1).trans rfl, (blk_cell BK308.out 2).trans rfl, (blk_cell BK308.out 3).trans rfl, (blk_cell BK249.out 0).trans rfl, (blk_cell BK249.out 1).trans rfl, (blk_cell BK249.out 2).trans rfl, hx309_0, hx310_0, hx310_1, hx310_2, hx310_3, hx311_0⟩ (fun hHeld => ?_); refine with_tabW law7Adds.tab32 law7Adds.bits32 (fun HT_ HW_ => ?_)
               generalize w181.drew = w182 at HO_7 HO_250002 BK249 BK308 HB hx309_0 hx310_0 hx310_1 hx310_2 hx310_3 hx311_0 hHeld ⊢
               refine pure_ (i := 0) (N := some 144) (v := ?_) (a' := ?_) (bA_31 1) rfl rfl (any_of HT_.out (by kernel_rfl)) (fun _ _ _ h => h) (Or.inl ⟨by rfl, ?_⟩) ?_ ?_
               rotate_left; · (intro w'; go_simp; with_reducible rfl)
               rotate_left; · (simp only [Act.put, List.setIfInBounds_toArray, List.set_cons_zero, List.set_cons_succ, i64_w, i32_w]; rfl)
               refine pure_ (i := 1) (N := some 145) (v := ?_) (a' := ?_) (bA_31 3) rfl rfl (any_of HT_.out (by kernel_rfl)) (fun _ _ _ h => h) (Or.inl ⟨by rfl, ?_⟩) ?_ ?_
               rotate_left; · (intro w'; go_simp; with_reducible rfl)
               rotate_left; · (simp only [Act.put, List.setIfInBounds_toArray, List.set_cons_zero, List.set_cons_succ, i64_w, i32_w]; rfl)
               refine pure_ (i := 2) (N := some 146) (v := ?_) (a' := ?_) (bA_31 7) rfl rfl (any_of HT_.out (by kernel_rfl)) (fun _ _ _ h => h) (Or.inl ⟨by rfl, ?_⟩) ?_ ?_
               rotate_left; · (intro w'; go_simp; with_reducible rfl)
               rotate_left; · (simp only [Act.put, List.setIfInBounds_toArray, List.set_cons_zero, List.set_cons_succ, i64_w, i32_w]; rfl)
               refine pure_ (i := 3) (N := some 147) (v := ?_) (a' := ?_) (bA_31 15) rfl rfl (any_of HT_.out (by kernel_rfl)) (fun _ _ _ h => h) (Or.inl ⟨by rfl, ?_⟩) ?_ ?_
               rotate_left; · (intro w'; go_simp; with_reducible rfl)
               rotate_left; · (simp only [Act.put, List.setIfInBounds_toArray, List.set_cons_zero, List.set_cons_succ, i64_w, i32_w]; rfl)
               refine pure_ (i := 5) (N := some 149) (v := ?_) (a' := ?_) (bA_31 47) rfl rfl (any_of HT_.out (by kernel_rfl)) (fun _ _ _ h => h) (Or.inl ⟨by rfl, ?_⟩) ?_ ?_
               rotate_left; · (intro w'; go_simp; with_reducible rfl)
               rotate_left; · (simp only [Act.put, List.setIfInBounds_toArray, List.set_cons_zero, List.set_cons_succ, i64_w, i32_w]; rfl)
               refine pure_ (i := 6) (N := some 150) (v := ?_) (a' := ?_) (bA_31 111) rfl rfl (any_of HT_.out (by kernel_rfl)) (fun _ _ _ h => h) (Or.inl ⟨by rfl, ?_⟩) ?_ ?_
               rotate_left; · (intro w'; go_simp; with_reducible rfl)
               rotate_left; · (simp only [Act.put, List.setIfInBounds_toArray, List.set_cons_zero, List.set_cons_succ, i64_w, i32_w]; rfl)
               refine pure_ (i := 7) (N := some 151) (v := ?_) (a' := ?_) (bA_31 239) rfl rfl (any_of HT_.out (by kernel_rfl)) (fun _ _ _ h => h) (Or.inl ⟨by rfl, ?_⟩) ?_ ?_
               rotate_left; · (intro w'; go_simp; with_reducible rfl)
               rotate_left; · (simp only [Act.put, List.setIfInBounds_toArray, List.set_cons_zero, List.set_cons_succ, i64_w, i32_w]; rfl)
               refine take_ (i := 4) (N := some 148) (v := ?_) (a' := ?_) (bA_31 255) rfl rfl (take_ofW HT_.out HW_.out (by kernel_rfl)) (fun _ _ _ h => h) (Or.inl ⟨by rfl, ?_⟩) hHeld ?_ ?_
               rotate_left; · (rintro w' ⟨s0, s1, s2, s3, s4, s5, s6, s7, s8, s9, s10, s11, s12⟩; go_simp; with_reducible rfl)
               rotate_left; · (simp only [Act.put, List.setIfInBounds_toArray, List.set_cons_zero, List.set_cons_succ, i64_w, i32_w]; rfl)
               refine take_ (i := 8) (N := some 152) (v := ?_) (a' := ?_) (bA_31 511) rfl rfl (take_ofW HT_.out HW_.out (by kernel_rfl)) (fun _ _ _ h => h) (Or.inl ⟨by rfl, ?_⟩) hHeld ?_ ?_
               rotate_left; · (rintro w' ⟨s0, s1, s2, s3, s4, s5, s6, s7, s8, s9, s10, s11, s12⟩; go_simp; with_reducible rfl)
               rotate_left; · (simp only [Act.put, List.setIfInBounds_toArray, List.set_cons_zero, List.set_cons_succ, i64_w, i32_w]; rfl)
               refine pure_ (i := 9) (N := some 153) (v := ?_) (a' := ?_) (bA_31 1023) rfl rfl (any_of HT_.out (by kernel_rfl)) (fun _ _ _ h => h) (Or.inl ⟨by rfl, ?_⟩) ?_ ?_
               rotate_left; · (intro w'; go_simp; with_reducible rfl)
               rotate_left; · (simp only [Act.put, List.setIfInBounds_toArray, List.set_cons_zero, List.set_cons_succ, i64_w, i32_w]; rfl)
               refine pure_ (i := 10) (N := some 154) (v := ?_) (a' := ?_) (bA_31 2047) rfl rfl (any_of HT_.out (by kernel_rfl)) (fun _ _ _ h => h) (Or.inl ⟨by rfl, ?_⟩) ?_ ?_
               rotate_left; · (intro w'; go_simp; with_reducible rfl)
               rotate_left; · (simp only [Act.put, List.setIfInBounds_toArray, List.set_cons_zero, List.set_cons_succ, i64_w, i32_w]; rfl)
               refine pure_ (i := 11) (N := some 155) (v := ?_) (a' := ?_) (bA_31 4095) rfl rfl (any_of HT_.out (by kernel_rfl)) (fun _ _ _ h => h) (Or.inl ⟨by rfl, ?_⟩) ?_ ?_
               rotate_left; · (intro w'; go_simp; with_reducible rfl)
               rotate_left; · (simp only [Act.put, List.setIfInBounds_toArray, List.set_cons_zero, List.set_cons_succ, i64_w, i32_w]; rfl)
               refine pure_ (i := 12) (N := some 156) (v := ?_) (a' := ?_) (bA_31 8191) rfl rfl (any_of HT_.out (by kernel_rfl)) (fun _ _ _ h => h) (Or.inl ⟨by rfl, ?_⟩) ?_ ?_
               rotate_left; · (intro w'; go_simp; with_reducible rfl)
               rotate_left; · (simp only [Act.put, List.setIfInBounds_toArray, List.set_cons_zero, List.set_cons_succ, i64_w, i32_w]; rfl)
               refine pure_ (i := 13) (N := some 157) (v := ?_) (a' := ?_) (bA_31 16383) rfl rfl (any_of HT_.out (by kernel_rfl)) (fun _ _ _ h => h) (Or.inl ⟨by rfl, ?_⟩) ?_ ?_
               rotate_left; · (intro w'; go_simp; with_reducible rfl)
               rotate_left; · (simp only [Act.put, List.setIfInBounds_toArray, List.set_cons_zero, List.set_cons_succ, i64_w, i32_w]; rfl)
               refine take_ (i := 14) (N := some 158) (v := ?_) (a' := ?_) (bA_31 32767) rfl rfl (take_ofW HT_.out HW_.out (by kernel_rfl)) (fun _ _ _ h => h) (Or.inl ⟨by rfl, ?_⟩) hHeld ?_ ?_
               rotate_left; · (rintro w' ⟨s0, s1, s2, s3, s4, s5, s6, s7, s8, s9, s10, s11, s12⟩; go_simp; with_reducible rfl)
               rotate_left; · (simp only [Act.put, List.setIfInBounds_toArray, List.set_cons_zero, List.set_cons_succ, i64_w, i32_w]; rfl)
               refine pure_ (i := 15) (N := some 159) (v := ?_) (a' := ?_) (bA_31 65535) rfl rfl (any_of HT_.out (by kernel_rfl)) (fun _ _ _ h => h) (Or.inl ⟨by rfl, ?_⟩) ?_ ?_
               rotate_left; · (intro w'; go_simp; with_reducible rfl)
               rotate_left; · (simp only [Act.put, List.setIfInBounds_toArray, List.set_cons_zero, List.set_cons_succ, i64_w, i32_w]; rfl)
               refine pure_ (i := 16) (N := some 160) (v := ?_) (a' := ?_) (bA_31 131071) rfl rfl (any_of HT_.out (by kernel_rfl)) (fun _ _ _ h => h) (Or.inl ⟨by rfl, ?_⟩) ?_ ?_
               rotate_left; · (intro w'; go_simp; with_reducible rfl)
               rotate_left; · (simp only [Act.put, List.setIfInBounds_toArray, List.set_cons_zero, List.set_cons_succ, i64_w, i32_w]; rfl)
               refine pure_ (i := 17) (N := some 161) (v := ?_) (a' := ?_) (bA_31 262143) rfl rfl (any_of HT_.out (by kernel_rfl)) (fun _ _ _ h => h) (Or.inl ⟨by rfl, ?_⟩) ?_ ?_
               rotate_left; · (intro w'; go_simp; with_reducible rfl)
               rotate_left; · (simp only [Act.put, List.setIfInBounds_toArray, List.set_cons_zero, List.set_cons_succ, i64_w, i32_w]; rfl)
               refine pure_ (i := 18) (N := some 162) (v := ?_) (a' := ?_) (bA_31 524287) rfl rfl (any_of HT_.out (by kernel_rfl)) (fun _ _ _ h => h) (Or.inl ⟨by rfl, ?_⟩) ?_ ?_
               rotate_left; · (intro w'; go_simp; with_reducible rfl)
               rotate_left; · (simp only [Act.put, List.setIfInBounds_toArray, List.set_cons_zero, List.set_cons_succ, i64_w, i32_w]; rfl)
               refine pure_ (i := 19) (N := some 163) (v := ?_) (a' := ?_) (bA_31 1048575) rfl rfl (any_of HT_.out (by kernel_rfl)) (fun _ _ _ h => h) (Or.inl ⟨by rfl, ?_⟩) ?_ ?_
               rotate_left; · (intro w'; go_simp; with_reducible rfl)
               rotate_left; · (simp only [Act.put, List.setIfInBounds_toArray, List.set_cons_zero, List.set_cons_succ, i64_w, i32_w]; rfl)
               refine pure_ (i := 21) (N := some 165) (v := ?_) (a' := ?_) (bA_31 3145727) rfl rfl (any_of HT_.out (by kernel_rfl)) (fun _ _ _ h => h) (Or.inl ⟨by rfl, ?_⟩) ?_ ?_
               rotate_left; · (intro w'; go_simp; with_reducible rfl)
               rotate_left; · (simp only [Act.put, List.setIfInBounds_toArray, List.set_cons_zero, List.set_cons_succ, i64_w, i32_w]; rfl)
               refine pure_ (i := 25) (N := some 169) (v := ?_) (a' := ?_) (bA_31 36700159) rfl rfl (any_of HT_.out (by kernel_rfl)) (fun _ _ _ h => h) (Or.inl ⟨by rfl, ?_⟩) ?_ ?_
               rotate_left; · (intro w'; go_simp; with_reducible rfl)
               rotate_left; · (simp only [Act.put, List.setIfInBounds_toArray, List.set_cons_zero, List.set_cons_succ, i64_w, i32_w]; rfl)
               refine pure_ (i := 26) (N := some 170) (v := ?_) (a' := ?_) (bA_31 103809023) rfl rfl (any_of HT_.out (by kernel_rfl)) (fun _ _ _ h => h) (Or.inl ⟨by rfl, ?_⟩) ?_ ?_
               rotate_left; · (intro w'; go_simp; with_reducible rfl)
               rotate_left; · (simp only [Act.put, List.setIfInBounds_toArray, List.set_cons_zero, List.set_cons_succ, i64_w, i32_w]; rfl)
               refine pure_ (i := 27) (N := some 171) (v := ?_) (a' := ?_) (bA_31 238026751) rfl rfl (any_of HT_.out (by kernel_rfl)) (fun _ _ _ h => h) (Or.inl ⟨by rfl, ?_⟩) ?_ ?_
               rotate_left; · (intro w'; go_simp; with_reducible rfl)
               rotate_left; · (simp only [Act.put, List.setIfInBounds_toArray, List.set_cons_zero, List.set_cons_succ, i64_w, i32_w]; rfl)
               refine take_ (i := 20) (N := some 164) (v := ?_) (a' := ?_) (bA_31 239075327) rfl rfl (take_ofW HT_.out HW_.out (by kernel_rfl)) (fun _ _ _ h => h) (Or.inl ⟨by rfl, ?_⟩) hHeld ?_ ?_
               rotate_left; · (rintro w' ⟨s0, s1, s2, s3, s4, s5, s6, s7, s8, s9, s10, s11, s12⟩; go_simp; with_reducible rfl)
               rotate_left; · (simp only [Act.put, List.setIfInBounds_toArray, List.set_cons_zero, List.set_cons_succ, i64_w, i32_w]; rfl)
               refine pure_ (i := 22) (N := some 166) (v := ?_) (a' := ?_) (bA_31 243269631) rfl rfl (any_of HT_.out (by kernel_rfl)) (fun _ _ _ h => h) (Or.inl ⟨by rfl, ?_⟩) ?_ ?_
               rotate_left; · (intro w'; go_simp; with_reducible rfl)
               rotate_left; · (simp only [Act.put, List.setIfInBounds_toArray, List.set_cons_zero, List.set_cons_succ, i64_w, i32_w]; rfl)
               refine pure_ (i := 23) (N := some 167) (v := ?_) (a' := ?_) (bA_31 251658239) rfl rfl (any_of HT_.out (by kernel_rfl)) (fun _ _ _ h => h) (Or.inl ⟨by rfl, ?_⟩) ?_ ?_
               rotate_left; · (intro w'; go_simp; with_reducible rfl)
               rotate_left; · (simp only [Act.put, List.setIfInBounds_toArray, List.set_cons_zero, List.set_cons_succ, i64_w, i32_w]; rfl)
               refine take_ (i := 24) (N := some 168) (v := ?_) (a' := ?_) (bA_31 268435455) rfl rfl (take_ofW HT_.out HW_.out (by kernel_rfl)) (fun _ _ _ h => h) (Or.inl ⟨by rfl, ?_⟩) hHeld ?_ ?_
               rotate_left; · (rintro w' ⟨s0, s1, s2, s3, s4, s5, s6, s7, s8, s9, s10, s11, s12⟩; go_simp; with_reducible rfl)
               rotate_left; · (simp only [Act.put, List.setIfInBounds_toArray, List.set_cons_zero, List.set_cons_succ, i64_w, i32_w]; rfl)
               refine take_ (i := 28) (N := some 172) (v := ?_) (a' := ?_) (bA_31 536870911) rfl rfl (take_ofW HT_.out HW_.out (by kernel_rfl)) (fun _ _ _ h => h) (Or.inl ⟨by rfl, ?_⟩) hHeld ?_ ?_
               rotate_left; · (rintro w' ⟨s0, s1, s2, s3, s4, s5, s6, s7, s8, s9, s10, s11, s12⟩; go_simp; with_reducible rfl)
               rotate_left; · (simp only [Act.put, List.setIfInBounds_toArray, List.set_cons_zero, List.set_cons_succ, i64_w, i32_w]; rfl)
               refine pure_ (i := 29) (N := some 173) (v := ?_) (a' := ?_) (bA_31 1073741823) rfl rfl (any_of HT_.out (by kernel_rfl)) (fun _ _ _ h => h) (Or.inl ⟨by rfl, ?_⟩) ?_ ?_
               rotate_left; · (intro w'; go_simp; with_reducible rfl)
               rotate_left; · (simp only [Act.put, List.setIfInBounds_toArray, List.set_cons_zero, List.set_cons_succ, i64_w, i32_w]; rfl)
               refine pure_ (i := 30) (N := some 174) (v := ?_) (a' := ?_) (bA_31 2147483647) rfl rfl (any_of HT_.out (by kernel_rfl)) (fun _ _ _ h => h) (Or.inl ⟨by rfl, ?_⟩) ?_ ?_
               rotate_left; · (intro w'; go_simp; with_reducible rfl)
               rotate_left; · (simp only [Act.put, List.setIfInBounds_toArray, List.set_cons_zero, List.set_cons_succ, i64_w, i32_w]; rfl)
               refine done_ (done_of HT_.out (by kernel_rfl)) ?_
               try go_wp2
               go_roundg k5
               case measure => have := HJ4.out; have := HK2.out; have := HK3.out; have := HJ59.out; have := HK5.out; omega
               case rel => exact ⟨(wrap64 (x19_5 + 1)), (by first | rfl | (simp; done) | (simp [*]; done)), H', ⟨by have := HJ4.out; have := HK2.out; have := HK3.out; have := HJ59.out; have := HK5.out; omega⟩, ⟨by (with_reducible repeat (first | apply Kd.R_alloc | apply Kd.R_drewN | apply Kd.R_drew)); exact HO_7.out⟩, ⟨by (with_reducible repeat (first | apply Kd.R_alloc | apply Kd.R_drewN | apply Kd.R_drew)); exact Kd.R_mono HO_250002.out (fun _ hk => trivial)⟩, ⟨by (with_reducible repeat (first | refine blk_drewN ?_ _ | refine blk_drew ?_ | refine blk_alloc ?_ _)); exact BK249.out⟩, ⟨by repeat (first | (with_reducible first | exact HB.out | apply below_alloc | apply pw_below_drewN | apply below_drew1 | refine below_set ?_ GE249.out | refine below_set ?_ GE308.out) | exact HB.out)⟩⟩
              ·rw [if_neg c151] at H
               have c151b0 : decide (x19_5 < (x7_3.length : Int)) = false := decide_eq_false c151
               clear c151
               replace H := Option.bind_eq_some_iff.mp H
               obtain ⟨⟨t312, t313, t314, t315, t316⟩, A2190, H⟩ := H
               replace H : (if (x250002_3.length : Int) = (x7_3.length : Int) then (if (t316 == (decide ((x7_3.length : Int) > 0))) = true then (if t316 = true then (if 0 ≤ (wrap64 ((x7_3.length : Int) - 1)) then (if (wrap64 ((x7_3.length : Int) - 1)) < (x7_3.length : Int) then (if t312 = (rd x7_3 (wrap64 ((x7_3.length : Int) - 1))) then ((journal_May.f k5 x250000_3 x250001_3 x250002_3).bind fun t319 => (some t319)) else (none)) else (none)) else (none)) else ((journal_May.f k5 x250000_3 x250001_3 x250002_3).bind fun t320 => (some t320))) else (none)) else (none)) = some r := H
               have A219 := Aside0.mk A2190
               clear A2190
               by_cases c220 : (x250002_3.length : Int) = (x7_3.length : Int)
               case neg => rw [if_neg c220] at H; exact absurd H (by simp)
               rw [if_pos c220] at H
               have c220b0 : ((x250002_3.length : Int) == (x7_3.length : Int)) = true := beq_iff_eq.mpr c220
               have c220b1 : ((x250002_3.length : Int) != (x7_3.length : Int)) = false := bne_eq_false_iff_eq.mpr c220
               have c220b2 : (x250002_3.length == x7_3.length) = true := by first | simpa using c220 | (simp at c220 ⊢; omega)
               clear c220
               by_cases c221 : (t316 == (decide ((x7_3.length : Int) > 0))) = true
               case neg => rw [if_neg c221] at H; exact absurd H (by simp)
               rw [if_pos c221] at H
               have c221b0 : (t316 == (decide ((x7_3.length : Int) > 0))) = true := c221
               (try (have c221b1 : decide (t316 = (decide ((x7_3.length : Int) > 0))) = true := by simpa using c221))
               (try (have c221b2 : (t316 == (decide ((x7_3.length : Int) > 0))) = true := by simpa using c221))
               clear c221
               by_cases c222 : t316 = true
               ·subst c222
                have c221b3 : decide (0 < x7_3.length) = true := by simpa using c221b0
                have H1 : (if 0 ≤ (wrap64 ((x7_3.length : Int) - 1)) then (if (wrap64 ((x7_3.length : Int) - 1)) < (x7_3.length : Int) then (if t312 = (rd x7_3 (wrap64 ((x7_3.length : Int) - 1))) then ((journal_May.f k5 x250000_3 x250001_3 x250002_3).bind fun t319 => (some t319)) else (none)) else (none)) else (none)) = some r := by rw [if_pos rfl] at H; exact H
                clear H
                have H := H1
                clear H1
                obtain ⟨ji223, hji223⟩ : ∃ j_ : Int, (wrap64 ((x7_3.length : Int) - 1)) = j_ := ⟨_, rfl⟩
                replace H : (if 0 ≤ (ji223) then (if (ji223) < (x7_3.length : Int) then (if t312 = (rd x7_3 (ji223)) then ((journal_May.f k5 x250000_3 x250001_3 x250002_3).bind fun t319 => (some t319)) else (none)) else (none)) else (none)) = some r := by first | (rw [hji223] at H; exact H) | (simp only [hji223] at H ⊢; exact H)
                (try rw [hji223] at A219)
                have hji223w : (IntKind.i64.wrap ((x7_3.length : Int) - 1)) = ji223 := (i64_w _).trans hji223
                by_cases c224 : 0 ≤ (ji223)
                case neg => rw [if_neg c224] at H; exact absurd H (by simp)
                rw [if_pos c224] at H
                have c224b0 : decide (0 ≤ (ji223)) = true := decide_eq_true c224
                clear c224
                by_cases c225 : (ji223) < (x7_3.length : Int)
                case neg => rw [if_neg c225] at H; exact absurd H (by simp)
                rw [if_pos c225] at H
                have c225b0 : decide ((ji223) < (x7_3.length : Int)) = true := decide_eq_true c225
                clear c225
                by_cases c226 : t312 = (rd x7_3 (ji223))
                case neg => rw [if_neg c226] at H; exact absurd H (by simp)
                rw [if_pos c226] at H
                have c226b0 : (t312 == (rd x7_3 (ji223))) = true := beq_iff_eq.mpr c226
                have c226b1 : (t312 != (rd x7_3 (ji223))) = false := bne_eq_false_iff_eq.mpr c226
                clear c226
                replace H := Option.bind_eq_some_iff.mp H
                obtain ⟨t319, A2270, H⟩ := H
                replace H : (some t319) = some r := H
                have A227 := Aside0.mk A2270
                clear A2270
                obtain rfl := Option.some.inj H
                obtain ⟨Ao228, co228, eo228⟩ := Kd.R_slice HO_7.out
                subst eo228
                have hcz229_0 : wr.cell? ⟨gb249, 0, none⟩ = some (.int .i64 x250000_3) := (blk_cell BK249.out 0).trans rfl
                have hcz229_1 : wr.cell? ⟨gb249, 1, none⟩ = some (.string x250001_3) := (blk_cell BK249.out 1).trans rfl
                have hcz229_2 : wr.cell? ⟨gb249, 2, none⟩ = some (u250002) := (blk_cell BK249.out 2).trans rfl
                have hfz229_0 := blk_frozen BK249.out 0
                have hfz229_1 := blk_frozen BK249.out 1
                have hfz229_2 := blk_frozen BK249.out 2
                obtain ⟨Ao230, co230, eo230⟩ := Kd.R_slice HO_250002.out
                subst eo230
                try go_wp2_with (first | ((with_reducible refine gate_callee (f := 42) rfl ?_); refine goesL_ (some 177) rfl rfl Try.func42 (by kernel_rfl) rfl #[.agg #[.int .i64 x250000_3, .string x250001_3, .slice Ao230 x250002_3.length co230]] rfl (by (try simp only [List.map_toArray, List.map_cons, List.map_nil]); first | done | rfl | (simp only [List.length_drop, List.length_take]; rfl)) ?_; (with_reducible refine (journal_Latest.calls x250000_3 x250001_3 _ _ x250002_3 t312 t313 t314 t315 true _ ?side1 ?side2 A219.out).mono ?_); (case side1 => repeat (first | exact (Kd.R_reads' HO_250002.out).2.2 | (with_reducible refine Kd.C_alloc ?_ _) | (with_reducible refine Kd.C_drewN ?_ _) | (with_reducible refine Kd.C_drew ?_))); (case side2 => exact (Kd.R_reads' HO_250002.out).2.1); rintro e w231 ⟨rfl, hb⟩; refine ⟨_, rfl, ?_⟩; have n0_ := Aside0.mk (Kd.R_below (by (with_reducible repeat (first | apply Kd.R_alloc | apply Kd.R_drewN | apply Kd.R_drew)); exact HO_7.out) hb); have n1_ := Aside0.mk (Kd.R_below (by (with_reducible repeat (first | apply Kd.R_alloc | apply Kd.R_drewN | apply Kd.R_drew)); exact HO_250002.out) hb); have n2_ := Aside0.mk (blk_below (g := gb249) (o := .cells #[.int .i64 x250000_3, .string x250001_3, .slice Ao230 x250002_3.length co230] 48 (0, 0)) (by (with_reducible repeat (first | refine blk_drewN ?_ _ | refine blk_drew ?_ | refine blk_alloc ?_ _)); exact BK249.out) hb); have n3_ := Aside0.mk (below_step (by repeat (first | (with_reducible first | exact HB.out | apply below_alloc | apply pw_below_drewN | apply below_drew1 | refine below_set ?_ GE249.out) | exact HB.out)) hb); clear HO_7; clear HO_250002; clear BK249; clear HB; have HO_7 := n0_; have HO_250002 := n1_; have BK249 := n2_; have HB := n3_; clear n0_ n1_ n2_ n3_; (try clear hb); (try clear hb2); (try clear hk); (try clear hi)) | ((with_reducible refine gate_dst (N := 22) rfl ?_); (try (refine gate_guard (by rfl) ?_; dsimp only)); refine box_event ?hg (N := 22) ?hd (cs := #[.int .i64 0, .bool false, .int .i64 0, .int .u32 0]) (t := 72) ?hr ?_; (case hd => rfl); (case hg => rfl); (case hr => first | (go_simp; done) | (go_simp; rfl)); intro gb317 hg w232 hbox hb; have n0_ := Aside0.mk (Kd.R_below (by (with_reducible repeat (first | apply Kd.R_alloc | apply Kd.R_drewN | apply Kd.R_drew)); exact HO_7.out) hb); have n1_ := Aside0.mk (Kd.R_below (Kd.R_elderB (by (with_reducible repeat (first | apply Kd.R_alloc | apply Kd.R_drewN | apply Kd.R_drew)); exact HO_250002.out) gb317 (Nat.le_of_eq hg.symm)) hb); have n2_ := Aside0.mk (blk_below (g := gb249) (o := .cells #[.int .i64 x250000_3, .string x250001_3, .slice Ao230 x250002_3.length co230] 48 (0, 0)) (by (with_reducible repeat (first | refine blk_drewN ?_ _ | refine blk_drew ?_ | refine blk_alloc ?_ _)); exact BK249.out) hb); have n3_ := Aside0.mk (below_step (by repeat (first | (with_reducible first | exact HB.out | apply below_alloc | apply pw_below_drewN | apply below_drew1 | refine below_set ?_ GE249.out) | exact HB.out)) hb); have n4_ := Aside0.mk (hbox); have n5_ := Aside0.mk ((by rw [hg]; exact (below_size (by repeat (first | (with_reducible first | exact HB.out | apply below_alloc | apply pw_below_drewN | apply below_drew1 | refine below_set ?_ GE249.out) | exact HB.out))) : w.heap.size ≤ gb317)); have n6_ := Aside0.mk ((by rw [hg]; exact (below_size (by repeat (first | (with_reducible first | exact HB.out | apply below_alloc | apply pw_below_drewN | apply below_drew1 | refine below_set ?_ GE249.out) | exact HB.out))) : w.heap.size ≤ gb317)); have n7_ := Aside0.mk ((by rw [hg]; exact Nat.ne_of_lt (blk_lt (g := gb249) (o := .cells #[.int .i64 x250000_3, .string x250001_3, .slice Ao230 x250002_3.length co230] 48 (0, 0)) (by (with_reducible repeat (first | refine blk_drewN ?_ _ | refine blk_drew ?_ | refine blk_alloc ?_ _)); exact BK249.out)) : gb249 ≠ gb317)); have n8_ := Aside0.mk ((by rw [hg]; exact Nat.ne_of_gt (blk_lt (g := gb249) (o := .cells #[.int .i64 x250000_3, .string x250001_3, .slice Ao230 x250002_3.length co230] 48 (0, 0)) (by (with_reducible repeat (first | refine blk_drewN ?_ _ | refine blk_drew ?_ | refine blk_alloc ?_ _)); exact BK249.out)) : gb317 ≠ gb249)); clear HO_7; clear HO_250002; clear BK249; clear HB; have HO_7 := n0_; have HO_250002 := n1_; have BK249 := n2_; have HB := n3_; have BK317 := n4_; have GW317 := n5_; have GE317 := n6_; have NB249_317 := n7_; have NB317_249 := n8_; clear n0_ n1_ n2_ n3_ n4_ n5_ n6_ n7_ n8_; clear hb hbox hg; have hnb233 := NB317_249.out; have hnc233 := NB249_317.out; have hcz234_0 : w232.cell? ⟨gb317, 0, none⟩ = some (.int .i64 0) := (blk_cell BK317.out 0).trans rfl; have hcz234_1 : w232.cell? ⟨gb317, 1, none⟩ = some (.bool false) := (blk_cell BK317.out 1).trans rfl; have hcz234_2 : w232.cell? ⟨gb317, 2, none⟩ = some (.int .i64 0) := (blk_cell BK317.out 2).trans rfl; have hcz234_3 : w232.cell? ⟨gb317, 3, none⟩ = some (.int .u32 0) := (blk_cell BK317.out 3).trans rfl; have hfz234_0 := blk_frozen BK317.out 0; have hfz234_1 := blk_frozen BK317.out 1; have hfz234_2 := blk_frozen BK317.out 2; have hfz234_3 := blk_frozen BK317.out 3))
                have n0_ : Aside0 (Kd.R (Kd.int .i64) 3 ((((w232.setCell ⟨gb317, 0, none⟩ (.int .i64 t312)).setCell ⟨gb317, 1, none⟩ (.bool t313)).setCell ⟨gb317, 2, none⟩ (.int .i64 t314)).setCell ⟨gb317, 3, none⟩ (.int .u32 t315)) w.heap.size (fun _ => True) (.slice Ao228 x7_3.length co228) x7_3) := ⟨by (with_reducible repeat (first | apply Kd.R_alloc | apply Kd.R_drewN | apply Kd.R_drew)); exact Kd.R_mono (Kd.R_far (p := ⟨gb317, 3, none⟩) (Kd.R_far (p := ⟨gb317, 2, none⟩) (Kd.R_far (p := ⟨gb317, 1, none⟩) (Kd.R_far (p := ⟨gb317, 0, none⟩) (Kd.R_types HO_7.out BK317.out (by decide)) (fun _ hk => hk.2) (.int .i64 t312)) (fun _ hk => hk.2) (.bool t313)) (fun _ hk => hk.2) (.int .i64 t314)) (fun _ hk => hk.2) (.int .u32 t315)) (fun _ hk => trivial)⟩
                have n1_ : Aside0 (Kd.R k72 72 ((((w232.setCell ⟨gb317, 0, none⟩ (.int .i64 t312)).setCell ⟨gb317, 1, none⟩ (.bool t313)).setCell ⟨gb317, 2, none⟩ (.int .i64 t314)).setCell ⟨gb317, 3, none⟩ (.int .u32 t315)) w.heap.size (fun k_ => k_ ≠ gb317) (.slice Ao230 x250002_3.length co230) x250002_3) := ⟨by (with_reducible repeat (first | apply Kd.R_alloc | apply Kd.R_drewN | apply Kd.R_drew)); exact Kd.R_mono (Kd.R_far (p := ⟨gb317, 3, none⟩) (Kd.R_far (p := ⟨gb317, 2, none⟩) (Kd.R_far (p := ⟨gb317, 1, none⟩) (Kd.R_far (p := ⟨gb317, 0, none⟩) (Kd.R_mono HO_250002.out (fun k_ hk => (⟨hk, hk.2⟩ : _ ∧ k_ ≠ gb317))) (fun _ hk => hk.2) (.int .i64 t312)) (fun _ hk => hk.2) (.bool t313)) (fun _ hk => hk.2) (.int .i64 t314)) (fun _ hk => hk.2) (.int .u32 t315)) (fun _ hk => hk.1.2)⟩
                have n2_ : Aside0 (((((w232.setCell ⟨gb317, 0, none⟩ (.int .i64 t312)).setCell ⟨gb317, 1, none⟩ (.bool t313)).setCell ⟨gb317, 2, none⟩ (.int .i64 t314)).setCell ⟨gb317, 3, none⟩ (.int .u32 t315)).heap[gb249]? = some (.cells #[.int .i64 x250000_3, .string x250001_3, .slice Ao230 x250002_3.length co230] 48 (0, 0))) := ⟨by (with_reducible repeat (first | refine blk_drewN ?_ _ | refine blk_drew ?_ | refine blk_alloc ?_ _)); refine blk_far ?_ NB249_317.out _; (with_reducible repeat (first | refine blk_drewN ?_ _ | refine blk_drew ?_ | refine blk_alloc ?_ _)); refine blk_far ?_ NB249_317.out _; (with_reducible repeat (first | refine blk_drewN ?_ _ | refine blk_drew ?_ | refine blk_alloc ?_ _)); refine blk_far ?_ NB249_317.out _; (with_reducible repeat (first | refine blk_drewN ?_ _ | refine blk_drew ?_ | refine blk_alloc ?_ _)); refine blk_far ?_ NB249_317.out _; (with_reducible repeat (first | refine blk_drewN ?_ _ | refine blk_drew ?_ | refine blk_alloc ?_ _)); exact BK249.out⟩
                have n3_ : Aside0 (((((w232.setCell ⟨gb317, 0, none⟩ (.int .i64 t312)).setCell ⟨gb317, 1, none⟩ (.bool t313)).setCell ⟨gb317, 2, none⟩ (.int .i64 t314)).setCell ⟨gb317, 3, none⟩ (.int .u32 t315)).heap[gb317]? = some (.cells #[.int .i64 t312, .bool t313, .int .i64 t314, .int .u32 t315] 72 (0, 0))) := ⟨by (with_reducible repeat (first | refine blk_drewN ?_ _ | refine blk_drew ?_ | refine blk_alloc ?_ _)); refine blk_put (cs := #[.int .i64 t312, .bool t313, .int .i64 t314, .int .u32 0]) ?_ 3 _ rfl; (with_reducible repeat (first | refine blk_drewN ?_ _ | refine blk_drew ?_ | refine blk_alloc ?_ _)); refine blk_put (cs := #[.int .i64 t312, .bool t313, .int .i64 0, .int .u32 0]) ?_ 2 _ rfl; (with_reducible repeat (first | refine blk_drewN ?_ _ | refine blk_drew ?_ | refine blk_alloc ?_ _)); refine blk_put (cs := #[.int .i64 t312, .bool false, .int .i64 0, .int .u32 0]) ?_ 1 _ rfl; (with_reducible repeat (first | refine blk_drewN ?_ _ | refine blk_drew ?_ | refine blk_alloc ?_ _)); refine blk_put (cs := #[.int .i64 0, .bool false, .int .i64 0, .int .u32 0]) ?_ 0 _ rfl; (with_reducible repeat (first | refine blk_drewN ?_ _ | refine blk_drew ?_ | refine blk_alloc ?_ _)); exact BK317.out⟩
                have n4_ : Aside0 (Below w.heap.size w ((((w232.setCell ⟨gb317, 0, none⟩ (.int .i64 t312)).setCell ⟨gb317, 1, none⟩ (.bool t313)).setCell ⟨gb317, 2, none⟩ (.int .i64 t314)).setCell ⟨gb317, 3, none⟩ (.int .u32 t315))) := ⟨by repeat (first | (with_reducible first | exact HB.out | apply below_alloc | apply pw_below_drewN | apply below_drew1 | refine below_set ?_ GE249.out | refine below_set ?_ GE317.out) | exact HB.out)⟩
                (try clear HO_7)
                (try clear HO_250002)
                (try clear BK249)
                (try clear BK317)
                (try clear HB)
                generalize ((((w232.setCell ⟨gb317, 0, none⟩ (.int .i64 t312)).setCell ⟨gb317, 1, none⟩ (.bool t313)).setCell ⟨gb317, 2, none⟩ (.int .i64 t314)).setCell ⟨gb317, 3, none⟩ (.int .u32 t315)) = w235 at n0_ n1_ n2_ n3_ n4_ ⊢
                have HO_7 := n0_; have HO_250002 := n1_; have BK249 := n2_; have BK317 := n3_; have HB := n4_; clear n0_ n1_ n2_ n3_ n4_
                have n0_ := Aside0.mk (Kd.R_drew HO_7.out)
                have n1_ := Aside0.mk (Kd.R_drew HO_250002.out)
                have n2_ := Aside0.mk (blk_drew BK249.out)
                have n3_ := Aside0.mk (blk_drew BK317.out)
                have n4_ := Aside0.mk (below_drew1 HB.out)
                clear HO_7; clear HO_250002; clear BK249; clear BK317; clear HB; have HO_7 := n0_; have HO_250002 := n1_; have BK249 := n2_; have BK317 := n3_; have HB := n4_; clear n0_ n1_ n2_ n3_ n4_
                have p318 : 0 ≤ ((ji223) : Int) := of_decide_eq_true (by first | (with_reducible assumption) | assumption)
                have q318 : (ji223) < (x7_3.length : Int) := of_decide_eq_true (by first | (with_reducible assumption) | assumption)
                obtain ⟨ad318, e318, hx318_0⟩ := Kd.at_int (Kd.R_reads' HO_7.out).2.2 (ji223) p318 q318
                cases e318
                replace p318 := eq_true p318
                replace q318 := eq_true q318
                refine start_ (n := 33) (S := fun w' => w'.cell? ⟨gb249, 0, none⟩ = some (.int .i64 x250000_3) ∧ w'.cell? ⟨gb249, 1, none⟩ = some (.string x250001_3) ∧ w'.cell? ⟨gb249, 2, none⟩ = some (.slice Ao230 x250002_3.length co230) ∧ w'.cell? ⟨gb317, 0, none⟩ = some (.int .i64 t312) ∧ w'.cell? ⟨gb317, 1, none⟩ = some (.bool t313) ∧ w'.cell? ⟨gb317, 2, none⟩ = some (.int .i64 t314) ∧ w'.cell? ⟨gb317, 3, none⟩ = some (.int .u32 t315) ∧ w'.cell? (ad318.add ((ji223)).toNat) = some (.int .i64 (rd x7_3 (ji223)))) (ds := []) #[false, false, false, false, false, false, false, false, false, false, false, false, false, false, false, false, false, false, false, false, false, false, false, false, false, false, false, false, false, false, false, false, false] (by kernel_rfl) rfl rfl ⟨(blk_cell BK249.out 0).trans rfl, (blk_cell BK249.out 1).trans rfl, (blk_cell BK249.out 2).trans rfl, (blk_cell BK317.out 0).trans rfl, (blk_cell BK317.out 1).trans rfl, (blk_cell BK317.out 2).trans rfl, (blk_cell BK317.out 3).trans rfl, hx318_0⟩ (fun hHeld => ?_); refine with_tabW law7Adds.tab35 law7Adds.bits35 (fun HT_ HW_ => ?_)
                generalize w235.drew = w236 at HO_7 HO_250002 BK249 BK317 HB hx318_0 hHeld ⊢
                refine pure_ (i := 0) (N := some 180) (v := ?_) (a' := ?_) (bA_33 1) rfl rfl (any_of HT_.out (by kernel_rfl)) (fun _ _ _ h => h) (Or.inl ⟨by rfl, ?_⟩) ?_ ?_
                rotate_left; · (intro w'; go_simp; with_reducible rfl)
                rotate_left; · (simp only [Act.put, List.setIfInBounds_toArray, List.set_cons_zero, List.set_cons_succ, i64_w, i32_w]; rfl)
                refine pure_ (i := 3) (N := some 183) (v := ?_) (a' := ?_) (bA_33 9) rfl rfl (any_of HT_.out (by kernel_rfl)) (fun _ _ _ h => h) (Or.inl ⟨by rfl, ?_⟩) ?_ ?_
                rotate_left; · (intro w'; go_simp; with_reducible rfl)
                rotate_left; · (simp only [Act.put, List.setIfInBounds_toArray, List.set_cons_zero, List.set_cons_succ, i64_w, i32_w]; rfl)
                refine pure_ (i := 4) (N := some 184) (v := ?_) (a' := ?_) (bA_33 25) rfl rfl (any_of HT_.out (by kernel_rfl)) (fun _ _ _ h => h) (Or.inl ⟨by rfl, ?_⟩) ?_ ?_
                rotate_left; · (intro w'; go_simp; with_reducible rfl)
                rotate_left; · (simp only [Act.put, List.setIfInBounds_toArray, List.set_cons_zero, List.set_cons_succ, i64_w, i32_w]; rfl)
                refine take_ (i := 1) (N := some 181) (v := ?_) (a' := ?_) (bA_33 27) rfl rfl (take_ofW HT_.out HW_.out (by kernel_rfl)) (fun _ _ _ h => h) (Or.inl ⟨by rfl, ?_⟩) hHeld ?_ ?_
                rotate_left; · (rintro w' ⟨s0, s1, s2, s3, s4, s5, s6, s7⟩; go_simp; with_reducible rfl)
                rotate_left; · (simp only [Act.put, List.setIfInBounds_toArray, List.set_cons_zero, List.set_cons_succ, i64_w, i32_w]; rfl)
                refine pure_ (i := 2) (N := some 182) (v := ?_) (a' := ?_) (bA_33 31) rfl rfl (any_of HT_.out (by kernel_rfl)) (fun _ _ _ h => h) (Or.inl ⟨by rfl, ?_⟩) ?_ ?_
                rotate_left; · (intro w'; go_simp; with_reducible rfl)
                rotate_left; · (simp only [Act.put, List.setIfInBounds_toArray, List.set_cons_zero, List.set_cons_succ, i64_w, i32_w]; rfl)
                refine pure_ (i := 5) (N := some 185) (v := ?_) (a' := ?_) (bA_33 63) rfl rfl (any_of HT_.out (by kernel_rfl)) (fun _ _ _ h => h) (Or.inl ⟨by rfl, ?_⟩) ?_ ?_
                rotate_left; · (intro w'; go_simp; with_reducible rfl)
                rotate_left; · (simp only [Act.put, List.setIfInBounds_toArray, List.set_cons_zero, List.set_cons_succ, i64_w, i32_w]; rfl)
                refine pure_ (i := 6) (N := some 186) (v := ?_) (a' := ?_) (bA_33 127) rfl rfl (any_of HT_.out (by kernel_rfl)) (fun _ _ _ h => h) (Or.inl ⟨by rfl, ?_⟩) ?_ ?_
                rotate_left; · (intro w'; go_simp; with_reducible rfl)
                rotate_left; · (simp only [Act.put, List.setIfInBounds_toArray, List.set_cons_zero, List.set_cons_succ, i64_w, i32_w]; rfl)
                refine pure_ (i := 7) (N := some 187) (v := ?_) (a' := ?_) (bA_33 255) rfl rfl (any_of HT_.out (by kernel_rfl)) (fun _ _ _ h => h) (Or.inl ⟨by rfl, ?_⟩) ?_ ?_
                rotate_left; · (intro w'; go_simp; with_reducible rfl)
                rotate_left; · (simp only [Act.put, List.setIfInBounds_toArray, List.set_cons_zero, List.set_cons_succ, i64_w, i32_w]; rfl)
                refine pure_ (i := 8) (N := some 188) (v := ?_) (a' := ?_) (bA_33 511) rfl rfl (any_of HT_.out (by kernel_rfl)) (fun _ _ _ h => h) (Or.inl ⟨by rfl, ?_⟩) ?_ ?_
                rotate_left; · (intro w'; go_simp; with_reducible rfl)
                rotate_left; · (simp only [Act.put, List.setIfInBounds_toArray, List.set_cons_zero, List.set_cons_succ, i64_w, i32_w]; rfl)
                refine pure_ (i := 9) (N := some 189) (v := ?_) (a' := ?_) (bA_33 1023) rfl rfl (any_of HT_.out (by kernel_rfl)) (fun _ _ _ h => h) (Or.inl ⟨by rfl, ?_⟩) ?_ ?_
                rotate_left; · (intro w'; go_simp; with_reducible rfl)
                rotate_left; · (simp only [Act.put, List.setIfInBounds_toArray, List.set_cons_zero, List.set_cons_succ, i64_w, i32_w]; rfl)
                refine pure_ (i := 10) (N := some 190) (v := ?_) (a' := ?_) (bA_33 2047) rfl rfl (any_of HT_.out (by kernel_rfl)) (fun _ _ _ h => h) (Or.inl ⟨by rfl, ?_⟩) ?_ ?_
                rotate_left; · (intro w'; go_simp; with_reducible rfl)
                rotate_left; · (simp only [Act.put, List.setIfInBounds_toArray, List.set_cons_zero, List.set_cons_succ, i64_w, i32_w]; rfl)
                refine pure_ (i := 11) (N := some 191) (v := ?_) (a' := ?_) (bA_33 4095) rfl rfl (any_of HT_.out (by kernel_rfl)) (fun _ _ _ h => h) (Or.inl ⟨by rfl, ?_⟩) ?_ ?_
                rotate_left; · (intro w'; go_simp; with_reducible rfl)
                rotate_left; · (simp only [Act.put, List.setIfInBounds_toArray, List.set_cons_zero, List.set_cons_succ, i64_w, i32_w]; rfl)
                refine pure_ (i := 12) (N := some 192) (v := ?_) (a' := ?_) (bA_33 8191) rfl rfl (any_of HT_.out (by kernel_rfl)) (fun _ _ _ h => h) (Or.inl ⟨by rfl, ?_⟩) ?_ ?_
                rotate_left; · (intro w'; go_simp; with_reducible rfl)
                rotate_left; · (simp only [Act.put, List.setIfInBounds_toArray, List.set_cons_zero, List.set_cons_succ, i64_w, i32_w]; rfl)
                refine pure_ (i := 13) (N := some 193) (v := ?_) (a' := ?_) (bA_33 16383) rfl rfl (any_of HT_.out (by kernel_rfl)) (fun _ _ _ h => h) (Or.inl ⟨by rfl, ?_⟩) ?_ ?_
                rotate_left; · (intro w'; go_simp; with_reducible rfl)
                rotate_left; · (simp only [Act.put, List.setIfInBounds_toArray, List.set_cons_zero, List.set_cons_succ, i64_w, i32_w]; rfl)
                refine pure_ (i := 14) (N := some 194) (v := ?_) (a' := ?_) (bA_33 32767) rfl rfl (any_of HT_.out (by kernel_rfl)) (fun _ _ _ h => h) (Or.inl ⟨by rfl, ?_⟩) ?_ ?_
                rotate_left; · (intro w'; go_simp; with_reducible rfl)
                rotate_left; · (simp only [Act.put, List.setIfInBounds_toArray, List.set_cons_zero, List.set_cons_succ, i64_w, i32_w]; rfl)
                refine pure_ (i := 15) (N := some 195) (v := ?_) (a' := ?_) (bA_33 65535) rfl rfl (any_of HT_.out (by kernel_rfl)) (fun _ _ _ h => h) (Or.inl ⟨by rfl, ?_⟩) ?_ ?_
                rotate_left; · (intro w'; go_simp; with_reducible rfl)
                rotate_left; · (simp only [Act.put, List.setIfInBounds_toArray, List.set_cons_zero, List.set_cons_succ, i64_w, i32_w]; rfl)
                refine pure_ (i := 16) (N := some 196) (v := ?_) (a' := ?_) (bA_33 131071) rfl rfl (any_of HT_.out (by kernel_rfl)) (fun _ _ _ h => h) (Or.inl ⟨by rfl, ?_⟩) ?_ ?_
                rotate_left; · (intro w'; go_simp; with_reducible rfl)
                rotate_left; · (simp only [Act.put, List.setIfInBounds_toArray, List.set_cons_zero, List.set_cons_succ, i64_w, i32_w]; rfl)
                refine pure_ (i := 17) (N := some 197) (v := ?_) (a' := ?_) (bA_33 262143) rfl rfl (any_of HT_.out (by kernel_rfl)) (fun _ _ _ h => h) (Or.inl ⟨by rfl, ?_⟩) ?_ ?_
                rotate_left; · (intro w'; go_simp; with_reducible rfl)
                rotate_left; · (simp only [Act.put, List.setIfInBounds_toArray, List.set_cons_zero, List.set_cons_succ, i64_w, i32_w]; rfl)
                refine pure_ (i := 19) (N := some 199) (v := ?_) (a' := ?_) (bA_33 786431) rfl rfl (any_of HT_.out (by kernel_rfl)) (fun _ _ _ h => h) (Or.inl ⟨by rfl, ?_⟩) ?_ ?_
                rotate_left; · (intro w'; go_simp; with_reducible rfl)
                rotate_left; · (simp only [Act.put, List.setIfInBounds_toArray, List.set_cons_zero, List.set_cons_succ, i64_w, i32_w]; rfl)
                refine pure_ (i := 20) (N := some 200) (v := ?_) (a' := ?_) (bA_33 1835007) rfl rfl (any_of HT_.out (by kernel_rfl)) (fun _ _ _ h => h) (Or.inl ⟨by rfl, ?_⟩) ?_ ?_
                rotate_left; · (intro w'; go_simp; with_reducible rfl)
                rotate_left; · (simp only [Act.put, List.setIfInBounds_toArray, List.set_cons_zero, List.set_cons_succ, i64_w, i32_w]; rfl)
                refine pure_ (i := 21) (N := some 201) (v := ?_) (a' := ?_) (bA_33 3932159) rfl rfl (any_of HT_.out (by kernel_rfl)) (fun _ _ _ h => h) (Or.inl ⟨by rfl, ?_⟩) ?_ ?_
                rotate_left; · (intro w'; go_simp; with_reducible rfl)
                rotate_left; · (simp only [Act.put, List.setIfInBounds_toArray, List.set_cons_zero, List.set_cons_succ, i64_w, i32_w]; rfl)
                refine pure_ (i := 22) (N := some 202) (v := ?_) (a' := ?_) (bA_33 8126463) rfl rfl (any_of HT_.out (by kernel_rfl)) (fun _ _ _ h => h) (Or.inl ⟨by rfl, ?_⟩) ?_ ?_
                rotate_left; · (intro w'; go_simp; with_reducible rfl)
                rotate_left; · (simp only [Act.put, List.setIfInBounds_toArray, List.set_cons_zero, List.set_cons_succ, i64_w, i32_w]; rfl)
                refine pure_ (i := 23) (N := some 203) (v := ?_) (a' := ?_) (bA_33 16515071) rfl rfl (any_of HT_.out (by kernel_rfl)) (fun _ _ _ h => h) (Or.inl ⟨by rfl, ?_⟩) ?_ ?_
                rotate_left; · (intro w'; go_simp; with_reducible rfl)
                rotate_left; · (simp only [Act.put, List.setIfInBounds_toArray, List.set_cons_zero, List.set_cons_succ, i64_w, i32_w]; rfl)
                refine take_ (i := 18) (N := some 198) (v := ?_) (a' := ?_) (bA_33 16777215) rfl rfl (take_ofW HT_.out HW_.out (by kernel_rfl)) (fun _ _ _ h => h) (Or.inl ⟨by rfl, ?_⟩) hHeld ?_ ?_
                rotate_left; · (rintro w' ⟨s0, s1, s2, s3, s4, s5, s6, s7⟩; go_simp; with_reducible rfl)
                rotate_left; · (simp only [Act.put, List.setIfInBounds_toArray, List.set_cons_zero, List.set_cons_succ, i64_w, i32_w]; rfl)
                refine take_ (i := 24) (N := some 204) (v := ?_) (a' := ?_) (bA_33 33554431) rfl rfl (take_ofW HT_.out HW_.out (by kernel_rfl)) (fun _ _ _ h => h) (Or.inl ⟨by rfl, ?_⟩) hHeld ?_ ?_
                rotate_left; · (rintro w' ⟨s0, s1, s2, s3, s4, s5, s6, s7⟩; go_simp; with_reducible rfl)
                rotate_left; · (simp only [Act.put, List.setIfInBounds_toArray, List.set_cons_zero, List.set_cons_succ, i64_w, i32_w]; rfl)
                refine pure_ (i := 25) (N := some 205) (v := ?_) (a' := ?_) (bA_33 67108863) rfl rfl (any_of HT_.out (by kernel_rfl)) (fun _ _ _ h => h) (Or.inl ⟨by rfl, ?_⟩) ?_ ?_
                rotate_left; · (intro w'; go_simp; with_reducible rfl)
                rotate_left; · (simp only [Act.put, List.setIfInBounds_toArray, List.set_cons_zero, List.set_cons_succ, i64_w, i32_w]; rfl)
                refine pure_ (i := 26) (N := some 206) (v := ?_) (a' := ?_) (bA_33 134217727) rfl rfl (any_of HT_.out (by kernel_rfl)) (fun _ _ _ h => h) (Or.inl ⟨by rfl, ?_⟩) ?_ ?_
                rotate_left; · (intro w'; go_simp; with_reducible rfl)
                rotate_left; · (simp only [Act.put, List.setIfInBounds_toArray, List.set_cons_zero, List.set_cons_succ, i64_w, i32_w]; rfl)
                refine pure_ (i := 27) (N := some 207) (v := ?_) (a' := ?_) (bA_33 268435455) rfl rfl (any_of HT_.out (by kernel_rfl)) (fun _ _ _ h => h) (Or.inl ⟨by rfl, ?_⟩) ?_ ?_
                rotate_left; · (intro w'; go_simp; with_reducible rfl)
                rotate_left; · (simp only [Act.put, List.setIfInBounds_toArray, List.set_cons_zero, List.set_cons_succ, i64_w, i32_w]; rfl)
                refine pure_ (i := 28) (N := some 208) (v := ?_) (a' := ?_) (bA_33 536870911) rfl rfl (any_of HT_.out (by kernel_rfl)) (fun _ _ _ h => h) (Or.inl ⟨by rfl, ?_⟩) ?_ ?_
                rotate_left; · (intro w'; go_simp; with_reducible rfl)
                rotate_left; · (simp only [Act.put, List.setIfInBounds_toArray, List.set_cons_zero, List.set_cons_succ, i64_w, i32_w]; rfl)
                refine take_ (i := 29) (N := some 209) (v := ?_) (a' := ?_) (bA_33 1073741823) rfl rfl (take_ofW HT_.out HW_.out (by kernel_rfl)) (fun _ _ _ h => h) (Or.inl ⟨by rfl, ?_⟩) hHeld ?_ ?_
                rotate_left; · (rintro w' ⟨s0, s1, s2, s3, s4, s5, s6, s7⟩; go_simp; with_reducible rfl)
                rotate_left; · (simp only [Act.put, List.setIfInBounds_toArray, List.set_cons_zero, List.set_cons_succ, i64_w, i32_w]; rfl)
                refine one_ (i := 30) (N := some 210) (bA_33 2147483647) rfl rfl (one_of HT_.out (by kernel_rfl)) (by decide) (fun K hK => ?_)
                refine goes_ Try.func26 (by kernel_rfl) rfl #[.agg #[.int .i64 x250000_3, .string x250001_3, .slice Ao230 x250002_3.length co230]] (by rfl) rfl rfl (by (try simp only [List.map_toArray, List.map_cons, List.map_nil]); first | done | rfl | (simp only [List.length_drop, List.length_take]; rfl)) ?_
                with_reducible refine (journal_May.calls k5 x250000_3 x250001_3 _ _ x250002_3 t319 _ ?side1 ?side2 A227.out).mono ?_
                (case side1 => repeat (first | exact (Kd.R_reads' HO_250002.out).2.2 | (with_reducible refine Kd.C_alloc ?_ _) | (with_reducible refine Kd.C_drewN ?_ _) | (with_reducible refine Kd.C_drew ?_)))
                (case side2 => exact (Kd.R_reads' HO_250002.out).2.1)
                rintro e w237 ⟨rfl, hb⟩
                have HS7_ := (hb.cell (World.block_lt_of_cell? _ _ (hHeld.2.2.2.2.2.2.2))).trans (hHeld.2.2.2.2.2.2.2)
                refine ⟨_, rfl, ?_⟩
                have n0_ := Aside0.mk (Kd.R_below (by (with_reducible repeat (first | apply Kd.R_alloc | apply Kd.R_drewN | apply Kd.R_drew)); exact HO_7.out) hb)
                have n1_ := Aside0.mk (Kd.R_below (by (with_reducible repeat (first | apply Kd.R_alloc | apply Kd.R_drewN | apply Kd.R_drew)); exact HO_250002.out) hb)
                have n2_ := Aside0.mk (blk_below (g := gb249) (o := .cells #[.int .i64 x250000_3, .string x250001_3, .slice Ao230 x250002_3.length co230] 48 (0, 0)) (by (with_reducible repeat (first | refine blk_drewN ?_ _ | refine blk_drew ?_ | refine blk_alloc ?_ _)); exact BK249.out) hb)
                have n3_ := Aside0.mk (blk_below (g := gb317) (o := .cells #[.int .i64 t312, .bool t313, .int .i64 t314, .int .u32 t315] 72 (0, 0)) (by (with_reducible repeat (first | refine blk_drewN ?_ _ | refine blk_drew ?_ | refine blk_alloc ?_ _)); exact BK317.out) hb)
                have n4_ := Aside0.mk (below_step (by repeat (first | (with_reducible first | exact HB.out | apply below_alloc | apply pw_below_drewN | apply below_drew1 | refine below_set ?_ GE249.out | refine below_set ?_ GE317.out) | exact HB.out)) hb)
                clear HO_7; clear HO_250002; clear BK249; clear BK317; clear HB; have HO_7 := n0_; have HO_250002 := n1_; have BK249 := n2_; have BK317 := n3_; have HB := n4_; clear n0_ n1_ n2_ n3_ n4_
                (try clear hb)
                (try clear hb2)
                (try clear hk)
                (try clear hi)
                refine hK.out _ _ ⟨(blk_cell BK249.out 0).trans rfl, (blk_cell BK249.out 1).trans rfl, (blk_cell BK249.out 2).trans rfl, (blk_cell BK317.out 0).trans rfl, (blk_cell BK317.out 1).trans rfl, (blk_cell BK317.out 2).trans rfl, (blk_cell BK317.out 3).trans rfl, HS7_⟩ (fun hHeld => ?_)
                clear hK K
                refine norm_ (a' := ?_) ?_ ?_
                rotate_left
                ·show Act.put _ (some 210) _ = _
                 simp only [Act.put, List.setIfInBounds_toArray, List.set_cons_zero, List.set_cons_succ, i64_w, i32_w]
                 rfl
                refine pure_ (i := 31) (N := some 211) (v := ?_) (a' := ?_) (bA_33 4294967295) rfl rfl (any_of HT_.out (by kernel_rfl)) (fun _ _ _ h => h) (Or.inl ⟨by rfl, ?_⟩) ?_ ?_
                rotate_left; · (intro w'; go_simp; with_reducible rfl)
                rotate_left; · (simp only [Act.put, List.setIfInBounds_toArray, List.set_cons_zero, List.set_cons_succ, i64_w, i32_w]; rfl)
                refine pure_ (i := 32) (N := some 4) (v := ?_) (a' := ?_) (bA_33 8589934591) rfl rfl (any_of HT_.out (by kernel_rfl)) (fun _ _ _ h => h) (Or.inl ⟨by rfl, ?_⟩) ?_ ?_
                rotate_left; · (intro w'; go_simp; with_reducible rfl)
                rotate_left; · (simp only [Act.put, List.setIfInBounds_toArray, List.set_cons_zero, List.set_cons_succ, i64_w, i32_w]; rfl)
                refine done_ (done_of HT_.out (by kernel_rfl)) ?_
                try go_wp2
                go_ret
                exact ⟨by first | rfl | (simp [errW_none, errW_some] <;> rfl) | (simp only [← hji223]; first | rfl | (simp [errW_none, errW_some] <;> rfl)) | (simp [*, errW_none, errW_some] <;> rfl), by repeat (first | (with_reducible first | exact HB.out | apply below_alloc | apply pw_below_drewN | apply below_drew1 | refine below_set ?_ GE249.out | refine below_set ?_ GE317.out) | exact HB.out)⟩
               ·replace c222 := Bool.eq_false_iff.mpr c222
                subst c222
                have c221b3 : decide (0 < x7_3.length) = false := by simpa using c221b0
                have H1 : ((journal_May.f k5 x250000_3 x250001_3 x250002_3).bind fun t320 => (some t320)) = some r := by rw [if_neg (show ¬ (false = true) by decide)] at H; exact H
                clear H
                have H := H1
                clear H1
                replace H := Option.bind_eq_some_iff.mp H
                obtain ⟨t320, A2470, H⟩ := H
                replace H : (some t320) = some r := H
                have A247 := Aside0.mk A2470
                clear A2470
                obtain rfl := Option.some.inj H
                obtain ⟨Ao248, co248, eo248⟩ := Kd.R_slice HO_7.out
                subst eo248
                have hcz249_0 : wr.cell? ⟨gb249, 0, none⟩ = some (.int .i64 x250000_3) := (blk_cell BK249.out 0).trans rfl
                have hcz249_1 : wr.cell? ⟨gb249, 1, none⟩ = some (.string x250001_3) := (blk_cell BK249.out 1).trans rfl
                have hcz249_2 : wr.cell? ⟨gb249, 2, none⟩ = some (u250002) := (blk_cell BK249.out 2).trans rfl
                have hfz249_0 := blk_frozen BK249.out 0
                have hfz249_1 := blk_frozen BK249.out 1
                have hfz249_2 := blk_frozen BK249.out 2
                obtain ⟨Ao250, co250, eo250⟩ := Kd.R_slice HO_250002.out
                subst eo250
                try go_wp2_with (first | ((with_reducible refine gate_callee (f := 42) rfl ?_); refine goesL_ (some 177) rfl rfl Try.func42 (by kernel_rfl) rfl #[.agg #[.int .i64 x250000_3, .string x250001_3, .slice Ao250 x250002_3.length co250]] rfl (by (try simp only [List.map_toArray, List.map_cons, List.map_nil]); first | done | rfl | (simp only [List.length_drop, List.length_take]; rfl)) ?_; (with_reducible refine (journal_Latest.calls x250000_3 x250001_3 _ _ x250002_3 t312 t313 t314 t315 false _ ?side1 ?side2 A219.out).mono ?_); (case side1 => repeat (first | exact (Kd.R_reads' HO_250002.out).2.2 | (with_reducible refine Kd.C_alloc ?_ _) | (with_reducible refine Kd.C_drewN ?_ _) | (with_reducible refine Kd.C_drew ?_))); (case side2 => exact (Kd.R_reads' HO_250002.out).2.1); rintro e w251 ⟨rfl, hb⟩; refine ⟨_, rfl, ?_⟩; have n0_ := Aside0.mk (Kd.R_below (by (with_reducible repeat (first | apply Kd.R_alloc | apply Kd.R_drewN | apply Kd.R_drew)); exact HO_7.out) hb); have n1_ := Aside0.mk (Kd.R_below (by (with_reducible repeat (first | apply Kd.R_alloc | apply Kd.R_drewN | apply Kd.R_drew)); exact HO_250002.out) hb); have n2_ := Aside0.mk (blk_below (g := gb249) (o := .cells #[.int .i64 x250000_3, .string x250001_3, .slice Ao250 x250002_3.length co250] 48 (0, 0)) (by (with_reducible repeat (first | refine blk_drewN ?_ _ | refine blk_drew ?_ | refine blk_alloc ?_ _)); exact BK249.out) hb); have n3_ := Aside0.mk (below_step (by repeat (first | (with_reducible first | exact HB.out | apply below_alloc | apply pw_below_drewN | apply below_drew1 | refine below_set ?_ GE249.out) | exact HB.out)) hb); clear HO_7; clear HO_250002; clear BK249; clear HB; have HO_7 := n0_; have HO_250002 := n1_; have BK249 := n2_; have HB := n3_; clear n0_ n1_ n2_ n3_; (try clear hb); (try clear hb2); (try clear hk); (try clear hi)) | ((with_reducible refine gate_dst (N := 22) rfl ?_); (try (refine gate_guard (by rfl) ?_; dsimp only)); refine box_event ?hg (N := 22) ?hd (cs := #[.int .i64 0, .bool false, .int .i64 0, .int .u32 0]) (t := 72) ?hr ?_; (case hd => rfl); (case hg => rfl); (case hr => first | (go_simp; done) | (go_simp; rfl)); intro gb317 hg w252 hbox hb; have n0_ := Aside0.mk (Kd.R_below (by (with_reducible repeat (first | apply Kd.R_alloc | apply Kd.R_drewN | apply Kd.R_drew)); exact HO_7.out) hb); have n1_ := Aside0.mk (Kd.R_below (Kd.R_elderB (by (with_reducible repeat (first | apply Kd.R_alloc | apply Kd.R_drewN | apply Kd.R_drew)); exact HO_250002.out) gb317 (Nat.le_of_eq hg.symm)) hb); have n2_ := Aside0.mk (blk_below (g := gb249) (o := .cells #[.int .i64 x250000_3, .string x250001_3, .slice Ao250 x250002_3.length co250] 48 (0, 0)) (by (with_reducible repeat (first | refine blk_drewN ?_ _ | refine blk_drew ?_ | refine blk_alloc ?_ _)); exact BK249.out) hb); have n3_ := Aside0.mk (below_step (by repeat (first | (with_reducible first | exact HB.out | apply below_alloc | apply pw_below_drewN | apply below_drew1 | refine below_set ?_ GE249.out) | exact HB.out)) hb); have n4_ := Aside0.mk (hbox); have n5_ := Aside0.mk ((by rw [hg]; exact (below_size (by repeat (first | (with_reducible first | exact HB.out | apply below_alloc | apply pw_below_drewN | apply below_drew1 | refine below_set ?_ GE249.out) | exact HB.out))) : w.heap.size ≤ gb317)); have n6_ := Aside0.mk ((by rw [hg]; exact (below_size (by repeat (first | (with_reducible first | exact HB.out | apply below_alloc | apply pw_below_drewN | apply below_drew1 | refine below_set ?_ GE249.out) | exact HB.out))) : w.heap.size ≤ gb317)); have n7_ := Aside0.mk ((by rw [hg]; exact Nat.ne_of_lt (blk_lt (g := gb249) (o := .cells #[.int .i64 x250000_3, .string x250001_3, .slice Ao250 x250002_3.length co250] 48 (0, 0)) (by (with_reducible repeat (first | refine blk_drewN ?_ _ | refine blk_drew ?_ | refine blk_alloc ?_ _)); exact BK249.out)) : gb249 ≠ gb317)); have n8_ := Aside0.mk ((by rw [hg]; exact Nat.ne_of_gt (blk_lt (g := gb249) (o := .cells #[.int .i64 x250000_3, .string x250001_3, .slice Ao250 x250002_3.length co250] 48 (0, 0)) (by (with_reducible repeat (first | refine blk_drewN ?_ _ | refine blk_drew ?_ | refine blk_alloc ?_ _)); exact BK249.out)) : gb317 ≠ gb249)); clear HO_7; clear HO_250002; clear BK249; clear HB; have HO_7 := n0_; have HO_250002 := n1_; have BK249 := n2_; have HB := n3_; have BK317 := n4_; have GW317 := n5_; have GE317 := n6_; have NB249_317 := n7_; have NB317_249 := n8_; clear n0_ n1_ n2_ n3_ n4_ n5_ n6_ n7_ n8_; clear hb hbox hg; have hnb253 := NB317_249.out; have hnc253 := NB249_317.out; have hcz254_0 : w252.cell? ⟨gb317, 0, none⟩ = some (.int .i64 0) := (blk_cell BK317.out 0).trans rfl; have hcz254_1 : w252.cell? ⟨gb317, 1, none⟩ = some (.bool false) := (blk_cell BK317.out 1).trans rfl; have hcz254_2 : w252.cell? ⟨gb317, 2, none⟩ = some (.int .i64 0) := (blk_cell BK317.out 2).trans rfl; have hcz254_3 : w252.cell? ⟨gb317, 3, none⟩ = some (.int .u32 0) := (blk_cell BK317.out 3).trans rfl; have hfz254_0 := blk_frozen BK317.out 0; have hfz254_1 := blk_frozen BK317.out 1; have hfz254_2 := blk_frozen BK317.out 2; have hfz254_3 := blk_frozen BK317.out 3))
                have n0_ : Aside0 (Kd.R (Kd.int .i64) 3 ((((w252.setCell ⟨gb317, 0, none⟩ (.int .i64 t312)).setCell ⟨gb317, 1, none⟩ (.bool t313)).setCell ⟨gb317, 2, none⟩ (.int .i64 t314)).setCell ⟨gb317, 3, none⟩ (.int .u32 t315)) w.heap.size (fun _ => True) (.slice Ao248 x7_3.length co248) x7_3) := ⟨by (with_reducible repeat (first | apply Kd.R_alloc | apply Kd.R_drewN | apply Kd.R_drew)); exact Kd.R_mono (Kd.R_far (p := ⟨gb317, 3, none⟩) (Kd.R_far (p := ⟨gb317, 2, none⟩) (Kd.R_far (p := ⟨gb317, 1, none⟩) (Kd.R_far (p := ⟨gb317, 0, none⟩) (Kd.R_types HO_7.out BK317.out (by decide)) (fun _ hk => hk.2) (.int .i64 t312)) (fun _ hk => hk.2) (.bool t313)) (fun _ hk => hk.2) (.int .i64 t314)) (fun _ hk => hk.2) (.int .u32 t315)) (fun _ hk => trivial)⟩
                have n1_ : Aside0 (Kd.R k72 72 ((((w252.setCell ⟨gb317, 0, none⟩ (.int .i64 t312)).setCell ⟨gb317, 1, none⟩ (.bool t313)).setCell ⟨gb317, 2, none⟩ (.int .i64 t314)).setCell ⟨gb317, 3, none⟩ (.int .u32 t315)) w.heap.size (fun k_ => k_ ≠ gb317) (.slice Ao250 x250002_3.length co250) x250002_3) := ⟨by (with_reducible repeat (first | apply Kd.R_alloc | apply Kd.R_drewN | apply Kd.R_drew)); exact Kd.R_mono (Kd.R_far (p := ⟨gb317, 3, none⟩) (Kd.R_far (p := ⟨gb317, 2, none⟩) (Kd.R_far (p := ⟨gb317, 1, none⟩) (Kd.R_far (p := ⟨gb317, 0, none⟩) (Kd.R_mono HO_250002.out (fun k_ hk => (⟨hk, hk.2⟩ : _ ∧ k_ ≠ gb317))) (fun _ hk => hk.2) (.int .i64 t312)) (fun _ hk => hk.2) (.bool t313)) (fun _ hk => hk.2) (.int .i64 t314)) (fun _ hk => hk.2) (.int .u32 t315)) (fun _ hk => hk.1.2)⟩
                have n2_ : Aside0 (((((w252.setCell ⟨gb317, 0, none⟩ (.int .i64 t312)).setCell ⟨gb317, 1, none⟩ (.bool t313)).setCell ⟨gb317, 2, none⟩ (.int .i64 t314)).setCell ⟨gb317, 3, none⟩ (.int .u32 t315)).heap[gb249]? = some (.cells #[.int .i64 x250000_3, .string x250001_3, .slice Ao250 x250002_3.length co250] 48 (0, 0))) := ⟨by (with_reducible repeat (first | refine blk_drewN ?_ _ | refine blk_drew ?_ | refine blk_alloc ?_ _)); refine blk_far ?_ NB249_317.out _; (with_reducible repeat (first | refine blk_drewN ?_ _ | refine blk_drew ?_ | refine blk_alloc ?_ _)); refine blk_far ?_ NB249_317.out _; (with_reducible repeat (first | refine blk_drewN ?_ _ | refine blk_drew ?_ | refine blk_alloc ?_ _)); refine blk_far ?_ NB249_317.out _; (with_reducible repeat (first | refine blk_drewN ?_ _ | refine blk_drew ?_ | refine blk_alloc ?_ _)); refine blk_far ?_ NB249_317.out _; (with_reducible repeat (first | refine blk_drewN ?_ _ | refine blk_drew ?_ | refine blk_alloc ?_ _)); exact BK249.out⟩
                have n3_ : Aside0 (((((w252.setCell ⟨gb317, 0, none⟩ (.int .i64 t312)).setCell ⟨gb317, 1, none⟩ (.bool t313)).setCell ⟨gb317, 2, none⟩ (.int .i64 t314)).setCell ⟨gb317, 3, none⟩ (.int .u32 t315)).heap[gb317]? = some (.cells #[.int .i64 t312, .bool t313, .int .i64 t314, .int .u32 t315] 72 (0, 0))) := ⟨by (with_reducible repeat (first | refine blk_drewN ?_ _ | refine blk_drew ?_ | refine blk_alloc ?_ _)); refine blk_put (cs := #[.int .i64 t312, .bool t313, .int .i64 t314, .int .u32 0]) ?_ 3 _ rfl; (with_reducible repeat (first | refine blk_drewN ?_ _ | refine blk_drew ?_ | refine blk_alloc ?_ _)); refine blk_put (cs := #[.int .i64 t312, .bool t313, .int .i64 0, .int .u32 0]) ?_ 2 _ rfl; (with_reducible repeat (first | refine blk_drewN ?_ _ | refine blk_drew ?_ | refine blk_alloc ?_ _)); refine blk_put (cs := #[.int .i64 t312, .bool false, .int .i64 0, .int .u32 0]) ?_ 1 _ rfl; (with_reducible repeat (first | refine blk_drewN ?_ _ | refine blk_drew ?_ | refine blk_alloc ?_ _)); refine blk_put (cs := #[.int .i64 0, .bool false, .int .i64 0, .int .u32 0]) ?_ 0 _ rfl; (with_reducible repeat (first | refine blk_drewN ?_ _ | refine blk_drew ?_ | refine blk_alloc ?_ _)); exact BK317.out⟩
                have n4_ : Aside0 (Below w.heap.size w ((((w252.setCell ⟨gb317, 0, none⟩ (.int .i64 t312)).setCell ⟨gb317, 1, none⟩ (.bool t313)).setCell ⟨gb317, 2, none⟩ (.int .i64 t314)).setCell ⟨gb317, 3, none⟩ (.int .u32 t315))) := ⟨by repeat (first | (with_reducible first | exact HB.out | apply below_alloc | apply pw_below_drewN | apply below_drew1 | refine below_set ?_ GE249.out | refine below_set ?_ GE317.out) | exact HB.out)⟩
                (try clear HO_7)
                (try clear HO_250002)
                (try clear BK249)
                (try clear BK317)
                (try clear HB)
                generalize ((((w252.setCell ⟨gb317, 0, none⟩ (.int .i64 t312)).setCell ⟨gb317, 1, none⟩ (.bool t313)).setCell ⟨gb317, 2, none⟩ (.int .i64 t314)).setCell ⟨gb317, 3, none⟩ (.int .u32 t315)) = w255 at n0_ n1_ n2_ n3_ n4_ ⊢
                have HO_7 := n0_; have HO_250002 := n1_; have BK249 := n2_; have BK317 := n3_; have HB := n4_; clear n0_ n1_ n2_ n3_ n4_
                have n0_ := Aside0.mk (Kd.R_drew HO_7.out)
                have n1_ := Aside0.mk (Kd.R_drew HO_250002.out)
                have n2_ := Aside0.mk (blk_drew BK249.out)
                have n3_ := Aside0.mk (blk_drew BK317.out)
                have n4_ := Aside0.mk (below_drew1 HB.out)
                clear HO_7; clear HO_250002; clear BK249; clear BK317; clear HB; have HO_7 := n0_; have HO_250002 := n1_; have BK249 := n2_; have BK317 := n3_; have HB := n4_; clear n0_ n1_ n2_ n3_ n4_
                refine start_ (n := 33) (S := fun w' => w'.cell? ⟨gb249, 0, none⟩ = some (.int .i64 x250000_3) ∧ w'.cell? ⟨gb249, 1, none⟩ = some (.string x250001_3) ∧ w'.cell? ⟨gb249, 2, none⟩ = some (.slice Ao250 x250002_3.length co250)) (ds := []) #[false, false, false, false, false, false, false, false, false, false, false, false, false, false, false, false, false, false, false, false, false, false, false, false, false, false, false, false, false, false, false, false, false] (by kernel_rfl) rfl rfl ⟨(blk_cell BK249.out 0).trans rfl, (blk_cell BK249.out 1).trans rfl, (blk_cell BK249.out 2).trans rfl⟩ (fun hHeld => ?_); refine with_tabW law7Adds.tab35 law7Adds.bits35 (fun HT_ HW_ => ?_)
                generalize w255.drew = w256 at HO_7 HO_250002 BK249 BK317 HB hHeld ⊢
                refine pure_ (i := 0) (N := some 180) (v := ?_) (a' := ?_) (bA_33 1) rfl rfl (any_of HT_.out (by kernel_rfl)) (fun _ _ _ h => h) (Or.inl ⟨by rfl, ?_⟩) ?_ ?_
                rotate_left; · (intro w'; go_simp; with_reducible rfl)
                rotate_left; · (simp only [Act.put, List.setIfInBounds_toArray, List.set_cons_zero, List.set_cons_succ, i64_w, i32_w]; rfl)
                refine pure_ (i := 3) (N := some 183) (v := ?_) (a' := ?_) (bA_33 9) rfl rfl (any_of HT_.out (by kernel_rfl)) (fun _ _ _ h => h) (Or.inl ⟨by rfl, ?_⟩) ?_ ?_
                rotate_left; · (intro w'; go_simp; with_reducible rfl)
                rotate_left; · (simp only [Act.put, List.setIfInBounds_toArray, List.set_cons_zero, List.set_cons_succ, i64_w, i32_w]; rfl)
                refine pure_ (i := 4) (N := some 184) (v := ?_) (a' := ?_) (bA_33 25) rfl rfl (any_of HT_.out (by kernel_rfl)) (fun _ _ _ h => h) (Or.inl ⟨by rfl, ?_⟩) ?_ ?_
                rotate_left; · (intro w'; go_simp; with_reducible rfl)
                rotate_left; · (simp only [Act.put, List.setIfInBounds_toArray, List.set_cons_zero, List.set_cons_succ, i64_w, i32_w]; rfl)
                refine take_ (i := 1) (N := some 181) (v := ?_) (a' := ?_) (bA_33 27) rfl rfl (take_ofW HT_.out HW_.out (by kernel_rfl)) (fun _ _ _ h => h) (Or.inl ⟨by rfl, ?_⟩) hHeld ?_ ?_
                rotate_left; · (rintro w' ⟨s0, s1, s2⟩; go_simp; with_reducible rfl)
                rotate_left; · (simp only [Act.put, List.setIfInBounds_toArray, List.set_cons_zero, List.set_cons_succ, i64_w, i32_w]; rfl)
                refine pure_ (i := 2) (N := some 182) (v := ?_) (a' := ?_) (bA_33 31) rfl rfl (any_of HT_.out (by kernel_rfl)) (fun _ _ _ h => h) (Or.inl ⟨by rfl, ?_⟩) ?_ ?_
                rotate_left; · (intro w'; go_simp; with_reducible rfl)
                rotate_left; · (simp only [Act.put, List.setIfInBounds_toArray, List.set_cons_zero, List.set_cons_succ, i64_w, i32_w]; rfl)
                refine pure_ (i := 5) (N := some 185) (v := ?_) (a' := ?_) (bA_33 63) rfl rfl (any_of HT_.out (by kernel_rfl)) (fun _ _ _ h => h) (Or.inl ⟨by rfl, ?_⟩) ?_ ?_
                rotate_left; · (intro w'; go_simp; with_reducible rfl)
                rotate_left; · (simp only [Act.put, List.setIfInBounds_toArray, List.set_cons_zero, List.set_cons_succ, i64_w, i32_w]; rfl)
                refine pure_ (i := 6) (N := some 186) (v := ?_) (a' := ?_) (bA_33 127) rfl rfl (any_of HT_.out (by kernel_rfl)) (fun _ _ _ h => h) (Or.inl ⟨by rfl, ?_⟩) ?_ ?_
                rotate_left; · (intro w'; go_simp; with_reducible rfl)
                rotate_left; · (simp only [Act.put, List.setIfInBounds_toArray, List.set_cons_zero, List.set_cons_succ, i64_w, i32_w]; rfl)
                refine pure_ (i := 7) (N := some 187) (v := ?_) (a' := ?_) (bA_33 255) rfl rfl (any_of HT_.out (by kernel_rfl)) (fun _ _ _ h => h) (Or.inl ⟨by rfl, ?_⟩) ?_ ?_
                rotate_left; · (intro w'; go_simp; with_reducible rfl)
                rotate_left; · (simp only [Act.put, List.setIfInBounds_toArray, List.set_cons_zero, List.set_cons_succ, i64_w, i32_w]; rfl)
                refine pure_ (i := 8) (N := some 188) (v := ?_) (a' := ?_) (bA_33 511) rfl rfl (any_of HT_.out (by kernel_rfl)) (fun _ _ _ h => h) (Or.inl ⟨by rfl, ?_⟩) ?_ ?_
                rotate_left; · (intro w'; go_simp; with_reducible rfl)
                rotate_left; · (simp only [Act.put, List.setIfInBounds_toArray, List.set_cons_zero, List.set_cons_succ, i64_w, i32_w]; rfl)
                refine pure_ (i := 9) (N := some 189) (v := ?_) (a' := ?_) (bA_33 1023) rfl rfl (any_of HT_.out (by kernel_rfl)) (fun _ _ _ h => h) (Or.inl ⟨by rfl, ?_⟩) ?_ ?_
                rotate_left; · (intro w'; go_simp; with_reducible rfl)
                rotate_left; · (simp only [Act.put, List.setIfInBounds_toArray, List.set_cons_zero, List.set_cons_succ, i64_w, i32_w]; rfl)
                refine pure_ (i := 10) (N := some 190) (v := ?_) (a' := ?_) (bA_33 2047) rfl rfl (any_of HT_.out (by kernel_rfl)) (fun _ _ _ h => h) (Or.inl ⟨by rfl, ?_⟩) ?_ ?_
                rotate_left; · (intro w'; go_simp; with_reducible rfl)
                rotate_left; · (simp only [Act.put, List.setIfInBounds_toArray, List.set_cons_zero, List.set_cons_succ, i64_w, i32_w]; rfl)
                refine pure_ (i := 11) (N := some 191) (v := ?_) (a' := ?_) (bA_33 4095) rfl rfl (any_of HT_.out (by kernel_rfl)) (fun _ _ _ h => h) (Or.inl ⟨by rfl, ?_⟩) ?_ ?_
                rotate_left; · (intro w'; go_simp; with_reducible rfl)
                rotate_left; · (simp only [Act.put, List.setIfInBounds_toArray, List.set_cons_zero, List.set_cons_succ, i64_w, i32_w]; rfl)
                refine pure_ (i := 12) (N := some 192) (v := ?_) (a' := ?_) (bA_33 8191) rfl rfl (any_of HT_.out (by kernel_rfl)) (fun _ _ _ h => h) (Or.inl ⟨by rfl, ?_⟩) ?_ ?_
                rotate_left; · (intro w'; go_simp; with_reducible rfl)
                rotate_left; · (simp only [Act.put, List.setIfInBounds_toArray, List.set_cons_zero, List.set_cons_succ, i64_w, i32_w]; rfl)
                refine pure_ (i := 13) (N := some 193) (v := ?_) (a' := ?_) (bA_33 16383) rfl rfl (any_of HT_.out (by kernel_rfl)) (fun _ _ _ h => h) (Or.inl ⟨by rfl, ?_⟩) ?_ ?_
                rotate_left; · (intro w'; go_simp; with_reducible rfl)
                rotate_left; · (simp only [Act.put, List.setIfInBounds_toArray, List.set_cons_zero, List.set_cons_succ, i64_w, i32_w]; rfl)
                refine pure_ (i := 14) (N := some 194) (v := ?_) (a' := ?_) (bA_33 32767) rfl rfl (any_of HT_.out (by kernel_rfl)) (fun _ _ _ h => h) (Or.inl ⟨by rfl, ?_⟩) ?_ ?_
                rotate_left; · (intro w'; go_simp; with_reducible rfl)
                rotate_left; · (simp only [Act.put, List.setIfInBounds_toArray, List.set_cons_zero, List.set_cons_succ, i64_w, i32_w]; rfl)
                refine pure_ (i := 15) (N := some 195) (v := ?_) (a' := ?_) (bA_33 65535) rfl rfl (any_of HT_.out (by kernel_rfl)) (fun _ _ _ h => h) (Or.inl ⟨by rfl, ?_⟩) ?_ ?_
                rotate_left; · (intro w'; go_simp; with_reducible rfl)
                rotate_left; · (simp only [Act.put, List.setIfInBounds_toArray, List.set_cons_zero, List.set_cons_succ, i64_w, i32_w]; rfl)
                refine pure_ (i := 16) (N := some 196) (v := ?_) (a' := ?_) (bA_33 131071) rfl rfl (any_of HT_.out (by kernel_rfl)) (fun _ _ _ h => h) (Or.inl ⟨by rfl, ?_⟩) ?_ ?_
                rotate_left; · (intro w'; go_simp; with_reducible rfl)
                rotate_left; · (simp only [Act.put, List.setIfInBounds_toArray, List.set_cons_zero, List.set_cons_succ, i64_w, i32_w]; rfl)
                refine pure_ (i := 17) (N := some 197) (v := undef) (a' := ?_) (bA_33 262143) rfl rfl (any_of HT_.out (by kernel_rfl)) (fun _ _ _ h => h) (Or.inr ⟨by rfl, rfl⟩) ?_ ?_
                rotate_left
                ·simp only [Act.put, List.setIfInBounds_toArray, List.set_cons_zero, List.set_cons_succ, i64_w, i32_w]
                 rfl
                refine pure_ (i := 18) (N := some 198) (v := undef) (a' := ?_) (bA_33 524287) rfl rfl (any_of HT_.out (by kernel_rfl)) (fun _ _ _ h => h) (Or.inr ⟨by rfl, rfl⟩) ?_ ?_
                rotate_left
                ·simp only [Act.put, List.setIfInBounds_toArray, List.set_cons_zero, List.set_cons_succ, i64_w, i32_w]
                 rfl
                refine pure_ (i := 19) (N := some 199) (v := undef) (a' := ?_) (bA_33 1048575) rfl rfl (any_of HT_.out (by kernel_rfl)) (fun _ _ _ h => h) (Or.inr ⟨by rfl, rfl⟩) ?_ ?_
                rotate_left
                ·simp only [Act.put, List.setIfInBounds_toArray, List.set_cons_zero, List.set_cons_succ, i64_w, i32_w]
                 rfl
                refine pure_ (i := 20) (N := some 200) (v := undef) (a' := ?_) (bA_33 2097151) rfl rfl (any_of HT_.out (by kernel_rfl)) (fun _ _ _ h => h) (Or.inr ⟨by rfl, rfl⟩) ?_ ?_
                rotate_left
                ·simp only [Act.put, List.setIfInBounds_toArray, List.set_cons_zero, List.set_cons_succ, i64_w, i32_w]
                 rfl
                refine pure_ (i := 21) (N := some 201) (v := undef) (a' := ?_) (bA_33 4194303) rfl rfl (any_of HT_.out (by kernel_rfl)) (fun _ _ _ h => h) (Or.inr ⟨by rfl, rfl⟩) ?_ ?_
                rotate_left
                ·simp only [Act.put, List.setIfInBounds_toArray, List.set_cons_zero, List.set_cons_succ, i64_w, i32_w]
                 rfl
                refine pure_ (i := 22) (N := some 202) (v := undef) (a' := ?_) (bA_33 8388607) rfl rfl (any_of HT_.out (by kernel_rfl)) (fun _ _ _ h => h) (Or.inr ⟨by rfl, rfl⟩) ?_ ?_
                rotate_left
                ·simp only [Act.put, List.setIfInBounds_toArray, List.set_cons_zero, List.set_cons_succ, i64_w, i32_w]
                 rfl
                refine pure_ (i := 23) (N := some 203) (v := undef) (a' := ?_) (bA_33 16777215) rfl rfl (any_of HT_.out (by kernel_rfl)) (fun _ _ _ h => h) (Or.inr ⟨by rfl, rfl⟩) ?_ ?_
                rotate_left
                ·simp only [Act.put, List.setIfInBounds_toArray, List.set_cons_zero, List.set_cons_succ, i64_w, i32_w]
                 rfl
                refine pure_ (i := 24) (N := some 204) (v := undef) (a' := ?_) (bA_33 33554431) rfl rfl (any_of HT_.out (by kernel_rfl)) (fun _ _ _ h => h) (Or.inr ⟨by rfl, rfl⟩) ?_ ?_
                rotate_left
                ·simp only [Act.put, List.setIfInBounds_toArray, List.set_cons_zero, List.set_cons_succ, i64_w, i32_w]
                 rfl
                refine pure_ (i := 25) (N := some 205) (v := undef) (a' := ?_) (bA_33 67108863) rfl rfl (any_of HT_.out (by kernel_rfl)) (fun _ _ _ h => h) (Or.inr ⟨by rfl, rfl⟩) ?_ ?_
                rotate_left
                ·simp only [Act.put, List.setIfInBounds_toArray, List.set_cons_zero, List.set_cons_succ, i64_w, i32_w]
                 rfl
                refine pure_ (i := 26) (N := some 206) (v := ?_) (a' := ?_) (bA_33 134217727) rfl rfl (any_of HT_.out (by kernel_rfl)) (fun _ _ _ h => h) (Or.inl ⟨by rfl, ?_⟩) ?_ ?_
                rotate_left; · (intro w'; go_simp; with_reducible rfl)
                rotate_left; · (simp only [Act.put, List.setIfInBounds_toArray, List.set_cons_zero, List.set_cons_succ, i64_w, i32_w]; rfl)
                refine pure_ (i := 27) (N := some 207) (v := ?_) (a' := ?_) (bA_33 268435455) rfl rfl (any_of HT_.out (by kernel_rfl)) (fun _ _ _ h => h) (Or.inl ⟨by rfl, ?_⟩) ?_ ?_
                rotate_left; · (intro w'; go_simp; with_reducible rfl)
                rotate_left; · (simp only [Act.put, List.setIfInBounds_toArray, List.set_cons_zero, List.set_cons_succ, i64_w, i32_w]; rfl)
                refine pure_ (i := 28) (N := some 208) (v := ?_) (a' := ?_) (bA_33 536870911) rfl rfl (any_of HT_.out (by kernel_rfl)) (fun _ _ _ h => h) (Or.inl ⟨by rfl, ?_⟩) ?_ ?_
                rotate_left; · (intro w'; go_simp; with_reducible rfl)
                rotate_left; · (simp only [Act.put, List.setIfInBounds_toArray, List.set_cons_zero, List.set_cons_succ, i64_w, i32_w]; rfl)
                refine take_ (i := 29) (N := some 209) (v := ?_) (a' := ?_) (bA_33 1073741823) rfl rfl (take_ofW HT_.out HW_.out (by kernel_rfl)) (fun _ _ _ h => h) (Or.inl ⟨by rfl, ?_⟩) hHeld ?_ ?_
                rotate_left; · (rintro w' ⟨s0, s1, s2⟩; go_simp; with_reducible rfl)
                rotate_left; · (simp only [Act.put, List.setIfInBounds_toArray, List.set_cons_zero, List.set_cons_succ, i64_w, i32_w]; rfl)
                refine one_ (i := 30) (N := some 210) (bA_33 2147483647) rfl rfl (one_of HT_.out (by kernel_rfl)) (by decide) (fun K hK => ?_)
                refine goes_ Try.func26 (by kernel_rfl) rfl #[.agg #[.int .i64 x250000_3, .string x250001_3, .slice Ao250 x250002_3.length co250]] (by rfl) rfl rfl (by (try simp only [List.map_toArray, List.map_cons, List.map_nil]); first | done | rfl | (simp only [List.length_drop, List.length_take]; rfl)) ?_
                with_reducible refine (journal_May.calls k5 x250000_3 x250001_3 _ _ x250002_3 t320 _ ?side1 ?side2 A247.out).mono ?_
                (case side1 => repeat (first | exact (Kd.R_reads' HO_250002.out).2.2 | (with_reducible refine Kd.C_alloc ?_ _) | (with_reducible refine Kd.C_drewN ?_ _) | (with_reducible refine Kd.C_drew ?_)))
                (case side2 => exact (Kd.R_reads' HO_250002.out).2.1)
                rintro e w257 ⟨rfl, hb⟩
                refine ⟨_, rfl, ?_⟩
                have n0_ := Aside0.mk (Kd.R_below (by (with_reducible repeat (first | apply Kd.R_alloc | apply Kd.R_drewN | apply Kd.R_drew)); exact HO_7.out) hb)
                have n1_ := Aside0.mk (Kd.R_below (by (with_reducible repeat (first | apply Kd.R_alloc | apply Kd.R_drewN | apply Kd.R_drew)); exact HO_250002.out) hb)
                have n2_ := Aside0.mk (blk_below (g := gb249) (o := .cells #[.int .i64 x250000_3, .string x250001_3, .slice Ao250 x250002_3.length co250] 48 (0, 0)) (by (with_reducible repeat (first | refine blk_drewN ?_ _ | refine blk_drew ?_ | refine blk_alloc ?_ _)); exact BK249.out) hb)
                have n3_ := Aside0.mk (blk_below (g := gb317) (o := .cells #[.int .i64 t312, .bool t313, .int .i64 t314, .int .u32 t315] 72 (0, 0)) (by (with_reducible repeat (first | refine blk_drewN ?_ _ | refine blk_drew ?_ | refine blk_alloc ?_ _)); exact BK317.out) hb)
                have n4_ := Aside0.mk (below_step (by repeat (first | (with_reducible first | exact HB.out | apply below_alloc | apply pw_below_drewN | apply below_drew1 | refine below_set ?_ GE249.out | refine below_set ?_ GE317.out) | exact HB.out)) hb)
                clear HO_7; clear HO_250002; clear BK249; clear BK317; clear HB; have HO_7 := n0_; have HO_250002 := n1_; have BK249 := n2_; have BK317 := n3_; have HB := n4_; clear n0_ n1_ n2_ n3_ n4_
                (try clear hb)
                (try clear hb2)
                (try clear hk)
                (try clear hi)
                refine hK.out _ _ ⟨(blk_cell BK249.out 0).trans rfl, (blk_cell BK249.out 1).trans rfl, (blk_cell BK249.out 2).trans rfl⟩ (fun hHeld => ?_)
                clear hK K
                refine norm_ (a' := ?_) ?_ ?_
                rotate_left
                ·show Act.put _ (some 210) _ = _
                 simp only [Act.put, List.setIfInBounds_toArray, List.set_cons_zero, List.set_cons_succ, i64_w, i32_w]
                 rfl
                refine pure_ (i := 31) (N := some 211) (v := ?_) (a' := ?_) (bA_33 4294967295) rfl rfl (any_of HT_.out (by kernel_rfl)) (fun _ _ _ h => h) (Or.inl ⟨by rfl, ?_⟩) ?_ ?_
                rotate_left; · (intro w'; go_simp; with_reducible rfl)
                rotate_left; · (simp only [Act.put, List.setIfInBounds_toArray, List.set_cons_zero, List.set_cons_succ, i64_w, i32_w]; rfl)
                refine pure_ (i := 32) (N := some 4) (v := ?_) (a' := ?_) (bA_33 8589934591) rfl rfl (any_of HT_.out (by kernel_rfl)) (fun _ _ _ h => h) (Or.inl ⟨by rfl, ?_⟩) ?_ ?_
                rotate_left; · (intro w'; go_simp; with_reducible rfl)
                rotate_left; · (simp only [Act.put, List.setIfInBounds_toArray, List.set_cons_zero, List.set_cons_succ, i64_w, i32_w]; rfl)
                refine done_ (done_of HT_.out (by kernel_rfl)) ?_
                try go_wp2
                go_ret
                exact ⟨by first | rfl | (simp [errW_none, errW_some] <;> rfl) | (simp [*, errW_none, errW_some] <;> rfl), by repeat (first | (with_reducible first | exact HB.out | apply below_alloc | apply pw_below_drewN | apply below_drew1 | refine below_set ?_ GE249.out | refine below_set ?_ GE317.out) | exact HB.out)⟩

/-- THE ONE PURE STATEMENT of law7Adds: yours. -/
def law7Adds.Pure : Prop := ∀ (l0 : List Int) (l1 : List Int), l0.length ≤ maxLen → l0.length * 1 ≤ 140737488351232 → (∀ x ∈ l0, (Lit.int .u8 x).wf = true) → l1.length ≤ maxLen → l1.length * 1 ≤ 140737488351232 → (∀ x ∈ l1, (Lit.int .u8 x).wf = true) → ∃ k, law7Adds.f k l0 l1 = some true
theorem law7Adds.walk (P : law7Adds.Pure) (a0 : Option Addr) (len0 cap0 : Nat) (z0 : List Int) (a1 : Option Addr) (len1 cap1 : Nat) (z1 : List Int) (w : World) (w0 : (a0 = none ∧ len0 = 0 ∧ cap0 = 0 ∧ z0 = []) ∨ ∃ x, a0 = some x ∧ len0 ≤ cap0 ∧ cap0 ≤ maxLen ∧ z0.length = cap0 ∧ (∀ i, i < z0.length → w.cell? (x.add i) = some (.int .u8 (z0.getD i 0))) ∧ ∀ n ∈ z0, (Lit.int .u8 n).wf = true) (y0 : len0 * 1 ≤ 140737488351232) (w1 : (a1 = none ∧ len1 = 0 ∧ cap1 = 0 ∧ z1 = []) ∨ ∃ x, a1 = some x ∧ len1 ≤ cap1 ∧ cap1 ≤ maxLen ∧ z1.length = cap1 ∧ (∀ i, i < z1.length → w.cell? (x.add i) = some (.int .u8 (z1.getD i 0))) ∧ ∀ n ∈ z1, (Lit.int .u8 n).wf = true) (y1 : len1 * 1 ≤ 140737488351232) :
  Calls Try.prog 12 #[.slice a0 len0 cap0, .slice a1 len1 cap1] w fun e w' => e = .returned (.bool true) ∧ Below w.heap.size w w' := by
 obtain ⟨l0, rfl, hr0, hm0, hw0, hc0⟩ := ReadsInt.ofRowC w0
 obtain ⟨l1, rfl, hr1, hm1, hw1, hc1⟩ := ReadsInt.ofRowC w1
 obtain ⟨k, h⟩ := P l0 l1 hm0 y0 hw0 hm1 y1 hw1
 refine (law7Adds.calls k _ _ l0 _ _ l1 true w (Kd.C_of_reads (d := (0 : Int)) (h1 := fun _ => rfl) hr0) hc0 (Kd.C_of_reads (d := (0 : Int)) (h1 := fun _ => rfl) hr1) hc1 h).mono ?_
 rintro e w' ⟨rfl, hd⟩
 exact ⟨rfl, hd⟩

end Go.Proofs.Ytnlpipjdpmaggaa.PJournalReads
