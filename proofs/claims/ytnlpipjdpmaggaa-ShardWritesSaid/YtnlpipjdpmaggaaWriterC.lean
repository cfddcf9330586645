/- The writer's Add: a call of it leaves the writer with the rows that its Lean function tells, and answers its number. The printing program's text, turned by a program of the prover's to a writer behind a pointer. -/
import Derived.Test.YtnlpipjdpmaggaaPShardWritesx0
import Derived.Test.YtnlpipjdpmaggaaWriterA
import Derived.Test.YtnlpipjdpmaggaaWriterB
namespace Go.Proofs.Ytnlpipjdpmaggaa.PShardWrites
open Go.RowKit Go.Proofs.YtnlpipjdpmaggaaW.PrintWords Go.Proofs.YtnlpipjdpmaggaaW.PrintLast Go.Proofs.YtnlpipjdpmaggaaW.PrintMore
attribute [local go_sem] max2_int min2_int max_two min_two max_three min_three max_four min_four   -- for this text's walks alone
set_option linter.unusedVariables false
set_option linter.unusedSimpArgs false

/-! ### shard_Writer_Add: function 36 -/
def shard_Writer_Add.l0 : Nat → List Int → Int → Int → Int → Int → Int → Int → List Int → List Int → Int → Bool → Option (Int × Int × Int × Int × Int × Int × List Int × List Int × Int × Bool × Int)
 | 0, _, _, _, _, _, _, _, _, _, _, _ => none
 | k + 1, x1, x336000, x336001, x336002, x336003, x336004, x336005, x336006, x336007, x336008, x336009 => if (x1.length : Int) > 0 then (if 0 ≤ (mn (wrap64 (x336003 - (x336007.length : Int))) (x1.length : Int)) then (if (mn (wrap64 (x336003 - (x336007.length : Int))) (x1.length : Int)) ≤ (x1.length : Int) then ((some (x1.take ((mn (wrap64 (x336003 - (x336007.length : Int))) (x1.length : Int)) : Int).toNat : List Int)).bind fun y337 => (if x336007.length + y337.length < 140737488355328 then ((some (x336007 ++ y337 : List Int)).bind fun y342 => ((some (x1.drop ((mn (wrap64 (x336003 - (x336007.length : Int))) (x1.length : Int)) : Int).toNat : List Int)).bind fun y345 => (if (y342.length : Int) = x336003 then ((shard_Writer_flush.f k x336000 x336001 x336002 x336003 x336004 x336005 x336006 y342 x336008 x336009).bind fun bt350 => (shard_Writer_Add.l0 k y345 bt350.1 bt350.2.1 bt350.2.2.1 bt350.2.2.2.1 bt350.2.2.2.2.1 bt350.2.2.2.2.2.1 bt350.2.2.2.2.2.2.1 bt350.2.2.2.2.2.2.2.1 bt350.2.2.2.2.2.2.2.2.1 bt350.2.2.2.2.2.2.2.2.2)) else (shard_Writer_Add.l0 k y345 x336000 x336001 x336002 x336003 x336004 x336005 x336006 y342 x336008 x336009)))) else (none))) else (none)) else (none)) else (some (x336000, x336001, x336002, x336003, x336004, x336005, x336006, x336007, x336008, x336009, 0))
def shard_Writer_Add.f (k : Nat) (a0_0 : Int) (a0_1 : Int) (a0_2 : Int) (a0_3 : Int) (a0_4 : Int) (a0_5 : Int) (l0_6 : List Int) (l0_7 : List Int) (a0_8 : Int) (a0_9 : Bool) (l1 : List Int) : Option (Int × Int × Int × Int × Int × Int × List Int × List Int × Int × Bool × Int) := (shard_Writer_open.f k a0_0 a0_1 a0_2 a0_3 a0_4 a0_5 l0_6 l0_7 a0_8 a0_9).bind fun t336 => (if t336 = true then (if (l1.length : Int) > (wrap64 (a0_4 - a0_8)) then (some (a0_0, a0_1, a0_2, a0_3, a0_4, a0_5, l0_6, l0_7, a0_8, a0_9, 3)) else (shard_Writer_Add.l0 k l1 a0_0 a0_1 a0_2 a0_3 a0_4 a0_5 l0_6 l0_7 (wrap64 (a0_8 + (l1.length : Int))) a0_9)) else (some (a0_0, a0_1, a0_2, a0_3, a0_4, a0_5, l0_6, l0_7, a0_8, a0_9, 1)))
theorem shard_Writer_Add.mono_l : ∀ k, (∀ y0 y1 y2 y3 y4 y5 y6 y7 y8 y9 y10, LeO (shard_Writer_Add.l0 k y0 y1 y2 y3 y4 y5 y6 y7 y8 y9 y10) (shard_Writer_Add.l0 (k + 1) y0 y1 y2 y3 y4 y5 y6 y7 y8 y9 y10))
 | 0 => fun _ _ _ _ _ _ _ _ _ _ _ r h => by simp [shard_Writer_Add.l0] at h
 | k + 1 => by
  have ih0 := shard_Writer_Add.mono_l k
  ·intro y0 y1 y2 y3 y4 y5 y6 y7 y8 y9 y10
   unfold shard_Writer_Add.l0
   repeat' first
   | (with_reducible exact ih0 _ _ _ _ _ _ _ _ _ _ _)
   | (with_reducible exact shard_Writer_flush.mono _ _ _ _ _ _ _ _ _ _ _)
   | (with_reducible exact shard_Writer_open.mono _ _ _ _ _ _ _ _ _ _ _)
   | (with_reducible exact LeO.refl _)
   | (with_reducible exact LeO.none _)
   | (with_reducible refine LeO.ite ?_ ?_)
   | (with_reducible refine LeO.bind ?_ (fun _ => ?_))
   | exact ih0 _ _ _ _ _ _ _ _ _ _ _
   | exact shard_Writer_flush.mono _ _ _ _ _ _ _ _ _ _ _
   | exact shard_Writer_open.mono _ _ _ _ _ _ _ _ _ _ _
   | exact LeO.none _
   | refine LeO.ite ?_ ?_
   | refine LeO.bind ?_ (fun _ => ?_)
theorem shard_Writer_Add.mono : ∀ a0 a1 a2 a3 a4 a5 a6 a7 a8 a9 a10 k, LeO (shard_Writer_Add.f k a0 a1 a2 a3 a4 a5 a6 a7 a8 a9 a10) (shard_Writer_Add.f (k + 1) a0 a1 a2 a3 a4 a5 a6 a7 a8 a9 a10) := by
 intro a0 a1 a2 a3 a4 a5 a6 a7 a8 a9 a10 k
 have ih0 := shard_Writer_Add.mono_l k
 unfold shard_Writer_Add.f
 repeat' first
   | (with_reducible exact ih0 _ _ _ _ _ _ _ _ _ _ _)
   | (with_reducible exact shard_Writer_flush.mono _ _ _ _ _ _ _ _ _ _ _)
   | (with_reducible exact shard_Writer_open.mono _ _ _ _ _ _ _ _ _ _ _)
   | (with_reducible exact LeO.refl _)
   | (with_reducible exact LeO.none _)
   | (with_reducible refine LeO.ite ?_ ?_)
   | (with_reducible refine LeO.bind ?_ (fun _ => ?_))
   | exact ih0 _ _ _ _ _ _ _ _ _ _ _
   | exact shard_Writer_flush.mono _ _ _ _ _ _ _ _ _ _ _
   | exact shard_Writer_open.mono _ _ _ _ _ _ _ _ _ _ _
   | exact LeO.none _
   | refine LeO.ite ?_ ?_
   | refine LeO.bind ?_ (fun _ => ?_)
def shard_Writer_Add.T3 : Bool × List (List Nat × List Nat) := (true, [([], []), ([0], [0]), ([], []), ([2], [2]), ([3], [3]), ([4], [4]), ([5], [5]), ([], []), ([7], [7]), ([8], [8]), ([9], [9]), ([6, 10], [6, 10]), ([1, 11], [1, 11]), ([12], [12])])
def shard_Writer_Add.B3 : List Nat := [0, 1, 0, 4, 12, 28, 60, 0, 128, 384, 896, 2044, 4095, 8191]
theorem shard_Writer_Add.tab3 : rtab .any (opsOf Try.f36 3) = shard_Writer_Add.T3 := by kernel_rfl
theorem shard_Writer_Add.bits3 : waitsOk shard_Writer_Add.T3.2 shard_Writer_Add.B3 = true := by kernel_rfl
def shard_Writer_Add.T7 : Bool × List (List Nat × List Nat) := (true, [([], []), ([0], [0]), ([1], [1]), ([2], [2]), ([3], [3]), ([], []), ([5], [5]), ([6], [6]), ([7], [7]), ([8], [8]), ([4, 9], [4, 9]), ([], []), ([11], [11]), ([10, 12], [10, 12]), ([13, 0, 1, 2, 3, 4, 5, 6, 7, 8, 9, 10, 11, 12, 13], [13])])
def shard_Writer_Add.B7 : List Nat := [0, 1, 3, 7, 15, 0, 32, 96, 224, 480, 1023, 0, 2048, 8191, 16383]
theorem shard_Writer_Add.tab7 : rtab .any (opsOf Try.f36 7) = shard_Writer_Add.T7 := by kernel_rfl
theorem shard_Writer_Add.bits7 : waitsOk shard_Writer_Add.T7.2 shard_Writer_Add.B7 = true := by kernel_rfl
def shard_Writer_Add.T8 : Bool × List (List Nat × List Nat) := (true, [([], []), ([], []), ([1], [1]), ([2], [2]), ([3], [3]), ([], []), ([], []), ([5, 6], [5, 6]), ([4, 7], [4, 7]), ([], []), ([], []), ([9, 10], [9, 10]), ([0, 0, 1, 2, 3, 4, 5, 6, 7, 8], [0]), ([12, 0, 1, 2, 3, 4, 5, 6, 7, 8], [12]), ([13, 8, 8, 0, 1, 2, 3, 4, 5, 6, 7, 8], [8, 13]), ([11, 14, 0, 1, 2, 3, 4, 5, 6, 7, 8, 9, 10, 11, 12, 13, 14], [5, 9, 11])])
def shard_Writer_Add.B8 : List Nat := [0, 0, 2, 6, 14, 0, 0, 96, 254, 0, 0, 1536, 511, 4607, 12799, 32767]
theorem shard_Writer_Add.tab8 : rtab .any (opsOf Try.f36 8) = shard_Writer_Add.T8 := by kernel_rfl
theorem shard_Writer_Add.bits8 : waitsOk shard_Writer_Add.T8.2 shard_Writer_Add.B8 = true := by kernel_rfl
def shard_Writer_Add.T9 : Bool × List (List Nat × List Nat) := (true, [([], []), ([0], [0]), ([1], [1]), ([2], [2]), ([3], [3]), ([], []), ([5], [5]), ([6], [6]), ([7], [7]), ([8], [8]), ([4, 9], [4, 9])])
def shard_Writer_Add.B9 : List Nat := [0, 1, 3, 7, 15, 0, 32, 96, 224, 480, 1023]
theorem shard_Writer_Add.tab9 : rtab .any (opsOf Try.f36 9) = shard_Writer_Add.T9 := by kernel_rfl
theorem shard_Writer_Add.bits9 : waitsOk shard_Writer_Add.T9.2 shard_Writer_Add.B9 = true := by kernel_rfl
set_option maxHeartbeats 8000000 in
set_option maxRecDepth 100000 in
theorem shard_Writer_Add.calls (k : Nat) (a0_0 : Int) (a0_1 : Int) (a0_2 : Int) (a0_3 : Int) (a0_4 : Int) (a0_5 : Int) (P0_6_ : Nat → Prop) (u9000_ : Value) (l0_6 : List Int) (P0_7_ : Nat → Prop) (u9001_ : Value) (l0_7 : List Int) (a0_8 : Int) (a0_9 : Bool) (P1_ : Nat → Prop) (A1 : Option Addr) (c1 : Nat) (l1 : List Int) (r1 : Int) (r2 : Int) (r3 : Int) (r4 : Int) (r5 : Int) (r6 : Int) (r7 : List Int) (r8 : List Int) (r9 : Int) (r10 : Bool) (r11 : Int) (w0 w : World) (hB : Below w0.heap.size w0 w) (ho0_6 : Kd.R (Kd.int .u8) 5 w w0.heap.size P0_6_ u9000_ l0_6) (hp0_6_0_7 : ∀ k_, P0_6_ k_ → ¬ P0_7_ k_) (ho0_7 : Kd.R (Kd.int .u8) 5 w w0.heap.size P0_7_ u9001_ l0_7) (hp0_7_0_6 : ∀ k_, P0_7_ k_ → ¬ P0_6_ k_) (hs1 : Kd.V (Kd.int .u8) 5 w w0.heap.size (fun k_ => P1_ k_ ∧ some k_ ≠ (u9000_ : Value).ownBlock ∧ some k_ ≠ (u9001_ : Value).ownBlock) (.slice A1 l1.length c1) l1) (gb : Nat) (bk : w.heap[gb]? = some (.cells #[.int .i64 a0_0, .int .i64 a0_1, .int .i64 a0_2, .int .i64 a0_3, .int .i64 a0_4, .int .i64 a0_5, u9000_, u9001_, .int .i64 a0_8, .bool a0_9] 105 (0, 0))) (ge : w0.heap.size ≤ gb) (pg : P0_7_ gb) (pn : ∀ k_, P1_ k_ → k_ ≠ gb) (h : shard_Writer_Add.f k a0_0 a0_1 a0_2 a0_3 a0_4 a0_5 l0_6 l0_7 a0_8 a0_9 l1 = some (r1, r2, r3, r4, r5, r6, r7, r8, r9, r10, r11)) :
  Calls Try.prog 36 #[.pointer (some ⟨gb, 0, none⟩), .slice A1 l1.length c1] w fun e w' => ∃ v6_ v7_ : Value, e = .returned (.int .i64 r11) ∧ w'.heap[gb]? = some (.cells #[.int .i64 r1, .int .i64 r2, .int .i64 r3, .int .i64 r4, .int .i64 r5, .int .i64 r6, v6_, v7_, .int .i64 r9, .bool r10] 105 (0, 0)) ∧ Kd.R (Kd.int .u8) 5 w' w0.heap.size (fun k_ => ((P0_6_ k_ ∨ P0_7_ k_) ∨ w.heap.size ≤ k_) ∧ some k_ ≠ (v7_ : Value).ownBlock) v6_ r7 ∧ Kd.R (Kd.int .u8) 5 w' w0.heap.size (fun k_ => ((P0_6_ k_ ∨ P0_7_ k_) ∨ w.heap.size ≤ k_) ∧ some k_ ≠ (v6_ : Value).ownBlock) v7_ r8 ∧ Below w0.heap.size w0 w' ∧ Kept w w' (fun k_ => P0_6_ k_ ∨ P0_7_ k_) := by
 have hu105 := Try.underlying105
 have HO0_6 := Aside0.mk (show Kd.R (Kd.int .u8) 5 w w0.heap.size (fun k_ => ((P0_6_ k_ ∨ P0_7_ k_) ∨ w.heap.size ≤ k_) ∧ some k_ ≠ (u9001_ : Value).ownBlock) u9000_ l0_6 from Kd.R_mono ho0_6 (fun k_ hk => ⟨(.inl (.inl hk)), fun e_ => hp0_6_0_7 k_ hk (ho0_7.1 k_ e_.symm)⟩))
 have HO0_7 := Aside0.mk (show Kd.R (Kd.int .u8) 5 w w0.heap.size (fun k_ => ((P0_6_ k_ ∨ P0_7_ k_) ∨ w.heap.size ≤ k_) ∧ some k_ ≠ (u9000_ : Value).ownBlock) u9001_ l0_7 from Kd.R_mono ho0_7 (fun k_ hk => ⟨(.inl (.inr hk)), fun e_ => hp0_7_0_6 k_ hk (ho0_6.1 k_ e_.symm)⟩))
 have HO1 := Aside0.mk (show Kd.V (Kd.int .u8) 5 w w0.heap.size (fun k_ => (((P0_6_ k_ ∨ P0_7_ k_ ∨ P1_ k_) ∨ w.heap.size ≤ k_) ∧ some k_ ≠ (u9000_ : Value).ownBlock ∧ some k_ ≠ (u9001_ : Value).ownBlock) ∧ k_ ≠ gb) (.slice A1 l1.length c1) l1 from Kd.V_mono hs1 (fun k_ hk => ⟨⟨.inl (.inr (.inr hk.1)), hk.2⟩, pn k_ hk.1⟩))
 have HK := Aside0.mk (Kept.refl w (fun k_ => P0_6_ k_ ∨ P0_7_ k_))
 have HW0 := Aside0.mk hB.size
 have BK := Aside0.mk bk
 have GE := Aside0.mk ge
 clear bk ge
 have HB := Aside0.mk hB
 clear hB
 have H : ((shard_Writer_open.f k a0_0 a0_1 a0_2 a0_3 a0_4 a0_5 l0_6 l0_7 a0_8 a0_9).bind fun t336 => (if t336 = true then (if (l1.length : Int) > (wrap64 (a0_4 - a0_8)) then (some (a0_0, a0_1, a0_2, a0_3, a0_4, a0_5, l0_6, l0_7, a0_8, a0_9, 3)) else (shard_Writer_Add.l0 k l1 a0_0 a0_1 a0_2 a0_3 a0_4 a0_5 l0_6 l0_7 (wrap64 (a0_8 + (l1.length : Int))) a0_9)) else (some (a0_0, a0_1, a0_2, a0_3, a0_4, a0_5, l0_6, l0_7, a0_8, a0_9, 1)))) = some (r1, r2, r3, r4, r5, r6, r7, r8, r9, r10, r11) := h
 clear h
 replace H := Option.bind_eq_some_iff.mp H
 obtain ⟨t336, A30, H⟩ := H
 replace H : (if t336 = true then (if (l1.length : Int) > (wrap64 (a0_4 - a0_8)) then (some (a0_0, a0_1, a0_2, a0_3, a0_4, a0_5, l0_6, l0_7, a0_8, a0_9, 3)) else (shard_Writer_Add.l0 k l1 a0_0 a0_1 a0_2 a0_3 a0_4 a0_5 l0_6 l0_7 (wrap64 (a0_8 + (l1.length : Int))) a0_9)) else (some (a0_0, a0_1, a0_2, a0_3, a0_4, a0_5, l0_6, l0_7, a0_8, a0_9, 1))) = some (r1, r2, r3, r4, r5, r6, r7, r8, r9, r10, r11) := H
 have A3 := Aside0.mk A30
 clear A30
 by_cases c4 : t336 = true
 ·subst c4
  have H1 : (if (l1.length : Int) > (wrap64 (a0_4 - a0_8)) then (some (a0_0, a0_1, a0_2, a0_3, a0_4, a0_5, l0_6, l0_7, a0_8, a0_9, 3)) else (shard_Writer_Add.l0 k l1 a0_0 a0_1 a0_2 a0_3 a0_4 a0_5 l0_6 l0_7 (wrap64 (a0_8 + (l1.length : Int))) a0_9)) = some (r1, r2, r3, r4, r5, r6, r7, r8, r9, r10, r11) := by rw [if_pos rfl] at H; exact H
  clear H
  have H := H1
  clear H1
  by_cases c5 : (l1.length : Int) > (wrap64 (a0_4 - a0_8))
  ·rw [if_pos c5] at H
   have c5b0 : decide ((wrap64 (a0_4 - a0_8)) < (l1.length : Int)) = true := decide_eq_true c5
   clear c5
   simp only [Option.some.injEq, Prod.mk.injEq] at H
   obtain ⟨rfl, rfl, rfl, rfl, rfl, rfl, rfl, rfl, rfl, rfl, rfl⟩ := H
   obtain ⟨Ao6, co6, eo6⟩ := Kd.R_slice HO0_6.out
   subst eo6
   obtain ⟨Ao7, co7, eo7⟩ := Kd.R_slice HO0_7.out
   subst eo7
   go_enter Try.func36, Try.ntmps36
   have hcz_0 : w.cell? ⟨gb, 0, none⟩ = some (.int .i64 a0_0) := (blk_cell BK.out 0).trans rfl
   have hcz_1 : w.cell? ⟨gb, 1, none⟩ = some (.int .i64 a0_1) := (blk_cell BK.out 1).trans rfl
   have hcz_2 : w.cell? ⟨gb, 2, none⟩ = some (.int .i64 a0_2) := (blk_cell BK.out 2).trans rfl
   have hcz_3 : w.cell? ⟨gb, 3, none⟩ = some (.int .i64 a0_3) := (blk_cell BK.out 3).trans rfl
   have hcz_4 : w.cell? ⟨gb, 4, none⟩ = some (.int .i64 a0_4) := (blk_cell BK.out 4).trans rfl
   have hcz_5 : w.cell? ⟨gb, 5, none⟩ = some (.int .i64 a0_5) := (blk_cell BK.out 5).trans rfl
   have hcz_6 : w.cell? ⟨gb, 6, none⟩ = some (.slice Ao6 l0_6.length co6) := (blk_cell BK.out 6).trans rfl
   have hcz_7 : w.cell? ⟨gb, 7, none⟩ = some (.slice Ao7 l0_7.length co7) := (blk_cell BK.out 7).trans rfl
   have hcz_8 : w.cell? ⟨gb, 8, none⟩ = some (.int .i64 a0_8) := (blk_cell BK.out 8).trans rfl
   have hcz_9 : w.cell? ⟨gb, 9, none⟩ = some (.bool a0_9) := (blk_cell BK.out 9).trans rfl
   have hfz_0 := blk_frozen BK.out 0
   have hfz_1 := blk_frozen BK.out 1
   have hfz_2 := blk_frozen BK.out 2
   have hfz_3 := blk_frozen BK.out 3
   have hfz_4 := blk_frozen BK.out 4
   have hfz_5 := blk_frozen BK.out 5
   have hfz_6 := blk_frozen BK.out 6
   have hfz_7 := blk_frozen BK.out 7
   have hfz_8 := blk_frozen BK.out 8
   have hfz_9 := blk_frozen BK.out 9
   try go_wp2_with (first | ((with_reducible refine gate_callee (f := 63) rfl ?_); refine goesL_ (some 8) rfl rfl Try.func63 (by kernel_rfl) rfl #[.pointer (some ⟨gb, 0, none⟩)] rfl (by (try simp only [List.map_toArray, List.map_cons, List.map_nil]); first | done | rfl | (simp only [List.length_drop, List.length_take]; rfl)) ?_; (refine (shard_Writer_open.callsP k gb a0_0 a0_1 a0_2 a0_3 a0_4 a0_5 _ _ l0_6 l0_7 a0_8 a0_9 true _ (by (with_reducible repeat (first | refine blk_drewN ?_ _ | refine blk_drew ?_ | refine blk_alloc ?_ _)); exact BK.out) A3.out).mono ?_); rintro e w10 ⟨rfl, hb⟩; refine ⟨_, rfl, ?_⟩; have n0_ := Aside0.mk (Kd.R_below (by (with_reducible repeat (first | apply Kd.R_alloc | apply Kd.R_drewN | apply Kd.R_drew)); exact HO0_6.out) hb); have n1_ := Aside0.mk (Kd.R_below (by (with_reducible repeat (first | apply Kd.R_alloc | apply Kd.R_drewN | apply Kd.R_drew)); exact HO0_7.out) hb); have n2_ := Aside0.mk (Kd.V_below (by (with_reducible repeat (first | apply Kd.V_alloc | apply Kd.V_drewN | apply Kd.V_drew)); exact HO1.out) hb); have n3_ := Aside0.mk (blk_below (g := gb) (o := .cells #[.int .i64 a0_0, .int .i64 a0_1, .int .i64 a0_2, .int .i64 a0_3, .int .i64 a0_4, .int .i64 a0_5, .slice Ao6 l0_6.length co6, .slice Ao7 l0_7.length co7, .int .i64 a0_8, .bool a0_9] 105 (0, 0)) (by (with_reducible repeat (first | refine blk_drewN ?_ _ | refine blk_drew ?_ | refine blk_alloc ?_ _)); exact BK.out) hb); have n4_ := Aside0.mk (Kept.below (S := (fun k_ => P0_6_ k_ ∨ P0_7_ k_)) (by repeat (first | (with_reducible first | exact HK.out | apply Kept.alloc | apply Kept.drewN | apply Kept.drew | refine Kept.setCell ?_ (.inl (.inr pg)) _) | exact HK.out)) hb); have n5_ := Aside0.mk (below_step (by repeat (first | (with_reducible first | exact HB.out | apply below_alloc | apply pw_below_drewN | apply below_drew1 | refine below_set ?_ GE.out) | exact HB.out)) hb); clear HO0_6; clear HO0_7; clear HO1; clear BK; clear HK; clear HB; have HO0_6 := n0_; have HO0_7 := n1_; have HO1 := n2_; have BK := n3_; have HK := n4_; have HB := n5_; clear n0_ n1_ n2_ n3_ n4_ n5_; (try clear hb); (try clear hb2); (try clear hk); (try clear hi)))
   have n0_ := Aside0.mk (Kd.R_drew HO0_6.out)
   have n1_ := Aside0.mk (Kd.R_drew HO0_7.out)
   have n2_ := Aside0.mk (Kd.V_drew HO1.out)
   have n3_ := Aside0.mk (blk_drew BK.out)
   have n4_ := Aside0.mk (Kept.drew HK.out)
   have n5_ := Aside0.mk (below_drew1 HB.out)
   clear HO0_6
   clear HO0_7
   clear HO1
   clear BK
   clear HK
   clear HB
   have HO0_6 := n0_
   have HO0_7 := n1_
   have HO1 := n2_
   have BK := n3_
   have HK := n4_
   have HB := n5_
   clear n0_ n1_ n2_ n3_ n4_ n5_
   refine start_ (n := 14) (S := fun w' => w'.cell? ⟨gb, 0, none⟩ = some (.int .i64 a0_0) ∧ w'.cell? ⟨gb, 1, none⟩ = some (.int .i64 a0_1) ∧ w'.cell? ⟨gb, 2, none⟩ = some (.int .i64 a0_2) ∧ w'.cell? ⟨gb, 3, none⟩ = some (.int .i64 a0_3) ∧ w'.cell? ⟨gb, 4, none⟩ = some (.int .i64 a0_4) ∧ w'.cell? ⟨gb, 5, none⟩ = some (.int .i64 a0_5) ∧ w'.cell? ⟨gb, 6, none⟩ = some (.slice Ao6 l0_6.length co6) ∧ w'.cell? ⟨gb, 7, none⟩ = some (.slice Ao7 l0_7.length co7) ∧ w'.cell? ⟨gb, 8, none⟩ = some (.int .i64 a0_8) ∧ w'.cell? ⟨gb, 9, none⟩ = some (.bool a0_9)) (ds := []) #[false, false, false, false, false, false, false, false, false, false, false, false, false, false] (by kernel_rfl) rfl rfl ⟨(blk_cell BK.out 0).trans rfl, (blk_cell BK.out 1).trans rfl, (blk_cell BK.out 2).trans rfl, (blk_cell BK.out 3).trans rfl, (blk_cell BK.out 4).trans rfl, (blk_cell BK.out 5).trans rfl, (blk_cell BK.out 6).trans rfl, (blk_cell BK.out 7).trans rfl, (blk_cell BK.out 8).trans rfl, (blk_cell BK.out 9).trans rfl⟩ (fun hHeld => ?_); refine with_tabW shard_Writer_Add.tab3 shard_Writer_Add.bits3 (fun HT_ HW_ => ?_)
   generalize w10.drew = w11 at HO0_6 HO0_7 HO1 BK HK HB hHeld ⊢
   refine pure_ (i := 0) (N := some 11) (v := ?_) (a' := ?_) #[true, false, false, false, false, false, false, false, false, false, false, false, false, false] rfl rfl (any_of HT_.out (by kernel_rfl)) (fun _ _ _ h => h) (Or.inl ⟨by rfl, ?_⟩) ?_ ?_
   rotate_left
   ·intro w'
    go_simp
    with_reducible rfl
   rotate_left
   ·simp only [Act.put, List.setIfInBounds_toArray, List.set_cons_zero, List.set_cons_succ, i64_w, i32_w]
    rfl
   refine pure_ (i := 1) (N := some 12) (v := ?_) (a' := ?_) #[true, true, false, false, false, false, false, false, false, false, false, false, false, false] rfl rfl (any_of HT_.out (by kernel_rfl)) (fun _ _ _ h => h) (Or.inl ⟨by rfl, ?_⟩) ?_ ?_
   rotate_left
   ·intro w'
    go_simp
    with_reducible rfl
   rotate_left
   ·simp only [Act.put, List.setIfInBounds_toArray, List.set_cons_zero, List.set_cons_succ, i64_w, i32_w]
    rfl
   refine pure_ (i := 2) (N := some 13) (v := ?_) (a' := ?_) #[true, true, true, false, false, false, false, false, false, false, false, false, false, false] rfl rfl (any_of HT_.out (by kernel_rfl)) (fun _ _ _ h => h) (Or.inl ⟨by rfl, ?_⟩) ?_ ?_
   rotate_left
   ·intro w'
    go_simp
    with_reducible rfl
   rotate_left
   ·simp only [Act.put, List.setIfInBounds_toArray, List.set_cons_zero, List.set_cons_succ, i64_w, i32_w]
    rfl
   refine pure_ (i := 3) (N := some 14) (v := ?_) (a' := ?_) #[true, true, true, true, false, false, false, false, false, false, false, false, false, false] rfl rfl (any_of HT_.out (by kernel_rfl)) (fun _ _ _ h => h) (Or.inl ⟨by rfl, ?_⟩) ?_ ?_
   rotate_left
   ·intro w'
    go_simp
    with_reducible rfl
   rotate_left
   ·simp only [Act.put, List.setIfInBounds_toArray, List.set_cons_zero, List.set_cons_succ, i64_w, i32_w]
    rfl
   refine pure_ (i := 4) (N := some 15) (v := ?_) (a' := ?_) #[true, true, true, true, true, false, false, false, false, false, false, false, false, false] rfl rfl (any_of HT_.out (by kernel_rfl)) (fun _ _ _ h => h) (Or.inl ⟨by rfl, ?_⟩) ?_ ?_
   rotate_left
   ·intro w'
    go_simp
    with_reducible rfl
   rotate_left
   ·simp only [Act.put, List.setIfInBounds_toArray, List.set_cons_zero, List.set_cons_succ, i64_w, i32_w]
    rfl
   refine pure_ (i := 5) (N := some 16) (v := ?_) (a' := ?_) #[true, true, true, true, true, true, false, false, false, false, false, false, false, false] rfl rfl (any_of HT_.out (by kernel_rfl)) (fun _ _ _ h => h) (Or.inl ⟨by rfl, ?_⟩) ?_ ?_
   rotate_left
   ·intro w'
    go_simp
    with_reducible rfl
   rotate_left
   ·simp only [Act.put, List.setIfInBounds_toArray, List.set_cons_zero, List.set_cons_succ, i64_w, i32_w]
    rfl
   refine pure_ (i := 7) (N := some 18) (v := ?_) (a' := ?_) #[true, true, true, true, true, true, false, true, false, false, false, false, false, false] rfl rfl (any_of HT_.out (by kernel_rfl)) (fun _ _ _ h => h) (Or.inl ⟨by rfl, ?_⟩) ?_ ?_
   rotate_left
   ·intro w'
    go_simp
    with_reducible rfl
   rotate_left
   ·simp only [Act.put, List.setIfInBounds_toArray, List.set_cons_zero, List.set_cons_succ, i64_w, i32_w]
    rfl
   refine pure_ (i := 8) (N := some 19) (v := ?_) (a' := ?_) #[true, true, true, true, true, true, false, true, true, false, false, false, false, false] rfl rfl (any_of HT_.out (by kernel_rfl)) (fun _ _ _ h => h) (Or.inl ⟨by rfl, ?_⟩) ?_ ?_
   rotate_left
   ·intro w'
    go_simp
    with_reducible rfl
   rotate_left
   ·simp only [Act.put, List.setIfInBounds_toArray, List.set_cons_zero, List.set_cons_succ, i64_w, i32_w]
    rfl
   refine pure_ (i := 9) (N := some 20) (v := ?_) (a' := ?_) #[true, true, true, true, true, true, false, true, true, true, false, false, false, false] rfl rfl (any_of HT_.out (by kernel_rfl)) (fun _ _ _ h => h) (Or.inl ⟨by rfl, ?_⟩) ?_ ?_
   rotate_left
   ·intro w'
    go_simp
    with_reducible rfl
   rotate_left
   ·simp only [Act.put, List.setIfInBounds_toArray, List.set_cons_zero, List.set_cons_succ, i64_w, i32_w]
    rfl
   refine take_ (i := 6) (N := some 17) (v := ?_) (a' := ?_) #[true, true, true, true, true, true, true, true, true, true, false, false, false, false] rfl rfl (take_ofW HT_.out HW_.out (by kernel_rfl)) (fun _ _ _ h => h) (Or.inl ⟨by rfl, ?_⟩) hHeld ?_ ?_
   rotate_left
   ·rintro w' ⟨s0, s1, s2, s3, s4, s5, s6, s7, s8, s9⟩
    go_simp
    with_reducible rfl
   rotate_left
   ·simp only [Act.put, List.setIfInBounds_toArray, List.set_cons_zero, List.set_cons_succ, i64_w, i32_w]
    rfl
   refine take_ (i := 10) (N := some 21) (v := ?_) (a' := ?_) #[true, true, true, true, true, true, true, true, true, true, true, false, false, false] rfl rfl (take_ofW HT_.out HW_.out (by kernel_rfl)) (fun _ _ _ h => h) (Or.inl ⟨by rfl, ?_⟩) hHeld ?_ ?_
   rotate_left
   ·rintro w' ⟨s0, s1, s2, s3, s4, s5, s6, s7, s8, s9⟩
    go_simp
    with_reducible rfl
   rotate_left
   ·simp only [Act.put, List.setIfInBounds_toArray, List.set_cons_zero, List.set_cons_succ, i64_w, i32_w]
    rfl
   refine pure_ (i := 11) (N := some 22) (v := ?_) (a' := ?_) #[true, true, true, true, true, true, true, true, true, true, true, true, false, false] rfl rfl (any_of HT_.out (by kernel_rfl)) (fun _ _ _ h => h) (Or.inl ⟨by rfl, ?_⟩) ?_ ?_
   rotate_left
   ·intro w'
    go_simp
    with_reducible rfl
   rotate_left
   ·simp only [Act.put, List.setIfInBounds_toArray, List.set_cons_zero, List.set_cons_succ, i64_w, i32_w]
    rfl
   refine pure_ (i := 12) (N := some 23) (v := ?_) (a' := ?_) #[true, true, true, true, true, true, true, true, true, true, true, true, true, false] rfl rfl (any_of HT_.out (by kernel_rfl)) (fun _ _ _ h => h) (Or.inl ⟨by rfl, ?_⟩) ?_ ?_
   rotate_left
   ·intro w'
    go_simp
    with_reducible rfl
   rotate_left
   ·simp only [Act.put, List.setIfInBounds_toArray, List.set_cons_zero, List.set_cons_succ, i64_w, i32_w]
    rfl
   refine pure_ (i := 13) (N := some 10) (v := ?_) (a' := ?_) #[true, true, true, true, true, true, true, true, true, true, true, true, true, true] rfl rfl (any_of HT_.out (by kernel_rfl)) (fun _ _ _ h => h) (Or.inl ⟨by rfl, ?_⟩) ?_ ?_
   rotate_left
   ·intro w'
    go_simp
    with_reducible rfl
   rotate_left
   ·simp only [Act.put, List.setIfInBounds_toArray, List.set_cons_zero, List.set_cons_succ, i64_w, i32_w]
    rfl
   refine done_ (done_of HT_.out (by kernel_rfl)) ?_
   try go_wp2
   go_ret
   exact ⟨_, _, by first | rfl | (simp [errW_none, errW_some] <;> rfl) | (simp [*, errW_none, errW_some] <;> rfl), (by (with_reducible repeat (first | refine blk_drewN ?_ _ | refine blk_drew ?_ | refine blk_alloc ?_ _)); exact BK.out), by (with_reducible repeat (first | apply Kd.R_alloc | apply Kd.R_drewN | apply Kd.R_drew)); exact HO0_6.out, by (with_reducible repeat (first | apply Kd.R_alloc | apply Kd.R_drewN | apply Kd.R_drew)); exact HO0_7.out, by repeat (first | (with_reducible first | exact HB.out | apply below_alloc | apply pw_below_drewN | apply below_drew1 | refine below_set ?_ GE.out) | exact HB.out), by repeat (first | (with_reducible first | exact HK.out | apply Kept.alloc | apply Kept.drewN | apply Kept.drew | refine Kept.setCell ?_ (.inl (.inr pg)) _) | exact HK.out)⟩
  ·rw [if_neg c5] at H
   have c5b0 : decide ((wrap64 (a0_4 - a0_8)) < (l1.length : Int)) = false := decide_eq_false c5
   clear c5
   have H' := Aside0.mk H
   clear H
   obtain ⟨Ao12, co12, eo12⟩ := Kd.R_slice HO0_6.out
   subst eo12
   obtain ⟨Ao13, co13, eo13⟩ := Kd.R_slice HO0_7.out
   subst eo13
   go_enter Try.func36, Try.ntmps36
   have hcz_0 : w.cell? ⟨gb, 0, none⟩ = some (.int .i64 a0_0) := (blk_cell BK.out 0).trans rfl
   have hcz_1 : w.cell? ⟨gb, 1, none⟩ = some (.int .i64 a0_1) := (blk_cell BK.out 1).trans rfl
   have hcz_2 : w.cell? ⟨gb, 2, none⟩ = some (.int .i64 a0_2) := (blk_cell BK.out 2).trans rfl
   have hcz_3 : w.cell? ⟨gb, 3, none⟩ = some (.int .i64 a0_3) := (blk_cell BK.out 3).trans rfl
   have hcz_4 : w.cell? ⟨gb, 4, none⟩ = some (.int .i64 a0_4) := (blk_cell BK.out 4).trans rfl
   have hcz_5 : w.cell? ⟨gb, 5, none⟩ = some (.int .i64 a0_5) := (blk_cell BK.out 5).trans rfl
   have hcz_6 : w.cell? ⟨gb, 6, none⟩ = some (.slice Ao12 l0_6.length co12) := (blk_cell BK.out 6).trans rfl
   have hcz_7 : w.cell? ⟨gb, 7, none⟩ = some (.slice Ao13 l0_7.length co13) := (blk_cell BK.out 7).trans rfl
   have hcz_8 : w.cell? ⟨gb, 8, none⟩ = some (.int .i64 a0_8) := (blk_cell BK.out 8).trans rfl
   have hcz_9 : w.cell? ⟨gb, 9, none⟩ = some (.bool a0_9) := (blk_cell BK.out 9).trans rfl
   have hfz_0 := blk_frozen BK.out 0
   have hfz_1 := blk_frozen BK.out 1
   have hfz_2 := blk_frozen BK.out 2
   have hfz_3 := blk_frozen BK.out 3
   have hfz_4 := blk_frozen BK.out 4
   have hfz_5 := blk_frozen BK.out 5
   have hfz_6 := blk_frozen BK.out 6
   have hfz_7 := blk_frozen BK.out 7
   have hfz_8 := blk_frozen BK.out 8
   have hfz_9 := blk_frozen BK.out 9
   try go_wp2_with (first | ((with_reducible refine gate_callee (f := 63) rfl ?_); refine goesL_ (some 8) rfl rfl Try.func63 (by kernel_rfl) rfl #[.pointer (some ⟨gb, 0, none⟩)] rfl (by (try simp only [List.map_toArray, List.map_cons, List.map_nil]); first | done | rfl | (simp only [List.length_drop, List.length_take]; rfl)) ?_; (refine (shard_Writer_open.callsP k gb a0_0 a0_1 a0_2 a0_3 a0_4 a0_5 _ _ l0_6 l0_7 a0_8 a0_9 true _ (by (with_reducible repeat (first | refine blk_drewN ?_ _ | refine blk_drew ?_ | refine blk_alloc ?_ _)); exact BK.out) A3.out).mono ?_); rintro e w16 ⟨rfl, hb⟩; refine ⟨_, rfl, ?_⟩; have n0_ := Aside0.mk (Kd.R_below (by (with_reducible repeat (first | apply Kd.R_alloc | apply Kd.R_drewN | apply Kd.R_drew)); exact HO0_6.out) hb); have n1_ := Aside0.mk (Kd.R_below (by (with_reducible repeat (first | apply Kd.R_alloc | apply Kd.R_drewN | apply Kd.R_drew)); exact HO0_7.out) hb); have n2_ := Aside0.mk (Kd.V_below (by (with_reducible repeat (first | apply Kd.V_alloc | apply Kd.V_drewN | apply Kd.V_drew)); exact HO1.out) hb); have n3_ := Aside0.mk (blk_below (g := gb) (o := .cells #[.int .i64 a0_0, .int .i64 a0_1, .int .i64 a0_2, .int .i64 a0_3, .int .i64 a0_4, .int .i64 a0_5, .slice Ao12 l0_6.length co12, .slice Ao13 l0_7.length co13, .int .i64 a0_8, .bool a0_9] 105 (0, 0)) (by (with_reducible repeat (first | refine blk_drewN ?_ _ | refine blk_drew ?_ | refine blk_alloc ?_ _)); exact BK.out) hb); have n4_ := Aside0.mk (Kept.below (S := (fun k_ => P0_6_ k_ ∨ P0_7_ k_)) (by repeat (first | (with_reducible first | exact HK.out | apply Kept.alloc | apply Kept.drewN | apply Kept.drew | refine Kept.setCell ?_ (.inl (.inr pg)) _) | exact HK.out)) hb); have n5_ := Aside0.mk (below_step (by repeat (first | (with_reducible first | exact HB.out | apply below_alloc | apply pw_below_drewN | apply below_drew1 | refine below_set ?_ GE.out) | exact HB.out)) hb); clear HO0_6; clear HO0_7; clear HO1; clear BK; clear HK; clear HB; have HO0_6 := n0_; have HO0_7 := n1_; have HO1 := n2_; have BK := n3_; have HK := n4_; have HB := n5_; clear n0_ n1_ n2_ n3_ n4_ n5_; (try clear hb); (try clear hb2); (try clear hk); (try clear hi)))
   have n0_ := Aside0.mk (Kd.R_drew HO0_6.out)
   have n1_ := Aside0.mk (Kd.R_drew HO0_7.out)
   have n2_ := Aside0.mk (Kd.V_drew HO1.out)
   have n3_ := Aside0.mk (blk_drew BK.out)
   have n4_ := Aside0.mk (Kept.drew HK.out)
   have n5_ := Aside0.mk (below_drew1 HB.out)
   clear HO0_6
   clear HO0_7
   clear HO1
   clear BK
   clear HK
   clear HB
   have HO0_6 := n0_
   have HO0_7 := n1_
   have HO1 := n2_
   have BK := n3_
   have HK := n4_
   have HB := n5_
   clear n0_ n1_ n2_ n3_ n4_ n5_
   refine start_ (n := 14) (S := fun w' => w'.cell? ⟨gb, 0, none⟩ = some (.int .i64 a0_0) ∧ w'.cell? ⟨gb, 1, none⟩ = some (.int .i64 a0_1) ∧ w'.cell? ⟨gb, 2, none⟩ = some (.int .i64 a0_2) ∧ w'.cell? ⟨gb, 3, none⟩ = some (.int .i64 a0_3) ∧ w'.cell? ⟨gb, 4, none⟩ = some (.int .i64 a0_4) ∧ w'.cell? ⟨gb, 5, none⟩ = some (.int .i64 a0_5) ∧ w'.cell? ⟨gb, 6, none⟩ = some (.slice Ao12 l0_6.length co12) ∧ w'.cell? ⟨gb, 7, none⟩ = some (.slice Ao13 l0_7.length co13) ∧ w'.cell? ⟨gb, 8, none⟩ = some (.int .i64 a0_8) ∧ w'.cell? ⟨gb, 9, none⟩ = some (.bool a0_9)) (ds := []) #[false, false, false, false, false, false, false, false, false, false, false, false, false, false] (by kernel_rfl) rfl rfl ⟨(blk_cell BK.out 0).trans rfl, (blk_cell BK.out 1).trans rfl, (blk_cell BK.out 2).trans rfl, (blk_cell BK.out 3).trans rfl, (blk_cell BK.out 4).trans rfl, (blk_cell BK.out 5).trans rfl, (blk_cell BK.out 6).trans rfl, (blk_cell BK.out 7).trans rfl, (blk_cell BK.out 8).trans rfl, (blk_cell BK.out 9).trans rfl⟩ (fun hHeld => ?_); refine with_tabW shard_Writer_Add.tab3 shard_Writer_Add.bits3 (fun HT_ HW_ => ?_)
   generalize w16.drew = w17 at HO0_6 HO0_7 HO1 BK HK HB hHeld ⊢
   refine pure_ (i := 0) (N := some 11) (v := ?_) (a' := ?_) #[true, false, false, false, false, false, false, false, false, false, false, false, false, false] rfl rfl (any_of HT_.out (by kernel_rfl)) (fun _ _ _ h => h) (Or.inl ⟨by rfl, ?_⟩) ?_ ?_
   rotate_left
   ·intro w'
    go_simp
    with_reducible rfl
   rotate_left
   ·simp only [Act.put, List.setIfInBounds_toArray, List.set_cons_zero, List.set_cons_succ, i64_w, i32_w]
    rfl
   refine pure_ (i := 1) (N := some 12) (v := ?_) (a' := ?_) #[true, true, false, false, false, false, false, false, false, false, false, false, false, false] rfl rfl (any_of HT_.out (by kernel_rfl)) (fun _ _ _ h => h) (Or.inl ⟨by rfl, ?_⟩) ?_ ?_
   rotate_left
   ·intro w'
    go_simp
    with_reducible rfl
   rotate_left
   ·simp only [Act.put, List.setIfInBounds_toArray, List.set_cons_zero, List.set_cons_succ, i64_w, i32_w]
    rfl
   refine pure_ (i := 2) (N := some 13) (v := ?_) (a' := ?_) #[true, true, true, false, false, false, false, false, false, false, false, false, false, false] rfl rfl (any_of HT_.out (by kernel_rfl)) (fun _ _ _ h => h) (Or.inl ⟨by rfl, ?_⟩) ?_ ?_
   rotate_left
   ·intro w'
    go_simp
    with_reducible rfl
   rotate_left
   ·simp only [Act.put, List.setIfInBounds_toArray, List.set_cons_zero, List.set_cons_succ, i64_w, i32_w]
    rfl
   refine pure_ (i := 3) (N := some 14) (v := ?_) (a' := ?_) #[true, true, true, true, false, false, false, false, false, false, false, false, false, false] rfl rfl (any_of HT_.out (by kernel_rfl)) (fun _ _ _ h => h) (Or.inl ⟨by rfl, ?_⟩) ?_ ?_
   rotate_left
   ·intro w'
    go_simp
    with_reducible rfl
   rotate_left
   ·simp only [Act.put, List.setIfInBounds_toArray, List.set_cons_zero, List.set_cons_succ, i64_w, i32_w]
    rfl
   refine pure_ (i := 4) (N := some 15) (v := ?_) (a' := ?_) #[true, true, true, true, true, false, false, false, false, false, false, false, false, false] rfl rfl (any_of HT_.out (by kernel_rfl)) (fun _ _ _ h => h) (Or.inl ⟨by rfl, ?_⟩) ?_ ?_
   rotate_left
   ·intro w'
    go_simp
    with_reducible rfl
   rotate_left
   ·simp only [Act.put, List.setIfInBounds_toArray, List.set_cons_zero, List.set_cons_succ, i64_w, i32_w]
    rfl
   refine pure_ (i := 5) (N := some 16) (v := ?_) (a' := ?_) #[true, true, true, true, true, true, false, false, false, false, false, false, false, false] rfl rfl (any_of HT_.out (by kernel_rfl)) (fun _ _ _ h => h) (Or.inl ⟨by rfl, ?_⟩) ?_ ?_
   rotate_left
   ·intro w'
    go_simp
    with_reducible rfl
   rotate_left
   ·simp only [Act.put, List.setIfInBounds_toArray, List.set_cons_zero, List.set_cons_succ, i64_w, i32_w]
    rfl
   refine pure_ (i := 7) (N := some 18) (v := ?_) (a' := ?_) #[true, true, true, true, true, true, false, true, false, false, false, false, false, false] rfl rfl (any_of HT_.out (by kernel_rfl)) (fun _ _ _ h => h) (Or.inl ⟨by rfl, ?_⟩) ?_ ?_
   rotate_left
   ·intro w'
    go_simp
    with_reducible rfl
   rotate_left
   ·simp only [Act.put, List.setIfInBounds_toArray, List.set_cons_zero, List.set_cons_succ, i64_w, i32_w]
    rfl
   refine pure_ (i := 8) (N := some 19) (v := ?_) (a' := ?_) #[true, true, true, true, true, true, false, true, true, false, false, false, false, false] rfl rfl (any_of HT_.out (by kernel_rfl)) (fun _ _ _ h => h) (Or.inl ⟨by rfl, ?_⟩) ?_ ?_
   rotate_left
   ·intro w'
    go_simp
    with_reducible rfl
   rotate_left
   ·simp only [Act.put, List.setIfInBounds_toArray, List.set_cons_zero, List.set_cons_succ, i64_w, i32_w]
    rfl
   refine pure_ (i := 9) (N := some 20) (v := ?_) (a' := ?_) #[true, true, true, true, true, true, false, true, true, true, false, false, false, false] rfl rfl (any_of HT_.out (by kernel_rfl)) (fun _ _ _ h => h) (Or.inl ⟨by rfl, ?_⟩) ?_ ?_
   rotate_left
   ·intro w'
    go_simp
    with_reducible rfl
   rotate_left
   ·simp only [Act.put, List.setIfInBounds_toArray, List.set_cons_zero, List.set_cons_succ, i64_w, i32_w]
    rfl
   refine take_ (i := 6) (N := some 17) (v := ?_) (a' := ?_) #[true, true, true, true, true, true, true, true, true, true, false, false, false, false] rfl rfl (take_ofW HT_.out HW_.out (by kernel_rfl)) (fun _ _ _ h => h) (Or.inl ⟨by rfl, ?_⟩) hHeld ?_ ?_
   rotate_left
   ·rintro w' ⟨s0, s1, s2, s3, s4, s5, s6, s7, s8, s9⟩
    go_simp
    with_reducible rfl
   rotate_left
   ·simp only [Act.put, List.setIfInBounds_toArray, List.set_cons_zero, List.set_cons_succ, i64_w, i32_w]
    rfl
   refine take_ (i := 10) (N := some 21) (v := ?_) (a' := ?_) #[true, true, true, true, true, true, true, true, true, true, true, false, false, false] rfl rfl (take_ofW HT_.out HW_.out (by kernel_rfl)) (fun _ _ _ h => h) (Or.inl ⟨by rfl, ?_⟩) hHeld ?_ ?_
   rotate_left
   ·rintro w' ⟨s0, s1, s2, s3, s4, s5, s6, s7, s8, s9⟩
    go_simp
    with_reducible rfl
   rotate_left
   ·simp only [Act.put, List.setIfInBounds_toArray, List.set_cons_zero, List.set_cons_succ, i64_w, i32_w]
    rfl
   refine pure_ (i := 11) (N := some 22) (v := ?_) (a' := ?_) #[true, true, true, true, true, true, true, true, true, true, true, true, false, false] rfl rfl (any_of HT_.out (by kernel_rfl)) (fun _ _ _ h => h) (Or.inl ⟨by rfl, ?_⟩) ?_ ?_
   rotate_left
   ·intro w'
    go_simp
    with_reducible rfl
   rotate_left
   ·simp only [Act.put, List.setIfInBounds_toArray, List.set_cons_zero, List.set_cons_succ, i64_w, i32_w]
    rfl
   refine pure_ (i := 12) (N := some 23) (v := ?_) (a' := ?_) #[true, true, true, true, true, true, true, true, true, true, true, true, true, false] rfl rfl (any_of HT_.out (by kernel_rfl)) (fun _ _ _ h => h) (Or.inl ⟨by rfl, ?_⟩) ?_ ?_
   rotate_left
   ·intro w'
    go_simp
    with_reducible rfl
   rotate_left
   ·simp only [Act.put, List.setIfInBounds_toArray, List.set_cons_zero, List.set_cons_succ, i64_w, i32_w]
    rfl
   refine pure_ (i := 13) (N := some 10) (v := ?_) (a' := ?_) #[true, true, true, true, true, true, true, true, true, true, true, true, true, true] rfl rfl (any_of HT_.out (by kernel_rfl)) (fun _ _ _ h => h) (Or.inl ⟨by rfl, ?_⟩) ?_ ?_
   rotate_left
   ·intro w'
    go_simp
    with_reducible rfl
   rotate_left
   ·simp only [Act.put, List.setIfInBounds_toArray, List.set_cons_zero, List.set_cons_succ, i64_w, i32_w]
    rfl
   refine done_ (done_of HT_.out (by kernel_rfl)) ?_
   have hcz18_0 : w17.cell? ⟨gb, 0, none⟩ = some (.int .i64 a0_0) := (blk_cell BK.out 0).trans rfl
   have hcz18_1 : w17.cell? ⟨gb, 1, none⟩ = some (.int .i64 a0_1) := (blk_cell BK.out 1).trans rfl
   have hcz18_2 : w17.cell? ⟨gb, 2, none⟩ = some (.int .i64 a0_2) := (blk_cell BK.out 2).trans rfl
   have hcz18_3 : w17.cell? ⟨gb, 3, none⟩ = some (.int .i64 a0_3) := (blk_cell BK.out 3).trans rfl
   have hcz18_4 : w17.cell? ⟨gb, 4, none⟩ = some (.int .i64 a0_4) := (blk_cell BK.out 4).trans rfl
   have hcz18_5 : w17.cell? ⟨gb, 5, none⟩ = some (.int .i64 a0_5) := (blk_cell BK.out 5).trans rfl
   have hcz18_6 : w17.cell? ⟨gb, 6, none⟩ = some (.slice Ao12 l0_6.length co12) := (blk_cell BK.out 6).trans rfl
   have hcz18_7 : w17.cell? ⟨gb, 7, none⟩ = some (.slice Ao13 l0_7.length co13) := (blk_cell BK.out 7).trans rfl
   have hcz18_8 : w17.cell? ⟨gb, 8, none⟩ = some (.int .i64 a0_8) := (blk_cell BK.out 8).trans rfl
   have hcz18_9 : w17.cell? ⟨gb, 9, none⟩ = some (.bool a0_9) := (blk_cell BK.out 9).trans rfl
   have hfz18_0 := blk_frozen BK.out 0
   have hfz18_1 := blk_frozen BK.out 1
   have hfz18_2 := blk_frozen BK.out 2
   have hfz18_3 := blk_frozen BK.out 3
   have hfz18_4 := blk_frozen BK.out 4
   have hfz18_5 := blk_frozen BK.out 5
   have hfz18_6 := blk_frozen BK.out 6
   have hfz18_7 := blk_frozen BK.out 7
   have hfz18_8 := blk_frozen BK.out 8
   have hfz18_9 := blk_frozen BK.out 9
   try go_wp2
   go_loopg [1] k (fun kq v1 w' => ∃ (x1_1 : List Int) (x336000_1 : Int) (x336001_1 : Int) (x336002_1 : Int) (x336003_1 : Int) (x336004_1 : Int) (x336005_1 : Int) (x336006_1 : List Int) (x336007_1 : List Int) (x336008_1 : Int) (x336009_1 : Bool) (u336006 : Value) (u336007 : Value), Aside0 (shard_Writer_Add.l0 kq x1_1 x336000_1 x336001_1 x336002_1 x336003_1 x336004_1 x336005_1 x336006_1 x336007_1 x336008_1 x336009_1 = some (r1, r2, r3, r4, r5, r6, r7, r8, r9, r10, r11)) ∧ Aside0 (kq ≤ k) ∧ Aside0 (Kd.V (Kd.int .u8) 5 w' w0.heap.size (fun k_ => ((P0_6_ k_ ∨ P0_7_ k_ ∨ P1_ k_) ∨ w.heap.size ≤ k_) ∧ some k_ ≠ (u336006 : Value).ownBlock ∧ some k_ ≠ (u336007 : Value).ownBlock ∧ k_ ≠ gb) v1 x1_1) ∧ Aside0 (Kd.R (Kd.int .u8) 5 w' w0.heap.size (fun k_ => ((P0_6_ k_ ∨ P0_7_ k_) ∨ w.heap.size ≤ k_) ∧ some k_ ≠ (u336007 : Value).ownBlock) u336006 x336006_1) ∧ Aside0 (Kd.R (Kd.int .u8) 5 w' w0.heap.size (fun k_ => ((P0_6_ k_ ∨ P0_7_ k_) ∨ w.heap.size ≤ k_) ∧ some k_ ≠ (u336006 : Value).ownBlock) u336007 x336007_1) ∧ Aside0 (w'.heap[gb]? = some (.cells #[.int .i64 x336000_1, .int .i64 x336001_1, .int .i64 x336002_1, .int .i64 x336003_1, .int .i64 x336004_1, .int .i64 x336005_1, u336006, u336007, .int .i64 x336008_1, .bool x336009_1] 105 (0, 0))) ∧ Aside0 (Kept w w' (fun k_ => P0_6_ k_ ∨ P0_7_ k_)) ∧ Aside0 (Below w0.heap.size w0 w'))
   case atStart => exact ⟨(l1), (a0_0), (a0_1), (a0_2), (a0_3), (a0_4), (a0_5), (l0_6), (l0_7), (wrap64 (a0_8 + (l1.length : Int))), (a0_9), (.slice Ao12 l0_6.length co12), (.slice Ao13 l0_7.length co13), H', ⟨Nat.le_refl _⟩, ⟨by (with_reducible repeat (first | apply Kd.V_alloc | apply Kd.V_drewN | apply Kd.V_drew)); exact Kd.V_mono (Kd.V_far (p := ⟨gb, 8, none⟩) (Kd.V_mono HO1.out (fun k_ hk => (⟨hk, hk.2⟩ : _ ∧ k_ ≠ gb))) (fun _ hk => hk.2) (.int .i64 (wrap64 (a0_8 + (l1.length : Int))))) (fun _ hk => ⟨hk.1.1.1, ⟨hk.1.1.2.1, ⟨hk.1.1.2.2, hk.1.2⟩⟩⟩)⟩, ⟨by (with_reducible repeat (first | apply Kd.R_alloc | apply Kd.R_drewN | apply Kd.R_drew)); exact Kd.R_mono (Kd.R_far (p := ⟨gb, 8, none⟩) (Kd.R_types HO0_6.out BK.out (by decide)) (fun _ hk => hk.2) (.int .i64 (wrap64 (a0_8 + (l1.length : Int))))) (fun _ hk => ⟨hk.1.1, hk.1.2⟩)⟩, ⟨by (with_reducible repeat (first | apply Kd.R_alloc | apply Kd.R_drewN | apply Kd.R_drew)); exact Kd.R_mono (Kd.R_far (p := ⟨gb, 8, none⟩) (Kd.R_types HO0_7.out BK.out (by decide)) (fun _ hk => hk.2) (.int .i64 (wrap64 (a0_8 + (l1.length : Int))))) (fun _ hk => ⟨hk.1.1, hk.1.2⟩)⟩, ⟨by (with_reducible repeat (first | refine blk_drewN ?_ _ | refine blk_drew ?_ | refine blk_alloc ?_ _)); refine blk_put (cs := #[.int .i64 a0_0, .int .i64 a0_1, .int .i64 a0_2, .int .i64 a0_3, .int .i64 a0_4, .int .i64 a0_5, .slice Ao12 l0_6.length co12, .slice Ao13 l0_7.length co13, .int .i64 a0_8, .bool a0_9]) ?_ 8 _ rfl; (with_reducible repeat (first | refine blk_drewN ?_ _ | refine blk_drew ?_ | refine blk_alloc ?_ _)); exact BK.out⟩, ⟨by repeat (first | (with_reducible first | exact HK.out | apply Kept.alloc | apply Kept.drewN | apply Kept.drew | refine Kept.setCell ?_ (.inl (.inr pg)) _) | exact HK.out)⟩, ⟨by repeat (first | (with_reducible first | exact HB.out | apply below_alloc | apply pw_below_drewN | apply below_drew1 | refine below_set ?_ GE.out) | exact HB.out)⟩⟩
   case round =>
    clear H'
    try clear c1
    try clear p2
    try clear c3
    try clear c4
    try clear c5
    try clear c5b0
    try clear c6
    try clear p6
    try clear hcz15_0
    try clear hcz15_1
    try clear hcz15_2
    try clear hcz15_3
    try clear hcz15_4
    try clear hcz15_5
    try clear hcz15_6
    try clear hcz15_7
    try clear hcz15_8
    try clear hcz15_9
    try clear hcz18_0
    try clear hcz18_1
    try clear hcz18_2
    try clear hcz18_3
    try clear hcz18_4
    try clear hcz18_5
    try clear hcz18_6
    try clear hcz18_7
    try clear hcz18_8
    try clear hcz18_9
    try clear hcz9_0
    try clear hcz9_1
    try clear hcz9_2
    try clear hcz9_3
    try clear hcz9_4
    try clear hcz9_5
    try clear hcz9_6
    try clear hcz9_7
    try clear hcz9_8
    try clear hcz9_9
    try clear hfz15_0
    try clear hfz15_1
    try clear hfz15_2
    try clear hfz15_3
    try clear hfz15_4
    try clear hfz15_5
    try clear hfz15_6
    try clear hfz15_7
    try clear hfz15_8
    try clear hfz15_9
    try clear hfz18_0
    try clear hfz18_1
    try clear hfz18_2
    try clear hfz18_3
    try clear hfz18_4
    try clear hfz18_5
    try clear hfz18_6
    try clear hfz18_7
    try clear hfz18_8
    try clear hfz18_9
    try clear hfz9_0
    try clear hfz9_1
    try clear hfz9_2
    try clear hfz9_3
    try clear hfz9_4
    try clear hfz9_5
    try clear hfz9_6
    try clear hfz9_7
    try clear hfz9_8
    try clear hfz9_9
    obtain ⟨x1_1, x336000_1, x336001_1, x336002_1, x336003_1, x336004_1, x336005_1, x336006_1, x336007_1, x336008_1, x336009_1, u336006, u336007, HA, HK1, HO_1, HO_336006, HO_336007, BK, HK, HB⟩ := hrel
    cases gk with
    | zero => exact absurd HA.out (by simp [shard_Writer_Add.l0])
    | succ k1 =>
     have H := HA.out
     clear HA
     simp only [shard_Writer_Add.l0] at H
     by_cases c19 : (x1_1.length : Int) > 0
     ·rw [if_pos c19] at H
      have c19b0 : decide (0 < (x1_1.length : Int)) = true := decide_eq_true c19
      have c19b1 : decide (0 < x1_1.length) = true := decide_eq_true (by omega)
      clear c19
      obtain ⟨ji20, hji20⟩ : ∃ j_ : Int, (mn (wrap64 (x336003_1 - (x336007_1.length : Int))) (x1_1.length : Int)) = j_ := ⟨_, rfl⟩
      replace H : (if 0 ≤ (ji20) then (if (ji20) ≤ (x1_1.length : Int) then ((some (x1_1.take ((ji20) : Int).toNat : List Int)).bind fun y337 => (if x336007_1.length + y337.length < 140737488355328 then ((some (x336007_1 ++ y337 : List Int)).bind fun y342 => ((some (x1_1.drop ((ji20) : Int).toNat : List Int)).bind fun y345 => (if (y342.length : Int) = x336003_1 then ((shard_Writer_flush.f k1 x336000_1 x336001_1 x336002_1 x336003_1 x336004_1 x336005_1 x336006_1 y342 x336008_1 x336009_1).bind fun bt350 => (shard_Writer_Add.l0 k1 y345 bt350.1 bt350.2.1 bt350.2.2.1 bt350.2.2.2.1 bt350.2.2.2.2.1 bt350.2.2.2.2.2.1 bt350.2.2.2.2.2.2.1 bt350.2.2.2.2.2.2.2.1 bt350.2.2.2.2.2.2.2.2.1 bt350.2.2.2.2.2.2.2.2.2)) else (shard_Writer_Add.l0 k1 y345 x336000_1 x336001_1 x336002_1 x336003_1 x336004_1 x336005_1 x336006_1 y342 x336008_1 x336009_1)))) else (none))) else (none)) else (none)) = some (r1, r2, r3, r4, r5, r6, r7, r8, r9, r10, r11) := by first | (rw [hji20] at H; exact H) | (simp only [hji20] at H ⊢; exact H)
      have hji20_ : (if (x1_1.length : Int) < (wrap64 (x336003_1 - (x336007_1.length : Int))) then (x1_1.length : Int) else (wrap64 (x336003_1 - (x336007_1.length : Int)))) = ji20 := hji20
      by_cases c21 : 0 ≤ (ji20)
      ·rw [if_pos c21] at H
       have c21b0 := eq_true c21
       have c21b1 : decide (0 ≤ (ji20)) = true := decide_eq_true c21
       clear c21
       by_cases c22 : (ji20) ≤ (x1_1.length : Int)
       ·rw [if_pos c22] at H
        have c22b0 := eq_true c22
        have c22b1 : decide ((ji20) ≤ (x1_1.length : Int)) = true := decide_eq_true c22
        clear c22
        obtain ⟨y337, hy337⟩ : ∃ y_ : List Int, y_ = (x1_1.take ((ji20) : Int).toNat) := ⟨_, rfl⟩
        replace H : (if x336007_1.length + y337.length < 140737488355328 then ((some (x336007_1 ++ y337 : List Int)).bind fun y342 => ((some (x1_1.drop ((ji20) : Int).toNat : List Int)).bind fun y345 => (if (y342.length : Int) = x336003_1 then ((shard_Writer_flush.f k1 x336000_1 x336001_1 x336002_1 x336003_1 x336004_1 x336005_1 x336006_1 y342 x336008_1 x336009_1).bind fun bt350 => (shard_Writer_Add.l0 k1 y345 bt350.1 bt350.2.1 bt350.2.2.1 bt350.2.2.2.1 bt350.2.2.2.2.1 bt350.2.2.2.2.2.1 bt350.2.2.2.2.2.2.1 bt350.2.2.2.2.2.2.2.1 bt350.2.2.2.2.2.2.2.2.1 bt350.2.2.2.2.2.2.2.2.2)) else (shard_Writer_Add.l0 k1 y345 x336000_1 x336001_1 x336002_1 x336003_1 x336004_1 x336005_1 x336006_1 y342 x336008_1 x336009_1)))) else (none)) = some (r1, r2, r3, r4, r5, r6, r7, r8, r9, r10, r11) := by first | (rw [hy337]; with_reducible exact H) | (have H2_ := (Option.bind_some _ _).symm.trans H; rw [hy337]; with_reducible exact H2_) | (have H2_ := (Option.bind_some _ _).symm.trans H; with_reducible exact H2_) | with_reducible exact H | (rw [hy337]; exact H) | exact H
        have Ny337 := Aside0.mk hy337
        clear hy337
        by_cases c23 : x336007_1.length + y337.length < 140737488355328
        ·rw [if_pos c23] at H
         have LMc23 := Aside0.mk c23
         clear c23
         obtain ⟨y342, hy342⟩ : ∃ y_ : List Int, y_ = (x336007_1 ++ y337) := ⟨_, rfl⟩
         replace H : ((some (x1_1.drop ((ji20) : Int).toNat : List Int)).bind fun y345 => (if (y342.length : Int) = x336003_1 then ((shard_Writer_flush.f k1 x336000_1 x336001_1 x336002_1 x336003_1 x336004_1 x336005_1 x336006_1 y342 x336008_1 x336009_1).bind fun bt350 => (shard_Writer_Add.l0 k1 y345 bt350.1 bt350.2.1 bt350.2.2.1 bt350.2.2.2.1 bt350.2.2.2.2.1 bt350.2.2.2.2.2.1 bt350.2.2.2.2.2.2.1 bt350.2.2.2.2.2.2.2.1 bt350.2.2.2.2.2.2.2.2.1 bt350.2.2.2.2.2.2.2.2.2)) else (shard_Writer_Add.l0 k1 y345 x336000_1 x336001_1 x336002_1 x336003_1 x336004_1 x336005_1 x336006_1 y342 x336008_1 x336009_1))) = some (r1, r2, r3, r4, r5, r6, r7, r8, r9, r10, r11) := by first | (rw [hy342]; with_reducible exact H) | (have H2_ := (Option.bind_some _ _).symm.trans H; rw [hy342]; with_reducible exact H2_) | (have H2_ := (Option.bind_some _ _).symm.trans H; with_reducible exact H2_) | with_reducible exact H | (rw [hy342]; exact H) | exact H
         have Ny342 := Aside0.mk hy342
         clear hy342
         have c24b0 := eq_true (of_decide_eq_true (by first | (with_reducible assumption) | assumption) : 0 ≤ (ji20))
         have c25b0 := eq_true (of_decide_eq_true (by first | (with_reducible assumption) | assumption) : (ji20) ≤ (x1_1.length : Int))
         obtain ⟨y345, hy345⟩ : ∃ y_ : List Int, y_ = (x1_1.drop ((ji20) : Int).toNat) := ⟨_, rfl⟩
         replace H : (if (y342.length : Int) = x336003_1 then ((shard_Writer_flush.f k1 x336000_1 x336001_1 x336002_1 x336003_1 x336004_1 x336005_1 x336006_1 y342 x336008_1 x336009_1).bind fun bt350 => (shard_Writer_Add.l0 k1 y345 bt350.1 bt350.2.1 bt350.2.2.1 bt350.2.2.2.1 bt350.2.2.2.2.1 bt350.2.2.2.2.2.1 bt350.2.2.2.2.2.2.1 bt350.2.2.2.2.2.2.2.1 bt350.2.2.2.2.2.2.2.2.1 bt350.2.2.2.2.2.2.2.2.2)) else (shard_Writer_Add.l0 k1 y345 x336000_1 x336001_1 x336002_1 x336003_1 x336004_1 x336005_1 x336006_1 y342 x336008_1 x336009_1)) = some (r1, r2, r3, r4, r5, r6, r7, r8, r9, r10, r11) := by first | (rw [hy345]; with_reducible exact H) | (have H2_ := (Option.bind_some _ _).symm.trans H; rw [hy345]; with_reducible exact H2_) | (have H2_ := (Option.bind_some _ _).symm.trans H; with_reducible exact H2_) | with_reducible exact H | (rw [hy345]; exact H) | exact H
         have Ny345 := Aside0.mk hy345
         clear hy345
         by_cases c26 : (y342.length : Int) = x336003_1
         ·rw [if_pos c26] at H
          have c26b0 : ((y342.length : Int) == x336003_1) = true := beq_iff_eq.mpr c26
          have c26b1 : ((y342.length : Int) != x336003_1) = false := bne_eq_false_iff_eq.mpr c26
          clear c26
          replace H := Option.bind_eq_some_iff.mp H
          obtain ⟨⟨t350, t351, t352, t353, t354, t355, t356, t359, t362, t363⟩, A270, H⟩ := H
          replace H : (shard_Writer_Add.l0 k1 y345 t350 t351 t352 t353 t354 t355 t356 t359 t362 t363) = some (r1, r2, r3, r4, r5, r6, r7, r8, r9, r10, r11) := H
          have A27 := Aside0.mk A270
          clear A270
          have H' := Aside0.mk H
          clear H
          obtain ⟨Ao28, co28, eo28⟩ := Kd.V_slice HO_1.out
          subst eo28
          try go_wp2
          have n0_ := Aside0.mk (Kd.V_drew HO_1.out)
          have n1_ := Aside0.mk (Kd.R_drew HO_336006.out)
          have n2_ := Aside0.mk (Kd.R_drew HO_336007.out)
          have n3_ := Aside0.mk (blk_drew BK.out)
          have n4_ := Aside0.mk (Kept.drew HK.out)
          have n5_ := Aside0.mk (below_drew1 HB.out)
          clear HO_1
          clear HO_336006
          clear HO_336007
          clear BK
          clear HK
          clear HB
          have HO_1 := n0_
          have HO_336006 := n1_
          have HO_336007 := n2_
          have BK := n3_
          have HK := n4_
          have HB := n5_
          clear n0_ n1_ n2_ n3_ n4_ n5_
          obtain ⟨Ao30, co30, eo30⟩ := Kd.R_slice HO_336007.out
          (first | subst eo30 | (injection eo30 with f1_ f2_ f3_; have f4_ := f1_.symm; have f5_ := f3_.symm; clear f1_ f2_ f3_; subst f4_; subst f5_))
          refine start_ (n := 15) (S := fun w' => w'.cell? ⟨gb, 0, none⟩ = some (.int .i64 x336000_1) ∧ w'.cell? ⟨gb, 1, none⟩ = some (.int .i64 x336001_1) ∧ w'.cell? ⟨gb, 2, none⟩ = some (.int .i64 x336002_1) ∧ w'.cell? ⟨gb, 3, none⟩ = some (.int .i64 x336003_1) ∧ w'.cell? ⟨gb, 4, none⟩ = some (.int .i64 x336004_1) ∧ w'.cell? ⟨gb, 5, none⟩ = some (.int .i64 x336005_1) ∧ w'.cell? ⟨gb, 6, none⟩ = some (u336006) ∧ w'.cell? ⟨gb, 7, none⟩ = some (.slice Ao30 x336007_1.length co30) ∧ w'.cell? ⟨gb, 8, none⟩ = some (.int .i64 x336008_1) ∧ w'.cell? ⟨gb, 9, none⟩ = some (.bool x336009_1)) (ds := []) #[false, false, false, false, false, false, false, false, false, false, false, false, false, false, false] (by kernel_rfl) rfl rfl ⟨(blk_cell BK.out 0).trans rfl, (blk_cell BK.out 1).trans rfl, (blk_cell BK.out 2).trans rfl, (blk_cell BK.out 3).trans rfl, (blk_cell BK.out 4).trans rfl, (blk_cell BK.out 5).trans rfl, (blk_cell BK.out 6).trans rfl, (blk_cell BK.out 7).trans rfl, (blk_cell BK.out 8).trans rfl, (blk_cell BK.out 9).trans rfl⟩ (fun hHeld => ?_); refine with_tabW shard_Writer_Add.tab7 shard_Writer_Add.bits7 (fun HT_ HW_ => ?_)
          generalize wr.drew = w29 at HO_1 HO_336006 HO_336007 BK HK HB hHeld ⊢
          refine pure_ (i := 0) (N := some 36) (v := ?_) (a' := ?_) #[true, false, false, false, false, false, false, false, false, false, false, false, false, false, false] rfl rfl (any_of HT_.out (by kernel_rfl)) (fun _ _ _ h => h) (Or.inl ⟨by rfl, ?_⟩) ?_ ?_
          rotate_left
          ·intro w'
           go_simp
           with_reducible rfl
          rotate_left
          ·simp only [Act.put, List.setIfInBounds_toArray, List.set_cons_zero, List.set_cons_succ, i64_w, i32_w]
           rfl
          refine pure_ (i := 1) (N := some 37) (v := ?_) (a' := ?_) #[true, true, false, false, false, false, false, false, false, false, false, false, false, false, false] rfl rfl (any_of HT_.out (by kernel_rfl)) (fun _ _ _ h => h) (Or.inl ⟨by rfl, ?_⟩) ?_ ?_
          rotate_left
          ·intro w'
           go_simp
           with_reducible rfl
          rotate_left
          ·simp only [Act.put, List.setIfInBounds_toArray, List.set_cons_zero, List.set_cons_succ, i64_w, i32_w]
           rfl
          refine pure_ (i := 2) (N := some 38) (v := ?_) (a' := ?_) #[true, true, true, false, false, false, false, false, false, false, false, false, false, false, false] rfl rfl (any_of HT_.out (by kernel_rfl)) (fun _ _ _ h => h) (Or.inl ⟨by rfl, ?_⟩) ?_ ?_
          rotate_left
          ·intro w'
           go_simp
           with_reducible rfl
          rotate_left
          ·simp only [Act.put, List.setIfInBounds_toArray, List.set_cons_zero, List.set_cons_succ, i64_w, i32_w]
           rfl
          refine pure_ (i := 3) (N := some 39) (v := ?_) (a' := ?_) #[true, true, true, true, false, false, false, false, false, false, false, false, false, false, false] rfl rfl (any_of HT_.out (by kernel_rfl)) (fun _ _ _ h => h) (Or.inl ⟨by rfl, ?_⟩) ?_ ?_
          rotate_left
          ·intro w'
           go_simp
           with_reducible rfl
          rotate_left
          ·simp only [Act.put, List.setIfInBounds_toArray, List.set_cons_zero, List.set_cons_succ, i64_w, i32_w]
           rfl
          refine pure_ (i := 5) (N := some 41) (v := ?_) (a' := ?_) #[true, true, true, true, false, true, false, false, false, false, false, false, false, false, false] rfl rfl (any_of HT_.out (by kernel_rfl)) (fun _ _ _ h => h) (Or.inl ⟨by rfl, ?_⟩) ?_ ?_
          rotate_left
          ·intro w'
           go_simp
           with_reducible rfl
          rotate_left
          ·simp only [Act.put, List.setIfInBounds_toArray, List.set_cons_zero, List.set_cons_succ, i64_w, i32_w]
           rfl
          refine pure_ (i := 6) (N := some 42) (v := ?_) (a' := ?_) #[true, true, true, true, false, true, true, false, false, false, false, false, false, false, false] rfl rfl (any_of HT_.out (by kernel_rfl)) (fun _ _ _ h => h) (Or.inl ⟨by rfl, ?_⟩) ?_ ?_
          rotate_left
          ·intro w'
           go_simp
           with_reducible rfl
          rotate_left
          ·simp only [Act.put, List.setIfInBounds_toArray, List.set_cons_zero, List.set_cons_succ, i64_w, i32_w]
           rfl
          refine pure_ (i := 7) (N := some 43) (v := ?_) (a' := ?_) #[true, true, true, true, false, true, true, true, false, false, false, false, false, false, false] rfl rfl (any_of HT_.out (by kernel_rfl)) (fun _ _ _ h => h) (Or.inl ⟨by rfl, ?_⟩) ?_ ?_
          rotate_left
          ·intro w'
           go_simp
           with_reducible rfl
          rotate_left
          ·simp only [Act.put, List.setIfInBounds_toArray, List.set_cons_zero, List.set_cons_succ, i64_w, i32_w]
           rfl
          refine pure_ (i := 11) (N := some 47) (v := ?_) (a' := ?_) #[true, true, true, true, false, true, true, true, false, false, false, true, false, false, false] rfl rfl (any_of HT_.out (by kernel_rfl)) (fun _ _ _ h => h) (Or.inl ⟨by rfl, ?_⟩) ?_ ?_
          rotate_left
          ·intro w'
           go_simp
           with_reducible rfl
          rotate_left
          ·simp only [Act.put, List.setIfInBounds_toArray, List.set_cons_zero, List.set_cons_succ, i64_w, i32_w]
           rfl
          refine pure_ (i := 12) (N := some 48) (v := ?_) (a' := ?_) #[true, true, true, true, false, true, true, true, false, false, false, true, true, false, false] rfl rfl (any_of HT_.out (by kernel_rfl)) (fun _ _ _ h => h) (Or.inl ⟨by rfl, ?_⟩) ?_ ?_
          rotate_left
          ·intro w'
           go_simp
           with_reducible rfl
          rotate_left
          ·simp only [Act.put, List.setIfInBounds_toArray, List.set_cons_zero, List.set_cons_succ, i64_w, i32_w]
           rfl
          refine take_ (i := 4) (N := some 40) (v := ?_) (a' := ?_) #[true, true, true, true, true, true, true, true, false, false, false, true, true, false, false] rfl rfl (take_ofW HT_.out HW_.out (by kernel_rfl)) (fun _ _ _ h => h) (Or.inl ⟨by rfl, ?_⟩) hHeld ?_ ?_
          rotate_left
          ·rintro w' ⟨s0, s1, s2, s3, s4, s5, s6, s7, s8, s9⟩
           go_simp
           with_reducible rfl
          rotate_left
          ·simp only [Act.put, List.setIfInBounds_toArray, List.set_cons_zero, List.set_cons_succ, i64_w, i32_w]
           rfl
          refine take_ (i := 8) (N := some 44) (v := ?_) (a' := ?_) #[true, true, true, true, true, true, true, true, true, false, false, true, true, false, false] rfl rfl (take_ofW HT_.out HW_.out (by kernel_rfl)) (fun _ _ _ h => h) (Or.inl ⟨by rfl, ?_⟩) hHeld ?_ ?_
          rotate_left
          ·rintro w' ⟨s0, s1, s2, s3, s4, s5, s6, s7, s8, s9⟩
           go_simp
           with_reducible rfl
          rotate_left
          ·simp only [Act.put, List.setIfInBounds_toArray, List.set_cons_zero, List.set_cons_succ, i64_w, i32_w]
           rfl
          refine pure_ (i := 9) (N := some 45) (v := ?_) (a' := ?_) #[true, true, true, true, true, true, true, true, true, true, false, true, true, false, false] rfl rfl (any_of HT_.out (by kernel_rfl)) (fun _ _ _ h => h) (Or.inl ⟨by rfl, ?_⟩) ?_ ?_
          rotate_left
          ·intro w'
           go_simp
           with_reducible rfl
          rotate_left
          ·simp only [Act.put, List.setIfInBounds_toArray, List.set_cons_zero, List.set_cons_succ, i64_w, i32_w]
           rfl
          refine pure_ (i := 10) (N := some 46) (v := ?_) (a' := ?_) #[true, true, true, true, true, true, true, true, true, true, true, true, true, false, false] rfl rfl (any_of HT_.out (by kernel_rfl)) (fun _ _ _ h => h) (Or.inl ⟨by rfl, ?_⟩) ?_ ?_
          rotate_left
          ·intro w'
           go_simp
           with_reducible rfl
          rotate_left
          ·simp only [Act.put, List.setIfInBounds_toArray, List.set_cons_zero, List.set_cons_succ, i64_w, i32_w]
           rfl
          refine pure_ (i := 13) (N := some 49) (v := ?_) (a' := ?_) #[true, true, true, true, true, true, true, true, true, true, true, true, true, true, false] rfl rfl (any_of HT_.out (by kernel_rfl)) (fun _ _ _ h => h) (Or.inl ⟨by rfl, ?_⟩) ?_ ?_
          rotate_left
          ·intro w'
           go_simp
           with_reducible rfl
          rotate_left
          ·simp only [Act.put, List.setIfInBounds_toArray, List.set_cons_zero, List.set_cons_succ, i64_w, i32_w]
           rfl
          refine pure_ (i := 14) (N := some 5) (v := ?_) (a' := ?_) #[true, true, true, true, true, true, true, true, true, true, true, true, true, true, true] rfl rfl (any_of HT_.out (by kernel_rfl)) (fun _ _ _ h => h) (Or.inl ⟨by rfl, ?_⟩) ?_ ?_
          rotate_left
          ·intro w'
           go_simp
           with_reducible rfl
          rotate_left
          ·simp only [Act.put, List.setIfInBounds_toArray, List.set_cons_zero, List.set_cons_succ, i64_w, i32_w]
           rfl
          refine done_ (done_of HT_.out (by kernel_rfl)) ?_
          try go_wp2
          have n0_ := Aside0.mk (Kd.V_drew HO_1.out)
          have n1_ := Aside0.mk (Kd.R_drew HO_336006.out)
          have n2_ := Aside0.mk (Kd.R_drew HO_336007.out)
          have n3_ := Aside0.mk (blk_drew BK.out)
          have n4_ := Aside0.mk (Kept.drew HK.out)
          have n5_ := Aside0.mk (below_drew1 HB.out)
          clear HO_1
          clear HO_336006
          clear HO_336007
          clear BK
          clear HK
          clear HB
          have HO_1 := n0_
          have HO_336006 := n1_
          have HO_336007 := n2_
          have BK := n3_
          have HK := n4_
          have HB := n5_
          clear n0_ n1_ n2_ n3_ n4_ n5_
          have q32 : ((ji20) : Int) ≤ ((x1_1.length : Int) : Int) := of_decide_eq_true (by first | (with_reducible assumption) | assumption)
          obtain ⟨i032, hi032, _, hsz32, _⟩ := info_parts info5
          have hroom32 : x1_1.length ≤ co28 := (Kd.V_reads' HO_1.out).2.1
          have hC32 : Kd.F (Kd.int .u8) _ _ Ao28 x1_1.length x1_1 := (Kd.V_at (base := w0.heap.size) HO_1.out).2.2
          have hcut32 := cut_to (P := Try.prog) 22 5 .i64 Try.underlying22 hi032 Ao28 x1_1.length co28 (ji20) (of_decide_eq_true (by first | (with_reducible assumption) | assumption)) q32 hroom32
          have hr32 := Kd.F_take (m := ((ji20) : Int).toNat) hC32 (by omega)
          have hy32 : y337.length = ((ji20) : Int).toNat := (by rw [Ny337.out, List.length_take]; omega)
          rw [← Ny337.out] at hr32
          rw [← hy32] at hcut32
          have HO341 := Aside0.mk (show Kd.V (Kd.int .u8) 5 _ w0.heap.size _ (.slice Ao28 y337.length co28) y337 from Kd.V_mk (by omega) hr32)
          have HC341 := Aside0.mk (show y337.length ≤ co28 from by omega)
          clear hr32 hC32 hroom32 hi032 hsz32
          have KY32 := Aside0.mk hy32
          clear hy32
          replace q32 := eq_true q32
          have q33 : ((ji20) : Int) ≤ ((x1_1.length : Int) : Int) := of_decide_eq_true (by first | (with_reducible assumption) | assumption)
          obtain ⟨i033, hi033, _, hsz33, _⟩ := info_parts info5
          have hroom33 : x1_1.length ≤ co28 := (Kd.V_reads' HO_1.out).2.1
          have hC33 : Kd.F (Kd.int .u8) _ _ Ao28 x1_1.length x1_1 := (Kd.V_at (base := w0.heap.size) HO_1.out).2.2
          have q033 : (0 : Int) ≤ ((ji20) : Int) := of_decide_eq_true (by first | (with_reducible assumption) | assumption)
          have hcut33 := cut_from (P := Try.prog) 22 5 .i64 Try.underlying22 hi033 1 hsz33 Ao28 x1_1.length co28 (ji20) q033 q33
          have hr33 := Kd.F_cut (m := ((ji20) : Int).toNat) (c := co28) hC33 (by omega) hroom33
          obtain ⟨A33, hA33⟩ : ∃ A1, A1 = (if co28 = ((ji20) : Int).toNat then Ao28 else (Ao28 : Option Addr).map (·.add (((ji20) : Int).toNat * 1))) := ⟨_, rfl⟩
          obtain ⟨c33, hc33⟩ : ∃ c1, c1 = co28 - ((ji20) : Int).toNat := ⟨_, rfl⟩
          have hy33 : y345.length = x1_1.length - ((ji20) : Int).toNat := (by rw [Ny345.out, List.length_drop] <;> omega)
          rw [show (x1_1).drop ((ji20) : Int).toNat = y345 from Ny345.out.symm] at hr33
          replace hr33 : Kd.F (Kd.int .u8) _ _ A33 y345.length y345 := (by rw [hA33]; exact hr33)
          rw [← hy33, ← hA33, ← hc33] at hcut33
          have HO349 := Aside0.mk (show Kd.V (Kd.int .u8) 5 _ w0.heap.size _ (.slice A33 y345.length c33) y345 from Kd.V_mk (by rw [hy33, hc33]; exact Nat.sub_le_sub_right hroom33 _) hr33)
          have HC349 := Aside0.mk (show y345.length ≤ c33 from by rw [hy33, hc33]; exact Nat.sub_le_sub_right hroom33 _)
          clear hr33 hC33 hroom33 hi033 hsz33 hc33
          have KY33 := Aside0.mk hy33
          have KA33 := Aside0.mk hA33
          clear hy33 hA33
          replace q33 := eq_true q33
          refine start_ (n := 16) (S := fun w' => w'.cell? ⟨gb, 0, none⟩ = some (.int .i64 x336000_1) ∧ w'.cell? ⟨gb, 1, none⟩ = some (.int .i64 x336001_1) ∧ w'.cell? ⟨gb, 2, none⟩ = some (.int .i64 x336002_1) ∧ w'.cell? ⟨gb, 3, none⟩ = some (.int .i64 x336003_1) ∧ w'.cell? ⟨gb, 4, none⟩ = some (.int .i64 x336004_1) ∧ w'.cell? ⟨gb, 5, none⟩ = some (.int .i64 x336005_1) ∧ w'.cell? ⟨gb, 6, none⟩ = some (u336006) ∧ w'.cell? ⟨gb, 7, none⟩ = some (.slice Ao30 x336007_1.length co30) ∧ w'.cell? ⟨gb, 8, none⟩ = some (.int .i64 x336008_1) ∧ w'.cell? ⟨gb, 9, none⟩ = some (.bool x336009_1)) (ds := [14]) #[false, false, false, false, false, false, false, false, false, false, false, false, false, false, false, false] (by kernel_rfl) rfl rfl ⟨(blk_cell BK.out 0).trans rfl, (blk_cell BK.out 1).trans rfl, (blk_cell BK.out 2).trans rfl, (blk_cell BK.out 3).trans rfl, (blk_cell BK.out 4).trans rfl, (blk_cell BK.out 5).trans rfl, (blk_cell BK.out 6).trans rfl, (blk_cell BK.out 7).trans rfl, (blk_cell BK.out 8).trans rfl, (blk_cell BK.out 9).trans rfl⟩ (fun hHeld => ?_); refine with_tabW shard_Writer_Add.tab8 shard_Writer_Add.bits8 (fun HT_ HW_ => ?_)
          generalize w29.drew = w31 at HO_1 HO_336006 HO_336007 BK HK HB HO341 HO349 hHeld ⊢
          refine pure_ (i := 0) (N := some 50) (v := ?_) (a' := ?_) #[true, false, false, false, false, false, false, false, false, false, false, false, false, false, false, false] rfl rfl (any_of HT_.out (by kernel_rfl)) (fun _ _ _ h => h) (Or.inl ⟨by rfl, ?_⟩) ?_ ?_
          rotate_left
          ·intro w'
           go_simp
           with_reducible rfl
          rotate_left
          ·simp only [Act.put, List.setIfInBounds_toArray, List.set_cons_zero, List.set_cons_succ, i64_w, i32_w]
           rfl
          refine pure_ (i := 1) (N := some 51) (v := ?_) (a' := ?_) #[true, true, false, false, false, false, false, false, false, false, false, false, false, false, false, false] rfl rfl (any_of HT_.out (by kernel_rfl)) (fun _ _ _ h => h) (Or.inl ⟨by rfl, ?_⟩) ?_ ?_
          rotate_left
          ·intro w'
           go_simp
           with_reducible rfl
          rotate_left
          ·simp only [Act.put, List.setIfInBounds_toArray, List.set_cons_zero, List.set_cons_succ, i64_w, i32_w]
           rfl
          refine pure_ (i := 2) (N := some 52) (v := ?_) (a' := ?_) #[true, true, true, false, false, false, false, false, false, false, false, false, false, false, false, false] rfl rfl (any_of HT_.out (by kernel_rfl)) (fun _ _ _ h => h) (Or.inl ⟨by rfl, ?_⟩) ?_ ?_
          rotate_left
          ·intro w'
           go_simp
           with_reducible rfl
          rotate_left
          ·simp only [Act.put, List.setIfInBounds_toArray, List.set_cons_zero, List.set_cons_succ, i64_w, i32_w]
           rfl
          refine pure_ (i := 3) (N := some 53) (v := ?_) (a' := ?_) #[true, true, true, true, false, false, false, false, false, false, false, false, false, false, false, false] rfl rfl (any_of HT_.out (by kernel_rfl)) (fun _ _ _ h => h) (Or.inl ⟨by rfl, ?_⟩) ?_ ?_
          rotate_left
          ·intro w'
           go_simp
           with_reducible rfl
          rotate_left
          ·simp only [Act.put, List.setIfInBounds_toArray, List.set_cons_zero, List.set_cons_succ, i64_w, i32_w]
           rfl
          refine pure_ (i := 5) (N := some 55) (v := ?_) (a' := ?_) #[true, true, true, true, false, true, false, false, false, false, false, false, false, false, false, false] rfl rfl (any_of HT_.out (by kernel_rfl)) (fun _ _ _ h => h) (Or.inl ⟨by rfl, ?_⟩) ?_ ?_
          rotate_left
          ·intro w'
           go_simp
           with_reducible rfl
          rotate_left
          ·simp only [Act.put, List.setIfInBounds_toArray, List.set_cons_zero, List.set_cons_succ, i64_w, i32_w]
           rfl
          refine pure_ (i := 6) (N := some 56) (v := ?_) (a' := ?_) #[true, true, true, true, false, true, true, false, false, false, false, false, false, false, false, false] rfl rfl (any_of HT_.out (by kernel_rfl)) (fun _ _ _ h => h) (Or.inl ⟨by rfl, ?_⟩) ?_ ?_
          rotate_left
          ·intro w'
           go_simp
           with_reducible rfl
          rotate_left
          ·simp only [Act.put, List.setIfInBounds_toArray, List.set_cons_zero, List.set_cons_succ, i64_w, i32_w]
           rfl
          refine pure_ (i := 7) (N := some 57) (v := ?_) (a' := ?_) #[true, true, true, true, false, true, true, true, false, false, false, false, false, false, false, false] rfl rfl (any_of HT_.out (by kernel_rfl)) (fun _ _ _ h => h) (Or.inl ⟨by rfl, ?_⟩) ?_ ?_
          rotate_left
          ·intro w'
           go_simp
           with_reducible rfl
          rotate_left
          ·simp only [Act.put, List.setIfInBounds_toArray, List.set_cons_zero, List.set_cons_succ, i64_w, i32_w]
           rfl
          refine pure_ (i := 9) (N := some 59) (v := ?_) (a' := ?_) #[true, true, true, true, false, true, true, true, false, true, false, false, false, false, false, false] rfl rfl (any_of HT_.out (by kernel_rfl)) (fun _ _ _ h => h) (Or.inl ⟨by rfl, ?_⟩) ?_ ?_
          rotate_left
          ·intro w'
           go_simp
           with_reducible rfl
          rotate_left
          ·simp only [Act.put, List.setIfInBounds_toArray, List.set_cons_zero, List.set_cons_succ, i64_w, i32_w]
           rfl
          refine pure_ (i := 10) (N := some 60) (v := ?_) (a' := ?_) #[true, true, true, true, false, true, true, true, false, true, true, false, false, false, false, false] rfl rfl (any_of HT_.out (by kernel_rfl)) (fun _ _ _ h => h) (Or.inl ⟨by rfl, ?_⟩) ?_ ?_
          rotate_left
          ·intro w'
           go_simp
           with_reducible rfl
          rotate_left
          ·simp only [Act.put, List.setIfInBounds_toArray, List.set_cons_zero, List.set_cons_succ, i64_w, i32_w]
           rfl
          refine pure_ (i := 11) (N := some 61) (v := ?_) (a' := ?_) #[true, true, true, true, false, true, true, true, false, true, true, true, false, false, false, false] rfl rfl (any_of HT_.out (by kernel_rfl)) (fun _ _ _ h => h) (Or.inl ⟨by rfl, ?_⟩) ?_ ?_
          rotate_left
          ·intro w'
           go_simp
           with_reducible rfl
          rotate_left
          ·simp only [Act.put, List.setIfInBounds_toArray, List.set_cons_zero, List.set_cons_succ, i64_w, i32_w]
           rfl
          refine take_ (i := 4) (N := some 54) (v := ?_) (a' := ?_) #[true, true, true, true, true, true, true, true, false, true, true, true, false, false, false, false] rfl rfl (take_ofW HT_.out HW_.out (by kernel_rfl)) (fun _ _ _ h => h) (Or.inl ⟨by rfl, ?_⟩) hHeld ?_ ?_
          rotate_left
          ·rintro w' ⟨s0, s1, s2, s3, s4, s5, s6, s7, s8, s9⟩
           go_simp
           with_reducible rfl
          rotate_left
          ·simp only [Act.put, List.setIfInBounds_toArray, List.set_cons_zero, List.set_cons_succ, i64_w, i32_w]
           rfl
          refine one_ (i := 8) (N := some 58) #[true, true, true, true, true, true, true, true, true, true, true, true, false, false, false, false] rfl rfl (one_of HT_.out (by kernel_rfl)) (by decide) (fun K hK => ?_)
          refine Kd.R_append_rows_step (Kd.int .u8) (w0 := w0) w0.heap.size (by rfl) (.tmp 54) (.tmp 57) 22 5 (.int .u8 0) 1 rfl Try.underlying22 info5 rfl (by decide) (by omega) (.slice Ao30 x336007_1.length co30) x336007_1 y337 _ _ _ (fun k_ => ((P0_6_ k_ ∨ P0_7_ k_) ∨ w.heap.size ≤ k_) ∧ some k_ ≠ (u336006 : Value).ownBlock) (fun _ => False) rfl rfl ?aO ?aR (fun _ _ h => h) (fun _ h => h.elim) ?aF ?aB ?aS ?aL ?_
          (case aR => repeat (first | exact (Kd.V_reads' HO341.out).2.2 | (with_reducible refine Kd.C_alloc ?_ _) | (with_reducible refine Kd.C_drewN ?_ _) | (with_reducible refine Kd.C_drew ?_)))
          (case aB => exact (by repeat (first | (with_reducible first | exact HB.out | apply below_alloc | apply pw_below_drewN | apply below_drew1 | refine below_set ?_ GE.out) | exact HB.out)))
          (case aF => exact (fun k_ hk => ⟨(.inr (Nat.le_trans (by first | exact HK.out.1 | exact (show Kept w _ (fun k_ => P0_6_ k_ ∨ P0_7_ k_) from by repeat (first | (with_reducible first | exact HK.out | apply Kept.alloc | apply Kept.drewN | apply Kept.drew | refine Kept.setCell ?_ (.inl (.inr pg)) _) | exact HK.out)).1) hk)), Kd.fresh' (Kd.R_lt (by (with_reducible repeat (first | apply Kd.R_alloc | apply Kd.R_drewN | apply Kd.R_drew)); exact HO_336006.out)) k_ hk⟩))
          (case aO => exact (by (with_reducible repeat (first | apply Kd.R_alloc | apply Kd.R_drewN | apply Kd.R_drew)); exact HO_336007.out))
          (case aS => exact (below_size (by repeat (first | (with_reducible first | exact HB.out | apply below_alloc | apply pw_below_drewN | apply below_drew1 | refine below_set ?_ GE.out) | exact HB.out))))
          (case aL => have := LMc23.out; omega)
          intro v343 w34 ho hb hg hat
          rw [← Ny342.out] at ho
          have n0_ := Aside0.mk (Kd.V_afterv (ok := (fun k_ => ((P0_6_ k_ ∨ P0_7_ k_ ∨ P1_ k_) ∨ w.heap.size ≤ k_) ∧ some k_ ≠ (u336006 : Value).ownBlock ∧ k_ ≠ gb)) (by (with_reducible repeat (first | apply Kd.V_alloc | apply Kd.V_drewN | apply Kd.V_drew)); exact Kd.V_mono HO_1.out (fun _ hk => ⟨⟨hk.1, ⟨hk.2.1, hk.2.2.2⟩⟩, hk.2.2.1⟩)) hg hat)
          have n1_ := Aside0.mk (Kd.R_after (ok := (fun k_ => ((P0_6_ k_ ∨ P0_7_ k_) ∨ w.heap.size ≤ k_))) (by (with_reducible repeat (first | apply Kd.R_alloc | apply Kd.R_drewN | apply Kd.R_drew)); exact HO_336006.out) hg hat)
          have n2_ := Aside0.mk (blk_grown (g := gb) (o := .cells #[.int .i64 x336000_1, .int .i64 x336001_1, .int .i64 x336002_1, .int .i64 x336003_1, .int .i64 x336004_1, .int .i64 x336005_1, u336006, .slice Ao30 x336007_1.length co30, .int .i64 x336008_1, .bool x336009_1] 105 (0, 0)) (by (with_reducible repeat (first | refine blk_drewN ?_ _ | refine blk_drew ?_ | refine blk_alloc ?_ _)); exact BK.out) hg (Kd.R_ne HO_336007.out BK.out (by decide)))
          have n3_ := Aside0.mk (Kd.V_afterv (ok := (fun k_ => ((P0_6_ k_ ∨ P0_7_ k_ ∨ P1_ k_) ∨ w.heap.size ≤ k_) ∧ some k_ ≠ (u336006 : Value).ownBlock ∧ k_ ≠ gb)) (by (with_reducible repeat (first | apply Kd.V_alloc | apply Kd.V_drewN | apply Kd.V_drew)); exact Kd.V_mono HO341.out (fun _ hk => ⟨⟨hk.1, ⟨hk.2.1, hk.2.2.2⟩⟩, hk.2.2.1⟩)) hg hat)
          have n4_ := Aside0.mk (Kd.V_afterv (ok := (fun k_ => ((P0_6_ k_ ∨ P0_7_ k_ ∨ P1_ k_) ∨ w.heap.size ≤ k_) ∧ some k_ ≠ (u336006 : Value).ownBlock ∧ k_ ≠ gb)) (by (with_reducible repeat (first | apply Kd.V_alloc | apply Kd.V_drewN | apply Kd.V_drew)); exact Kd.V_mono HO349.out (fun _ hk => ⟨⟨hk.1, ⟨hk.2.1, hk.2.2.2⟩⟩, hk.2.2.1⟩)) hg hat)
          have n5_ := Aside0.mk (hb)
          have n6_ := Aside0.mk (Kept.of_grown (S := (fun k_ => P0_6_ k_ ∨ P0_7_ k_)) hg (by repeat (first | (with_reducible first | exact HK.out | apply Kept.alloc | apply Kept.drewN | apply Kept.drew | refine Kept.setCell ?_ (.inl (.inr pg)) _) | exact HK.out)) (fun k_ e_ => (HO_336007.out.1 k_ e_).1))
          have n7_ := Aside0.mk (ho)
          clear HO_1
          clear HO_336006
          clear BK
          clear HO341
          clear HO349
          clear HB
          clear HK
          clear HO_336007
          have HO_1 := n0_
          have HO_336006 := n1_
          have BK := n2_
          have HO341 := n3_
          have HO349 := n4_
          have HB := n5_
          have HK := n6_
          have HO344 := n7_
          clear n0_ n1_ n2_ n3_ n4_ n5_ n6_ n7_
          clear ho hb hg hat
          obtain ⟨Ao35, co35, eo35⟩ := Kd.R_slice HO344.out
          (first | subst eo35 | (injection eo35 with f1_ f2_ f3_; have f4_ := f1_.symm; have f5_ := f3_.symm; clear f1_ f2_ f3_; subst f4_; subst f5_))
          refine hK.out _ _ ⟨(blk_cell BK.out 0).trans rfl, (blk_cell BK.out 1).trans rfl, (blk_cell BK.out 2).trans rfl, (blk_cell BK.out 3).trans rfl, (blk_cell BK.out 4).trans rfl, (blk_cell BK.out 5).trans rfl, (blk_cell BK.out 6).trans rfl, (blk_cell BK.out 7).trans rfl, (blk_cell BK.out 8).trans rfl, (blk_cell BK.out 9).trans rfl⟩ (fun hHeld => ?_)
          clear hK K
          refine norm_ (a' := ?_) ?_ ?_
          rotate_left
          ·show Act.put _ (some 58) _ = _
           simp only [Act.put, List.setIfInBounds_toArray, List.set_cons_zero, List.set_cons_succ, i64_w, i32_w]
           rfl
          refine pure_ (i := 12) (N := some 62) (v := ?_) (a' := ?_) #[true, true, true, true, true, true, true, true, true, true, true, true, true, false, false, false] rfl rfl (any_of HT_.out (by kernel_rfl)) (fun _ _ _ h => h) (Or.inl ⟨by rfl, ?_⟩) ?_ ?_
          rotate_left
          ·intro w'
           go_simp
           with_reducible rfl
          rotate_left
          ·simp only [Act.put, List.setIfInBounds_toArray, List.set_cons_zero, List.set_cons_succ, i64_w, i32_w]
           rfl
          refine pure_ (i := 13) (N := some 63) (v := ?_) (a' := ?_) #[true, true, true, true, true, true, true, true, true, true, true, true, true, true, false, false] rfl rfl (any_of HT_.out (by kernel_rfl)) (fun _ _ _ h => h) (Or.inl ⟨by rfl, ?_⟩) ?_ ?_
          rotate_left
          ·intro w'
           go_simp
           with_reducible rfl
          rotate_left
          ·simp only [Act.put, List.setIfInBounds_toArray, List.set_cons_zero, List.set_cons_succ, i64_w, i32_w]
           rfl
          refine last_ (i := 14) (N := none) #[true, true, true, true, true, true, true, true, true, true, true, true, true, true, true, false] rfl rfl (one_of HT_.out (by kernel_rfl)) (by decide) (fun K hK => ?_)
          have hs36 : w34.cell? ⟨gb, 7, none⟩ = some (.slice Ao30 x336007_1.length co30) := (blk_cell BK.out 7).trans rfl
          have hfs36 := blk_frozen BK.out 7
          refine skip_ (w1 := ?_) (by rfl) rfl ?_ ?_
          rotate_left
          ·go_simp
           rfl
          refine hK.out _ _ ?_
          clear hK K
          refine pure_ (i := 15) (N := some 1) (v := ?_) (a' := ?_) #[true, true, true, true, true, true, true, true, true, true, true, true, true, true, true, true] rfl rfl (any_of HT_.out (by kernel_rfl)) (fun _ _ _ h => h) (Or.inl ⟨by rfl, ?_⟩) ?_ ?_
          rotate_left
          ·intro w'
           go_simp
           with_reducible rfl
          rotate_left
          ·simp only [Act.put, List.setIfInBounds_toArray, List.set_cons_zero, List.set_cons_succ, i64_w, i32_w]
           rfl
          refine done_ (done_of HT_.out (by kernel_rfl)) ?_
          try go_wp2
          have n0_ : Aside0 (Kd.V (Kd.int .u8) 5 (w34.setCell ⟨gb, 7, none⟩ (.slice Ao35 y342.length co35)) w0.heap.size (fun k_ => ((P0_6_ k_ ∨ P0_7_ k_ ∨ P1_ k_) ∨ w.heap.size ≤ k_) ∧ some k_ ≠ (u336006 : Value).ownBlock ∧ some k_ ≠ (.slice Ao35 y342.length co35 : Value).ownBlock ∧ k_ ≠ gb) (.slice Ao28 x1_1.length co28) x1_1) := ⟨by (with_reducible repeat (first | apply Kd.V_alloc | apply Kd.V_drewN | apply Kd.V_drew)); exact Kd.V_mono (Kd.V_far (p := ⟨gb, 7, none⟩) (Kd.V_mono HO_1.out (fun k_ hk => (⟨hk, hk.1.2.2⟩ : _ ∧ k_ ≠ gb))) (fun _ hk => hk.2) (.slice Ao35 y342.length co35)) (fun _ hk => ⟨hk.1.1.1, ⟨hk.1.1.2.1, ⟨hk.1.2, hk.1.1.2.2⟩⟩⟩)⟩
          have n1_ : Aside0 (Kd.R (Kd.int .u8) 5 (w34.setCell ⟨gb, 7, none⟩ (.slice Ao35 y342.length co35)) w0.heap.size (fun k_ => ((P0_6_ k_ ∨ P0_7_ k_) ∨ w.heap.size ≤ k_) ∧ some k_ ≠ (.slice Ao35 y342.length co35 : Value).ownBlock) u336006 x336006_1) := ⟨by (with_reducible repeat (first | apply Kd.R_alloc | apply Kd.R_drewN | apply Kd.R_drew)); exact Kd.R_mono (Kd.R_far (p := ⟨gb, 7, none⟩) (Kd.R_types HO_336006.out BK.out (by decide)) (fun _ hk => hk.2) (.slice Ao35 y342.length co35)) (fun _ hk => ⟨hk.1.1, hk.1.2⟩)⟩
          have n2_ : Aside0 (Kd.V (Kd.int .u8) 5 (w34.setCell ⟨gb, 7, none⟩ (.slice Ao35 y342.length co35)) w0.heap.size (fun k_ => ((P0_6_ k_ ∨ P0_7_ k_ ∨ P1_ k_) ∨ w.heap.size ≤ k_) ∧ some k_ ≠ (u336006 : Value).ownBlock ∧ some k_ ≠ (.slice Ao35 y342.length co35 : Value).ownBlock ∧ k_ ≠ gb) (.slice Ao28 y337.length co28) y337) := ⟨by (with_reducible repeat (first | apply Kd.V_alloc | apply Kd.V_drewN | apply Kd.V_drew)); exact Kd.V_mono (Kd.V_far (p := ⟨gb, 7, none⟩) (Kd.V_mono HO341.out (fun k_ hk => (⟨hk, hk.1.2.2⟩ : _ ∧ k_ ≠ gb))) (fun _ hk => hk.2) (.slice Ao35 y342.length co35)) (fun _ hk => ⟨hk.1.1.1, ⟨hk.1.1.2.1, ⟨hk.1.2, hk.1.1.2.2⟩⟩⟩)⟩
          have n3_ : Aside0 (Kd.V (Kd.int .u8) 5 (w34.setCell ⟨gb, 7, none⟩ (.slice Ao35 y342.length co35)) w0.heap.size (fun k_ => ((P0_6_ k_ ∨ P0_7_ k_ ∨ P1_ k_) ∨ w.heap.size ≤ k_) ∧ some k_ ≠ (u336006 : Value).ownBlock ∧ some k_ ≠ (.slice Ao35 y342.length co35 : Value).ownBlock ∧ k_ ≠ gb) (.slice A33 y345.length c33) y345) := ⟨by (with_reducible repeat (first | apply Kd.V_alloc | apply Kd.V_drewN | apply Kd.V_drew)); exact Kd.V_mono (Kd.V_far (p := ⟨gb, 7, none⟩) (Kd.V_mono HO349.out (fun k_ hk => (⟨hk, hk.1.2.2⟩ : _ ∧ k_ ≠ gb))) (fun _ hk => hk.2) (.slice Ao35 y342.length co35)) (fun _ hk => ⟨hk.1.1.1, ⟨hk.1.1.2.1, ⟨hk.1.2, hk.1.1.2.2⟩⟩⟩)⟩
          have n4_ : Aside0 (Kd.R (Kd.int .u8) 5 (w34.setCell ⟨gb, 7, none⟩ (.slice Ao35 y342.length co35)) w0.heap.size (fun k_ => ((P0_6_ k_ ∨ P0_7_ k_) ∨ w.heap.size ≤ k_) ∧ some k_ ≠ (u336006 : Value).ownBlock) (.slice Ao35 y342.length co35) y342) := ⟨by (with_reducible repeat (first | apply Kd.R_alloc | apply Kd.R_drewN | apply Kd.R_drew)); exact Kd.R_mono (Kd.R_far (p := ⟨gb, 7, none⟩) (Kd.R_types HO344.out BK.out (by decide)) (fun _ hk => hk.2) (.slice Ao35 y342.length co35)) (fun _ hk => ⟨hk.1.1, hk.1.2⟩)⟩
          have n5_ : Aside0 ((w34.setCell ⟨gb, 7, none⟩ (.slice Ao35 y342.length co35)).heap[gb]? = some (.cells #[.int .i64 x336000_1, .int .i64 x336001_1, .int .i64 x336002_1, .int .i64 x336003_1, .int .i64 x336004_1, .int .i64 x336005_1, u336006, .slice Ao35 y342.length co35, .int .i64 x336008_1, .bool x336009_1] 105 (0, 0))) := ⟨by (with_reducible repeat (first | refine blk_drewN ?_ _ | refine blk_drew ?_ | refine blk_alloc ?_ _)); refine blk_put (cs := #[.int .i64 x336000_1, .int .i64 x336001_1, .int .i64 x336002_1, .int .i64 x336003_1, .int .i64 x336004_1, .int .i64 x336005_1, u336006, .slice Ao30 x336007_1.length co30, .int .i64 x336008_1, .bool x336009_1]) ?_ 7 _ rfl; (with_reducible repeat (first | refine blk_drewN ?_ _ | refine blk_drew ?_ | refine blk_alloc ?_ _)); exact BK.out⟩
          have n6_ : Aside0 (Kept w (w34.setCell ⟨gb, 7, none⟩ (.slice Ao35 y342.length co35)) (fun k_ => P0_6_ k_ ∨ P0_7_ k_)) := ⟨by repeat (first | (with_reducible first | exact HK.out | apply Kept.alloc | apply Kept.drewN | apply Kept.drew | refine Kept.setCell ?_ (.inl (.inr pg)) _) | exact HK.out)⟩
          have n7_ : Aside0 (Below w0.heap.size w0 (w34.setCell ⟨gb, 7, none⟩ (.slice Ao35 y342.length co35))) := ⟨by repeat (first | (with_reducible first | exact HB.out | apply below_alloc | apply pw_below_drewN | apply below_drew1 | refine below_set ?_ GE.out) | exact HB.out)⟩
          (try clear HO_1)
          (try clear HO_336006)
          (try clear HO341)
          (try clear HO349)
          (try clear HO344)
          (try clear BK)
          (try clear HK)
          (try clear HB)
          generalize (w34.setCell ⟨gb, 7, none⟩ (.slice Ao35 y342.length co35)) = w37 at n0_ n1_ n2_ n3_ n4_ n5_ n6_ n7_ ⊢
          have HO_1 := n0_
          have HO_336006 := n1_
          have HO341 := n2_
          have HO349 := n3_
          have HO344 := n4_
          have BK := n5_
          have HK := n6_
          have HB := n7_
          clear n0_ n1_ n2_ n3_ n4_ n5_ n6_ n7_
          have n0_ := Aside0.mk (Kd.V_drew HO_1.out)
          have n1_ := Aside0.mk (Kd.R_drew HO_336006.out)
          have n2_ := Aside0.mk (Kd.V_drew HO341.out)
          have n3_ := Aside0.mk (Kd.V_drew HO349.out)
          have n4_ := Aside0.mk (Kd.R_drew HO344.out)
          have n5_ := Aside0.mk (blk_drew BK.out)
          have n6_ := Aside0.mk (Kept.drew HK.out)
          have n7_ := Aside0.mk (below_drew1 HB.out)
          clear HO_1
          clear HO_336006
          clear HO341
          clear HO349
          clear HO344
          clear BK
          clear HK
          clear HB
          have HO_1 := n0_
          have HO_336006 := n1_
          have HO341 := n2_
          have HO349 := n3_
          have HO344 := n4_
          have BK := n5_
          have HK := n6_
          have HB := n7_
          clear n0_ n1_ n2_ n3_ n4_ n5_ n6_ n7_
          refine start_ (n := 11) (S := fun w' => w'.cell? ⟨gb, 0, none⟩ = some (.int .i64 x336000_1) ∧ w'.cell? ⟨gb, 1, none⟩ = some (.int .i64 x336001_1) ∧ w'.cell? ⟨gb, 2, none⟩ = some (.int .i64 x336002_1) ∧ w'.cell? ⟨gb, 3, none⟩ = some (.int .i64 x336003_1) ∧ w'.cell? ⟨gb, 4, none⟩ = some (.int .i64 x336004_1) ∧ w'.cell? ⟨gb, 5, none⟩ = some (.int .i64 x336005_1) ∧ w'.cell? ⟨gb, 6, none⟩ = some (u336006) ∧ w'.cell? ⟨gb, 7, none⟩ = some (.slice Ao35 y342.length co35) ∧ w'.cell? ⟨gb, 8, none⟩ = some (.int .i64 x336008_1) ∧ w'.cell? ⟨gb, 9, none⟩ = some (.bool x336009_1)) (ds := []) #[false, false, false, false, false, false, false, false, false, false, false] (by kernel_rfl) rfl rfl ⟨(blk_cell BK.out 0).trans rfl, (blk_cell BK.out 1).trans rfl, (blk_cell BK.out 2).trans rfl, (blk_cell BK.out 3).trans rfl, (blk_cell BK.out 4).trans rfl, (blk_cell BK.out 5).trans rfl, (blk_cell BK.out 6).trans rfl, (blk_cell BK.out 7).trans rfl, (blk_cell BK.out 8).trans rfl, (blk_cell BK.out 9).trans rfl⟩ (fun hHeld => ?_); refine with_tabW shard_Writer_Add.tab9 shard_Writer_Add.bits9 (fun HT_ HW_ => ?_)
          generalize w37.drew = w38 at HO_1 HO_336006 HO341 HO349 HO344 BK HK HB hHeld ⊢
          refine pure_ (i := 0) (N := some 64) (v := ?_) (a' := ?_) #[true, false, false, false, false, false, false, false, false, false, false] rfl rfl (any_of HT_.out (by kernel_rfl)) (fun _ _ _ h => h) (Or.inl ⟨by rfl, ?_⟩) ?_ ?_
          rotate_left
          ·intro w'
           go_simp
           with_reducible rfl
          rotate_left
          ·simp only [Act.put, List.setIfInBounds_toArray, List.set_cons_zero, List.set_cons_succ, i64_w, i32_w]
           rfl
          refine pure_ (i := 1) (N := some 65) (v := ?_) (a' := ?_) #[true, true, false, false, false, false, false, false, false, false, false] rfl rfl (any_of HT_.out (by kernel_rfl)) (fun _ _ _ h => h) (Or.inl ⟨by rfl, ?_⟩) ?_ ?_
          rotate_left
          ·intro w'
           go_simp
           with_reducible rfl
          rotate_left
          ·simp only [Act.put, List.setIfInBounds_toArray, List.set_cons_zero, List.set_cons_succ, i64_w, i32_w]
           rfl
          refine pure_ (i := 2) (N := some 66) (v := ?_) (a' := ?_) #[true, true, true, false, false, false, false, false, false, false, false] rfl rfl (any_of HT_.out (by kernel_rfl)) (fun _ _ _ h => h) (Or.inl ⟨by rfl, ?_⟩) ?_ ?_
          rotate_left
          ·intro w'
           go_simp
           with_reducible rfl
          rotate_left
          ·simp only [Act.put, List.setIfInBounds_toArray, List.set_cons_zero, List.set_cons_succ, i64_w, i32_w]
           rfl
          refine pure_ (i := 5) (N := some 69) (v := ?_) (a' := ?_) #[true, true, true, false, false, true, false, false, false, false, false] rfl rfl (any_of HT_.out (by kernel_rfl)) (fun _ _ _ h => h) (Or.inl ⟨by rfl, ?_⟩) ?_ ?_
          rotate_left
          ·intro w'
           go_simp
           with_reducible rfl
          rotate_left
          ·simp only [Act.put, List.setIfInBounds_toArray, List.set_cons_zero, List.set_cons_succ, i64_w, i32_w]
           rfl
          refine pure_ (i := 6) (N := some 70) (v := ?_) (a' := ?_) #[true, true, true, false, false, true, true, false, false, false, false] rfl rfl (any_of HT_.out (by kernel_rfl)) (fun _ _ _ h => h) (Or.inl ⟨by rfl, ?_⟩) ?_ ?_
          rotate_left
          ·intro w'
           go_simp
           with_reducible rfl
          rotate_left
          ·simp only [Act.put, List.setIfInBounds_toArray, List.set_cons_zero, List.set_cons_succ, i64_w, i32_w]
           rfl
          refine pure_ (i := 7) (N := some 71) (v := ?_) (a' := ?_) #[true, true, true, false, false, true, true, true, false, false, false] rfl rfl (any_of HT_.out (by kernel_rfl)) (fun _ _ _ h => h) (Or.inl ⟨by rfl, ?_⟩) ?_ ?_
          rotate_left
          ·intro w'
           go_simp
           with_reducible rfl
          rotate_left
          ·simp only [Act.put, List.setIfInBounds_toArray, List.set_cons_zero, List.set_cons_succ, i64_w, i32_w]
           rfl
          refine pure_ (i := 8) (N := some 72) (v := ?_) (a' := ?_) #[true, true, true, false, false, true, true, true, true, false, false] rfl rfl (any_of HT_.out (by kernel_rfl)) (fun _ _ _ h => h) (Or.inl ⟨by rfl, ?_⟩) ?_ ?_
          rotate_left
          ·intro w'
           go_simp
           with_reducible rfl
          rotate_left
          ·simp only [Act.put, List.setIfInBounds_toArray, List.set_cons_zero, List.set_cons_succ, i64_w, i32_w]
           rfl
          refine take_ (i := 3) (N := some 67) (v := ?_) (a' := ?_) #[true, true, true, true, false, true, true, true, true, false, false] rfl rfl (take_ofW HT_.out HW_.out (by kernel_rfl)) (fun _ _ _ h => h) (Or.inl ⟨by rfl, ?_⟩) hHeld ?_ ?_
          rotate_left
          ·rintro w' ⟨s0, s1, s2, s3, s4, s5, s6, s7, s8, s9⟩
           go_simp
           with_reducible rfl
          rotate_left
          ·simp only [Act.put, List.setIfInBounds_toArray, List.set_cons_zero, List.set_cons_succ, i64_w, i32_w]
           rfl
          refine pure_ (i := 4) (N := some 68) (v := ?_) (a' := ?_) #[true, true, true, true, true, true, true, true, true, false, false] rfl rfl (any_of HT_.out (by kernel_rfl)) (fun _ _ _ h => h) (Or.inl ⟨by rfl, ?_⟩) ?_ ?_
          rotate_left
          ·intro w'
           go_simp
           with_reducible rfl
          rotate_left
          ·simp only [Act.put, List.setIfInBounds_toArray, List.set_cons_zero, List.set_cons_succ, i64_w, i32_w]
           rfl
          refine take_ (i := 9) (N := some 73) (v := ?_) (a' := ?_) #[true, true, true, true, true, true, true, true, true, true, false] rfl rfl (take_ofW HT_.out HW_.out (by kernel_rfl)) (fun _ _ _ h => h) (Or.inl ⟨by rfl, ?_⟩) hHeld ?_ ?_
          rotate_left
          ·rintro w' ⟨s0, s1, s2, s3, s4, s5, s6, s7, s8, s9⟩
           go_simp
           with_reducible rfl
          rotate_left
          ·simp only [Act.put, List.setIfInBounds_toArray, List.set_cons_zero, List.set_cons_succ, i64_w, i32_w]
           rfl
          refine pure_ (i := 10) (N := some 74) (v := ?_) (a' := ?_) #[true, true, true, true, true, true, true, true, true, true, true] rfl rfl (any_of HT_.out (by kernel_rfl)) (fun _ _ _ h => h) (Or.inl ⟨by rfl, ?_⟩) ?_ ?_
          rotate_left
          ·intro w'
           go_simp
           with_reducible rfl
          rotate_left
          ·simp only [Act.put, List.setIfInBounds_toArray, List.set_cons_zero, List.set_cons_succ, i64_w, i32_w]
           rfl
          refine done_ (done_of HT_.out (by kernel_rfl)) ?_
          have hcz39_0 : w38.cell? ⟨gb, 0, none⟩ = some (.int .i64 x336000_1) := (blk_cell BK.out 0).trans rfl
          have hcz39_1 : w38.cell? ⟨gb, 1, none⟩ = some (.int .i64 x336001_1) := (blk_cell BK.out 1).trans rfl
          have hcz39_2 : w38.cell? ⟨gb, 2, none⟩ = some (.int .i64 x336002_1) := (blk_cell BK.out 2).trans rfl
          have hcz39_3 : w38.cell? ⟨gb, 3, none⟩ = some (.int .i64 x336003_1) := (blk_cell BK.out 3).trans rfl
          have hcz39_4 : w38.cell? ⟨gb, 4, none⟩ = some (.int .i64 x336004_1) := (blk_cell BK.out 4).trans rfl
          have hcz39_5 : w38.cell? ⟨gb, 5, none⟩ = some (.int .i64 x336005_1) := (blk_cell BK.out 5).trans rfl
          have hcz39_6 : w38.cell? ⟨gb, 6, none⟩ = some (u336006) := (blk_cell BK.out 6).trans rfl
          have hcz39_7 : w38.cell? ⟨gb, 7, none⟩ = some (.slice Ao35 y342.length co35) := (blk_cell BK.out 7).trans rfl
          have hcz39_8 : w38.cell? ⟨gb, 8, none⟩ = some (.int .i64 x336008_1) := (blk_cell BK.out 8).trans rfl
          have hcz39_9 : w38.cell? ⟨gb, 9, none⟩ = some (.bool x336009_1) := (blk_cell BK.out 9).trans rfl
          have hfz39_0 := blk_frozen BK.out 0
          have hfz39_1 := blk_frozen BK.out 1
          have hfz39_2 := blk_frozen BK.out 2
          have hfz39_3 := blk_frozen BK.out 3
          have hfz39_4 := blk_frozen BK.out 4
          have hfz39_5 := blk_frozen BK.out 5
          have hfz39_6 := blk_frozen BK.out 6
          have hfz39_7 := blk_frozen BK.out 7
          have hfz39_8 := blk_frozen BK.out 8
          have hfz39_9 := blk_frozen BK.out 9
          obtain ⟨Ao40, co40, eo40⟩ := Kd.R_slice HO_336006.out
          subst eo40
          try go_wp2_with (first | ((with_reducible refine gate_callee (f := 64) rfl ?_); refine goesL_ (some 76) rfl rfl Try.func64 (by kernel_rfl) rfl #[.pointer (some ⟨gb, 0, none⟩)] rfl (by (try simp only [List.map_toArray, List.map_cons, List.map_nil]); first | done | rfl | (simp only [List.length_drop, List.length_take]; rfl)) ?_; (with_reducible refine (shard_Writer_flush.calls k1 x336000_1 x336001_1 x336002_1 x336003_1 x336004_1 x336005_1 (fun k_ => some k_ = (.slice Ao40 x336006_1.length co40 : Value).ownBlock) (.slice Ao40 x336006_1.length co40) x336006_1 (fun k_ => some k_ = (.slice Ao35 y342.length co35 : Value).ownBlock ∨ k_ = gb) (.slice Ao35 y342.length co35) y342 x336008_1 x336009_1 t350 t351 t352 t353 t354 t355 t356 t359 t362 t363 w0 _ ?side1 ?side2 ?side3 ?side4 ?side5 gb (by (with_reducible repeat (first | refine blk_drewN ?_ _ | refine blk_drew ?_ | refine blk_alloc ?_ _)); exact BK.out) ?side6 (.inr rfl) A27.out).mono ?_); (case side1 => repeat (first | (with_reducible first | exact HB.out | apply below_alloc | apply pw_below_drewN | apply below_drew1 | refine below_set ?_ GE.out) | exact HB.out)); (case side2 => exact Kd.R_tight rfl HO_336006.out); (case side3 => exact fun k_ e_ h_ => Or.elim h_ (HO_336006.out.1 k_ e_.symm).2 (fun g_ => (fun (g_ : k_ = gb) e2_ => Kd.R_ne HO_336006.out BK.out (by decide) ((congrArg some g_).symm.trans e2_)) g_ e_)); (case side4 => exact Kd.R_mono (Kd.R_tight rfl HO344.out) (fun _ h_ => .inl h_)); (case side5 => exact fun k_ h_ => Or.elim h_ (fun e_ => (HO344.out.1 k_ e_.symm).2) (fun g_ => (fun (g_ : k_ = gb) e2_ => Kd.R_ne HO_336006.out BK.out (by decide) ((congrArg some g_).symm.trans e2_)) g_)); (case side6 => exact GE.out); rintro e w41 ⟨v357, v360, rfl, hbk, ho0, ho1, hb, hkp⟩; refine ⟨_, rfl, ?_⟩; have n0_ := Aside0.mk (Kd.V_mono (ok' := fun k_ => ((P0_6_ k_ ∨ P0_7_ k_ ∨ P1_ k_) ∨ w.heap.size ≤ k_) ∧ k_ ≠ gb ∧ some k_ ≠ (v357 : Value).ownBlock ∧ some k_ ≠ (v360 : Value).ownBlock) (Kd.V_keptB (HO_1.out) hkp (fun k_ hk_ hs_ => Or.elim hs_ (fun e_ => (hk_.2.1) e_) (fun h_ => Or.elim h_ (fun e_ => (hk_.2.2.1) e_) (fun g_ => hk_.2.2.2 g_)))) (fun k_ hk_ => ⟨hk_.1.1, hk_.1.2.2.2, fun e_ => Or.elim (ho0.1 k_ e_.symm).1 (fun hs_ => hk_.2.1 hs_) (fun hn_ => Nat.not_le.2 hk_.2.2 hn_), fun e_ => Or.elim (ho1.1 k_ e_.symm).1 (fun hs_ => hk_.2.1 hs_) (fun hn_ => Nat.not_le.2 hk_.2.2 hn_)⟩)); have n1_ := Aside0.mk hbk; have n2_ := Aside0.mk (Kd.V_mono (ok' := fun k_ => ((P0_6_ k_ ∨ P0_7_ k_ ∨ P1_ k_) ∨ w.heap.size ≤ k_) ∧ k_ ≠ gb ∧ some k_ ≠ (v357 : Value).ownBlock ∧ some k_ ≠ (v360 : Value).ownBlock) (Kd.V_keptB (HO341.out) hkp (fun k_ hk_ hs_ => Or.elim hs_ (fun e_ => (hk_.2.1) e_) (fun h_ => Or.elim h_ (fun e_ => (hk_.2.2.1) e_) (fun g_ => hk_.2.2.2 g_)))) (fun k_ hk_ => ⟨hk_.1.1, hk_.1.2.2.2, fun e_ => Or.elim (ho0.1 k_ e_.symm).1 (fun hs_ => hk_.2.1 hs_) (fun hn_ => Nat.not_le.2 hk_.2.2 hn_), fun e_ => Or.elim (ho1.1 k_ e_.symm).1 (fun hs_ => hk_.2.1 hs_) (fun hn_ => Nat.not_le.2 hk_.2.2 hn_)⟩)); have n3_ := Aside0.mk (Kd.V_mono (ok' := fun k_ => ((P0_6_ k_ ∨ P0_7_ k_ ∨ P1_ k_) ∨ w.heap.size ≤ k_) ∧ k_ ≠ gb ∧ some k_ ≠ (v357 : Value).ownBlock ∧ some k_ ≠ (v360 : Value).ownBlock) (Kd.V_keptB (HO349.out) hkp (fun k_ hk_ hs_ => Or.elim hs_ (fun e_ => (hk_.2.1) e_) (fun h_ => Or.elim h_ (fun e_ => (hk_.2.2.1) e_) (fun g_ => hk_.2.2.2 g_)))) (fun k_ hk_ => ⟨hk_.1.1, hk_.1.2.2.2, fun e_ => Or.elim (ho0.1 k_ e_.symm).1 (fun hs_ => hk_.2.1 hs_) (fun hn_ => Nat.not_le.2 hk_.2.2 hn_), fun e_ => Or.elim (ho1.1 k_ e_.symm).1 (fun hs_ => hk_.2.1 hs_) (fun hn_ => Nat.not_le.2 hk_.2.2 hn_)⟩)); have n4_ := Aside0.mk (Kd.R_mono (ok' := fun k_ => ((P0_6_ k_ ∨ P0_7_ k_) ∨ w.heap.size ≤ k_) ∧ some k_ ≠ (v360 : Value).ownBlock) ho0 (fun k_ hk_ => ⟨Or.elim hk_.1 (fun hs_ => Or.elim hs_ (fun hs_ => (HO_336006.out.1 k_ (hs_).symm).1) (fun hs_ => Or.elim hs_ (fun hs_ => (HO344.out.1 k_ (hs_).symm).1) (fun g_ => .inl (.inr (g_ ▸ pg))))) (fun hn_ => (.inr (Nat.le_trans (by first | exact HK.out.1 | exact (show Kept w _ (fun k_ => P0_6_ k_ ∨ P0_7_ k_) from by repeat (first | (with_reducible first | exact HK.out | apply Kept.alloc | apply Kept.drewN | apply Kept.drew | refine Kept.setCell ?_ (.inl (.inr pg)) _) | exact HK.out)).1) hn_))), hk_.2⟩)); have n5_ := Aside0.mk (Kd.R_mono (ok' := fun k_ => ((P0_6_ k_ ∨ P0_7_ k_) ∨ w.heap.size ≤ k_) ∧ some k_ ≠ (v357 : Value).ownBlock) ho1 (fun k_ hk_ => ⟨Or.elim hk_.1 (fun hs_ => Or.elim hs_ (fun hs_ => (HO_336006.out.1 k_ (hs_).symm).1) (fun hs_ => Or.elim hs_ (fun hs_ => (HO344.out.1 k_ (hs_).symm).1) (fun g_ => .inl (.inr (g_ ▸ pg))))) (fun hn_ => (.inr (Nat.le_trans (by first | exact HK.out.1 | exact (show Kept w _ (fun k_ => P0_6_ k_ ∨ P0_7_ k_) from by repeat (first | (with_reducible first | exact HK.out | apply Kept.alloc | apply Kept.drewN | apply Kept.drew | refine Kept.setCell ?_ (.inl (.inr pg)) _) | exact HK.out)).1) hn_))), hk_.2⟩)); have n6_ := Aside0.mk (Kept.then_ (S := (fun k_ => P0_6_ k_ ∨ P0_7_ k_)) (by repeat (first | (with_reducible first | exact HK.out | apply Kept.alloc | apply Kept.drewN | apply Kept.drew | refine Kept.setCell ?_ (.inl (.inr pg)) _) | exact HK.out)) hkp (fun k_ hs_ => Or.elim hs_ (fun e_ => (fun e_ => (HO_336006.out.1 k_ e_.symm).1) e_) (fun h_ => Or.elim h_ (fun e_ => (HO344.out.1 k_ e_.symm).1) (fun g_ => .inl (.inr (g_ ▸ pg)))))); have n7_ := Aside0.mk (hb); clear HO_1; clear BK; clear HO341; clear HO349; clear HK; clear HB; clear HO344; clear HO_336006; have HO_1 := n0_; have BK := n1_; have HO341 := n2_; have HO349 := n3_; have HO358 := n4_; have HO361 := n5_; have HK := n6_; have HB := n7_; clear n0_ n1_ n2_ n3_ n4_ n5_ n6_ n7_; (try clear hb); (try clear hkp); (try clear hbk); (try clear ho0); (try clear ho1); have hcz42_0 : w41.cell? ⟨gb, 0, none⟩ = some (.int .i64 t350) := (blk_cell BK.out 0).trans rfl; have hcz42_1 : w41.cell? ⟨gb, 1, none⟩ = some (.int .i64 t351) := (blk_cell BK.out 1).trans rfl; have hcz42_2 : w41.cell? ⟨gb, 2, none⟩ = some (.int .i64 t352) := (blk_cell BK.out 2).trans rfl; have hcz42_3 : w41.cell? ⟨gb, 3, none⟩ = some (.int .i64 t353) := (blk_cell BK.out 3).trans rfl; have hcz42_4 : w41.cell? ⟨gb, 4, none⟩ = some (.int .i64 t354) := (blk_cell BK.out 4).trans rfl; have hcz42_5 : w41.cell? ⟨gb, 5, none⟩ = some (.int .i64 t355) := (blk_cell BK.out 5).trans rfl; have hcz42_6 : w41.cell? ⟨gb, 6, none⟩ = some (v357) := (blk_cell BK.out 6).trans rfl; have hcz42_7 : w41.cell? ⟨gb, 7, none⟩ = some (v360) := (blk_cell BK.out 7).trans rfl; have hcz42_8 : w41.cell? ⟨gb, 8, none⟩ = some (.int .i64 t362) := (blk_cell BK.out 8).trans rfl; have hcz42_9 : w41.cell? ⟨gb, 9, none⟩ = some (.bool t363) := (blk_cell BK.out 9).trans rfl; have hfz42_0 := blk_frozen BK.out 0; have hfz42_1 := blk_frozen BK.out 1; have hfz42_2 := blk_frozen BK.out 2; have hfz42_3 := blk_frozen BK.out 3; have hfz42_4 := blk_frozen BK.out 4; have hfz42_5 := blk_frozen BK.out 5; have hfz42_6 := blk_frozen BK.out 6; have hfz42_7 := blk_frozen BK.out 7; have hfz42_8 := blk_frozen BK.out 8; have hfz42_9 := blk_frozen BK.out 9; obtain ⟨Ao43, co43, eo43⟩ := Kd.R_slice HO358.out; subst eo43; obtain ⟨Ao44, co44, eo44⟩ := Kd.R_slice HO361.out; subst eo44))
          go_roundg k1
          case measure => have := HK1.out; omega
          case rel => exact ⟨(y345), (t350), (t351), (t352), (t353), (t354), (t355), (t356), (t359), (t362), (t363), (.slice Ao43 t356.length co43), (.slice Ao44 t359.length co44), H', ⟨by have := HK1.out; omega⟩, ⟨by (with_reducible repeat (first | apply Kd.V_alloc | apply Kd.V_drewN | apply Kd.V_drew)); exact Kd.V_mono HO349.out (fun _ hk => ⟨hk.1, ⟨hk.2.2.1, ⟨hk.2.2.2, hk.2.1⟩⟩⟩)⟩, ⟨by (with_reducible repeat (first | apply Kd.R_alloc | apply Kd.R_drewN | apply Kd.R_drew)); exact HO358.out⟩, ⟨by (with_reducible repeat (first | apply Kd.R_alloc | apply Kd.R_drewN | apply Kd.R_drew)); exact HO361.out⟩, ⟨by (with_reducible repeat (first | refine blk_drewN ?_ _ | refine blk_drew ?_ | refine blk_alloc ?_ _)); exact BK.out⟩, ⟨by repeat (first | (with_reducible first | exact HK.out | apply Kept.alloc | apply Kept.drewN | apply Kept.drew | refine Kept.setCell ?_ (.inl (.inr pg)) _) | exact HK.out)⟩, ⟨by repeat (first | (with_reducible first | exact HB.out | apply below_alloc | apply pw_below_drewN | apply below_drew1 | refine below_set ?_ GE.out) | exact HB.out)⟩⟩
         ·rw [if_neg c26] at H
          have c26b0 : ((y342.length : Int) == x336003_1) = false := beq_eq_false_iff_ne.mpr c26
          have c26b1 : ((y342.length : Int) != x336003_1) = true := bne_iff_ne.mpr c26
          have H' := Aside0.mk H
          clear H
          obtain ⟨Ao45, co45, eo45⟩ := Kd.V_slice HO_1.out
          subst eo45
          try go_wp2
          have n0_ := Aside0.mk (Kd.V_drew HO_1.out)
          have n1_ := Aside0.mk (Kd.R_drew HO_336006.out)
          have n2_ := Aside0.mk (Kd.R_drew HO_336007.out)
          have n3_ := Aside0.mk (blk_drew BK.out)
          have n4_ := Aside0.mk (Kept.drew HK.out)
          have n5_ := Aside0.mk (below_drew1 HB.out)
          clear HO_1
          clear HO_336006
          clear HO_336007
          clear BK
          clear HK
          clear HB
          have HO_1 := n0_
          have HO_336006 := n1_
          have HO_336007 := n2_
          have BK := n3_
          have HK := n4_
          have HB := n5_
          clear n0_ n1_ n2_ n3_ n4_ n5_
          obtain ⟨Ao47, co47, eo47⟩ := Kd.R_slice HO_336007.out
          (first | subst eo47 | (injection eo47 with f1_ f2_ f3_; have f4_ := f1_.symm; have f5_ := f3_.symm; clear f1_ f2_ f3_; subst f4_; subst f5_))
          refine start_ (n := 15) (S := fun w' => w'.cell? ⟨gb, 0, none⟩ = some (.int .i64 x336000_1) ∧ w'.cell? ⟨gb, 1, none⟩ = some (.int .i64 x336001_1) ∧ w'.cell? ⟨gb, 2, none⟩ = some (.int .i64 x336002_1) ∧ w'.cell? ⟨gb, 3, none⟩ = some (.int .i64 x336003_1) ∧ w'.cell? ⟨gb, 4, none⟩ = some (.int .i64 x336004_1) ∧ w'.cell? ⟨gb, 5, none⟩ = some (.int .i64 x336005_1) ∧ w'.cell? ⟨gb, 6, none⟩ = some (u336006) ∧ w'.cell? ⟨gb, 7, none⟩ = some (.slice Ao47 x336007_1.length co47) ∧ w'.cell? ⟨gb, 8, none⟩ = some (.int .i64 x336008_1) ∧ w'.cell? ⟨gb, 9, none⟩ = some (.bool x336009_1)) (ds := []) #[false, false, false, false, false, false, false, false, false, false, false, false, false, false, false] (by kernel_rfl) rfl rfl ⟨(blk_cell BK.out 0).trans rfl, (blk_cell BK.out 1).trans rfl, (blk_cell BK.out 2).trans rfl, (blk_cell BK.out 3).trans rfl, (blk_cell BK.out 4).trans rfl, (blk_cell BK.out 5).trans rfl, (blk_cell BK.out 6).trans rfl, (blk_cell BK.out 7).trans rfl, (blk_cell BK.out 8).trans rfl, (blk_cell BK.out 9).trans rfl⟩ (fun hHeld => ?_); refine with_tabW shard_Writer_Add.tab7 shard_Writer_Add.bits7 (fun HT_ HW_ => ?_)
          generalize wr.drew = w46 at HO_1 HO_336006 HO_336007 BK HK HB hHeld ⊢
          refine pure_ (i := 0) (N := some 36) (v := ?_) (a' := ?_) #[true, false, false, false, false, false, false, false, false, false, false, false, false, false, false] rfl rfl (any_of HT_.out (by kernel_rfl)) (fun _ _ _ h => h) (Or.inl ⟨by rfl, ?_⟩) ?_ ?_
          rotate_left
          ·intro w'
           go_simp
           with_reducible rfl
          rotate_left
          ·simp only [Act.put, List.setIfInBounds_toArray, List.set_cons_zero, List.set_cons_succ, i64_w, i32_w]
           rfl
          refine pure_ (i := 1) (N := some 37) (v := ?_) (a' := ?_) #[true, true, false, false, false, false, false, false, false, false, false, false, false, false, false] rfl rfl (any_of HT_.out (by kernel_rfl)) (fun _ _ _ h => h) (Or.inl ⟨by rfl, ?_⟩) ?_ ?_
          rotate_left
          ·intro w'
           go_simp
           with_reducible rfl
          rotate_left
          ·simp only [Act.put, List.setIfInBounds_toArray, List.set_cons_zero, List.set_cons_succ, i64_w, i32_w]
           rfl
          refine pure_ (i := 2) (N := some 38) (v := ?_) (a' := ?_) #[true, true, true, false, false, false, false, false, false, false, false, false, false, false, false] rfl rfl (any_of HT_.out (by kernel_rfl)) (fun _ _ _ h => h) (Or.inl ⟨by rfl, ?_⟩) ?_ ?_
          rotate_left
          ·intro w'
           go_simp
           with_reducible rfl
          rotate_left
          ·simp only [Act.put, List.setIfInBounds_toArray, List.set_cons_zero, List.set_cons_succ, i64_w, i32_w]
           rfl
          refine pure_ (i := 3) (N := some 39) (v := ?_) (a' := ?_) #[true, true, true, true, false, false, false, false, false, false, false, false, false, false, false] rfl rfl (any_of HT_.out (by kernel_rfl)) (fun _ _ _ h => h) (Or.inl ⟨by rfl, ?_⟩) ?_ ?_
          rotate_left
          ·intro w'
           go_simp
           with_reducible rfl
          rotate_left
          ·simp only [Act.put, List.setIfInBounds_toArray, List.set_cons_zero, List.set_cons_succ, i64_w, i32_w]
           rfl
          refine pure_ (i := 5) (N := some 41) (v := ?_) (a' := ?_) #[true, true, true, true, false, true, false, false, false, false, false, false, false, false, false] rfl rfl (any_of HT_.out (by kernel_rfl)) (fun _ _ _ h => h) (Or.inl ⟨by rfl, ?_⟩) ?_ ?_
          rotate_left
          ·intro w'
           go_simp
           with_reducible rfl
          rotate_left
          ·simp only [Act.put, List.setIfInBounds_toArray, List.set_cons_zero, List.set_cons_succ, i64_w, i32_w]
           rfl
          refine pure_ (i := 6) (N := some 42) (v := ?_) (a' := ?_) #[true, true, true, true, false, true, true, false, false, false, false, false, false, false, false] rfl rfl (any_of HT_.out (by kernel_rfl)) (fun _ _ _ h => h) (Or.inl ⟨by rfl, ?_⟩) ?_ ?_
          rotate_left
          ·intro w'
           go_simp
           with_reducible rfl
          rotate_left
          ·simp only [Act.put, List.setIfInBounds_toArray, List.set_cons_zero, List.set_cons_succ, i64_w, i32_w]
           rfl
          refine pure_ (i := 7) (N := some 43) (v := ?_) (a' := ?_) #[true, true, true, true, false, true, true, true, false, false, false, false, false, false, false] rfl rfl (any_of HT_.out (by kernel_rfl)) (fun _ _ _ h => h) (Or.inl ⟨by rfl, ?_⟩) ?_ ?_
          rotate_left
          ·intro w'
           go_simp
           with_reducible rfl
          rotate_left
          ·simp only [Act.put, List.setIfInBounds_toArray, List.set_cons_zero, List.set_cons_succ, i64_w, i32_w]
           rfl
          refine pure_ (i := 11) (N := some 47) (v := ?_) (a' := ?_) #[true, true, true, true, false, true, true, true, false, false, false, true, false, false, false] rfl rfl (any_of HT_.out (by kernel_rfl)) (fun _ _ _ h => h) (Or.inl ⟨by rfl, ?_⟩) ?_ ?_
          rotate_left
          ·intro w'
           go_simp
           with_reducible rfl
          rotate_left
          ·simp only [Act.put, List.setIfInBounds_toArray, List.set_cons_zero, List.set_cons_succ, i64_w, i32_w]
           rfl
          refine pure_ (i := 12) (N := some 48) (v := ?_) (a' := ?_) #[true, true, true, true, false, true, true, true, false, false, false, true, true, false, false] rfl rfl (any_of HT_.out (by kernel_rfl)) (fun _ _ _ h => h) (Or.inl ⟨by rfl, ?_⟩) ?_ ?_
          rotate_left
          ·intro w'
           go_simp
           with_reducible rfl
          rotate_left
          ·simp only [Act.put, List.setIfInBounds_toArray, List.set_cons_zero, List.set_cons_succ, i64_w, i32_w]
           rfl
          refine take_ (i := 4) (N := some 40) (v := ?_) (a' := ?_) #[true, true, true, true, true, true, true, true, false, false, false, true, true, false, false] rfl rfl (take_ofW HT_.out HW_.out (by kernel_rfl)) (fun _ _ _ h => h) (Or.inl ⟨by rfl, ?_⟩) hHeld ?_ ?_
          rotate_left
          ·rintro w' ⟨s0, s1, s2, s3, s4, s5, s6, s7, s8, s9⟩
           go_simp
           with_reducible rfl
          rotate_left
          ·simp only [Act.put, List.setIfInBounds_toArray, List.set_cons_zero, List.set_cons_succ, i64_w, i32_w]
           rfl
          refine take_ (i := 8) (N := some 44) (v := ?_) (a' := ?_) #[true, true, true, true, true, true, true, true, true, false, false, true, true, false, false] rfl rfl (take_ofW HT_.out HW_.out (by kernel_rfl)) (fun _ _ _ h => h) (Or.inl ⟨by rfl, ?_⟩) hHeld ?_ ?_
          rotate_left
          ·rintro w' ⟨s0, s1, s2, s3, s4, s5, s6, s7, s8, s9⟩
           go_simp
           with_reducible rfl
          rotate_left
          ·simp only [Act.put, List.setIfInBounds_toArray, List.set_cons_zero, List.set_cons_succ, i64_w, i32_w]
           rfl
          refine pure_ (i := 9) (N := some 45) (v := ?_) (a' := ?_) #[true, true, true, true, true, true, true, true, true, true, false, true, true, false, false] rfl rfl (any_of HT_.out (by kernel_rfl)) (fun _ _ _ h => h) (Or.inl ⟨by rfl, ?_⟩) ?_ ?_
          rotate_left
          ·intro w'
           go_simp
           with_reducible rfl
          rotate_left
          ·simp only [Act.put, List.setIfInBounds_toArray, List.set_cons_zero, List.set_cons_succ, i64_w, i32_w]
           rfl
          refine pure_ (i := 10) (N := some 46) (v := ?_) (a' := ?_) #[true, true, true, true, true, true, true, true, true, true, true, true, true, false, false] rfl rfl (any_of HT_.out (by kernel_rfl)) (fun _ _ _ h => h) (Or.inl ⟨by rfl, ?_⟩) ?_ ?_
          rotate_left
          ·intro w'
           go_simp
           with_reducible rfl
          rotate_left
          ·simp only [Act.put, List.setIfInBounds_toArray, List.set_cons_zero, List.set_cons_succ, i64_w, i32_w]
           rfl
          refine pure_ (i := 13) (N := some 49) (v := ?_) (a' := ?_) #[true, true, true, true, true, true, true, true, true, true, true, true, true, true, false] rfl rfl (any_of HT_.out (by kernel_rfl)) (fun _ _ _ h => h) (Or.inl ⟨by rfl, ?_⟩) ?_ ?_
          rotate_left
          ·intro w'
           go_simp
           with_reducible rfl
          rotate_left
          ·simp only [Act.put, List.setIfInBounds_toArray, List.set_cons_zero, List.set_cons_succ, i64_w, i32_w]
           rfl
          refine pure_ (i := 14) (N := some 5) (v := ?_) (a' := ?_) #[true, true, true, true, true, true, true, true, true, true, true, true, true, true, true] rfl rfl (any_of HT_.out (by kernel_rfl)) (fun _ _ _ h => h) (Or.inl ⟨by rfl, ?_⟩) ?_ ?_
          rotate_left
          ·intro w'
           go_simp
           with_reducible rfl
          rotate_left
          ·simp only [Act.put, List.setIfInBounds_toArray, List.set_cons_zero, List.set_cons_succ, i64_w, i32_w]
           rfl
          refine done_ (done_of HT_.out (by kernel_rfl)) ?_
          try go_wp2
          have n0_ := Aside0.mk (Kd.V_drew HO_1.out)
          have n1_ := Aside0.mk (Kd.R_drew HO_336006.out)
          have n2_ := Aside0.mk (Kd.R_drew HO_336007.out)
          have n3_ := Aside0.mk (blk_drew BK.out)
          have n4_ := Aside0.mk (Kept.drew HK.out)
          have n5_ := Aside0.mk (below_drew1 HB.out)
          clear HO_1
          clear HO_336006
          clear HO_336007
          clear BK
          clear HK
          clear HB
          have HO_1 := n0_
          have HO_336006 := n1_
          have HO_336007 := n2_
          have BK := n3_
          have HK := n4_
          have HB := n5_
          clear n0_ n1_ n2_ n3_ n4_ n5_
          have q49 : ((ji20) : Int) ≤ ((x1_1.length : Int) : Int) := of_decide_eq_true (by first | (with_reducible assumption) | assumption)
          obtain ⟨i049, hi049, _, hsz49, _⟩ := info_parts info5
          have hroom49 : x1_1.length ≤ co45 := (Kd.V_reads' HO_1.out).2.1
          have hC49 : Kd.F (Kd.int .u8) _ _ Ao45 x1_1.length x1_1 := (Kd.V_at (base := w0.heap.size) HO_1.out).2.2
          have hcut49 := cut_to (P := Try.prog) 22 5 .i64 Try.underlying22 hi049 Ao45 x1_1.length co45 (ji20) (of_decide_eq_true (by first | (with_reducible assumption) | assumption)) q49 hroom49
          have hr49 := Kd.F_take (m := ((ji20) : Int).toNat) hC49 (by omega)
          have hy49 : y337.length = ((ji20) : Int).toNat := (by rw [Ny337.out, List.length_take]; omega)
          rw [← Ny337.out] at hr49
          rw [← hy49] at hcut49
          have HO341 := Aside0.mk (show Kd.V (Kd.int .u8) 5 _ w0.heap.size _ (.slice Ao45 y337.length co45) y337 from Kd.V_mk (by omega) hr49)
          have HC341 := Aside0.mk (show y337.length ≤ co45 from by omega)
          clear hr49 hC49 hroom49 hi049 hsz49
          have KY49 := Aside0.mk hy49
          clear hy49
          replace q49 := eq_true q49
          have q50 : ((ji20) : Int) ≤ ((x1_1.length : Int) : Int) := of_decide_eq_true (by first | (with_reducible assumption) | assumption)
          obtain ⟨i050, hi050, _, hsz50, _⟩ := info_parts info5
          have hroom50 : x1_1.length ≤ co45 := (Kd.V_reads' HO_1.out).2.1
          have hC50 : Kd.F (Kd.int .u8) _ _ Ao45 x1_1.length x1_1 := (Kd.V_at (base := w0.heap.size) HO_1.out).2.2
          have q050 : (0 : Int) ≤ ((ji20) : Int) := of_decide_eq_true (by first | (with_reducible assumption) | assumption)
          have hcut50 := cut_from (P := Try.prog) 22 5 .i64 Try.underlying22 hi050 1 hsz50 Ao45 x1_1.length co45 (ji20) q050 q50
          have hr50 := Kd.F_cut (m := ((ji20) : Int).toNat) (c := co45) hC50 (by omega) hroom50
          obtain ⟨A50, hA50⟩ : ∃ A1, A1 = (if co45 = ((ji20) : Int).toNat then Ao45 else (Ao45 : Option Addr).map (·.add (((ji20) : Int).toNat * 1))) := ⟨_, rfl⟩
          obtain ⟨c50, hc50⟩ : ∃ c1, c1 = co45 - ((ji20) : Int).toNat := ⟨_, rfl⟩
          have hy50 : y345.length = x1_1.length - ((ji20) : Int).toNat := (by rw [Ny345.out, List.length_drop] <;> omega)
          rw [show (x1_1).drop ((ji20) : Int).toNat = y345 from Ny345.out.symm] at hr50
          replace hr50 : Kd.F (Kd.int .u8) _ _ A50 y345.length y345 := (by rw [hA50]; exact hr50)
          rw [← hy50, ← hA50, ← hc50] at hcut50
          have HO349 := Aside0.mk (show Kd.V (Kd.int .u8) 5 _ w0.heap.size _ (.slice A50 y345.length c50) y345 from Kd.V_mk (by rw [hy50, hc50]; exact Nat.sub_le_sub_right hroom50 _) hr50)
          have HC349 := Aside0.mk (show y345.length ≤ c50 from by rw [hy50, hc50]; exact Nat.sub_le_sub_right hroom50 _)
          clear hr50 hC50 hroom50 hi050 hsz50 hc50
          have KY50 := Aside0.mk hy50
          have KA50 := Aside0.mk hA50
          clear hy50 hA50
          replace q50 := eq_true q50
          refine start_ (n := 16) (S := fun w' => w'.cell? ⟨gb, 0, none⟩ = some (.int .i64 x336000_1) ∧ w'.cell? ⟨gb, 1, none⟩ = some (.int .i64 x336001_1) ∧ w'.cell? ⟨gb, 2, none⟩ = some (.int .i64 x336002_1) ∧ w'.cell? ⟨gb, 3, none⟩ = some (.int .i64 x336003_1) ∧ w'.cell? ⟨gb, 4, none⟩ = some (.int .i64 x336004_1) ∧ w'.cell? ⟨gb, 5, none⟩ = some (.int .i64 x336005_1) ∧ w'.cell? ⟨gb, 6, none⟩ = some (u336006) ∧ w'.cell? ⟨gb, 7, none⟩ = some (.slice Ao47 x336007_1.length co47) ∧ w'.cell? ⟨gb, 8, none⟩ = some (.int .i64 x336008_1) ∧ w'.cell? ⟨gb, 9, none⟩ = some (.bool x336009_1)) (ds := [14]) #[false, false, false, false, false, false, false, false, false, false, false, false, false, false, false, false] (by kernel_rfl) rfl rfl ⟨(blk_cell BK.out 0).trans rfl, (blk_cell BK.out 1).trans rfl, (blk_cell BK.out 2).trans rfl, (blk_cell BK.out 3).trans rfl, (blk_cell BK.out 4).trans rfl, (blk_cell BK.out 5).trans rfl, (blk_cell BK.out 6).trans rfl, (blk_cell BK.out 7).trans rfl, (blk_cell BK.out 8).trans rfl, (blk_cell BK.out 9).trans rfl⟩ (fun hHeld => ?_); refine with_tabW shard_Writer_Add.tab8 shard_Writer_Add.bits8 (fun HT_ HW_ => ?_)
          generalize w46.drew = w48 at HO_1 HO_336006 HO_336007 BK HK HB HO341 HO349 hHeld ⊢
          refine pure_ (i := 0) (N := some 50) (v := ?_) (a' := ?_) #[true, false, false, false, false, false, false, false, false, false, false, false, false, false, false, false] rfl rfl (any_of HT_.out (by kernel_rfl)) (fun _ _ _ h => h) (Or.inl ⟨by rfl, ?_⟩) ?_ ?_
          rotate_left
          ·intro w'
           go_simp
           with_reducible rfl
          rotate_left
          ·simp only [Act.put, List.setIfInBounds_toArray, List.set_cons_zero, List.set_cons_succ, i64_w, i32_w]
           rfl
          refine pure_ (i := 1) (N := some 51) (v := ?_) (a' := ?_) #[true, true, false, false, false, false, false, false, false, false, false, false, false, false, false, false] rfl rfl (any_of HT_.out (by kernel_rfl)) (fun _ _ _ h => h) (Or.inl ⟨by rfl, ?_⟩) ?_ ?_
          rotate_left
          ·intro w'
           go_simp
           with_reducible rfl
          rotate_left
          ·simp only [Act.put, List.setIfInBounds_toArray, List.set_cons_zero, List.set_cons_succ, i64_w, i32_w]
           rfl
          refine pure_ (i := 2) (N := some 52) (v := ?_) (a' := ?_) #[true, true, true, false, false, false, false, false, false, false, false, false, false, false, false, false] rfl rfl (any_of HT_.out (by kernel_rfl)) (fun _ _ _ h => h) (Or.inl ⟨by rfl, ?_⟩) ?_ ?_
          rotate_left
          ·intro w'
           go_simp
           with_reducible rfl
          rotate_left
          ·simp only [Act.put, List.setIfInBounds_toArray, List.set_cons_zero, List.set_cons_succ, i64_w, i32_w]
           rfl
          refine pure_ (i := 3) (N := some 53) (v := ?_) (a' := ?_) #[true, true, true, true, false, false, false, false, false, false, false, false, false, false, false, false] rfl rfl (any_of HT_.out (by kernel_rfl)) (fun _ _ _ h => h) (Or.inl ⟨by rfl, ?_⟩) ?_ ?_
          rotate_left
          ·intro w'
           go_simp
           with_reducible rfl
          rotate_left
          ·simp only [Act.put, List.setIfInBounds_toArray, List.set_cons_zero, List.set_cons_succ, i64_w, i32_w]
           rfl
          refine pure_ (i := 5) (N := some 55) (v := ?_) (a' := ?_) #[true, true, true, true, false, true, false, false, false, false, false, false, false, false, false, false] rfl rfl (any_of HT_.out (by kernel_rfl)) (fun _ _ _ h => h) (Or.inl ⟨by rfl, ?_⟩) ?_ ?_
          rotate_left
          ·intro w'
           go_simp
           with_reducible rfl
          rotate_left
          ·simp only [Act.put, List.setIfInBounds_toArray, List.set_cons_zero, List.set_cons_succ, i64_w, i32_w]
           rfl
          refine pure_ (i := 6) (N := some 56) (v := ?_) (a' := ?_) #[true, true, true, true, false, true, true, false, false, false, false, false, false, false, false, false] rfl rfl (any_of HT_.out (by kernel_rfl)) (fun _ _ _ h => h) (Or.inl ⟨by rfl, ?_⟩) ?_ ?_
          rotate_left
          ·intro w'
           go_simp
           with_reducible rfl
          rotate_left
          ·simp only [Act.put, List.setIfInBounds_toArray, List.set_cons_zero, List.set_cons_succ, i64_w, i32_w]
           rfl
          refine pure_ (i := 7) (N := some 57) (v := ?_) (a' := ?_) #[true, true, true, true, false, true, true, true, false, false, false, false, false, false, false, false] rfl rfl (any_of HT_.out (by kernel_rfl)) (fun _ _ _ h => h) (Or.inl ⟨by rfl, ?_⟩) ?_ ?_
          rotate_left
          ·intro w'
           go_simp
           with_reducible rfl
          rotate_left
          ·simp only [Act.put, List.setIfInBounds_toArray, List.set_cons_zero, List.set_cons_succ, i64_w, i32_w]
           rfl
          refine pure_ (i := 9) (N := some 59) (v := ?_) (a' := ?_) #[true, true, true, true, false, true, true, true, false, true, false, false, false, false, false, false] rfl rfl (any_of HT_.out (by kernel_rfl)) (fun _ _ _ h => h) (Or.inl ⟨by rfl, ?_⟩) ?_ ?_
          rotate_left
          ·intro w'
           go_simp
           with_reducible rfl
          rotate_left
          ·simp only [Act.put, List.setIfInBounds_toArray, List.set_cons_zero, List.set_cons_succ, i64_w, i32_w]
           rfl
          refine pure_ (i := 10) (N := some 60) (v := ?_) (a' := ?_) #[true, true, true, true, false, true, true, true, false, true, true, false, false, false, false, false] rfl rfl (any_of HT_.out (by kernel_rfl)) (fun _ _ _ h => h) (Or.inl ⟨by rfl, ?_⟩) ?_ ?_
          rotate_left
          ·intro w'
           go_simp
           with_reducible rfl
          rotate_left
          ·simp only [Act.put, List.setIfInBounds_toArray, List.set_cons_zero, List.set_cons_succ, i64_w, i32_w]
           rfl
          refine pure_ (i := 11) (N := some 61) (v := ?_) (a' := ?_) #[true, true, true, true, false, true, true, true, false, true, true, true, false, false, false, false] rfl rfl (any_of HT_.out (by kernel_rfl)) (fun _ _ _ h => h) (Or.inl ⟨by rfl, ?_⟩) ?_ ?_
          rotate_left
          ·intro w'
           go_simp
           with_reducible rfl
          rotate_left
          ·simp only [Act.put, List.setIfInBounds_toArray, List.set_cons_zero, List.set_cons_succ, i64_w, i32_w]
           rfl
          refine take_ (i := 4) (N := some 54) (v := ?_) (a' := ?_) #[true, true, true, true, true, true, true, true, false, true, true, true, false, false, false, false] rfl rfl (take_ofW HT_.out HW_.out (by kernel_rfl)) (fun _ _ _ h => h) (Or.inl ⟨by rfl, ?_⟩) hHeld ?_ ?_
          rotate_left
          ·rintro w' ⟨s0, s1, s2, s3, s4, s5, s6, s7, s8, s9⟩
           go_simp
           with_reducible rfl
          rotate_left
          ·simp only [Act.put, List.setIfInBounds_toArray, List.set_cons_zero, List.set_cons_succ, i64_w, i32_w]
           rfl
          refine one_ (i := 8) (N := some 58) #[true, true, true, true, true, true, true, true, true, true, true, true, false, false, false, false] rfl rfl (one_of HT_.out (by kernel_rfl)) (by decide) (fun K hK => ?_)
          refine Kd.R_append_rows_step (Kd.int .u8) (w0 := w0) w0.heap.size (by rfl) (.tmp 54) (.tmp 57) 22 5 (.int .u8 0) 1 rfl Try.underlying22 info5 rfl (by decide) (by omega) (.slice Ao47 x336007_1.length co47) x336007_1 y337 _ _ _ (fun k_ => ((P0_6_ k_ ∨ P0_7_ k_) ∨ w.heap.size ≤ k_) ∧ some k_ ≠ (u336006 : Value).ownBlock) (fun _ => False) rfl rfl ?aO ?aR (fun _ _ h => h) (fun _ h => h.elim) ?aF ?aB ?aS ?aL ?_
          (case aR => repeat (first | exact (Kd.V_reads' HO341.out).2.2 | (with_reducible refine Kd.C_alloc ?_ _) | (with_reducible refine Kd.C_drewN ?_ _) | (with_reducible refine Kd.C_drew ?_)))
          (case aB => exact (by repeat (first | (with_reducible first | exact HB.out | apply below_alloc | apply pw_below_drewN | apply below_drew1 | refine below_set ?_ GE.out) | exact HB.out)))
          (case aF => exact (fun k_ hk => ⟨(.inr (Nat.le_trans (by first | exact HK.out.1 | exact (show Kept w _ (fun k_ => P0_6_ k_ ∨ P0_7_ k_) from by repeat (first | (with_reducible first | exact HK.out | apply Kept.alloc | apply Kept.drewN | apply Kept.drew | refine Kept.setCell ?_ (.inl (.inr pg)) _) | exact HK.out)).1) hk)), Kd.fresh' (Kd.R_lt (by (with_reducible repeat (first | apply Kd.R_alloc | apply Kd.R_drewN | apply Kd.R_drew)); exact HO_336006.out)) k_ hk⟩))
          (case aO => exact (by (with_reducible repeat (first | apply Kd.R_alloc | apply Kd.R_drewN | apply Kd.R_drew)); exact HO_336007.out))
          (case aS => exact (below_size (by repeat (first | (with_reducible first | exact HB.out | apply below_alloc | apply pw_below_drewN | apply below_drew1 | refine below_set ?_ GE.out) | exact HB.out))))
          (case aL => have := LMc23.out; omega)
          intro v343 w51 ho hb hg hat
          rw [← Ny342.out] at ho
          have n0_ := Aside0.mk (Kd.V_afterv (ok := (fun k_ => ((P0_6_ k_ ∨ P0_7_ k_ ∨ P1_ k_) ∨ w.heap.size ≤ k_) ∧ some k_ ≠ (u336006 : Value).ownBlock ∧ k_ ≠ gb)) (by (with_reducible repeat (first | apply Kd.V_alloc | apply Kd.V_drewN | apply Kd.V_drew)); exact Kd.V_mono HO_1.out (fun _ hk => ⟨⟨hk.1, ⟨hk.2.1, hk.2.2.2⟩⟩, hk.2.2.1⟩)) hg hat)
          have n1_ := Aside0.mk (Kd.R_after (ok := (fun k_ => ((P0_6_ k_ ∨ P0_7_ k_) ∨ w.heap.size ≤ k_))) (by (with_reducible repeat (first | apply Kd.R_alloc | apply Kd.R_drewN | apply Kd.R_drew)); exact HO_336006.out) hg hat)
          have n2_ := Aside0.mk (blk_grown (g := gb) (o := .cells #[.int .i64 x336000_1, .int .i64 x336001_1, .int .i64 x336002_1, .int .i64 x336003_1, .int .i64 x336004_1, .int .i64 x336005_1, u336006, .slice Ao47 x336007_1.length co47, .int .i64 x336008_1, .bool x336009_1] 105 (0, 0)) (by (with_reducible repeat (first | refine blk_drewN ?_ _ | refine blk_drew ?_ | refine blk_alloc ?_ _)); exact BK.out) hg (Kd.R_ne HO_336007.out BK.out (by decide)))
          have n3_ := Aside0.mk (Kd.V_afterv (ok := (fun k_ => ((P0_6_ k_ ∨ P0_7_ k_ ∨ P1_ k_) ∨ w.heap.size ≤ k_) ∧ some k_ ≠ (u336006 : Value).ownBlock ∧ k_ ≠ gb)) (by (with_reducible repeat (first | apply Kd.V_alloc | apply Kd.V_drewN | apply Kd.V_drew)); exact Kd.V_mono HO341.out (fun _ hk => ⟨⟨hk.1, ⟨hk.2.1, hk.2.2.2⟩⟩, hk.2.2.1⟩)) hg hat)
          have n4_ := Aside0.mk (Kd.V_afterv (ok := (fun k_ => ((P0_6_ k_ ∨ P0_7_ k_ ∨ P1_ k_) ∨ w.heap.size ≤ k_) ∧ some k_ ≠ (u336006 : Value).ownBlock ∧ k_ ≠ gb)) (by (with_reducible repeat (first | apply Kd.V_alloc | apply Kd.V_drewN | apply Kd.V_drew)); exact Kd.V_mono HO349.out (fun _ hk => ⟨⟨hk.1, ⟨hk.2.1, hk.2.2.2⟩⟩, hk.2.2.1⟩)) hg hat)
          have n5_ := Aside0.mk (hb)
          have n6_ := Aside0.mk (Kept.of_grown (S := (fun k_ => P0_6_ k_ ∨ P0_7_ k_)) hg (by repeat (first | (with_reducible first | exact HK.out | apply Kept.alloc | apply Kept.drewN | apply Kept.drew | refine Kept.setCell ?_ (.inl (.inr pg)) _) | exact HK.out)) (fun k_ e_ => (HO_336007.out.1 k_ e_).1))
          have n7_ := Aside0.mk (ho)
          clear HO_1
          clear HO_336006
          clear BK
          clear HO341
          clear HO349
          clear HB
          clear HK
          clear HO_336007
          have HO_1 := n0_
          have HO_336006 := n1_
          have BK := n2_
          have HO341 := n3_
          have HO349 := n4_
          have HB := n5_
          have HK := n6_
          have HO344 := n7_
          clear n0_ n1_ n2_ n3_ n4_ n5_ n6_ n7_
          clear ho hb hg hat
          obtain ⟨Ao52, co52, eo52⟩ := Kd.R_slice HO344.out
          (first | subst eo52 | (injection eo52 with f1_ f2_ f3_; have f4_ := f1_.symm; have f5_ := f3_.symm; clear f1_ f2_ f3_; subst f4_; subst f5_))
          refine hK.out _ _ ⟨(blk_cell BK.out 0).trans rfl, (blk_cell BK.out 1).trans rfl, (blk_cell BK.out 2).trans rfl, (blk_cell BK.out 3).trans rfl, (blk_cell BK.out 4).trans rfl, (blk_cell BK.out 5).trans rfl, (blk_cell BK.out 6).trans rfl, (blk_cell BK.out 7).trans rfl, (blk_cell BK.out 8).trans rfl, (blk_cell BK.out 9).trans rfl⟩ (fun hHeld => ?_)
          clear hK K
          refine norm_ (a' := ?_) ?_ ?_
          rotate_left
          ·show Act.put _ (some 58) _ = _
           simp only [Act.put, List.setIfInBounds_toArray, List.set_cons_zero, List.set_cons_succ, i64_w, i32_w]
           rfl
          refine pure_ (i := 12) (N := some 62) (v := ?_) (a' := ?_) #[true, true, true, true, true, true, true, true, true, true, true, true, true, false, false, false] rfl rfl (any_of HT_.out (by kernel_rfl)) (fun _ _ _ h => h) (Or.inl ⟨by rfl, ?_⟩) ?_ ?_
          rotate_left
          ·intro w'
           go_simp
           with_reducible rfl
          rotate_left
          ·simp only [Act.put, List.setIfInBounds_toArray, List.set_cons_zero, List.set_cons_succ, i64_w, i32_w]
           rfl
          refine pure_ (i := 13) (N := some 63) (v := ?_) (a' := ?_) #[true, true, true, true, true, true, true, true, true, true, true, true, true, true, false, false] rfl rfl (any_of HT_.out (by kernel_rfl)) (fun _ _ _ h => h) (Or.inl ⟨by rfl, ?_⟩) ?_ ?_
          rotate_left
          ·intro w'
           go_simp
           with_reducible rfl
          rotate_left
          ·simp only [Act.put, List.setIfInBounds_toArray, List.set_cons_zero, List.set_cons_succ, i64_w, i32_w]
           rfl
          refine last_ (i := 14) (N := none) #[true, true, true, true, true, true, true, true, true, true, true, true, true, true, true, false] rfl rfl (one_of HT_.out (by kernel_rfl)) (by decide) (fun K hK => ?_)
          have hs53 : w51.cell? ⟨gb, 7, none⟩ = some (.slice Ao47 x336007_1.length co47) := (blk_cell BK.out 7).trans rfl
          have hfs53 := blk_frozen BK.out 7
          refine skip_ (w1 := ?_) (by rfl) rfl ?_ ?_
          rotate_left
          ·go_simp
           rfl
          refine hK.out _ _ ?_
          clear hK K
          refine pure_ (i := 15) (N := some 1) (v := ?_) (a' := ?_) #[true, true, true, true, true, true, true, true, true, true, true, true, true, true, true, true] rfl rfl (any_of HT_.out (by kernel_rfl)) (fun _ _ _ h => h) (Or.inl ⟨by rfl, ?_⟩) ?_ ?_
          rotate_left
          ·intro w'
           go_simp
           with_reducible rfl
          rotate_left
          ·simp only [Act.put, List.setIfInBounds_toArray, List.set_cons_zero, List.set_cons_succ, i64_w, i32_w]
           rfl
          refine done_ (done_of HT_.out (by kernel_rfl)) ?_
          try go_wp2
          have n0_ : Aside0 (Kd.V (Kd.int .u8) 5 (w51.setCell ⟨gb, 7, none⟩ (.slice Ao52 y342.length co52)) w0.heap.size (fun k_ => ((P0_6_ k_ ∨ P0_7_ k_ ∨ P1_ k_) ∨ w.heap.size ≤ k_) ∧ some k_ ≠ (u336006 : Value).ownBlock ∧ some k_ ≠ (.slice Ao52 y342.length co52 : Value).ownBlock ∧ k_ ≠ gb) (.slice Ao45 x1_1.length co45) x1_1) := ⟨by (with_reducible repeat (first | apply Kd.V_alloc | apply Kd.V_drewN | apply Kd.V_drew)); exact Kd.V_mono (Kd.V_far (p := ⟨gb, 7, none⟩) (Kd.V_mono HO_1.out (fun k_ hk => (⟨hk, hk.1.2.2⟩ : _ ∧ k_ ≠ gb))) (fun _ hk => hk.2) (.slice Ao52 y342.length co52)) (fun _ hk => ⟨hk.1.1.1, ⟨hk.1.1.2.1, ⟨hk.1.2, hk.1.1.2.2⟩⟩⟩)⟩
          have n1_ : Aside0 (Kd.R (Kd.int .u8) 5 (w51.setCell ⟨gb, 7, none⟩ (.slice Ao52 y342.length co52)) w0.heap.size (fun k_ => ((P0_6_ k_ ∨ P0_7_ k_) ∨ w.heap.size ≤ k_) ∧ some k_ ≠ (.slice Ao52 y342.length co52 : Value).ownBlock) u336006 x336006_1) := ⟨by (with_reducible repeat (first | apply Kd.R_alloc | apply Kd.R_drewN | apply Kd.R_drew)); exact Kd.R_mono (Kd.R_far (p := ⟨gb, 7, none⟩) (Kd.R_types HO_336006.out BK.out (by decide)) (fun _ hk => hk.2) (.slice Ao52 y342.length co52)) (fun _ hk => ⟨hk.1.1, hk.1.2⟩)⟩
          have n2_ : Aside0 (Kd.V (Kd.int .u8) 5 (w51.setCell ⟨gb, 7, none⟩ (.slice Ao52 y342.length co52)) w0.heap.size (fun k_ => ((P0_6_ k_ ∨ P0_7_ k_ ∨ P1_ k_) ∨ w.heap.size ≤ k_) ∧ some k_ ≠ (u336006 : Value).ownBlock ∧ some k_ ≠ (.slice Ao52 y342.length co52 : Value).ownBlock ∧ k_ ≠ gb) (.slice Ao45 y337.length co45) y337) := ⟨by (with_reducible repeat (first | apply Kd.V_alloc | apply Kd.V_drewN | apply Kd.V_drew)); exact Kd.V_mono (Kd.V_far (p := ⟨gb, 7, none⟩) (Kd.V_mono HO341.out (fun k_ hk => (⟨hk, hk.1.2.2⟩ : _ ∧ k_ ≠ gb))) (fun _ hk => hk.2) (.slice Ao52 y342.length co52)) (fun _ hk => ⟨hk.1.1.1, ⟨hk.1.1.2.1, ⟨hk.1.2, hk.1.1.2.2⟩⟩⟩)⟩
          have n3_ : Aside0 (Kd.V (Kd.int .u8) 5 (w51.setCell ⟨gb, 7, none⟩ (.slice Ao52 y342.length co52)) w0.heap.size (fun k_ => ((P0_6_ k_ ∨ P0_7_ k_ ∨ P1_ k_) ∨ w.heap.size ≤ k_) ∧ some k_ ≠ (u336006 : Value).ownBlock ∧ some k_ ≠ (.slice Ao52 y342.length co52 : Value).ownBlock ∧ k_ ≠ gb) (.slice A50 y345.length c50) y345) := ⟨by (with_reducible repeat (first | apply Kd.V_alloc | apply Kd.V_drewN | apply Kd.V_drew)); exact Kd.V_mono (Kd.V_far (p := ⟨gb, 7, none⟩) (Kd.V_mono HO349.out (fun k_ hk => (⟨hk, hk.1.2.2⟩ : _ ∧ k_ ≠ gb))) (fun _ hk => hk.2) (.slice Ao52 y342.length co52)) (fun _ hk => ⟨hk.1.1.1, ⟨hk.1.1.2.1, ⟨hk.1.2, hk.1.1.2.2⟩⟩⟩)⟩
          have n4_ : Aside0 (Kd.R (Kd.int .u8) 5 (w51.setCell ⟨gb, 7, none⟩ (.slice Ao52 y342.length co52)) w0.heap.size (fun k_ => ((P0_6_ k_ ∨ P0_7_ k_) ∨ w.heap.size ≤ k_) ∧ some k_ ≠ (u336006 : Value).ownBlock) (.slice Ao52 y342.length co52) y342) := ⟨by (with_reducible repeat (first | apply Kd.R_alloc | apply Kd.R_drewN | apply Kd.R_drew)); exact Kd.R_mono (Kd.R_far (p := ⟨gb, 7, none⟩) (Kd.R_types HO344.out BK.out (by decide)) (fun _ hk => hk.2) (.slice Ao52 y342.length co52)) (fun _ hk => ⟨hk.1.1, hk.1.2⟩)⟩
          have n5_ : Aside0 ((w51.setCell ⟨gb, 7, none⟩ (.slice Ao52 y342.length co52)).heap[gb]? = some (.cells #[.int .i64 x336000_1, .int .i64 x336001_1, .int .i64 x336002_1, .int .i64 x336003_1, .int .i64 x336004_1, .int .i64 x336005_1, u336006, .slice Ao52 y342.length co52, .int .i64 x336008_1, .bool x336009_1] 105 (0, 0))) := ⟨by (with_reducible repeat (first | refine blk_drewN ?_ _ | refine blk_drew ?_ | refine blk_alloc ?_ _)); refine blk_put (cs := #[.int .i64 x336000_1, .int .i64 x336001_1, .int .i64 x336002_1, .int .i64 x336003_1, .int .i64 x336004_1, .int .i64 x336005_1, u336006, .slice Ao47 x336007_1.length co47, .int .i64 x336008_1, .bool x336009_1]) ?_ 7 _ rfl; (with_reducible repeat (first | refine blk_drewN ?_ _ | refine blk_drew ?_ | refine blk_alloc ?_ _)); exact BK.out⟩
          have n6_ : Aside0 (Kept w (w51.setCell ⟨gb, 7, none⟩ (.slice Ao52 y342.length co52)) (fun k_ => P0_6_ k_ ∨ P0_7_ k_)) := ⟨by repeat (first | (with_reducible first | exact HK.out | apply Kept.alloc | apply Kept.drewN | apply Kept.drew | refine Kept.setCell ?_ (.inl (.inr pg)) _) | exact HK.out)⟩
          have n7_ : Aside0 (Below w0.heap.size w0 (w51.setCell ⟨gb, 7, none⟩ (.slice Ao52 y342.length co52))) := ⟨by repeat (first | (with_reducible first | exact HB.out | apply below_alloc | apply pw_below_drewN | apply below_drew1 | refine below_set ?_ GE.out) | exact HB.out)⟩
          (try clear HO_1)
          (try clear HO_336006)
          (try clear HO341)
          (try clear HO349)
          (try clear HO344)
          (try clear BK)
          (try clear HK)
          (try clear HB)
          generalize (w51.setCell ⟨gb, 7, none⟩ (.slice Ao52 y342.length co52)) = w54 at n0_ n1_ n2_ n3_ n4_ n5_ n6_ n7_ ⊢
          have HO_1 := n0_
          have HO_336006 := n1_
          have HO341 := n2_
          have HO349 := n3_
          have HO344 := n4_
          have BK := n5_
          have HK := n6_
          have HB := n7_
          clear n0_ n1_ n2_ n3_ n4_ n5_ n6_ n7_
          have n0_ := Aside0.mk (Kd.V_drew HO_1.out)
          have n1_ := Aside0.mk (Kd.R_drew HO_336006.out)
          have n2_ := Aside0.mk (Kd.V_drew HO341.out)
          have n3_ := Aside0.mk (Kd.V_drew HO349.out)
          have n4_ := Aside0.mk (Kd.R_drew HO344.out)
          have n5_ := Aside0.mk (blk_drew BK.out)
          have n6_ := Aside0.mk (Kept.drew HK.out)
          have n7_ := Aside0.mk (below_drew1 HB.out)
          clear HO_1
          clear HO_336006
          clear HO341
          clear HO349
          clear HO344
          clear BK
          clear HK
          clear HB
          have HO_1 := n0_
          have HO_336006 := n1_
          have HO341 := n2_
          have HO349 := n3_
          have HO344 := n4_
          have BK := n5_
          have HK := n6_
          have HB := n7_
          clear n0_ n1_ n2_ n3_ n4_ n5_ n6_ n7_
          refine start_ (n := 11) (S := fun w' => w'.cell? ⟨gb, 0, none⟩ = some (.int .i64 x336000_1) ∧ w'.cell? ⟨gb, 1, none⟩ = some (.int .i64 x336001_1) ∧ w'.cell? ⟨gb, 2, none⟩ = some (.int .i64 x336002_1) ∧ w'.cell? ⟨gb, 3, none⟩ = some (.int .i64 x336003_1) ∧ w'.cell? ⟨gb, 4, none⟩ = some (.int .i64 x336004_1) ∧ w'.cell? ⟨gb, 5, none⟩ = some (.int .i64 x336005_1) ∧ w'.cell? ⟨gb, 6, none⟩ = some (u336006) ∧ w'.cell? ⟨gb, 7, none⟩ = some (.slice Ao52 y342.length co52) ∧ w'.cell? ⟨gb, 8, none⟩ = some (.int .i64 x336008_1) ∧ w'.cell? ⟨gb, 9, none⟩ = some (.bool x336009_1)) (ds := []) #[false, false, false, false, false, false, false, false, false, false, false] (by kernel_rfl) rfl rfl ⟨(blk_cell BK.out 0).trans rfl, (blk_cell BK.out 1).trans rfl, (blk_cell BK.out 2).trans rfl, (blk_cell BK.out 3).trans rfl, (blk_cell BK.out 4).trans rfl, (blk_cell BK.out 5).trans rfl, (blk_cell BK.out 6).trans rfl, (blk_cell BK.out 7).trans rfl, (blk_cell BK.out 8).trans rfl, (blk_cell BK.out 9).trans rfl⟩ (fun hHeld => ?_); refine with_tabW shard_Writer_Add.tab9 shard_Writer_Add.bits9 (fun HT_ HW_ => ?_)
          generalize w54.drew = w55 at HO_1 HO_336006 HO341 HO349 HO344 BK HK HB hHeld ⊢
          refine pure_ (i := 0) (N := some 64) (v := ?_) (a' := ?_) #[true, false, false, false, false, false, false, false, false, false, false] rfl rfl (any_of HT_.out (by kernel_rfl)) (fun _ _ _ h => h) (Or.inl ⟨by rfl, ?_⟩) ?_ ?_
          rotate_left
          ·intro w'
           go_simp
           with_reducible rfl
          rotate_left
          ·simp only [Act.put, List.setIfInBounds_toArray, List.set_cons_zero, List.set_cons_succ, i64_w, i32_w]
           rfl
          refine pure_ (i := 1) (N := some 65) (v := ?_) (a' := ?_) #[true, true, false, false, false, false, false, false, false, false, false] rfl rfl (any_of HT_.out (by kernel_rfl)) (fun _ _ _ h => h) (Or.inl ⟨by rfl, ?_⟩) ?_ ?_
          rotate_left
          ·intro w'
           go_simp
           with_reducible rfl
          rotate_left
          ·simp only [Act.put, List.setIfInBounds_toArray, List.set_cons_zero, List.set_cons_succ, i64_w, i32_w]
           rfl
          refine pure_ (i := 2) (N := some 66) (v := ?_) (a' := ?_) #[true, true, true, false, false, false, false, false, false, false, false] rfl rfl (any_of HT_.out (by kernel_rfl)) (fun _ _ _ h => h) (Or.inl ⟨by rfl, ?_⟩) ?_ ?_
          rotate_left
          ·intro w'
           go_simp
           with_reducible rfl
          rotate_left
          ·simp only [Act.put, List.setIfInBounds_toArray, List.set_cons_zero, List.set_cons_succ, i64_w, i32_w]
           rfl
          refine pure_ (i := 5) (N := some 69) (v := ?_) (a' := ?_) #[true, true, true, false, false, true, false, false, false, false, false] rfl rfl (any_of HT_.out (by kernel_rfl)) (fun _ _ _ h => h) (Or.inl ⟨by rfl, ?_⟩) ?_ ?_
          rotate_left
          ·intro w'
           go_simp
           with_reducible rfl
          rotate_left
          ·simp only [Act.put, List.setIfInBounds_toArray, List.set_cons_zero, List.set_cons_succ, i64_w, i32_w]
           rfl
          refine pure_ (i := 6) (N := some 70) (v := ?_) (a' := ?_) #[true, true, true, false, false, true, true, false, false, false, false] rfl rfl (any_of HT_.out (by kernel_rfl)) (fun _ _ _ h => h) (Or.inl ⟨by rfl, ?_⟩) ?_ ?_
          rotate_left
          ·intro w'
           go_simp
           with_reducible rfl
          rotate_left
          ·simp only [Act.put, List.setIfInBounds_toArray, List.set_cons_zero, List.set_cons_succ, i64_w, i32_w]
           rfl
          refine pure_ (i := 7) (N := some 71) (v := ?_) (a' := ?_) #[true, true, true, false, false, true, true, true, false, false, false] rfl rfl (any_of HT_.out (by kernel_rfl)) (fun _ _ _ h => h) (Or.inl ⟨by rfl, ?_⟩) ?_ ?_
          rotate_left
          ·intro w'
           go_simp
           with_reducible rfl
          rotate_left
          ·simp only [Act.put, List.setIfInBounds_toArray, List.set_cons_zero, List.set_cons_succ, i64_w, i32_w]
           rfl
          refine pure_ (i := 8) (N := some 72) (v := ?_) (a' := ?_) #[true, true, true, false, false, true, true, true, true, false, false] rfl rfl (any_of HT_.out (by kernel_rfl)) (fun _ _ _ h => h) (Or.inl ⟨by rfl, ?_⟩) ?_ ?_
          rotate_left
          ·intro w'
           go_simp
           with_reducible rfl
          rotate_left
          ·simp only [Act.put, List.setIfInBounds_toArray, List.set_cons_zero, List.set_cons_succ, i64_w, i32_w]
           rfl
          refine take_ (i := 3) (N := some 67) (v := ?_) (a' := ?_) #[true, true, true, true, false, true, true, true, true, false, false] rfl rfl (take_ofW HT_.out HW_.out (by kernel_rfl)) (fun _ _ _ h => h) (Or.inl ⟨by rfl, ?_⟩) hHeld ?_ ?_
          rotate_left
          ·rintro w' ⟨s0, s1, s2, s3, s4, s5, s6, s7, s8, s9⟩
           go_simp
           with_reducible rfl
          rotate_left
          ·simp only [Act.put, List.setIfInBounds_toArray, List.set_cons_zero, List.set_cons_succ, i64_w, i32_w]
           rfl
          refine pure_ (i := 4) (N := some 68) (v := ?_) (a' := ?_) #[true, true, true, true, true, true, true, true, true, false, false] rfl rfl (any_of HT_.out (by kernel_rfl)) (fun _ _ _ h => h) (Or.inl ⟨by rfl, ?_⟩) ?_ ?_
          rotate_left
          ·intro w'
           go_simp
           with_reducible rfl
          rotate_left
          ·simp only [Act.put, List.setIfInBounds_toArray, List.set_cons_zero, List.set_cons_succ, i64_w, i32_w]
           rfl
          refine take_ (i := 9) (N := some 73) (v := ?_) (a' := ?_) #[true, true, true, true, true, true, true, true, true, true, false] rfl rfl (take_ofW HT_.out HW_.out (by kernel_rfl)) (fun _ _ _ h => h) (Or.inl ⟨by rfl, ?_⟩) hHeld ?_ ?_
          rotate_left
          ·rintro w' ⟨s0, s1, s2, s3, s4, s5, s6, s7, s8, s9⟩
           go_simp
           with_reducible rfl
          rotate_left
          ·simp only [Act.put, List.setIfInBounds_toArray, List.set_cons_zero, List.set_cons_succ, i64_w, i32_w]
           rfl
          refine pure_ (i := 10) (N := some 74) (v := ?_) (a' := ?_) #[true, true, true, true, true, true, true, true, true, true, true] rfl rfl (any_of HT_.out (by kernel_rfl)) (fun _ _ _ h => h) (Or.inl ⟨by rfl, ?_⟩) ?_ ?_
          rotate_left
          ·intro w'
           go_simp
           with_reducible rfl
          rotate_left
          ·simp only [Act.put, List.setIfInBounds_toArray, List.set_cons_zero, List.set_cons_succ, i64_w, i32_w]
           rfl
          refine done_ (done_of HT_.out (by kernel_rfl)) ?_
          try go_wp2
          go_roundg k1
          case measure => have := HK1.out; omega
          case rel => exact ⟨(y345), (x336000_1), (x336001_1), (x336002_1), (x336003_1), (x336004_1), (x336005_1), (x336006_1), (y342), (x336008_1), (x336009_1), (u336006), (.slice Ao52 y342.length co52), H', ⟨by have := HK1.out; omega⟩, ⟨by (with_reducible repeat (first | apply Kd.V_alloc | apply Kd.V_drewN | apply Kd.V_drew)); exact HO349.out⟩, ⟨by (with_reducible repeat (first | apply Kd.R_alloc | apply Kd.R_drewN | apply Kd.R_drew)); exact HO_336006.out⟩, ⟨by (with_reducible repeat (first | apply Kd.R_alloc | apply Kd.R_drewN | apply Kd.R_drew)); exact HO344.out⟩, ⟨by (with_reducible repeat (first | refine blk_drewN ?_ _ | refine blk_drew ?_ | refine blk_alloc ?_ _)); exact BK.out⟩, ⟨by repeat (first | (with_reducible first | exact HK.out | apply Kept.alloc | apply Kept.drewN | apply Kept.drew | refine Kept.setCell ?_ (.inl (.inr pg)) _) | exact HK.out)⟩, ⟨by repeat (first | (with_reducible first | exact HB.out | apply below_alloc | apply pw_below_drewN | apply below_drew1 | refine below_set ?_ GE.out) | exact HB.out)⟩⟩
        ·rw [if_neg c23] at H
         exact absurd H (by simp)
       ·rw [if_neg c22] at H
        exact absurd H (by simp)
      ·rw [if_neg c21] at H
       exact absurd H (by simp)
     ·rw [if_neg c19] at H
      have c19b0 : decide (0 < (x1_1.length : Int)) = false := decide_eq_false c19
      have c19b1 : decide (0 < x1_1.length) = false := decide_eq_false (by omega)
      clear c19
      simp only [Option.some.injEq, Prod.mk.injEq] at H
      obtain ⟨rfl, rfl, rfl, rfl, rfl, rfl, rfl, rfl, rfl, rfl, rfl⟩ := H
      obtain ⟨Ao56, co56, eo56⟩ := Kd.V_slice HO_1.out
      subst eo56
      go_wp2
      go_ret
      exact ⟨_, _, by first | rfl | (simp [errW_none, errW_some] <;> rfl) | (simp [*, errW_none, errW_some] <;> rfl), (by (with_reducible repeat (first | refine blk_drewN ?_ _ | refine blk_drew ?_ | refine blk_alloc ?_ _)); exact BK.out), by (with_reducible repeat (first | apply Kd.R_alloc | apply Kd.R_drewN | apply Kd.R_drew)); exact HO_336006.out, by (with_reducible repeat (first | apply Kd.R_alloc | apply Kd.R_drewN | apply Kd.R_drew)); exact HO_336007.out, by repeat (first | (with_reducible first | exact HB.out | apply below_alloc | apply pw_below_drewN | apply below_drew1 | refine below_set ?_ GE.out) | exact HB.out), by repeat (first | (with_reducible first | exact HK.out | apply Kept.alloc | apply Kept.drewN | apply Kept.drew | refine Kept.setCell ?_ (.inl (.inr pg)) _) | exact HK.out)⟩
 ·replace c4 := Bool.eq_false_iff.mpr c4
  subst c4
  have H1 : (some (a0_0, a0_1, a0_2, a0_3, a0_4, a0_5, l0_6, l0_7, a0_8, a0_9, 1)) = some (r1, r2, r3, r4, r5, r6, r7, r8, r9, r10, r11) := by rw [if_neg (show ¬ (false = true) by decide)] at H; exact H
  clear H
  have H := H1
  clear H1
  simp only [Option.some.injEq, Prod.mk.injEq] at H
  obtain ⟨rfl, rfl, rfl, rfl, rfl, rfl, rfl, rfl, rfl, rfl, rfl⟩ := H
  obtain ⟨Ao57, co57, eo57⟩ := Kd.R_slice HO0_6.out
  subst eo57
  obtain ⟨Ao58, co58, eo58⟩ := Kd.R_slice HO0_7.out
  subst eo58
  go_enter Try.func36, Try.ntmps36
  have hcz_0 : w.cell? ⟨gb, 0, none⟩ = some (.int .i64 a0_0) := (blk_cell BK.out 0).trans rfl
  have hcz_1 : w.cell? ⟨gb, 1, none⟩ = some (.int .i64 a0_1) := (blk_cell BK.out 1).trans rfl
  have hcz_2 : w.cell? ⟨gb, 2, none⟩ = some (.int .i64 a0_2) := (blk_cell BK.out 2).trans rfl
  have hcz_3 : w.cell? ⟨gb, 3, none⟩ = some (.int .i64 a0_3) := (blk_cell BK.out 3).trans rfl
  have hcz_4 : w.cell? ⟨gb, 4, none⟩ = some (.int .i64 a0_4) := (blk_cell BK.out 4).trans rfl
  have hcz_5 : w.cell? ⟨gb, 5, none⟩ = some (.int .i64 a0_5) := (blk_cell BK.out 5).trans rfl
  have hcz_6 : w.cell? ⟨gb, 6, none⟩ = some (.slice Ao57 l0_6.length co57) := (blk_cell BK.out 6).trans rfl
  have hcz_7 : w.cell? ⟨gb, 7, none⟩ = some (.slice Ao58 l0_7.length co58) := (blk_cell BK.out 7).trans rfl
  have hcz_8 : w.cell? ⟨gb, 8, none⟩ = some (.int .i64 a0_8) := (blk_cell BK.out 8).trans rfl
  have hcz_9 : w.cell? ⟨gb, 9, none⟩ = some (.bool a0_9) := (blk_cell BK.out 9).trans rfl
  have hfz_0 := blk_frozen BK.out 0
  have hfz_1 := blk_frozen BK.out 1
  have hfz_2 := blk_frozen BK.out 2
  have hfz_3 := blk_frozen BK.out 3
  have hfz_4 := blk_frozen BK.out 4
  have hfz_5 := blk_frozen BK.out 5
  have hfz_6 := blk_frozen BK.out 6
  have hfz_7 := blk_frozen BK.out 7
  have hfz_8 := blk_frozen BK.out 8
  have hfz_9 := blk_frozen BK.out 9
  go_wp2_with (first | ((with_reducible refine gate_callee (f := 63) rfl ?_); refine goesL_ (some 8) rfl rfl Try.func63 (by kernel_rfl) rfl #[.pointer (some ⟨gb, 0, none⟩)] rfl (by (try simp only [List.map_toArray, List.map_cons, List.map_nil]); first | done | rfl | (simp only [List.length_drop, List.length_take]; rfl)) ?_; (refine (shard_Writer_open.callsP k gb a0_0 a0_1 a0_2 a0_3 a0_4 a0_5 _ _ l0_6 l0_7 a0_8 a0_9 false _ (by (with_reducible repeat (first | refine blk_drewN ?_ _ | refine blk_drew ?_ | refine blk_alloc ?_ _)); exact BK.out) A3.out).mono ?_); rintro e w61 ⟨rfl, hb⟩; refine ⟨_, rfl, ?_⟩; have n0_ := Aside0.mk (Kd.R_below (by (with_reducible repeat (first | apply Kd.R_alloc | apply Kd.R_drewN | apply Kd.R_drew)); exact HO0_6.out) hb); have n1_ := Aside0.mk (Kd.R_below (by (with_reducible repeat (first | apply Kd.R_alloc | apply Kd.R_drewN | apply Kd.R_drew)); exact HO0_7.out) hb); have n2_ := Aside0.mk (Kd.V_below (by (with_reducible repeat (first | apply Kd.V_alloc | apply Kd.V_drewN | apply Kd.V_drew)); exact HO1.out) hb); have n3_ := Aside0.mk (blk_below (g := gb) (o := .cells #[.int .i64 a0_0, .int .i64 a0_1, .int .i64 a0_2, .int .i64 a0_3, .int .i64 a0_4, .int .i64 a0_5, .slice Ao57 l0_6.length co57, .slice Ao58 l0_7.length co58, .int .i64 a0_8, .bool a0_9] 105 (0, 0)) (by (with_reducible repeat (first | refine blk_drewN ?_ _ | refine blk_drew ?_ | refine blk_alloc ?_ _)); exact BK.out) hb); have n4_ := Aside0.mk (Kept.below (S := (fun k_ => P0_6_ k_ ∨ P0_7_ k_)) (by repeat (first | (with_reducible first | exact HK.out | apply Kept.alloc | apply Kept.drewN | apply Kept.drew | refine Kept.setCell ?_ (.inl (.inr pg)) _) | exact HK.out)) hb); have n5_ := Aside0.mk (below_step (by repeat (first | (with_reducible first | exact HB.out | apply below_alloc | apply pw_below_drewN | apply below_drew1 | refine below_set ?_ GE.out) | exact HB.out)) hb); clear HO0_6; clear HO0_7; clear HO1; clear BK; clear HK; clear HB; have HO0_6 := n0_; have HO0_7 := n1_; have HO1 := n2_; have BK := n3_; have HK := n4_; have HB := n5_; clear n0_ n1_ n2_ n3_ n4_ n5_; (try clear hb); (try clear hb2); (try clear hk); (try clear hi)))
  go_ret
  exact ⟨_, _, by first | rfl | (simp [errW_none, errW_some] <;> rfl) | (simp [*, errW_none, errW_some] <;> rfl), (by (with_reducible repeat (first | refine blk_drewN ?_ _ | refine blk_drew ?_ | refine blk_alloc ?_ _)); exact BK.out), by (with_reducible repeat (first | apply Kd.R_alloc | apply Kd.R_drewN | apply Kd.R_drew)); exact HO0_6.out, by (with_reducible repeat (first | apply Kd.R_alloc | apply Kd.R_drewN | apply Kd.R_drew)); exact HO0_7.out, by repeat (first | (with_reducible first | exact HB.out | apply below_alloc | apply pw_below_drewN | apply below_drew1 | refine below_set ?_ GE.out) | exact HB.out), by repeat (first | (with_reducible first | exact HK.out | apply Kept.alloc | apply Kept.drewN | apply Kept.drew | refine Kept.setCell ?_ (.inl (.inr pg)) _) | exact HK.out)⟩

end Go.Proofs.Ytnlpipjdpmaggaa.PShardWrites
