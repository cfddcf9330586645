/- WRITTEN FOR THIS CLAIM by a program of the prover's own (the kit's printing program, with constructs added): for each Go function that the statement reaches a Lean function with the same answers, and the proof of that. Not trusted: Lean checks it. -/
import Derived.Test.YtnlpipjdpmaggaaPShardWritesx0
import Derived.Test.YtnlpipjdpmaggaaPShardWritesx2
import Derived.ArgAppend
import Derived.Lib.SlBytesConst
import Derived.Outline
import Derived.RangeFuncCalls
import Derived.RangeFuncNested
import Derived.Test.YtnlpipjdpmaggaaChunk
import Derived.Test.YtnlpipjdpmaggaaMore
namespace Go.Proofs.Ytnlpipjdpmaggaa.PShardWrites
open Go.RowKit Go.Proofs.YtnlpipjdpmaggaaW.PrintWords Go.Proofs.YtnlpipjdpmaggaaW.PrintLast Go.Proofs.YtnlpipjdpmaggaaW.PrintMore
attribute [local go_sem] max2_int min2_int max_two min_two max_three min_three max_four min_four   -- for this text's walks alone
set_option linter.unusedVariables false
set_option linter.unusedSimpArgs false

/-! ### shard_head: function 47 -/
-- ROUNDS
-- IMPORTS Derived.Lib.SlBytesConst Derived.ArgAppend
section
open Go.Proofs.YtnlpipjdpmaggaaW.PrintWords.Kd
theorem C_marked (w : World) (xs : List Int) (e : TypeId) (m : Nat × Nat) (hm : xs.length ≤ 9223372036854775807) :
    Kd.C (Kd.int .u8) (w.alloc (.cells (xs.map (Value.int .u8)).toArray e m)) (some ⟨w.heap.size, 0, none⟩) xs.length xs := by
  refine ⟨rfl, hm, fun _ => ⟨_, rfl, ?_⟩⟩
  intro j p hj
  refine ⟨[.int .u8 p], rfl, rfl, ?_⟩
  intro i u hu
  cases i with
  | succ i => simp at hu
  | zero =>
    have hu' : Value.int .u8 p = u := by simpa using hu
    subst hu'
    have e1 : (Kd.int .u8).sz = 1 := rfl
    rw [e1]
    have e2 : ({ block := w.heap.size, off := 0 } : Addr).add (j * 1 + 0) = ⟨w.heap.size, j, none⟩ := by
      simp only [Addr.add]
      split
      · next h => first | (simp; done) | (simp; omega)
      · simp
    rw [e2, World.cell?_alloc_mark]
    simp [hj]
theorem append_marked {P : Program} {W : World} {ops : Array Oper} {rest : List Oper} {o : Oper} {a : Act} {Q : Exit → Act → World → Prop}
    (hgd : o.guard = none) (s x : Operand) (t e : TypeId) (z : Value) (bytes : Nat)
    (ho : o.op = .call { callee := .builtin .append, args := #[s, x], argTypes := #[t, t] })
    (ht : P.underlying t = some (.slice e)) (hinfo : (P.info? e).map (fun i => (i.zero, i.size, i.bytes)) = some (some z, 1, bytes)) (hz : z.cells.size = 1)
    (Ad : Addr) (n cap : Nat) (xs ys : List Int) (A : Addr) (m c : Nat) (hs : a.eval s = .slice (some Ad) n cap) (hx : a.eval x = .slice (some A) m c)
    (HO : Kd.C (Kd.int .u8) W (some Ad) n xs) (HR : Kd.C (Kd.int .u8) W (some A) m ys) (hfull : cap < n + m) (hb : (n + m) * bytes ≤ 140737488355328) (hb1 : n + m ≤ 140737488355328)
    (h : ∀ v1 w1, Kd.R (Kd.int .u8) e w1 W.heap.size (fun _ => True) v1 (xs ++ ys) → W.grownBy w1 none → wpList P ops Q rest (a.put o.dst v1) w1) :
    wpList P ops Q (o :: rest) a W := by
  obtain ⟨i0, hi, hzz⟩ := Option.map_eq_some_iff.1 hinfo
  simp only [Prod.mk.injEq] at hzz
  obtain ⟨hz0, hz1, hz2⟩ := hzz
  obtain ⟨olds, hor, hoc⟩ := ReadsRow.inner_ HO
  obtain ⟨news, hnr, hnc⟩ := ReadsRow.inner_ HR
  have one : ∀ {l : List Int} {cs : List Value}, Reps (Kd.K (Kd.int .u8) W) 1 l cs → ∀ u ∈ cs, u.oneCell' = true := by
    intro l cs hr u hu
    obtain ⟨q, hq, rfl⟩ := List.mem_iff_getElem.1 hu
    have hql : q < l.length := by have := hr.1; simp at this; omega
    have hc := hr.2 q _ (List.getElem?_eq_getElem hql)
    have hc' : (List.take 1 (List.drop (q * 1) cs)) = [.int .u8 l[q]] := hc
    rw [Nat.mul_one, List.drop_eq_getElem_cons hq] at hc'
    injection hc' with hc' _
    rw [hc']; rfl
  have hm1 : xs.length = n := HO.1
  have hm2 : ys.length = m := HR.1
  refine wpList_append_grows W hgd s x t ho e i0 z 1 bytes ht hi hz0 hz1 hz2 hz (by decide) (some Ad) n cap olds hs (fun h => by cases h) (by have := hor.1; rw [this, hm1]; rfl) ?_ A m c news hx (by have := hnr.1; rw [this, hm2]; rfl) ?_ (one hnr) hfull (by simp only [maxLen]; omega) hb ?_
  · rintro b rfl' j u hj
    cases rfl'
    exact hoc _ _ hj
  · intro j u hj
    exact hnc _ _ hj
  · intro v' w' ho' hg'
    refine h v' w' ⟨fun _ _ => trivial, olds ++ news, ?_, ?_⟩ hg'
    · have e1 : (xs ++ ys).length = n + m := by rw [List.length_append, hm1, hm2]
      rw [e1]
      exact ho'
    · exact reps_append (hor.imp_ (fun _ _ hq => hq)) (hnr.imp_ (fun _ _ hq => hq))

set_option maxHeartbeats 8000000 in
set_option maxRecDepth 100000 in
theorem shard_sum.now (k : Nat) (P0_ : Nat → Prop) (u9000_ : Value) (l0 : List Int) (A1 : Option Addr) (c1 : Nat) (l1 : List Int) (r : List Int) (w0 w : World) (hB : Below w0.heap.size w0 w) (ho0 : Kd.R (Kd.int .u8) 5 w w0.heap.size P0_ u9000_ l0) (hr1 : Kd.C (Kd.int .u8) w A1 l1.length l1) (hc1 : l1.length ≤ c1) (h : shard_sum.f k l0 l1 = some r) :
    Calls Try.prog 49 #[u9000_, .slice A1 l1.length c1] w fun e w' => ∃ v0_ : Value, e = .returned (v0_) ∧ Kd.R (Kd.int .u8) 5 w' w0.heap.size (fun k_ => (P0_ k_ ∨ w.heap.size ≤ k_)) v0_ r ∧ Below w0.heap.size w0 w' ∧ Kept w w' (fun k_ => P0_ k_) := by
  have HO0 := Aside0.mk (show Kd.R (Kd.int .u8) 5 w w0.heap.size (fun k_ => (P0_ k_ ∨ w.heap.size ≤ k_)) u9000_ l0 from Kd.R_mono ho0 (fun k_ hk => (.inl hk)))
  have HR1 := Aside0.mk hr1
  have HC1 := Aside0.mk hc1
  clear hr1 hc1
  have HK := Aside0.mk (Kept.refl w (fun k_ => P0_ k_))
  have HW0 := Aside0.mk hB.size
  have HB := Aside0.mk hB
  clear hB
  have H : ((crc_Sum.f k l1).bind fun t114 => ((crc_Bytes.f t114).bind fun t115 => (if l0.length + t115.length < 140737488355328 then (some (l0 ++ t115)) else (none)))) = some r := h
  clear h
  replace H := Option.bind_eq_some_iff.mp H
  obtain ⟨t114, A30, H⟩ := H
  replace H : ((crc_Bytes.f t114).bind fun t115 => (if l0.length + t115.length < 140737488355328 then (some (l0 ++ t115)) else (none))) = some r := H
  have A3 := Aside0.mk A30
  clear A30
  replace H := Option.bind_eq_some_iff.mp H
  obtain ⟨t115, A40, H⟩ := H
  replace H : (if l0.length + t115.length < 140737488355328 then (some (l0 ++ t115)) else (none)) = some r := H
  have A4 := Aside0.mk A40
  clear A40
  by_cases c5 : l0.length + t115.length < 140737488355328
  · rw [if_pos c5] at H
    have LMc5 := Aside0.mk c5
    clear c5
    obtain ⟨y118, hy118⟩ : ∃ y_ : List Int, y_ = (l0 ++ t115) := ⟨_, rfl⟩
    replace H : (some y118) = some r := by first | (rw [hy118]; with_reducible exact H) | (have H2_ := (Option.bind_some _ _).symm.trans H; rw [hy118]; with_reducible exact H2_) | (have H2_ := (Option.bind_some _ _).symm.trans H; with_reducible exact H2_) | with_reducible exact H | (rw [hy118]; exact H) | exact H
    have Ny118 := Aside0.mk hy118
    clear hy118
    obtain rfl := Option.some.inj H
    go_enter Try.func49, Try.ntmps49
    go_wp2_with (first | ((with_reducible refine gate_callee (f := 55) rfl ?_); refine goesL_ (some 7) rfl rfl Try.func55 (by kernel_rfl) rfl #[.slice A1 l1.length c1] rfl (by (try simp only [List.map_toArray, List.map_cons, List.map_nil]); first | done | rfl | (simp only [List.length_drop, List.length_take]; rfl)) ?_; (with_reducible refine (crc_Sum.calls k _ _ l1 t114 _ ?side1 ?side2 A3.out).mono ?_); (case side1 => exact HR1.out); (case side2 => exact HC1.out); rintro e w' ⟨rfl, ⟨nd, rfl⟩⟩; refine ⟨_, rfl, ?_⟩) | ((with_reducible refine gate_callee (f := 54) rfl ?_); refine goesL_ (some 8) rfl rfl Try.func54 (by kernel_rfl) rfl #[.int .u32 t114] rfl (by (try simp only [List.map_toArray, List.map_cons, List.map_nil]); first | done | rfl | (simp only [List.length_drop, List.length_take]; rfl)) ?_; (with_reducible refine (crc_Bytes.calls t114 t115 _ A4.out).mono ?_); rintro e w6 ⟨v116, rfl, ho0, hb⟩; refine ⟨_, rfl, ?_⟩; have n0_ := Aside0.mk (Kd.R_elder' (by (with_reducible repeat (first | apply Kd.R_alloc | apply Kd.R_drewN | apply Kd.R_drew)); exact HO0.out) (Kd.R_base ho0) hb); have n1_ := Aside0.mk (Kd.R_lower (Kd.R_new' (Kd.R_newM (M := fun k_ => (P0_ k_ ∨ w.heap.size ≤ k_)) ho0 (by first | exact HK.out.1 | exact (show Kept w _ (fun k_ => P0_ k_) from by repeat (first | (with_reducible first | exact HK.out | apply Kept.alloc | apply Kept.drewN | apply Kept.drew) | exact HK.out)).1) (fun k_ h_ => .inr h_)) (Kd.R_lt (by (with_reducible repeat (first | apply Kd.R_alloc | apply Kd.R_drewN | apply Kd.R_drew)); exact HO0.out))) (below_size (by repeat (first | (with_reducible first | exact HB.out | apply below_alloc | apply pw_below_drewN | apply below_drew1) | exact HB.out)))); have n2_ := Aside0.mk (Kept.below (S := (fun k_ => P0_ k_)) (by repeat (first | (with_reducible first | exact HK.out | apply Kept.alloc | apply Kept.drewN | apply Kept.drew) | exact HK.out)) hb); have n3_ := Aside0.mk (below_step (by repeat (first | (with_reducible first | exact HB.out | apply below_alloc | apply pw_below_drewN | apply below_drew1) | exact HB.out)) hb); clear HO0; clear HK; clear HB; have HO0 := n0_; have HO117 := n1_; have HK := n2_; have HB := n3_; clear n0_ n1_ n2_ n3_; (try clear hb); (try clear hb2); (try clear hk); (try clear hi); (try clear ho0); obtain ⟨Ao8, co8, eo8⟩ := Kd.R_slice HO117.out; subst eo8) | ((with_reducible refine gate_builtin (b := .append) (xs := #[.tmp 5, .tmp 8]) rfl ?_); at_builtin; refine Kd.R_append_rows (Kd.int .u8) (w0 := w0) w0.heap.size rfl (.tmp 5) (.tmp 8) 22 5 (.int .u8 0) 1 rfl Try.underlying22 info5 rfl (by decide) (by omega) u9000_ l0 t115 _ _ _ (fun k_ => (P0_ k_ ∨ w.heap.size ≤ k_) ∧ some k_ ≠ (.slice Ao8 t115.length co8 : Value).ownBlock) (fun _ => False) rfl rfl ?aO ?aR (fun _ _ h => h) (fun _ h => h.elim) ?aF ?aB ?aS ?aL ?_; (case aR => repeat (first | exact (Kd.R_reads' HO117.out).2.2 | (with_reducible refine Kd.C_alloc ?_ _) | (with_reducible refine Kd.C_drewN ?_ _) | (with_reducible refine Kd.C_drew ?_))); (case aB => exact (by repeat (first | (with_reducible first | exact HB.out | apply below_alloc | apply pw_below_drewN | apply below_drew1) | exact HB.out))); (case aF => exact (fun k_ hk => ⟨(.inr (Nat.le_trans (by first | exact HK.out.1 | exact (show Kept w _ (fun k_ => P0_ k_) from by repeat (first | (with_reducible first | exact HK.out | apply Kept.alloc | apply Kept.drewN | apply Kept.drew) | exact HK.out)).1) hk)), Kd.fresh' (Kd.R_lt (by (with_reducible repeat (first | apply Kd.R_alloc | apply Kd.R_drewN | apply Kd.R_drew)); exact HO117.out)) k_ hk⟩)); (case aO => exact (by (with_reducible repeat (first | apply Kd.R_alloc | apply Kd.R_drewN | apply Kd.R_drew)); exact HO0.out)); (case aS => exact (below_size (by repeat (first | (with_reducible first | exact HB.out | apply below_alloc | apply pw_below_drewN | apply below_drew1) | exact HB.out)))); (case aL => have := LMc5.out; omega); intro v119 w7 ho hb hg hat; rw [← Ny118.out] at ho; have n0_ := Aside0.mk (Kd.R_after (ok := (fun k_ => (P0_ k_ ∨ w.heap.size ≤ k_))) (by (with_reducible repeat (first | apply Kd.R_alloc | apply Kd.R_drewN | apply Kd.R_drew)); exact Kd.R_mono HO117.out (fun _ hk => ⟨hk.1.1, hk.2⟩)) hg hat); have n1_ := Aside0.mk (hb); have n2_ := Aside0.mk (Kept.of_grown (S := (fun k_ => P0_ k_)) hg (by repeat (first | (with_reducible first | exact HK.out | apply Kept.alloc | apply Kept.drewN | apply Kept.drew) | exact HK.out)) (fun k_ e_ => (HO0.out.1 k_ e_).1)); have n3_ := Aside0.mk (ho); clear HO117; clear HB; clear HK; clear HO0; have HO117 := n0_; have HB := n1_; have HK := n2_; have HO120 := n3_; clear n0_ n1_ n2_ n3_; clear ho hb hg hat))
    go_ret
    exact ⟨_, by first | rfl | (simp [errW_none, errW_some] <;> rfl) | (simp [*, errW_none, errW_some] <;> rfl), by (with_reducible repeat (first | apply Kd.R_alloc | apply Kd.R_drewN | apply Kd.R_drew)); exact Kd.R_mono HO120.out (fun _ hk => hk.1), by repeat (first | (with_reducible first | exact HB.out | apply below_alloc | apply pw_below_drewN | apply below_drew1) | exact HB.out), by repeat (first | (with_reducible first | exact HK.out | apply Kept.alloc | apply Kept.drewN | apply Kept.drew) | exact HK.out)⟩
  · rw [if_neg c5] at H
    exact absurd H (by simp)

/-! ### shard_head: function 47 -/
def shard_head.f (k : Nat) (a0 a1 a2 a3 a4 a5 : Int) : Option (List Int) :=
  (shard_number.f [83, 66, 88, 49, a0 % 256, a1 % 256, a2 % 256, 0] a3).bind fun b1 => (shard_number.f b1 a4).bind fun b2 => (shard_number.f b2 a5).bind fun b3 => shard_sum.f k b3 b3
def shard_head.T2 : Bool × List (List Nat × List Nat) := (true, [([], []), ([], []), ([1], [1]), ([0, 2], [0, 2]), ([], []), ([4], [4]), ([3, 5, 3], [3, 5]), ([], []), ([7], [7]), ([6, 8, 6], [6, 8]), ([9, 9, 0, 1, 2, 3, 4, 5, 6, 7, 8, 9], [0, 9])])
def shard_head.B2 : List Nat := [0, 0, 2, 7, 0, 16, 63, 0, 128, 511, 1023]
theorem shard_head.tab2 : rtab .any (opsOf Try.f47 2) = shard_head.T2 := by kernel_rfl
theorem shard_head.bits2 : waitsOk shard_head.T2.2 shard_head.B2 = true := by kernel_rfl
set_option maxHeartbeats 8000000 in
set_option maxRecDepth 100000 in
theorem shard_head.calls (k : Nat) (a0_0 a0_1 a0_2 a0_3 a0_4 a0_5 : Int) (r : List Int) (w : World) (h : shard_head.f k a0_0 a0_1 a0_2 a0_3 a0_4 a0_5 = some r) :
    Calls Try.prog 47 #[.agg #[.int .i64 a0_0, .int .i64 a0_1, .int .i64 a0_2, .int .i64 a0_3, .int .i64 a0_4, .int .i64 a0_5]] w fun e w' => ∃ v0_ : Value, e = .returned (v0_) ∧ Kd.R (Kd.int .u8) 5 w' w.heap.size (fun _ => True) v0_ r ∧ Below w.heap.size w w' := by
    have hu32 := Try.underlying32
    have kc := fun (w : World) (C : Array Value) (n c : Nat) => Lib.run_convert_bytes_const (P := Try.prog) w 22 5 C n c Try.underlying22 Try.underlying5
    have HB := Aside0.mk (Below.refl w.heap.size w)
    obtain ⟨y131, hy131⟩ : ∃ y_ : List Int, y_ = (([(a0_0) % 256, (a0_1) % 256, (a0_2) % 256, 0] : List Int)) := ⟨_, rfl⟩
    obtain ⟨y134, hy134⟩ : ∃ y_ : List Int, y_ = ([83, 66, 88, 49] ++ y131) := ⟨_, rfl⟩
    have H : ((shard_number.f y134 a0_3).bind fun t137 => ((shard_number.f t137 a0_4).bind fun t140 => ((shard_number.f t140 a0_5).bind fun t143 => shard_sum.f k t143 t143))) = some r := by rw [hy134, hy131]; exact h
    clear h
    have Ny131 := Aside0.mk hy131
    clear hy131
    have Ny134 := Aside0.mk hy134
    clear hy134
    replace H := Option.bind_eq_some_iff.mp H
    obtain ⟨t137, A30, H⟩ := H
    have A3 := Aside0.mk A30
    clear A30
    replace H := Option.bind_eq_some_iff.mp H
    obtain ⟨t140, A40, H⟩ := H
    have A4 := Aside0.mk A40
    clear A40
    replace H := Option.bind_eq_some_iff.mp H
    obtain ⟨t143, A50, H⟩ := H
    have A5 := Aside0.mk A50
    clear A50
    go_enter Try.func47, Try.ntmps47
    go_wp2_with (first | ((with_reducible refine gate_dst (N := 1) rfl ?_); refine box_event ?hg (N := 1) ?hd (cs := #[.int .i64 a0_0, .int .i64 a0_1, .int .i64 a0_2, .int .i64 a0_3, .int .i64 a0_4, .int .i64 a0_5]) (t := 32) ?hr ?_; (case hd => rfl); (case hg => rfl); (case hr => first | (go_simp; done) | (go_simp; rfl)); intro gb127 hg w6 hbox hb; have n0_ := Aside0.mk (below_step (by repeat (first | (with_reducible first | exact HB.out | apply below_alloc | apply pw_below_drewN | apply below_drew1) | exact HB.out)) hb); have n1_ := Aside0.mk (hbox); have n2_ := Aside0.mk ((by rw [hg]; exact (below_size (by repeat (first | (with_reducible first | exact HB.out | apply below_alloc | apply pw_below_drewN | apply below_drew1) | exact HB.out))) : w.heap.size ≤ gb127)); have n3_ := Aside0.mk ((by rw [hg]; exact (below_size (by repeat (first | (with_reducible first | exact HB.out | apply below_alloc | apply pw_below_drewN | apply below_drew1) | exact HB.out))) : w.heap.size ≤ gb127)); clear HB; have HB := n0_; have BK127 := n1_; have GW127 := n2_; have GE127 := n3_; clear n0_ n1_ n2_ n3_; clear hb hbox hg; have hcz : ∀ o : Obj, (w6.alloc o).cell? ⟨gb127, 0, none⟩ = some (.int .i64 a0_0) ∧ (w6.alloc o).cell? ⟨gb127, 1, none⟩ = some (.int .i64 a0_1) ∧ (w6.alloc o).cell? ⟨gb127, 2, none⟩ = some (.int .i64 a0_2) ∧ (w6.alloc o).cell? ⟨gb127, 3, none⟩ = some (.int .i64 a0_3) ∧ (w6.alloc o).cell? ⟨gb127, 4, none⟩ = some (.int .i64 a0_4) ∧ (w6.alloc o).cell? ⟨gb127, 5, none⟩ = some (.int .i64 a0_5) := fun o => ⟨(blk_cell (blk_alloc BK127.out o) 0).trans rfl, (blk_cell (blk_alloc BK127.out o) 1).trans rfl, (blk_cell (blk_alloc BK127.out o) 2).trans rfl, (blk_cell (blk_alloc BK127.out o) 3).trans rfl, (blk_cell (blk_alloc BK127.out o) 4).trans rfl, (blk_cell (blk_alloc BK127.out o) 5).trans rfl⟩; have hcz0 := fun o => (hcz o).1; have hcz1 := fun o => (hcz o).2.1; have hcz2 := fun o => (hcz o).2.2.1; have hcz3 := fun o => (hcz o).2.2.2.1; have hcz4 := fun o => (hcz o).2.2.2.2.1; have hcz5 := fun o => (hcz o).2.2.2.2.2; clear hcz) | ((with_reducible refine gate_dst (N := 15) rfl ?_); refine Kd.R_lit (Kd.int .u8) _ 5 ?hg (N := 15) ?hd (xs := ([(a0_0) % 256, (a0_1) % 256, (a0_2) % 256, 0] : List Int)) (inner := [.int .u8 ((a0_0) % 256), .int .u8 ((a0_1) % 256), .int .u8 ((a0_2) % 256), .int .u8 0]) (ok := fun _ => True) (okp := fun _ => True) ?hr ?hp (fun _ hk => hk) trivial (Below.refl _ _) (Nat.le_refl _) (by simp) ?_; (case hd => rfl); (case hg => rfl); (case hr => first | (go_simp; done) | (go_simp; rfl)); (case hp => exact (Reps.one (show Kd.M (Kd.int .u8) _ _ _ ((a0_0) % 256) [.int .u8 ((a0_0) % 256)] from rfl) (Reps.one (show Kd.M (Kd.int .u8) _ _ _ ((a0_1) % 256) [.int .u8 ((a0_1) % 256)] from rfl) (Reps.one (show Kd.M (Kd.int .u8) _ _ _ ((a0_2) % 256) [.int .u8 ((a0_2) % 256)] from rfl) (Reps.one (show Kd.M (Kd.int .u8) _ _ _ 0 [.int .u8 0] from rfl) (Reps.none _ _)))))); intro v132 w10 ho11 hb hg_ hnew_; clear hg_ hnew_; (first | rw [← Ny131.out] at ho11 | (simp only [Int.reduceToNat] at ho11; rw [← Ny131.out] at ho11)); have n0_ := Aside0.mk (Kd.C_below (C_marked w6 [83, 66, 88, 49] 5 (4, 5) (by decide)) hb); have n1_ := Aside0.mk (Kd.R_lower ho11 (below_size (by repeat (first | (with_reducible first | exact HB.out | apply below_alloc | apply pw_below_drewN | apply below_drew1 | refine below_set ?_ GE127.out) | exact HB.out)))); have n2_ := Aside0.mk (blk_below (g := gb127) (o := .cells #[.int .i64 a0_0, .int .i64 a0_1, .int .i64 a0_2, .int .i64 a0_3, .int .i64 a0_4, .int .i64 a0_5] 32 (0, 0)) (by (with_reducible repeat (first | refine blk_drewN ?_ _ | refine blk_drew ?_ | refine blk_alloc ?_ _)); exact BK127.out) hb); have n3_ := Aside0.mk (below_step (by repeat (first | (with_reducible first | exact HB.out | apply below_alloc | apply pw_below_drewN | apply below_drew1 | refine below_set ?_ GE127.out) | exact HB.out)) hb); clear BK127; clear HB; have HC130 := n0_; have HO133 := n1_; have BK127 := n2_; have HB := n3_; clear n0_ n1_ n2_ n3_; clear hb ho11; (try clear hcz0); (try clear hcz1); (try clear hcz2); (try clear hcz3); (try clear hcz4); (try clear hcz5); obtain ⟨Ao13, co13, eo13⟩ := Kd.R_slice HO133.out; subst eo13; obtain ⟨Ad13, eA13, _⟩ := (Kd.R_reads' HO133.out).2.2.2.2 (by rw [Ny131.out]; simp); subst eA13) | ((with_reducible refine gate_builtin (b := .append) (xs := #[.tmp 5, .tmp 15]) rfl ?_); at_builtin; refine append_marked rfl (.tmp 5) (.tmp 15) 22 5 (.int .u8 0) 1 rfl Try.underlying22 info5 rfl ⟨w6.heap.size, 0, none⟩ 4 4 [83, 66, 88, 49] y131 Ad13 y131.length co13 rfl rfl HC130.out ?aR ?aF ?aB ?aL ?_; (case aR => exact (Kd.R_reads' HO133.out).2.2); (case aF => rw [Ny131.out]; simp); (case aB => rw [Ny131.out]; simp); (case aL => rw [Ny131.out]; simp); intro v135 w12 ho hg; have n3_ := Aside0.mk (show Kd.R (Kd.int .u8) 5 w12 w.heap.size (fun _ => True) v135 y134 by rw [Ny134.out]; exact Kd.R_lower ho (below_size (by repeat (first | (with_reducible first | exact HB.out | apply below_alloc | apply pw_below_drewN | apply below_drew1 | refine below_set ?_ GE127.out) | exact HB.out)))); have n0_ := Aside0.mk (blk_grown (g := gb127) (o := .cells #[.int .i64 a0_0, .int .i64 a0_1, .int .i64 a0_2, .int .i64 a0_3, .int .i64 a0_4, .int .i64 a0_5] 32 (0, 0)) (by (with_reducible repeat (first | refine blk_drewN ?_ _ | refine blk_drew ?_ | refine blk_alloc ?_ _)); exact BK127.out) hg (by simp)); have n2_ := Aside0.mk (Below.grown (by repeat (first | (with_reducible first | exact HB.out | apply below_alloc | apply pw_below_drewN | apply below_drew1 | refine below_set ?_ GE127.out) | exact HB.out)) hg (below_size (by repeat (first | (with_reducible first | exact HB.out | apply below_alloc | apply pw_below_drewN | apply below_drew1 | refine below_set ?_ GE127.out) | exact HB.out))) (fun k_ e_ => by cases e_)); clear BK127 HO133 HB HC130; have BK127 := n0_; have HB := n2_; have HO136 := n3_; clear n0_ n2_ n3_; clear ho hg))
    have n1_ := Aside0.mk (Kd.R_drew HO136.out)
    have n2_ := Aside0.mk (blk_drew BK127.out)
    have n3_ := Aside0.mk (below_drew1 HB.out)
    clear HO136
    clear BK127
    clear HB
    have HO136 := n1_
    have BK127 := n2_
    have HB := n3_
    (try clear n0_); (try clear n1_); (try clear n2_); (try clear n3_)
    obtain ⟨Ao15, co15, eo15⟩ := Kd.R_slice HO136.out
    (first | subst eo15 | (injection eo15 with f1_ f2_ f3_; have f4_ := f1_.symm; have f5_ := f3_.symm; clear f1_ f2_ f3_; subst f4_; subst f5_))
    refine start_ (n := 11) (S := fun w' => w'.cell? ⟨gb127, 0, none⟩ = some (.int .i64 a0_0) ∧ w'.cell? ⟨gb127, 1, none⟩ = some (.int .i64 a0_1) ∧ w'.cell? ⟨gb127, 2, none⟩ = some (.int .i64 a0_2) ∧ w'.cell? ⟨gb127, 3, none⟩ = some (.int .i64 a0_3) ∧ w'.cell? ⟨gb127, 4, none⟩ = some (.int .i64 a0_4) ∧ w'.cell? ⟨gb127, 5, none⟩ = some (.int .i64 a0_5)) (ds := []) #[false, false, false, false, false, false, false, false, false, false, false] (by kernel_rfl) rfl rfl ⟨(blk_cell BK127.out 0).trans rfl, (blk_cell BK127.out 1).trans rfl, (blk_cell BK127.out 2).trans rfl, (blk_cell BK127.out 3).trans rfl, (blk_cell BK127.out 4).trans rfl, (blk_cell BK127.out 5).trans rfl⟩ (fun hHeld => ?_); refine with_tabW shard_head.tab2 shard_head.bits2 (fun HT_ HW_ => ?_)
    generalize w12.drew = w14 at HO136 BK127 HB hHeld ⊢
    refine pure_ (i := 0) (N := some 17) (v := ?_) (a' := ?_) #[true, false, false, false, false, false, false, false, false, false, false] rfl rfl (any_of HT_.out (by kernel_rfl)) (fun _ _ _ h => h) (Or.inl ⟨by rfl, ?_⟩) ?_ ?_
    rotate_left
    · intro w'
      go_simp
      with_reducible rfl
    rotate_left
    · simp only [Act.put, List.setIfInBounds_toArray, List.set_cons_zero, List.set_cons_succ, i64_w, i32_w]
      rfl
    refine pure_ (i := 1) (N := some 18) (v := ?_) (a' := ?_) #[true, true, false, false, false, false, false, false, false, false, false] rfl rfl (any_of HT_.out (by kernel_rfl)) (fun _ _ _ h => h) (Or.inl ⟨by rfl, ?_⟩) ?_ ?_
    rotate_left
    · intro w'
      go_simp
      with_reducible rfl
    rotate_left
    · simp only [Act.put, List.setIfInBounds_toArray, List.set_cons_zero, List.set_cons_succ, i64_w, i32_w]
      rfl
    refine pure_ (i := 4) (N := some 21) (v := ?_) (a' := ?_) #[true, true, false, false, true, false, false, false, false, false, false] rfl rfl (any_of HT_.out (by kernel_rfl)) (fun _ _ _ h => h) (Or.inl ⟨by rfl, ?_⟩) ?_ ?_
    rotate_left
    · intro w'
      go_simp
      with_reducible rfl
    rotate_left
    · simp only [Act.put, List.setIfInBounds_toArray, List.set_cons_zero, List.set_cons_succ, i64_w, i32_w]
      rfl
    refine pure_ (i := 7) (N := some 24) (v := ?_) (a' := ?_) #[true, true, false, false, true, false, false, true, false, false, false] rfl rfl (any_of HT_.out (by kernel_rfl)) (fun _ _ _ h => h) (Or.inl ⟨by rfl, ?_⟩) ?_ ?_
    rotate_left
    · intro w'
      go_simp
      with_reducible rfl
    rotate_left
    · simp only [Act.put, List.setIfInBounds_toArray, List.set_cons_zero, List.set_cons_succ, i64_w, i32_w]
      rfl
    refine take_ (i := 2) (N := some 19) (v := ?_) (a' := ?_) #[true, true, true, false, true, false, false, true, false, false, false] rfl rfl (take_ofW HT_.out HW_.out (by kernel_rfl)) (fun _ _ _ h => h) (Or.inl ⟨by rfl, ?_⟩) hHeld ?_ ?_
    rotate_left
    · rintro w' ⟨s0, s1, s2, s3, s4, s5⟩
      go_simp
      with_reducible rfl
    rotate_left
    · simp only [Act.put, List.setIfInBounds_toArray, List.set_cons_zero, List.set_cons_succ, i64_w, i32_w]
      rfl
    refine take_ (i := 5) (N := some 22) (v := ?_) (a' := ?_) #[true, true, true, false, true, true, false, true, false, false, false] rfl rfl (take_ofW HT_.out HW_.out (by kernel_rfl)) (fun _ _ _ h => h) (Or.inl ⟨by rfl, ?_⟩) hHeld ?_ ?_
    rotate_left
    · rintro w' ⟨s0, s1, s2, s3, s4, s5⟩
      go_simp
      with_reducible rfl
    rotate_left
    · simp only [Act.put, List.setIfInBounds_toArray, List.set_cons_zero, List.set_cons_succ, i64_w, i32_w]
      rfl
    refine take_ (i := 8) (N := some 25) (v := ?_) (a' := ?_) #[true, true, true, false, true, true, false, true, true, false, false] rfl rfl (take_ofW HT_.out HW_.out (by kernel_rfl)) (fun _ _ _ h => h) (Or.inl ⟨by rfl, ?_⟩) hHeld ?_ ?_
    rotate_left
    · rintro w' ⟨s0, s1, s2, s3, s4, s5⟩
      go_simp
      with_reducible rfl
    rotate_left
    · simp only [Act.put, List.setIfInBounds_toArray, List.set_cons_zero, List.set_cons_succ, i64_w, i32_w]
      rfl
    refine one_ (i := 3) (N := some 20) #[true, true, true, true, true, true, false, true, true, false, false] rfl rfl (one_of HT_.out (by kernel_rfl)) (by decide) (fun K hK => ?_)
    refine goes_ Try.func69 (by kernel_rfl) rfl #[.slice Ao15 y134.length co15, .int .i64 a0_3] (by rfl) rfl rfl (by (try simp only [List.map_toArray, List.map_cons, List.map_nil]); first | done | rfl | (simp only [List.length_drop, List.length_take]; rfl)) ?_
    with_reducible refine (shard_number.calls (fun k_ => some k_ = (.slice Ao15 y134.length co15 : Value).ownBlock) (.slice Ao15 y134.length co15) y134 a0_3 t137 w _ ?side1 ?side2 A3.out).mono ?_
    (case side1 => repeat (first | (with_reducible first | exact HB.out | apply below_alloc | apply pw_below_drewN | apply below_drew1 | refine below_set ?_ GE127.out) | exact HB.out))
    (case side2 => exact Kd.R_tight rfl HO136.out)
    rintro e w16 ⟨v138, rfl, ho0, hb, hkp⟩
    refine ⟨_, rfl, ?_⟩
    have n0_ := Aside0.mk (blk_kept (by (with_reducible repeat (first | refine blk_drewN ?_ _ | refine blk_drew ?_ | refine blk_alloc ?_ _)); exact BK127.out) hkp (fun hs_ => (fun e_ => (Kd.R_ne HO136.out BK127.out (by decide)) e_) hs_))
    have n2_ := Aside0.mk (Kd.R_mono (ok' := fun _ => True) ho0 (fun _ _ => trivial))
    have n3_ := Aside0.mk (hb)
    clear BK127
    clear HB
    clear HO136
    have BK127 := n0_
    have HO139 := n2_
    have HB := n3_
    (try clear n0_); (try clear n1_); (try clear n2_); (try clear n3_)
    (try clear hb)
    (try clear hkp)
    (try clear ho0)
    obtain ⟨Ao17, co17, eo17⟩ := Kd.R_slice HO139.out
    (first | subst eo17 | (injection eo17 with f1_ f2_ f3_; have f4_ := f1_.symm; have f5_ := f3_.symm; clear f1_ f2_ f3_; subst f4_; subst f5_))
    refine hK.out _ _ ⟨(blk_cell BK127.out 0).trans rfl, (blk_cell BK127.out 1).trans rfl, (blk_cell BK127.out 2).trans rfl, (blk_cell BK127.out 3).trans rfl, (blk_cell BK127.out 4).trans rfl, (blk_cell BK127.out 5).trans rfl⟩ (fun hHeld => ?_)
    clear hK K
    refine norm_ (a' := ?_) ?_ ?_
    rotate_left
    · show Act.put _ (some 20) _ = _
      simp only [Act.put, List.setIfInBounds_toArray, List.set_cons_zero, List.set_cons_succ, i64_w, i32_w]
      rfl
    refine one_ (i := 6) (N := some 23) #[true, true, true, true, true, true, true, true, true, false, false] rfl rfl (one_of HT_.out (by kernel_rfl)) (by decide) (fun K hK => ?_)
    refine goes_ Try.func69 (by kernel_rfl) rfl #[.slice Ao17 t137.length co17, .int .i64 a0_4] (by rfl) rfl rfl (by (try simp only [List.map_toArray, List.map_cons, List.map_nil]); first | done | rfl | (simp only [List.length_drop, List.length_take]; rfl)) ?_
    with_reducible refine (shard_number.calls (fun k_ => some k_ = (.slice Ao17 t137.length co17 : Value).ownBlock) (.slice Ao17 t137.length co17) t137 a0_4 t140 w _ ?side1 ?side2 A4.out).mono ?_
    (case side1 => repeat (first | (with_reducible first | exact HB.out | apply below_alloc | apply pw_below_drewN | apply below_drew1 | refine below_set ?_ GE127.out) | exact HB.out))
    (case side2 => exact Kd.R_tight rfl HO139.out)
    rintro e w18 ⟨v141, rfl, ho0, hb, hkp⟩
    refine ⟨_, rfl, ?_⟩
    have n0_ := Aside0.mk (blk_kept (by (with_reducible repeat (first | refine blk_drewN ?_ _ | refine blk_drew ?_ | refine blk_alloc ?_ _)); exact BK127.out) hkp (fun hs_ => (fun e_ => (Kd.R_ne HO139.out BK127.out (by decide)) e_) hs_))
    have n2_ := Aside0.mk (Kd.R_mono (ok' := fun _ => True) ho0 (fun _ _ => trivial))
    have n3_ := Aside0.mk (hb)
    clear BK127
    clear HB
    clear HO139
    have BK127 := n0_
    have HO142 := n2_
    have HB := n3_
    (try clear n0_); (try clear n1_); (try clear n2_); (try clear n3_)
    (try clear hb)
    (try clear hkp)
    (try clear ho0)
    obtain ⟨Ao19, co19, eo19⟩ := Kd.R_slice HO142.out
    (first | subst eo19 | (injection eo19 with f1_ f2_ f3_; have f4_ := f1_.symm; have f5_ := f3_.symm; clear f1_ f2_ f3_; subst f4_; subst f5_))
    refine hK.out _ _ ⟨(blk_cell BK127.out 0).trans rfl, (blk_cell BK127.out 1).trans rfl, (blk_cell BK127.out 2).trans rfl, (blk_cell BK127.out 3).trans rfl, (blk_cell BK127.out 4).trans rfl, (blk_cell BK127.out 5).trans rfl⟩ (fun hHeld => ?_)
    clear hK K
    refine norm_ (a' := ?_) ?_ ?_
    rotate_left
    · show Act.put _ (some 23) _ = _
      simp only [Act.put, List.setIfInBounds_toArray, List.set_cons_zero, List.set_cons_succ, i64_w, i32_w]
      rfl
    refine one_ (i := 9) (N := some 26) #[true, true, true, true, true, true, true, true, true, true, false] rfl rfl (one_of HT_.out (by kernel_rfl)) (by decide) (fun K hK => ?_)
    refine goes_ Try.func69 (by kernel_rfl) rfl #[.slice Ao19 t140.length co19, .int .i64 a0_5] (by rfl) rfl rfl (by (try simp only [List.map_toArray, List.map_cons, List.map_nil]); first | done | rfl | (simp only [List.length_drop, List.length_take]; rfl)) ?_
    with_reducible refine (shard_number.calls (fun k_ => some k_ = (.slice Ao19 t140.length co19 : Value).ownBlock) (.slice Ao19 t140.length co19) t140 a0_5 t143 w _ ?side1 ?side2 A5.out).mono ?_
    (case side1 => repeat (first | (with_reducible first | exact HB.out | apply below_alloc | apply pw_below_drewN | apply below_drew1 | refine below_set ?_ GE127.out) | exact HB.out))
    (case side2 => exact Kd.R_tight rfl HO142.out)
    rintro e w20 ⟨v144, rfl, ho0, hb, hkp⟩
    refine ⟨_, rfl, ?_⟩
    have n0_ := Aside0.mk (blk_kept (by (with_reducible repeat (first | refine blk_drewN ?_ _ | refine blk_drew ?_ | refine blk_alloc ?_ _)); exact BK127.out) hkp (fun hs_ => (fun e_ => (Kd.R_ne HO142.out BK127.out (by decide)) e_) hs_))
    have n2_ := Aside0.mk (Kd.R_mono (ok' := fun _ => True) ho0 (fun _ _ => trivial))
    have n3_ := Aside0.mk (hb)
    clear BK127
    clear HB
    clear HO142
    have BK127 := n0_
    have HO145 := n2_
    have HB := n3_
    (try clear n0_); (try clear n1_); (try clear n2_); (try clear n3_)
    (try clear hb)
    (try clear hkp)
    (try clear ho0)
    obtain ⟨Ao21, co21, eo21⟩ := Kd.R_slice HO145.out
    (first | subst eo21 | (injection eo21 with f1_ f2_ f3_; have f4_ := f1_.symm; have f5_ := f3_.symm; clear f1_ f2_ f3_; subst f4_; subst f5_))
    refine hK.out _ _ ⟨(blk_cell BK127.out 0).trans rfl, (blk_cell BK127.out 1).trans rfl, (blk_cell BK127.out 2).trans rfl, (blk_cell BK127.out 3).trans rfl, (blk_cell BK127.out 4).trans rfl, (blk_cell BK127.out 5).trans rfl⟩ (fun hHeld => ?_)
    clear hK K
    refine norm_ (a' := ?_) ?_ ?_
    rotate_left
    · show Act.put _ (some 26) _ = _
      simp only [Act.put, List.setIfInBounds_toArray, List.set_cons_zero, List.set_cons_succ, i64_w, i32_w]
      rfl
    refine pure_ (i := 10) (N := some 3) (v := ?_) (a' := ?_) #[true, true, true, true, true, true, true, true, true, true, true] rfl rfl (any_of HT_.out (by kernel_rfl)) (fun _ _ _ h => h) (Or.inl ⟨by rfl, ?_⟩) ?_ ?_
    rotate_left
    · intro w'
      go_simp
      with_reducible rfl
    rotate_left
    · simp only [Act.put, List.setIfInBounds_toArray, List.set_cons_zero, List.set_cons_succ, i64_w, i32_w]
      rfl
    refine done_ (done_of HT_.out (by kernel_rfl)) ?_
    go_wp2_with (first | ((with_reducible refine gate_callee (f := 49) rfl ?_); refine goesL_ (some 29) rfl rfl Try.func49 (by kernel_rfl) rfl #[.slice Ao21 t143.length co21, .slice Ao21 t143.length co21] rfl (by (try simp only [List.map_toArray, List.map_cons, List.map_nil]); first | done | rfl | (simp only [List.length_drop, List.length_take]; rfl)) ?_; (with_reducible refine (shard_sum.now k (fun k_ => some k_ = (.slice Ao21 t143.length co21 : Value).ownBlock) (.slice Ao21 t143.length co21) t143 Ao21 co21 t143 r w _ ?side1 ?side2 ?side3 ?side4 H).mono ?_); (case side1 => repeat (first | (with_reducible first | exact HB.out | apply below_alloc | apply pw_below_drewN | apply below_drew1 | refine below_set ?_ GE127.out) | exact HB.out)); (case side2 => exact Kd.R_tight rfl (by (with_reducible repeat (first | apply Kd.R_alloc | apply Kd.R_drewN | apply Kd.R_drew)); exact HO145.out)); (case side3 => repeat (first | exact (Kd.R_reads' HO145.out).2.2 | (with_reducible refine Kd.C_alloc ?_ _) | (with_reducible refine Kd.C_drewN ?_ _) | (with_reducible refine Kd.C_drew ?_))); (case side4 => exact (Kd.R_reads' HO145.out).2.1); rintro e w22 ⟨v146, rfl, ho0, hb, hkp⟩; refine ⟨_, rfl, ?_⟩))
    go_ret
    exact ⟨_, by first | rfl | (simp [errW_none, errW_some] <;> rfl), by (with_reducible repeat (first | apply Kd.R_alloc | apply Kd.R_drewN | apply Kd.R_drew)); exact Kd.R_mono ho0 (fun _ hk => trivial), by repeat (first | (with_reducible first | exact hb | apply below_alloc | apply pw_below_drewN | apply below_drew1) | exact hb)⟩
theorem shard_head.mono : ∀ a0 a1 a2 a3 a4 a5 k, LeO (shard_head.f k a0 a1 a2 a3 a4 a5) (shard_head.f (k + 1) a0 a1 a2 a3 a4 a5) := by
  intro a0 a1 a2 a3 a4 a5 k
  unfold shard_head.f
  repeat' first
      | (with_reducible exact shard_sum.mono _ _ _)
      | (with_reducible exact LeO.refl _)
      | (with_reducible refine LeO.bind ?_ (fun _ => ?_))
end

-- NOT PRINTED: function 48 (slices_Chunk_byte_byte)

/-! ### shard_Write: function 16 -/
-- ROUNDS
-- IMPORTS Derived.Test.YtnlpipjdpmaggaaChunk Derived.Test.YtnlpipjdpmaggaaMore Derived.Outline Derived.RangeFuncCalls Derived.RangeFuncNested
section
attribute [local go_sem] Oper.semAt_some
theorem more_l1_some (l : List Int) (n i : Int) (P : Nat → Prop) (d : Nat) : ∀ (S : Int) (j : Int), j + d = 8 → 0 ≤ j →
    (∀ S, ∃ k r, crc_More.l0 k S l n (wrap64 (i + 1)) = some r) → ∃ k r, crc_More.l1 k S l n i j = some r := by
  induction d with
  | zero =>
    intro S j hj h0 h
    obtain ⟨k, r, h⟩ := h S
    exact ⟨k + 1, r, by simp only [crc_More.l1]; rw [if_neg (by omega)]; exact h⟩
  | succ d ih =>
    intro S j hj h0 h
    have e : wrap64 (j + 1) = j + 1 := by unfold wrap64; omega
    by_cases hb : Go.bits .and .u32 S 1 = 1
    · obtain ⟨k, r, h'⟩ := ih (Go.bits .xor .u32 (S / 2) 2197175160) (j + 1) (by omega) (by omega) h
      exact ⟨k + 1, r, by simp only [crc_More.l1]; rw [if_pos (by omega), if_pos hb, e]; exact h'⟩
    · obtain ⟨k, r, h'⟩ := ih (S / 2) (j + 1) (by omega) (by omega) h
      exact ⟨k + 1, r, by simp only [crc_More.l1]; rw [if_pos (by omega), if_neg hb, e]; exact h'⟩
theorem more_l0_some (l : List Int) (hl : l.length < 4611686018427387904) (d : Nat) : ∀ (S i : Int), 0 ≤ i → i + d = l.length →
    ∃ k r, crc_More.l0 k S l (l.length : Int) i = some r := by
  induction d with
  | zero =>
    intro S i h0 hi
    exact ⟨1, _, by simp only [crc_More.l0]; rw [if_neg (by omega)]⟩
  | succ d ih =>
    intro S i h0 hi
    have e : wrap64 (i + 1) = i + 1 := by unfold wrap64; omega
    obtain ⟨k, r, h⟩ := more_l1_some l l.length i (fun _ => True) 8 (Go.bits .xor .u32 S ((rd l i) % 4294967296)) 0 (by omega) (by omega) (fun S => by rw [e]; exact ih S (i + 1) (by omega) (by omega))
    exact ⟨k + 1, r, by simp only [crc_More.l0]; rw [if_pos (by omega), if_pos (by omega), if_pos (by omega)]; exact h⟩
theorem crc_some (l : List Int) (hl : l.length < 4611686018427387904) : ∃ k r, crc_Sum.f k l = some r := by
  obtain ⟨k, r, h⟩ := more_l0_some l hl l.length (Go.bits .xor .u32 4294967295 0) 0 (by omega) (by omega)
  refine ⟨k, r, ?_⟩
  unfold crc_Sum.f crc_More.f
  rw [h]; rfl
theorem sum_some (a l : List Int) (hl : l.length < 4611686018427387904) (ha : a.length + 4 < 140737488355328) : ∃ k r, shard_sum.f k a l = some r := by
  obtain ⟨k, t, h⟩ := crc_some l hl
  refine ⟨k, a ++ [t % 256, (t / 256) % 256, (t / 65536) % 256, (t / 16777216) % 256], ?_⟩
  unfold shard_sum.f
  rw [h]
  simp only [Option.bind_some, crc_Bytes.f]
  exact if_pos (by simpa using ha)
theorem sum_length {k : Nat} {a l r : List Int} (h : shard_sum.f k a l = some r) : r.length = a.length + 4 := by
  unfold shard_sum.f at h
  obtain ⟨t, _, h⟩ := Option.bind_eq_some_iff.mp h
  obtain ⟨u, hu, h⟩ := Option.bind_eq_some_iff.mp h
  unfold crc_Bytes.f at hu
  obtain rfl := Option.some.inj hu
  split at h
  · obtain rfl := Option.some.inj h
    simp
  · cases h

theorem addr_add_add (a : Addr) (m n : Nat) : (a.add m).add n = a.add (m + n) := by
  unfold Addr.add
  by_cases hm : m = 0
  · subst hm; simp
  · by_cases hn : n = 0
    · subst hn; simp [hm]
    · have : ¬ m + n = 0 := by omega
      simp [hm, hn, this, Nat.add_assoc]
theorem C_piece {k : IntKind} {W : World} {A : Option Addr} {xs : List Int} (h : Kd.C (Kd.int k) W A xs.length xs) (i n : Nat) (hi : i < xs.length) :
    Kd.C (Kd.int k) W (some ((A.getD default).add i)) (min n (xs.length - i)) ((xs.drop i).take n) := by
  obtain ⟨h1, h2, h3⟩ := h
  refine ⟨by simp [Nat.min_comm], by omega, fun _ => ?_⟩
  obtain ⟨ad, rfl, h4⟩ := h3 (by omega)
  refine ⟨ad.add i, rfl, fun j p hj => ?_⟩
  have hj' : xs[i + j]? = some p := by
    rw [List.getElem?_take] at hj
    split at hj
    · rw [List.getElem?_drop] at hj; exact hj
    · cases hj
  obtain ⟨c, hc1, hc2, hc3⟩ := h4 (i + j) p hj'
  refine ⟨c, hc1, hc2, fun q u hq => ?_⟩
  have e : (Kd.int k).sz = 1 := rfl
  have := hc3 q u hq
  rw [e] at this ⊢
  rw [addr_add_add]
  rw [show i + (j * 1 + q) = (i + j) * 1 + q by omega]
  exact this


theorem R_exact {W : World} {base : Nat} {ok : Nat → Prop} {v : Value} {xs : List Int} (h : Kd.R (Kd.int .u8) 5 W base ok v xs) : Kd.R (Kd.int .u8) 5 W base (fun k => some k = v.ownBlock) v xs :=
  ⟨fun k hk => hk.symm, h.2⟩
theorem R_block {W : World} {base : Nat} {ok : Nat → Prop} {v : Value} {xs : List Int} (h : Kd.R (Kd.int .u8) 5 W base ok v xs) (k : Nat) (hk : v.ownBlock = some k) : base ≤ k ∧ ∃ cells, W.heap[k]? = some (.cells cells 5 (0, 0)) := by
  obtain ⟨inner, ho⟩ := Kd.R_own h
  exact ⟨own_base ho k hk, own_typed ho k hk⟩
theorem boxed_ne {W : World} {base : Nat} {ok : Nat → Prop} {v u : Value} {xs : List Int} {B t : Nat} (h : Kd.R (Kd.int .u8) 5 W base ok v xs) (hb : Boxed W B t u) (ht : t ≠ 5) : some B ≠ v.ownBlock := by
  intro e
  obtain ⟨_, cells, hc⟩ := R_block h B e.symm
  have : W.heap[B]? = some (.cells #[u] t (0, 0)) := hb
  rw [hc] at this
  injection this with this
  injection this with _ h2
  exact ht h2.symm

/-- What a round finds and leaves. -/
def Inv (w : World) (Bb : Nat) (sv : Value) (n : Nat) (l1 : List Int) (fin : List Int × Int) (L : Nat) (go : Nat → Int → List Int → List Int → Option (List Int × Int)) (pre : List {i : Nat // i * n < l1.length}) (W : World) : Prop :=
  ∃ v b', Boxed W Bb 22 v ∧ Boxed W (Bb + 1) 22 sv ∧ Boxed W (Bb + 2) 3 (.int .i64 n) ∧ Kd.R (Kd.int .u8) 5 W w.heap.size (fun _ => True) v b' ∧ Below w.heap.size w W ∧ b'.length ≤ L + pre.length * (n + 4) ∧
    (pre.map (·.1) = List.range pre.length → ∃ k', go k' n b' (l1.drop (pre.length * n)) = some fin)
theorem inv_own (w : World) (Bb : Nat) (hBb : w.heap.size ≤ Bb) (sv : Value) (n : Nat) (l1 : List Int) (fin : List Int × Int) (L B : Nat) (hB : w.heap.size ≤ B) (go : Nat → Int → List Int → List Int → Option (List Int × Int)) : OwnFrom B (Inv w Bb sv n l1 fin L go) := by
  rintro s W W' row ⟨v, b', h1, h2, h3, h4, h5, h6, h7⟩ hg hr
  have hne : ∀ {p t : Nat} {u : Value}, Boxed W p t u → some p ≠ row := by
    intro p t u hb e
    obtain ⟨_, o, ho, hc⟩ := hr p e.symm
    have : W.heap[p]? = some (.cells #[u] t (0, 0)) := hb
    rw [ho] at this
    injection this with this
    subst this
    cases hc
  refine ⟨v, b', h1.kept hg (hne h1), h2.kept hg (hne h2), h3.kept hg (hne h3), ?_, h5.grown hg h5.size (fun k e => Nat.le_trans hB (hr k e).1), h6, h7⟩
  refine Kd.R_mono (Kd.R_grown (R_exact h4) hg ?_) (fun _ _ => trivial)
  intro k hk e
  obtain ⟨_, o, ho, hc⟩ := hr k e.symm
  obtain ⟨_, cells, hcl⟩ := R_block h4 k hk.symm
  rw [hcl] at ho
  injection ho with ho
  subst ho
  cases hc

theorem head_length {k : Nat} {a0 a1 a2 a3 a4 a5 : Int} {b : List Int} (h : shard_head.f k a0 a1 a2 a3 a4 a5 = some b) : b.length = 24 := by
  have num : ∀ {l : List Int} {a : Int} {r : List Int}, shard_number.f l a = some r → r.length = l.length + 4 := by
    intro l a r h
    unfold shard_number.f at h
    simp only [Option.bind_some] at h
    split at h
    · obtain rfl := Option.some.inj h; simp
    · cases h
  unfold shard_head.f at h
  obtain ⟨b1, h1, h⟩ := Option.bind_eq_some_iff.mp h
  obtain ⟨b2, h2, h⟩ := Option.bind_eq_some_iff.mp h
  obtain ⟨b3, h3, h⟩ := Option.bind_eq_some_iff.mp h
  have e1 := num h1
  have e2 := num h2
  have e3 := num h3
  have e4 := sum_length h
  simp only [List.length_cons, List.length_nil] at e1
  omega
theorem may_bounds {k : Nat} {a0 a1 a2 a3 a4 a5 : Int} (h : shard_May.f k a0 a1 a2 a3 a4 a5 = some true) : 1 ≤ a0 ∧ a0 ≤ 255 ∧ 1 ≤ a1 ∧ a1 ≤ 255 - a0 ∧ 0 ≤ a2 ∧ a2 ≤ a0 + a1 - 1 ∧ 16 ≤ a3 ∧ a3 ≤ 4096 ∧ 0 ≤ a4 ∧ a4 ≤ 65536 ∧ 0 ≤ a5 ∧ a5 ≤ 2147483647 := by
  have wi : ∀ {n lo hi : Int}, shard_within.f n lo hi = some true → lo ≤ n ∧ n ≤ hi := by
    intro n lo hi h
    unfold shard_within.f at h
    split at h
    · exact ⟨by omega, by simpa using h⟩
    · cases h
  have jo : ∀ {k : Nat} {b : Bool}, shard_May.j0 k b a0 a1 a2 a3 a4 a5 = some true → b = false ∧ shard_within.f a2 0 (wrap64 ((wrap64 (a0 + a1)) - 1)) = some true ∧ shard_within.f a3 16 4096 = some true ∧ shard_within.f a4 0 65536 = some true ∧ shard_within.f a5 0 2147483647 = some true := by
    intro k b h
    cases k with
    | zero => cases h
    | succ k =>
    simp only [shard_May.j0] at h
    cases b with
    | true => rw [if_pos rfl] at h; cases h
    | false =>
    rw [if_neg (by simp)] at h
    obtain ⟨t1, e1, h⟩ := Option.bind_eq_some_iff.mp h
    cases t1 with
    | false => rw [if_neg (by simp)] at h; cases h
    | true =>
    rw [if_pos rfl] at h
    obtain ⟨t2, e2, h⟩ := Option.bind_eq_some_iff.mp h
    cases t2 with
    | false => rw [if_neg (by simp)] at h; cases h
    | true =>
    rw [if_pos rfl] at h
    obtain ⟨t3, e3, h⟩ := Option.bind_eq_some_iff.mp h
    cases t3 with
    | false => rw [if_neg (by simp)] at h; cases h
    | true =>
    rw [if_pos rfl] at h
    obtain ⟨t4, e4, h⟩ := Option.bind_eq_some_iff.mp h
    obtain rfl := Option.some.inj h
    exact ⟨rfl, e1, e2, e3, e4⟩
  unfold shard_May.f at h
  obtain ⟨t1, e1, h⟩ := Option.bind_eq_some_iff.mp h
  cases t1 with
  | false => rw [if_neg (by simp)] at h; have := (jo h).1; cases this
  | true =>
  rw [if_pos rfl] at h
  obtain ⟨t2, e2, h⟩ := Option.bind_eq_some_iff.mp h
  obtain ⟨hb, f1, f2, f3, f4⟩ := jo h
  obtain rfl : t2 = true := by simpa using hb
  have w1 := wi e1
  have w2 := wi e2
  have w3 := wi f1
  have w4 := wi f2
  have w5 := wi f3
  have w6 := wi f4
  unfold wrap64 at w2 w3
  omega

def shard_Write.l0 : Nat → Int → List Int → List Int → Option (List Int × Int)
  | 0, _, _, _ => none
  | k + 1, n, b, rest => if rest = [] then some (b, 0) else if b.length + (rest.take n.toNat).length < 140737488355328 then (shard_sum.f k (b ++ rest.take n.toNat) (rest.take n.toNat)).bind fun b2 => shard_Write.l0 k n b2 (rest.drop n.toNat) else none
def shard_Write.f (k : Nat) (a0 a1 a2 a3 a4 a5 : Int) (l1 : List Int) : Option (List Int × Int) :=
  (shard_May.f k a0 a1 a2 a3 a4 a5).bind fun m => if m = true then (if (l1.length : Int) = a4 then (shard_head.f k a0 a1 a2 a3 a4 a5).bind fun b => shard_Write.l0 k a3 b l1 else some ([], 1)) else some ([], 1)

set_option maxHeartbeats 1000000 in
set_option maxRecDepth 100000 in
theorem shard_Write.calls (k : Nat) (a0_0 a0_1 a0_2 a0_3 a0_4 a0_5 : Int) (A1 : Option Addr) (c1 : Nat) (l1 : List Int) (r1 : List Int) (r2 : Int) (w : World) (hr1 : Kd.C (Kd.int .u8) w A1 l1.length l1) (hc1 : l1.length ≤ c1) (h : shard_Write.f k a0_0 a0_1 a0_2 a0_3 a0_4 a0_5 l1 = some (r1, r2)) :
    Calls Try.prog 16 #[.agg #[.int .i64 a0_0, .int .i64 a0_1, .int .i64 a0_2, .int .i64 a0_3, .int .i64 a0_4, .int .i64 a0_5], .slice A1 l1.length c1] w fun e w' => ∃ v0_ : Value, e = .returned (.tuple #[v0_, .int .i64 r2]) ∧ Kd.R (Kd.int .u8) 5 w' w.heap.size (fun _ => True) v0_ r1 ∧ Below w.heap.size w w' := by
  unfold shard_Write.f at h
  obtain ⟨m, hm, h⟩ := Option.bind_eq_some_iff.mp h
  have Hm := Aside0.mk hm
  have HR := Aside0.mk hr1
  clear hm hr1
  have cf : ∀ w1, Below (w.heap.size + 1) (w.alloc (.cells #[.int .i64 a0_0, .int .i64 a0_1, .int .i64 a0_2, .int .i64 a0_3, .int .i64 a0_4, .int .i64 a0_5] 32)) w1 →
      w1.heap[w.heap.size]? = some (.cells #[.int .i64 a0_0, .int .i64 a0_1, .int .i64 a0_2, .int .i64 a0_3, .int .i64 a0_4, .int .i64 a0_5] 32 (0, 0)) := fun w1 hb =>
    (hb.block w.heap.size (by omega)).trans (World.alloc_heap_new w _)
  have Cf := Aside0.mk cf
  clear cf
  refine (callsIn_wide (n := 9)).1 ?_
  refine callsIn_of_wp_marks Try.func16 rfl trivial ?_ rfl
  simp only [Try.ntmps16, List.size_toArray, List.length_cons, List.length_nil, Nat.reduceAdd, Nat.reduceSub, Array.replicate_succ, Array.replicate_zero, List.push_toArray, List.append_toArray, List.nil_append, List.cons_append]
  have hF : ∀ f, Fence.wide.fn f := fun _ => trivial
  cases m with
  | false =>
    rw [if_neg (by simp)] at h
    obtain ⟨rfl, rfl⟩ := Prod.mk.inj (Option.some.inj h)
    gi_wp2_with (gi_at_call 33; refine CallsIn.mono (callsIn_wide.2 (shard_May.calls k a0_0 a0_1 a0_2 a0_3 a0_4 a0_5 false _ Hm.out)) ?_; rintro e w1 ⟨rfl, hb⟩)
    exact ⟨_, results_tmp2 (fn := Try.f16) rfl _ _ _, .slice none 0 0, rfl, Kd.R_nil _ _ _ _ _, ((Below.refl _ w).alloc (Nat.le_refl _) _).trans (hb.mono (by simp))⟩
  | true =>
    rw [if_pos rfl] at h
    by_cases hlen : (l1.length : Int) = a0_4
    · rw [if_pos hlen] at h
      obtain ⟨b0, hb0, h⟩ := Option.bind_eq_some_iff.mp h
      have Hb0 := Aside0.mk hb0
      have H := Aside0.mk h
      clear hb0 h
      have hl1 : ((l1.length : Int) != a0_4) = false := bne_eq_false_iff_eq.2 hlen
      have hl2 : ((l1.length : Int) == a0_4) = true := beq_iff_eq.2 hlen
      have Hlen := Aside0.mk hlen
      clear hlen
      have mb := may_bounds Hm.out
      obtain ⟨n, hn3⟩ : ∃ n : Nat, a0_3 = (n : Int) := ⟨a0_3.toNat, by omega⟩
      subst hn3
      have hn1 : 1 ≤ n := by omega
      have hn4 : n ≤ 4096 := by omega
      have hnB : n ≤ 1099511627776 := by omega
      have hlB : l1.length ≤ 65536 := by have := Hlen.out; omega
      have Hb24 := Aside0.mk (head_length Hb0.out)
      clear mb
      gi_wp2_with (first | (gi_at_call 33; refine CallsIn.mono (callsIn_wide.2 (shard_May.calls k a0_0 a0_1 a0_2 n a0_4 a0_5 true _ Hm.out)) ?_; rintro e w1 ⟨rfl, hb⟩; have hb' := Aside0.mk hb; have hcell := Cf.out w1 (by simpa using hb); have hc0 : w1.cell? ⟨w.heap.size, 0, none⟩ = some (.int .i64 a0_0) := blk_cell hcell 0; have hc1_ : w1.cell? ⟨w.heap.size, 1, none⟩ = some (.int .i64 a0_1) := blk_cell hcell 1; have hc2 : w1.cell? ⟨w.heap.size, 2, none⟩ = some (.int .i64 a0_2) := blk_cell hcell 2; have hc3 : w1.cell? ⟨w.heap.size, 3, none⟩ = some (.int .i64 n) := blk_cell hcell 3; have hc4 : w1.cell? ⟨w.heap.size, 4, none⟩ = some (.int .i64 a0_4) := blk_cell hcell 4; have hc5 : w1.cell? ⟨w.heap.size, 5, none⟩ = some (.int .i64 a0_5) := blk_cell hcell 5; clear hcell hb))
      refine CallsIn.mono (callsIn_wide.2 (shard_head.calls k a0_0 a0_1 a0_2 n a0_4 a0_5 b0 _ Hb0.out)) ?_
      rintro e w2 ⟨v0, rfl, hR0, hB2⟩
      have hw1 : w.heap.size < w1.heap.size := by have := hb'.out.size; simp at this; omega
      have hw2 : w.heap.size < w2.heap.size := by have := hB2.size; omega
      have hc3' : w2.cell? ⟨w.heap.size, 3, none⟩ = some (.int .i64 n) := (hB2.cell (p := ⟨w.heap.size, 3, none⟩) hw1).trans hc3
      have hB0 : Below w.heap.size w w2 := (((Below.refl _ w).alloc (Nat.le_refl _) _).trans (hb'.out.mono (by simp))).trans (hB2.mono (by omega))
      have HB0 := Aside0.mk hB0
      have HR0 := Aside0.mk (Kd.R_lower hR0 (Nat.le_of_lt hw1))
      clear hc0 hc1_ hc2 hc3 hc4 hc5 hb' hB2 hR0 hB0
      obtain ⟨Ao, co, eo⟩ := Kd.R_slice HR0.out
      subst eo
      gi_wp2_with (first | (gi_at_call 48; refine CallsIn.mono (Ytnlpipjdpmaggaa.Chunk.chunk_in 8 A1 l1.length c1 n hn1 _) ?_; rintro e w3 ⟨rfl, rfl⟩))
      have Hsz := Aside0.mk HB0.out.size
      generalize hW0 : (((w2.alloc (Obj.cells #[Value.slice Ao b0.length co] 22)).alloc (Obj.cells #[Value.slice A1 l1.length c1] 22)).alloc (Obj.cells #[Value.int IntKind.i64 n] 3)) = W0
      have x1 : Boxed W0 w2.heap.size 22 (.slice Ao b0.length co) := by rw [← hW0]; exact ((Boxed.new w2 22 _).alloc _).alloc _
      have x2 : Boxed W0 (w2.heap.size + 1) 22 (.slice A1 l1.length c1) := by rw [← hW0]; have := (Boxed.new (w2.alloc (Obj.cells #[Value.slice Ao b0.length co] 22)) 22 (.slice A1 l1.length c1)).alloc (Obj.cells #[Value.int IntKind.i64 n] 3); rwa [World.size_alloc] at this
      have x3 : Boxed W0 (w2.heap.size + 2) 3 (.int .i64 n) := by rw [← hW0]; have := Boxed.new ((w2.alloc (Obj.cells #[Value.slice Ao b0.length co] 22)).alloc (Obj.cells #[Value.slice A1 l1.length c1] 22)) 3 (.int .i64 n); rwa [World.size_alloc, World.size_alloc] at this
      have xb : Below w2.heap.size w2 W0 := by rw [← hW0]; exact (((Below.refl _ _).alloc (Nat.le_refl _) _).alloc (by simp) _).alloc (by simp; omega) _
      have xs : W0.heap.size = w2.heap.size + 3 := by rw [← hW0]; simp
      have xR : Kd.R (Kd.int .u8) 5 W0 w.heap.size (fun _ => True) (.slice Ao b0.length co) b0 := Kd.R_below HR0.out xb
      have xB : Below w.heap.size w W0 := HB0.out.trans (xb.mono HB0.out.size)
      clear hW0
      refine wpIn_rangeFunc_ownG rfl (by omega) (gf := 70) (lb := #[.pointer (some ⟨w2.heap.size + 1, 0, none⟩), .pointer (some ⟨w2.heap.size + 1 + 1, 0, none⟩)]) rfl trivial (enters_of Try.func70 (by kernel_rfl) rfl)
        (Ytnlpipjdpmaggaa.Chunk.stops 8 (by omega) (w2.heap.size + 1) (w2.heap.size + 1 + 1) A1 l1.length c1 n (fun hp => by obtain ⟨ad, e, _⟩ := HR.out.2.2 hp; exact ⟨ad, e⟩) hn1 hnB hc1 (by omega) W0 (by omega) (by omega) x2.cell x3.cell)
        (fun h k => h.trans k) (Ytnlpipjdpmaggaa.Chunk.Two.book (by omega) (by omega)) (Below.refl _ _) (fun _ => rfl)
        (Inv w w2.heap.size (.slice A1 l1.length c1) n l1 (r1, r2) b0.length shard_Write.l0) (fun _ _ _ => False)
        (inv_own w w2.heap.size (by omega) _ n l1 _ _ _ (by omega) _) (fun _ _ _ _ _ hs _ _ => hs)
        ⟨_, b0, x1, x2, x3, xR, xB, by simp, fun _ => ⟨k, by simpa using H.out⟩⟩
        (fun x => { tmps := #[.agg #[.int .i64 a0_0, .int .i64 a0_1, .int .i64 a0_2, .int .i64 n, .int .i64 a0_4, .int .i64 a0_5], .slice A1 l1.length c1, .pointer (some ⟨w.heap.size, 0, none⟩), undef, .slice none 0 0, .int .i64 0, .pointer (some ⟨w2.heap.size, 0, none⟩),
          .slice (some ((A1.getD default).add (x.1 * n))) (min n (l1.length - x.1 * n)) (min n (l1.length - x.1 * n)), .agg #[.int .i64 a0_0, .int .i64 a0_1, .int .i64 a0_2, .int .i64 n, .int .i64 a0_4, .int .i64 a0_5], .bool true, .bool false, .bool false, .slice A1 l1.length c1, .int .i64 l1.length, .pointer (some ⟨w.heap.size, 4, none⟩), .int .i64 a0_4, .bool false, .bool false,
          .agg #[.int .i64 a0_0, .int .i64 a0_1, .int .i64 a0_2, .int .i64 n, .int .i64 a0_4, .int .i64 a0_5], .slice Ao b0.length co, .slice A1 l1.length c1, .pointer (some ⟨w.heap.size, 3, none⟩), .int .i64 n, .func (.func 70) #[] #[.pointer (some ⟨w2.heap.size + 1, 0, none⟩), .pointer (some ⟨w2.heap.size + 1 + 1, 0, none⟩)],
          .slice (some ((A1.getD default).add (x.1 * n))) (min n (l1.length - x.1 * n)) (min n (l1.length - x.1 * n)), undef, undef, undef, undef, undef, undef], defers := [] }) ?assign ?body ?done ?stop
      case assign =>
        intro l x W K hK
        gi_wp2
        exact hK
      case body =>
        rintro l pre x W ⟨v, b', h1, h2, h3, h4, h5, h6, h7⟩ hN
        obtain ⟨Av, cv, ev⟩ := Kd.R_slice h4
        subst ev
        have hcx : Kd.C (Kd.int .u8) W (some ((A1.getD default).add (x.1 * n))) (min n (l1.length - x.1 * n)) ((l1.drop (x.1 * n)).take n) := C_piece (Kd.C_below HR.out h5) (x.1 * n) n x.2
        obtain ⟨c, hcdef⟩ : ∃ c, c = (l1.drop (x.1 * n)).take n := ⟨_, rfl⟩
        have hcl : c.length = min n (l1.length - x.1 * n) := by rw [hcdef]; simp
        rw [← hcdef] at hcx
        have hm2 : pre.length * (n + 4) ≤ 65536 * 4100 := Nat.mul_le_mul (by omega) (by omega)
        have hb24 := Hb24.out
        have step : ∃ k2 b2, shard_sum.f k2 (b' ++ c) c = some b2 ∧ ((pre ++ [x]).map (·.1) = List.range (pre ++ [x]).length → ∃ k', shard_Write.l0 k' n b2 (l1.drop ((pre ++ [x]).length * n)) = some (r1, r2)) := by
          by_cases hv : (pre ++ [x]).map (·.1) = List.range (pre ++ [x]).length
          · have hv2 : pre.map (·.1) = List.range pre.length ∧ x.1 = pre.length := by
              rw [List.map_append, List.length_append, List.length_singleton, List.range_succ] at hv
              obtain ⟨e1, e2⟩ := List.append_inj' hv rfl
              exact ⟨e1, by simpa using e2⟩
            obtain ⟨k', hk'⟩ := h7 hv2.1
            cases k' with
            | zero => cases hk'
            | succ k' =>
            simp only [shard_Write.l0] at hk'
            rw [← hv2.2] at hk'
            have hne : l1.drop (x.1 * n) ≠ [] := by
              intro e
              have e2 := congrArg List.length e
              rw [List.length_drop, List.length_nil] at e2
              have := x.2
              omega
            rw [if_neg hne, Int.toNat_natCast, ← hcdef] at hk'
            split at hk'
            · obtain ⟨b2, e1, e2⟩ := Option.bind_eq_some_iff.mp hk'
              refine ⟨k', b2, e1, fun _ => ⟨k', ?_⟩⟩
              rw [List.drop_drop] at e2
              rw [List.length_append, List.length_singleton, ← hv2.2, Nat.add_mul, Nat.one_mul]
              exact e2
            · cases hk'
          · obtain ⟨k2, b2, e⟩ := sum_some (b' ++ c) c (by omega) (by rw [List.length_append]; omega)
            exact ⟨k2, b2, e, fun h => absurd h hv⟩
        obtain ⟨k2, b2, hsum, hnext⟩ := step
        have hl2 := sum_length hsum
        rw [List.length_append] at hl2
        obtain ⟨v1, W1, hrun, hR1, hg1, hat1⟩ := Ytnlpipjdpmaggaa.More.append_run (P := Try.prog) (Kd.int .u8) (Rr := (Kd.int .u8).K W) w.heap.size 22 22 5 (.int .u8 0) 1 Try.underlying22 info5 rfl (by decide) (by decide) (.slice Av b'.length cv) b' c (some ((A1.getD default).add (x.1 * n))) (min n (l1.length - x.1 * n)) (min n (l1.length - x.1 * n)) (fun _ => True) (fun _ => False) h4 hcx (fun _ _ h => h) (fun _ h => h.elim) (fun _ _ => trivial) h5.size (by omega)
        have hcd := Aside0.mk hcdef
        have hbc := h1.cell
        have hbs : w2.heap.size < W.heap.size := h1.lt
        have G := Aside0.mk (And.intro hsum (And.intro hcl (And.intro hl2 (And.intro hg1 (And.intro hat1 (And.intro hnext (And.intro h1 (And.intro h2 (And.intro h3 (And.intro h4 (And.intro h5 (And.intro h6 (And.intro hcx (And.intro hR1 (And.intro hm2 (And.intro hb24 (And.intro xs (And.intro x.2 hN))))))))))))))))))
        clear hsum hcl hl2 hg1 hat1 hnext h1 h2 h3 h4 h5 h6 h7 hcx hR1 hm2 hb24 xs hcdef x1 x2 x3 xb xR xB hc3' hN
        obtain ⟨A2, c2, ev1⟩ := Kd.R_slice G.out.2.2.2.2.2.2.2.2.2.2.2.2.2.1
        subst ev1
        gi_wp2_with (first | (gi_at_builtin; refine Ytnlpipjdpmaggaa.More.appendIn rfl _ _ 22 rfl _ _ _ rfl rfl hrun ?_; clear hrun))
        obtain ⟨hsum, hcl, hl2, hg1, hat1, hnext, h1, h2, h3, h4, h5, h6, hcx, hR1, hm2, hb24, xs, hx2, hN⟩ := G.out
        have hB1 : Below w.heap.size w W1 := h5.grown hg1 h5.size (fun k e => (R_block h4 k e).1)
        have hc1' : Kd.C (Kd.int .u8) W1 (some ((A1.getD default).add (x.1 * n))) c.length c := by
          have := C_piece (Kd.C_below HR.out hB1) (x.1 * n) n x.2
          rw [← hcd.out, ← hcl] at this
          exact this
        have hfoot : ∀ W_, Kept W1 W_ (fun k => some k = (Value.slice A2 (b' ++ c).length c2).ownBlock) → Kd.C (Kd.int .u8) W_ (some ((A1.getD default).add (x.1 * n))) c.length c := by
          refine Kd.C_foot_neS (fun h => h) hc1' ?_
          intro ad e hpos e2
          obtain rfl := Option.some.inj e
          have hl0 : 0 < l1.length := by omega
          obtain ⟨a0, rfl, _⟩ := HR.out.2.2 hl0
          have hlt := Kd.C_lt HR.out hl0 (by decide)
          have hblk : ((Option.getD (some a0) default).add (x.1 * n)).block = a0.block := by
            unfold Addr.add; split <;> rfl
          rw [hblk] at e2
          have := (R_block hR1 a0.block e2.symm).1
          omega
        have hcall := shard_sum.calls k2 (fun k => some k = (Value.slice A2 (b' ++ c).length c2).ownBlock) (.slice A2 (b' ++ c).length c2) (b' ++ c) (some ((A1.getD default).add (x.1 * n))) c.length c b2 w W1 hB1 (R_exact hR1) hfoot (Nat.le_refl _) hsum
        have HC := Aside0.mk (hcall)
        rw [hcl, List.length_append] at hcall
        refine CallsIn.mono (CallsIn.inRound l (callsIn_wide.2 hcall)) ?_
        rintro e W2 ⟨v2, rfl, hR2, hB2, hK2⟩
        rw [← List.length_append] at hR2 hK2
        have keep : ∀ {p t : Nat} {u : Value}, Boxed W p t u → t ≠ 5 → Boxed W2 p t u ∧ ¬ (some p = (Value.slice A2 (b' ++ c).length c2).ownBlock ∨ W1.heap.size ≤ p) := by
          intro p t u hb ht
          have hb1 : Boxed W1 p t u := hb.kept hg1 (boxed_ne h4 hb ht)
          have hne := boxed_ne hR1 hb1 ht
          have hlt := hb1.lt
          exact ⟨(hK2.2 p hlt hne).trans hb1, fun h => h.elim hne (fun h => by omega)⟩
        have k1 := keep h1 (by decide)
        have k2_ := keep h2 (by decide)
        have k3 := keep h3 (by decide)
        obtain ⟨A3, c3, ev2⟩ := Kd.R_slice hR2
        subst ev2
        have hbc2 := k1.1.cell
        have hbf2 := k1.1.frozen
        have hfin : Inv w w2.heap.size (.slice A1 l1.length c1) n l1 (r1, r2) b0.length shard_Write.l0 (pre ++ [x]) (W2.setCell ⟨w2.heap.size, 0, none⟩ (.slice A3 b2.length c3)) := by
          refine ⟨.slice A3 b2.length c3, b2, k1.1.set _, k2_.1.other (by omega) _, k3.1.other (by omega) _, ?_, below_set hB2 (by have := Hsz.out; omega), ?_, hnext⟩
          · exact Kd.R_mono (Kd.R_far hR2 (p := ⟨w2.heap.size, 0, none⟩) (fun k hk e => k1.2 (by have e' : k = w2.heap.size := e; rw [← e']; exact hk)) _) (fun _ _ => trivial)
          · rw [hl2, List.length_append, List.length_singleton, Nat.add_mul, Nat.one_mul]
            omega
        have hkeepF : KeepsFrom W0.heap.size W (W2.setCell ⟨w2.heap.size, 0, none⟩ (.slice A3 b2.length c3)) := by
          refine ⟨?_, ?_⟩
          · have e1 := hg1.size
            have e2 := hK2.1
            have e3 := (KeepsWalks.setCell W2 ⟨w2.heap.size, 0, none⟩ (.slice A3 b2.length c3)).size
            omega
          · intro q o hq ho hc
            have hql : q < W.heap.size := (Array.getElem?_eq_some_iff.1 ho).1
            have n1 : some q ≠ (Value.slice Av b'.length cv).ownBlock := by
              intro e
              obtain ⟨_, cells, hcl2⟩ := R_block h4 q e.symm
              rw [ho] at hcl2
              injection hcl2 with hcl2
              subst hcl2
              cases hc
            have q1 : W1.heap[q]? = some o := (hg1.block q hql n1).trans ho
            have n2 : ¬ some q = (Value.slice A2 (b' ++ c).length c2).ownBlock := by
              intro e
              obtain ⟨_, cells, hcl2⟩ := R_block hR1 q e.symm
              rw [q1] at hcl2
              injection hcl2 with hcl2
              subst hcl2
              cases hc
            have q2 : W2.heap[q]? = some o := (hK2.2 q (Nat.lt_of_lt_of_le hql hg1.size) n2).trans q1
            exact (Below.heap_setCell W2 _ _ q (by show q ≠ w2.heap.size; omega)).trans q2
        have htwo : Ytnlpipjdpmaggaa.Chunk.Two (w2.heap.size + 1) (w2.heap.size + 1 + 1) W (W2.setCell ⟨w2.heap.size, 0, none⟩ (.slice A3 b2.length c3)) :=
          ⟨((k2_.1.other (by omega) (.slice A3 b2.length c3) : Boxed _ _ _ _)).trans (show W.heap[w2.heap.size + 1]? = _ from h2).symm, ((k3.1.other (by omega) (.slice A3 b2.length c3) : Boxed _ _ _ _)).trans (show W.heap[w2.heap.size + 2]? = _ from h3).symm⟩
        have HF := Aside0.mk hfin
        have HK := Aside0.mk hkeepF
        have HT := Aside0.mk htwo
        clear hfin hkeepF htwo keep k1 k2_ k3 hR2 hB2 hK2 hcall HC hfoot hc1' hB1 hsum hcl hl2 hg1 hat1 hnext h1 h2 h3 h4 h5 h6 hcx hR1 hm2 hb24 xs hN G
        gi_wp2
        exact ⟨HK.out, HT.out, HF.out⟩
      case done =>
        rintro D ys W hD ⟨k0, hys, hk0⟩ ⟨v, b', h1, h2, h3, h4, h5, h6, h7⟩ hK
        obtain ⟨Av, cv, ev⟩ := Kd.R_slice h4
        subst ev
        have hyl : ys.length = k0 := by have := congrArg List.length hys; simpa using this
        obtain ⟨k', hfin⟩ := h7 (by rw [hyl]; exact hys)
        have hdrop : l1.drop (ys.length * n) = [] := List.drop_eq_nil_of_le (by rw [hyl]; exact hk0)
        rw [hdrop] at hfin
        cases k' with
        | zero => cases hfin
        | succ k' =>
        simp only [shard_Write.l0] at hfin
        rw [if_pos trivial] at hfin
        obtain ⟨rfl, rfl⟩ := Prod.mk.inj (Option.some.inj hfin)
        have hcb := h1.cell
        clear hfin hdrop hyl h7 hys hk0
        gi_wp2
        refine ⟨by simp, .inl ⟨_, _, rfl, run_takeDeferred hK, ?_⟩⟩
        have hne : some D ≠ (Value.slice Av b'.length cv).ownBlock := by
          intro e
          obtain ⟨_, cells, hc⟩ := R_block h4 D e.symm
          rw [hK] at hc
          injection hc with hc
          cases hc
        refine ⟨_, results_tmp2 (fn := Try.f16) rfl _ _ _, .slice Av b'.length cv, rfl, ?_, h5.trans (belowK_b (w := w) (Nat.le_refl _) W D _ _ (by omega) hK rfl rfl)⟩
        exact Kd.R_mono (Kd.R_grown (R_exact h4) (grownBy_putObj' W D (.deferred none)) (fun k hk e => hne (by rw [← e]; exact hk))) (fun _ _ => trivial)
      case stop =>
        rintro D c pre W _ _ h _
        exact h.elim
    · rw [if_neg hlen] at h
      obtain ⟨rfl, rfl⟩ := Prod.mk.inj (Option.some.inj h)
      have hl1 : ((l1.length : Int) != a0_4) = true := bne_iff_ne.2 hlen
      have hl2 : ((l1.length : Int) == a0_4) = false := beq_eq_false_iff_ne.2 hlen
      gi_wp2_with (gi_at_call 33; refine CallsIn.mono (callsIn_wide.2 (shard_May.calls k a0_0 a0_1 a0_2 a0_3 a0_4 a0_5 true _ Hm.out)) ?_; rintro e w1 ⟨rfl, hb⟩; have hcell := Cf.out w1 (by simpa using hb); have hc4 : w1.cell? ⟨w.heap.size, 4, none⟩ = some (.int .i64 a0_4) := blk_cell hcell 4; clear hcell)
      exact ⟨_, results_tmp2 (fn := Try.f16) rfl _ _ _, .slice none 0 0, rfl, Kd.R_nil _ _ _ _ _, ((Below.refl _ w).alloc (Nat.le_refl _) _).trans (hb.mono (by simp))⟩
theorem shard_Write.mono_l : ∀ k, (∀ y0 y1 y2, LeO (shard_Write.l0 k y0 y1 y2) (shard_Write.l0 (k + 1) y0 y1 y2))
  | 0 => fun _ _ _ r h => by simp [shard_Write.l0] at h
  | k + 1 => by
    have ih0 := shard_Write.mono_l k
    intro y0 y1 y2
    unfold shard_Write.l0
    repeat' first
      | (with_reducible exact ih0 _ _ _)
      | (with_reducible exact shard_sum.mono _ _ _)
      | (with_reducible exact LeO.refl _)
      | (with_reducible exact LeO.none _)
      | (with_reducible refine LeO.ite ?_ ?_)
      | (with_reducible refine LeO.bind ?_ (fun _ => ?_))
theorem shard_Write.mono : ∀ a0 a1 a2 a3 a4 a5 a6 k, LeO (shard_Write.f k a0 a1 a2 a3 a4 a5 a6) (shard_Write.f (k + 1) a0 a1 a2 a3 a4 a5 a6) := by
  intro a0 a1 a2 a3 a4 a5 a6 k
  have ih0 := shard_Write.mono_l k
  unfold shard_Write.f
  repeat' first
      | (with_reducible exact ih0 _ _ _)
      | (with_reducible exact shard_head.mono _ _ _ _ _ _ _)
      | (with_reducible exact shard_May.mono _ _ _ _ _ _ _)
      | (with_reducible exact LeO.refl _)
      | (with_reducible exact LeO.none _)
      | (with_reducible refine LeO.ite ?_ ?_)
      | (with_reducible refine LeO.bind ?_ (fun _ => ?_))
end

/-! ### strongboxlaw5_Head: function 17 -/
def strongboxlaw5_Head.f (a0_0 : Int) (a0_1 : Int) (a0_2 : Int) (a0_3 : Int) (a0_4 : Int) (a0_5 : Int) : Option (Int × Int × Int × Int × Int × Int) := some (a0_0, a0_1, a0_2, a0_3, a0_4, a0_5)
set_option maxHeartbeats 8000000 in
set_option maxRecDepth 100000 in
theorem strongboxlaw5_Head.calls (a0_0 : Int) (a0_1 : Int) (a0_2 : Int) (a0_3 : Int) (a0_4 : Int) (a0_5 : Int) (r1 : Int) (r2 : Int) (r3 : Int) (r4 : Int) (r5 : Int) (r6 : Int) (w : World) (h : strongboxlaw5_Head.f a0_0 a0_1 a0_2 a0_3 a0_4 a0_5 = some (r1, r2, r3, r4, r5, r6)) :
    Calls Try.prog 17 #[.agg #[.int .i64 a0_0, .int .i64 a0_1, .int .i64 a0_2, .int .i64 a0_3, .int .i64 a0_4, .int .i64 a0_5]] w fun e w' => e = .returned (.agg #[.int .i64 r1, .int .i64 r2, .int .i64 r3, .int .i64 r4, .int .i64 r5, .int .i64 r6]) ∧ Below w.heap.size w w' := by
  have hu27 := Try.underlying27
  have hu32 := Try.underlying32
  have HB := Aside0.mk (Below.refl w.heap.size w)
  have H : (some (a0_0, a0_1, a0_2, a0_3, a0_4, a0_5)) = some (r1, r2, r3, r4, r5, r6) := h
  clear h
  simp only [Option.some.injEq, Prod.mk.injEq] at H
  obtain ⟨rfl, rfl, rfl, rfl, rfl, rfl⟩ := H
  go_enter Try.func17, Try.ntmps17
  go_wp2_with (first | ((with_reducible refine gate_dst (N := 1) rfl ?_); refine box_event ?hg (N := 1) ?hd (cs := #[.int .i64 a0_0, .int .i64 a0_1, .int .i64 a0_2, .int .i64 a0_3, .int .i64 a0_4, .int .i64 a0_5]) (t := 27) ?hr ?_; (case hd => rfl); (case hg => rfl); (case hr => first | (go_simp; done) | (go_simp; rfl)); intro gb127 hg w2 hbox hb; have n0_ := Aside0.mk (below_step (by repeat (first | (with_reducible first | exact HB.out | apply below_alloc | apply pw_below_drewN | apply below_drew1) | exact HB.out)) hb); have n1_ := Aside0.mk (hbox); have n2_ := Aside0.mk ((by rw [hg]; exact (below_size (by repeat (first | (with_reducible first | exact HB.out | apply below_alloc | apply pw_below_drewN | apply below_drew1) | exact HB.out))) : w.heap.size ≤ gb127)); have n3_ := Aside0.mk ((by rw [hg]; exact (below_size (by repeat (first | (with_reducible first | exact HB.out | apply below_alloc | apply pw_below_drewN | apply below_drew1) | exact HB.out))) : w.heap.size ≤ gb127)); clear HB; have HB := n0_; have BK127 := n1_; have GW127 := n2_; have GE127 := n3_; clear n0_ n1_ n2_ n3_; clear hb hbox hg) | ((with_reducible refine gate_dst (N := 2) rfl ?_); refine box_event ?hg (N := 2) ?hd (cs := #[.int .i64 0, .int .i64 0, .int .i64 0, .int .i64 0, .int .i64 0, .int .i64 0]) (t := 32) ?hr ?_; (case hd => rfl); (case hg => rfl); (case hr => first | (go_simp; done) | (go_simp; rfl)); intro gb128 hg w3 hbox hb; have n0_ := Aside0.mk (blk_below (g := gb127) (o := .cells #[.int .i64 a0_0, .int .i64 a0_1, .int .i64 a0_2, .int .i64 a0_3, .int .i64 a0_4, .int .i64 a0_5] 27 (0, 0)) (by (with_reducible repeat (first | refine blk_drewN ?_ _ | refine blk_drew ?_ | refine blk_alloc ?_ _)); exact BK127.out) hb); have n1_ := Aside0.mk (below_step (by repeat (first | (with_reducible first | exact HB.out | apply below_alloc | apply pw_below_drewN | apply below_drew1 | refine below_set ?_ GE127.out) | exact HB.out)) hb); have n2_ := Aside0.mk (hbox); have n3_ := Aside0.mk ((by rw [hg]; exact (below_size (by repeat (first | (with_reducible first | exact HB.out | apply below_alloc | apply pw_below_drewN | apply below_drew1 | refine below_set ?_ GE127.out) | exact HB.out))) : w.heap.size ≤ gb128)); have n4_ := Aside0.mk ((by rw [hg]; exact (below_size (by repeat (first | (with_reducible first | exact HB.out | apply below_alloc | apply pw_below_drewN | apply below_drew1 | refine below_set ?_ GE127.out) | exact HB.out))) : w.heap.size ≤ gb128)); have n5_ := Aside0.mk ((by rw [hg]; exact Nat.ne_of_lt (blk_lt (g := gb127) (o := .cells #[.int .i64 a0_0, .int .i64 a0_1, .int .i64 a0_2, .int .i64 a0_3, .int .i64 a0_4, .int .i64 a0_5] 27 (0, 0)) (by (with_reducible repeat (first | refine blk_drewN ?_ _ | refine blk_drew ?_ | refine blk_alloc ?_ _)); exact BK127.out)) : gb127 ≠ gb128)); have n6_ := Aside0.mk ((by rw [hg]; exact Nat.ne_of_gt (blk_lt (g := gb127) (o := .cells #[.int .i64 a0_0, .int .i64 a0_1, .int .i64 a0_2, .int .i64 a0_3, .int .i64 a0_4, .int .i64 a0_5] 27 (0, 0)) (by (with_reducible repeat (first | refine blk_drewN ?_ _ | refine blk_drew ?_ | refine blk_alloc ?_ _)); exact BK127.out)) : gb128 ≠ gb127)); clear BK127; clear HB; have BK127 := n0_; have HB := n1_; have BK128 := n2_; have GW128 := n3_; have GE128 := n4_; have NB127_128 := n5_; have NB128_127 := n6_; clear n0_ n1_ n2_ n3_ n4_ n5_ n6_; clear hb hbox hg; have hnb4 := NB127_128.out; have hnc4 := NB128_127.out; have hcz5_0 : w3.cell? ⟨gb127, 0, none⟩ = some (.int .i64 a0_0) := (blk_cell BK127.out 0).trans rfl; have hcz5_1 : w3.cell? ⟨gb127, 1, none⟩ = some (.int .i64 a0_1) := (blk_cell BK127.out 1).trans rfl; have hcz5_2 : w3.cell? ⟨gb127, 2, none⟩ = some (.int .i64 a0_2) := (blk_cell BK127.out 2).trans rfl; have hcz5_3 : w3.cell? ⟨gb127, 3, none⟩ = some (.int .i64 a0_3) := (blk_cell BK127.out 3).trans rfl; have hcz5_4 : w3.cell? ⟨gb127, 4, none⟩ = some (.int .i64 a0_4) := (blk_cell BK127.out 4).trans rfl; have hcz5_5 : w3.cell? ⟨gb127, 5, none⟩ = some (.int .i64 a0_5) := (blk_cell BK127.out 5).trans rfl; have hfz5_0 := blk_frozen BK127.out 0; have hfz5_1 := blk_frozen BK127.out 1; have hfz5_2 := blk_frozen BK127.out 2; have hfz5_3 := blk_frozen BK127.out 3; have hfz5_4 := blk_frozen BK127.out 4; have hfz5_5 := blk_frozen BK127.out 5; have hcz6_0 : w3.cell? ⟨gb128, 0, none⟩ = some (.int .i64 0) := (blk_cell BK128.out 0).trans rfl; have hcz6_1 : w3.cell? ⟨gb128, 1, none⟩ = some (.int .i64 0) := (blk_cell BK128.out 1).trans rfl; have hcz6_2 : w3.cell? ⟨gb128, 2, none⟩ = some (.int .i64 0) := (blk_cell BK128.out 2).trans rfl; have hcz6_3 : w3.cell? ⟨gb128, 3, none⟩ = some (.int .i64 0) := (blk_cell BK128.out 3).trans rfl; have hcz6_4 : w3.cell? ⟨gb128, 4, none⟩ = some (.int .i64 0) := (blk_cell BK128.out 4).trans rfl; have hcz6_5 : w3.cell? ⟨gb128, 5, none⟩ = some (.int .i64 0) := (blk_cell BK128.out 5).trans rfl; have hfz6_0 := blk_frozen BK128.out 0; have hfz6_1 := blk_frozen BK128.out 1; have hfz6_2 := blk_frozen BK128.out 2; have hfz6_3 := blk_frozen BK128.out 3; have hfz6_4 := blk_frozen BK128.out 4; have hfz6_5 := blk_frozen BK128.out 5))
  refine bodyPost_ret (results_cell_row rfl _ _ gb128 32 #[.int .i64 a0_0, .int .i64 a0_1, .int .i64 a0_2, .int .i64 a0_3, .int .i64 a0_4, .int .i64 a0_5] (0, 0) _ rfl (by (with_reducible repeat (first | refine blk_drewN ?_ _ | refine blk_drew ?_ | refine blk_alloc ?_ _)); refine blk_put (cs := #[.int .i64 a0_0, .int .i64 a0_1, .int .i64 a0_2, .int .i64 a0_3, .int .i64 a0_4, .int .i64 0]) ?_ 5 _ rfl; (with_reducible repeat (first | refine blk_drewN ?_ _ | refine blk_drew ?_ | refine blk_alloc ?_ _)); refine blk_put (cs := #[.int .i64 a0_0, .int .i64 a0_1, .int .i64 a0_2, .int .i64 a0_3, .int .i64 0, .int .i64 0]) ?_ 4 _ rfl; (with_reducible repeat (first | refine blk_drewN ?_ _ | refine blk_drew ?_ | refine blk_alloc ?_ _)); refine blk_put (cs := #[.int .i64 a0_0, .int .i64 a0_1, .int .i64 a0_2, .int .i64 0, .int .i64 0, .int .i64 0]) ?_ 3 _ rfl; (with_reducible repeat (first | refine blk_drewN ?_ _ | refine blk_drew ?_ | refine blk_alloc ?_ _)); refine blk_put (cs := #[.int .i64 a0_0, .int .i64 a0_1, .int .i64 0, .int .i64 0, .int .i64 0, .int .i64 0]) ?_ 2 _ rfl; (with_reducible repeat (first | refine blk_drewN ?_ _ | refine blk_drew ?_ | refine blk_alloc ?_ _)); refine blk_put (cs := #[.int .i64 a0_0, .int .i64 0, .int .i64 0, .int .i64 0, .int .i64 0, .int .i64 0]) ?_ 1 _ rfl; (with_reducible repeat (first | refine blk_drewN ?_ _ | refine blk_drew ?_ | refine blk_alloc ?_ _)); refine blk_put (cs := #[.int .i64 0, .int .i64 0, .int .i64 0, .int .i64 0, .int .i64 0, .int .i64 0]) ?_ 0 _ rfl; (with_reducible repeat (first | refine blk_drewN ?_ _ | refine blk_drew ?_ | refine blk_alloc ?_ _)); exact BK128.out) Try.underlying32 rfl (by kernel_rfl)) rfl ?_
  exact ⟨by first | rfl | (simp [errW_none, errW_some] <;> rfl) | (simp [*, errW_none, errW_some] <;> rfl), by repeat (first | (with_reducible first | exact HB.out | apply below_alloc | apply pw_below_drewN | apply below_drew1 | refine below_set ?_ GE127.out | refine below_set ?_ GE128.out) | exact HB.out)⟩

end Go.Proofs.Ytnlpipjdpmaggaa.PShardWrites
