/- WRITTEN FOR THIS CLAIM by a program of the prover's own (the kit's printing program, with constructs added): for each Go function that the statement reaches a Lean function with the same answers, and the proof of that. Not trusted: Lean checks it. -/
import Derived.Test.YtnlpipjdpmaggaaPJournalReadsx0
import Derived.Test.YtnlpipjdpmaggaaPJournalChangesx11
import Derived.Laws.OwnMore
import Derived.Lib.SliceRun
import Derived.LoopTactic
import Derived.RangeFuncKeeps
namespace Go.Proofs.Ytnlpipjdpmaggaa.PJournalReads
open Go.RowKit Go.Proofs.YtnlpipjdpmaggaaW.PrintWords Go.Proofs.YtnlpipjdpmaggaaW.PrintLast Go.Proofs.YtnlpipjdpmaggaaW.PrintMore
attribute [local go_sem] max2_int min2_int max_two min_two max_three min_three max_four min_four   -- for this text's walks alone
set_option linter.unusedVariables false
set_option linter.unusedSimpArgs false

/-! ### journal_Journal_at: function 67 -/
-- IMPORTS Derived.LoopTactic
section
/-- Where a version with the id stands, -1: nowhere. -/
def idxV (id : Int) : List S72 → Int → Int
  | [], _ => -1
  | v :: t, i => if v.f0 = id then i else idxV id t (i + 1)
def journal_Journal_at.f (a0_0 : Int) (a0_1 : ByteArray) (l0_2 : List (S72)) (a1 : Int) : Option Int := some (idxV a1 l0_2 0)
theorem at1.calls (B : Nat) (id : Int) (v : S72) (w : World) (hB : w.cell? ⟨B, 0, none⟩ = some (.int .i64 id)) :
    Calls Try.prog 74 #[.agg #[.int .i64 v.f0, .bool v.f1, .int .i64 v.f2, .int .u32 v.f3], .pointer (some ⟨B, 0, none⟩)] w fun e w' => e = .returned (.bool (v.f0 == id)) ∧ Below w.heap.size w w' := by
  go_enter Try.func74, Try.ntmps74
  go_wp2_with (first | ((with_reducible refine gate_dst (N := 2) rfl ?_); refine box_event ?hg (N := 2) ?hd (cs := #[.int .i64 v.f0, .bool v.f1, .int .i64 v.f2, .int .u32 v.f3]) (t := 72) ?hr ?_; (case hd => rfl); (case hg => rfl); (case hr => first | (go_simp; done) | (go_simp; rfl)); intro gb hg w3 hbox hb; have hb' := Aside0.mk hb; have hcz : w3.cell? ⟨gb, 0, none⟩ = some (.int .i64 v.f0) := (blk_cell hbox 0).trans rfl; have hid : w3.cell? ⟨B, 0, none⟩ = some (.int .i64 id) := (hb.cell (World.block_lt_of_cell? w _ hB)).trans hB; clear hb hbox hg))
  go_ret
  exact ⟨rfl, hb'.out⟩
set_option maxHeartbeats 4000000 in
set_option maxRecDepth 100000 in
theorem idx.calls (B : Nat) (id : Int) (A0 : Option Addr) (c0 : Nat) (l0 : List S72) (w : World) (hr0 : Kd.C k72 w A0 l0.length l0) (hc0 : l0.length ≤ c0) (hB : w.cell? ⟨B, 0, none⟩ = some (.int .i64 id)) :
    Calls Try.prog 73 #[.slice A0 l0.length c0, .func (.func 74) #[] #[.pointer (some ⟨B, 0, none⟩)]] w fun e w' => e = .returned (.int .i64 (idxV id l0 0)) ∧ Below w.heap.size w w' := by
  have HR := Aside0.mk hr0
  have HB := Aside0.mk hB
  have HM := Aside0.mk hr0.2.1
  clear hr0 hB
  go_enter Try.func73, Try.ntmps73
  go_wp2
  go_loopw [8] (fun iv wr => ∃ i : Int, iv = .int .i64 i ∧ 0 ≤ i ∧ i ≤ (l0.length : Int) ∧ Below w.heap.size w wr ∧ idxV id l0 0 = idxV id (l0.drop i.toNat) i) (fun iv _ => l0.length - (intOf iv).toNat)
  case atStart => exact ⟨0, rfl, Int.le_refl _, Int.natCast_nonneg _, Below.refl _ _, rfl⟩
  case round =>
    obtain ⟨i, rfl, h0, h1, hb, hx⟩ := hrel
    have BW := Aside0.mk hb
    have HX := Aside0.mk hx
    clear hb hx
    by_cases hlt : i < (l0.length : Int)
    · have hm := HM.out
      have hw : wrap64 (i + 1) = i + 1 := by unfold wrap64; omega
      have hwi : IntKind.i64.wrap (i + 1) = i + 1 := (i64_w _).trans hw
      have hdrop : l0.drop i.toNat = rd_T72 l0 i :: l0.drop (i + 1).toNat := by
        rw [List.drop_eq_getElem_cons (by omega : i.toNat < l0.length)]
        congr 1
        · unfold rd_T72
          rw [List.getD_eq_getElem?_getD, List.getElem?_eq_getElem (by omega : i.toNat < l0.length)]
          rfl
        · congr 1
          omega
      obtain ⟨ad, e, hx0, hx1, hx2, hx3⟩ := at_T72 HR.out i h0 hlt
      cases e
      replace hx0 := (BW.out.cell (World.block_lt_of_cell? w _ hx0)).trans hx0
      replace hx1 := (BW.out.cell (World.block_lt_of_cell? w _ hx1)).trans hx1
      replace hx2 := (BW.out.cell (World.block_lt_of_cell? w _ hx2)).trans hx2
      replace hx3 := (BW.out.cell (World.block_lt_of_cell? w _ hx3)).trans hx3
      have hd := decide_eq_true hlt
      have p := eq_true h0
      have q := eq_true hlt
      by_cases hid : (rd_T72 l0 i).f0 = id
      · have hbq : ((rd_T72 l0 i).f0 == id) = true := beq_iff_eq.2 hid
        have hfin : idxV id l0 0 = i := by rw [HX.out, hdrop, idxV, if_pos hid]
        have HF := Aside0.mk hfin
        clear hid hfin hdrop hm hw h0 h1 hlt
        go_wp2_with (first | (go_at_call 74; (with_reducible refine (at1.calls B id (rd_T72 l0 i) _ ?side1).mono ?_); (case side1 => exact (BW.out.cell (World.block_lt_of_cell? w _ HB.out)).trans HB.out); rintro e w3 ⟨rfl, hb⟩; have B3 := Aside0.mk (below_step BW.out hb); clear hb))
        go_ret
        exact ⟨by rw [HF.out]; rfl, B3.out⟩
      · have hbq : ((rd_T72 l0 i).f0 == id) = false := beq_eq_false_iff_ne.2 hid
        have hnx : idxV id l0 0 = idxV id (l0.drop (i + 1).toNat) (i + 1) := by rw [HX.out, hdrop, idxV, if_neg hid]
        have HN := Aside0.mk hnx
        have H01 := Aside0.mk (And.intro h0 hlt)
        clear hid hnx hdrop hm h0 h1 hlt
        go_wp2_with (first | (go_at_call 74; (with_reducible refine (at1.calls B id (rd_T72 l0 i) _ ?side1).mono ?_); (case side1 => exact (BW.out.cell (World.block_lt_of_cell? w _ HB.out)).trans HB.out); rintro e w3 ⟨rfl, hb⟩; have B3 := Aside0.mk (below_step BW.out hb); clear hb))
        go_roundw
        case rel => exact ⟨i + 1, by first | rfl | simp [*], by have := H01.out; omega, by have := H01.out; omega, B3.out, HN.out⟩
        case measure => have := H01.out; simp [intOf]; omega
    · have hi : i = (l0.length : Int) := by omega
      have hd := decide_eq_false hlt
      have hfin : idxV id l0 0 = -1 := by rw [HX.out, List.drop_eq_nil_of_le (by omega)]; rfl
      have HF := Aside0.mk hfin
      clear hfin hi hlt h0 h1
      go_wp2
      go_ret
      exact ⟨by rw [HF.out]; rfl, BW.out⟩
set_option maxRecDepth 100000 in
theorem journal_Journal_at.calls (a0_0 : Int) (a0_1 : ByteArray) (A0_2 : Option Addr) (c0_2 : Nat) (l0_2 : List (S72)) (a1 : Int) (r : Int) (w : World) (hr0_2 : Kd.C k72 w A0_2 l0_2.length l0_2) (hc0_2 : l0_2.length ≤ c0_2) (h : journal_Journal_at.f a0_0 a0_1 l0_2 a1 = some r) :
    Calls Try.prog 67 #[.agg #[.int .i64 a0_0, .string a0_1, .slice A0_2 l0_2.length c0_2], .int .i64 a1] w fun e w' => e = .returned (.int .i64 r) ∧ Below w.heap.size w w' := by
  obtain rfl := Option.some.inj h
  clear h
  have HR := Aside0.mk hr0_2
  clear hr0_2
  go_enter Try.func67, Try.ntmps67
  go_wp2_with (first
    | ((with_reducible refine gate_dst (N := 2) rfl ?_); refine box_event ?hg (N := 2) ?hd (cs := #[.int .i64 a0_0, .string a0_1, .slice A0_2 l0_2.length c0_2]) (t := 48) ?hr ?_; (case hd => rfl); (case hg => rfl); (case hr => first | (go_simp; done) | (go_simp; rfl)); intro g1 hg1 w1 hbox1 hb1; have B1 := Aside0.mk hb1; have X1 := Aside0.mk hbox1; clear hb1 hbox1 hg1)
    | ((with_reducible refine gate_dst (N := 3) rfl ?_); refine box_event ?hg (N := 3) ?hd (cs := #[.int .i64 a1]) (t := 3) ?hr ?_; (case hd => rfl); (case hg => rfl); (case hr => first | (go_simp; done) | (go_simp; rfl)); intro g2 hg2 w2 hbox2 hb2; have B2 := Aside0.mk (below_step B1.out hb2); have hcz : w2.cell? ⟨g1, 2, none⟩ = some (.slice A0_2 l0_2.length c0_2) := (blk_cell (blk_below X1.out hb2) 2).trans rfl; have Y2 := Aside0.mk ((blk_cell hbox2 0).trans rfl : w2.cell? ⟨g2, 0, none⟩ = some (.int .i64 a1)); clear hb2 hbox2 hg2)
    | (go_at_call 73; (with_reducible refine (idx.calls g2 a1 A0_2 c0_2 l0_2 _ ?side1 hc0_2 Y2.out).mono ?_); (case side1 => exact Kd.C_below HR.out B2.out); rintro e w3 ⟨rfl, hb⟩; have B3 := Aside0.mk (below_step B2.out hb); clear hb))
  go_ret
  exact ⟨rfl, B3.out⟩
end

-- NOT PRINTED: function 68 (api_Version_68)

/-! ### journal_Drop: function 40 -/
-- IMPORTS Derived.Lib.SliceRun Derived.Laws.OwnMore
section
theorem own_set {w : World} {base e size g n cap : Nat} {xs : List Value} (h : w.ownsRow base e size (.slice (some ⟨g, 0, none⟩) n cap) n xs) (j : Nat) (hj : n * size ≤ j) (u : Value) :
    (w.setCell ⟨g, j, none⟩ u).ownsRow base e size (.slice (some ⟨g, 0, none⟩) n cap) n xs := by
  obtain ⟨h1, h2⟩ := h
  rcases h2 with ⟨he, _⟩ | ⟨g', cap', cur, he, hb, hh, hnc, hcm, hcs, ht⟩
  · cases he
  · obtain ⟨rfl, rfl⟩ : g = g' ∧ cap = cap' := by
      injection he with e1 _ e3
      injection e1 with e1
      injection e1 with e1
      exact ⟨e1, e3⟩
    refine ⟨h1, .inr ⟨g, cap, cur.setIfInBounds j u, rfl, hb, blk_put hh j u rfl, hnc, hcm, by rw [Array.size_setIfInBounds]; exact hcs, ?_⟩⟩
    rw [Array.toList_setIfInBounds, ← ht]
    apply List.ext_getElem?
    intro k
    rw [List.getElem?_take, List.getElem?_take]
    split
    · rw [List.getElem?_set_ne (by omega)]
    · rfl
theorem own_sets {base e size g n cap : Nat} {xs : List Value} : ∀ (vs : List Value) (w : World) (j : Nat), w.ownsRow base e size (.slice (some ⟨g, 0, none⟩) n cap) n xs → n * size ≤ j → (w.setCells g j vs).ownsRow base e size (.slice (some ⟨g, 0, none⟩) n cap) n xs
  | [], _, _, h, _ => h
  | v :: r, w, j, h, hj => own_sets r (w.setCell ⟨g, j, none⟩ v) (j + 1) (own_set h j hj v) (by omega)
theorem grown_sets {g : Nat} : ∀ (vs : List Value) (w : World) (j : Nat), w.grownBy (w.setCells g j vs) (some g)
  | [], w, _ => World.grownBy.refl w _
  | v :: r, w, j => by
    have h1 : w.grownBy (w.setCell ⟨g, j, none⟩ v) (some g) := ⟨rfl, rfl, rfl, (KeepsWalks.setCell w _ v).size, fun k _ hk => Below.heap_setCell _ _ _ k (fun e => hk (by rw [e]))⟩
    have h2 := grown_sets (g := g) r (w.setCell ⟨g, j, none⟩ v) (j + 1)
    exact ⟨h2.os.trans h1.os, h2.2.trans h1.2, h2.3.trans h1.3, Nat.le_trans h1.size h2.size, fun k hk hne => (h2.block k (Nat.lt_of_lt_of_le hk h1.size) hne).trans (h1.block k hk hne)⟩
/-- clear(s), s one version. -/
theorem clear_one (W : World) (ty : TypeId) (g o c : Nat) (hc : ∀ j, j < 4 → (W.cell? ⟨g, o + j, none⟩).isSome = true) (hf : ∀ j, j < 4 → W.frozen? ⟨g, o + j, none⟩ = false) :
    (Builtin.clear_ #[43] ty #[.slice (some ⟨g, o, none⟩) 1 c]).run Try.prog W = .ok (.tuple #[]) (W.setCells g o [.int .i64 0, .bool false, .int .i64 0, .int .u32 0]) := by
  obtain ⟨i0, hi0, hz0, hz1, hz2⟩ := info_parts info72
  have hv : ∀ w, (zeroValue 72).run Try.prog w = .ok (.agg #[.int .i64 0, .bool false, .int .i64 0, .int .u32 0]) w := fun w => by simp [zeroValue, typeInfo, hi0, hz0, Sem.run]
  have hzc : (Builtin.zeroCells (Value.agg #[.int .i64 0, .bool false, .int .i64 0, .int .u32 0]).cells 1).toList = [.int .i64 0, .bool false, .int .i64 0, .int .u32 0] := by
    first
      | kernel_rfl
      | (simp [Builtin.zeroCells, Value.cells, List.range_succ]; done)
      | (simp [Builtin.zeroCells, Value.cells]; rfl)
  have hst := run_storeCells_cells (P := Try.prog) g o [.int .i64 0, .bool false, .int .i64 0, .int .u32 0] 0 W (by simpa using hc) (by simpa using hf) (by intro v hv'; simp at hv'; rcases hv' with rfl | rfl | rfl | rfl <;> rfl)
  simp only [Nat.add_zero] at hst
  simp [Builtin.clear_, run_underlying Try.underlying43, hv, hzc, hst]

/-- An append whose run is known, as one step of a region that draws. -/
theorem append_step {P : Program} {ops : Array Oper} {o : Oper} {a : Act} {Kc : Act → World → Prop} {Q : Exit → Act → World → Prop} {W w1 : World} (hw : Region.wanted o (yielded ops a.tmps) = true) (s x : Operand) (t : TypeId)
    (ho : o.op = .call { callee := .builtin .append, args := #[s, x], argTypes := #[t, t] }) (v y v1 : Value) (hs : a.eval s = v) (hx : a.eval x = y) (hrun : (Builtin.append_ #[t, t] o.type #[v, y]).run P W = .ok v1 w1)
    (h : Kc (a.put o.dst v1) w1) : if Region.wanted o (yielded ops a.tmps) = true then Oper.wp P o a W Kc Q else Kc (a.put o.dst undef) W := by
  rw [if_pos hw]
  unfold Oper.wp execOp
  simp only [ho, resolve, invoke, builtin, Sem.run_bind, Sem.run_pure, Result.andThen_ok, List.map_toArray, List.map_cons, List.map_nil, hs, hx, hrun]
  exact h
def delete_.T5 : Bool × List (List Nat × List Nat) := (true, [([], []), ([], []), ([0, 1], [0, 1]), ([], []), ([], []), ([3, 4], [3, 4]), ([2, 5], [2, 5]), ([6, 6, 0, 1, 2, 3, 4, 5, 6], [0, 3, 6])])
theorem delete_.tab5 : rtab .any (opsOf Try.f68 5) = delete_.T5 := by kernel_rfl
set_option maxHeartbeats 4000000 in
set_option maxRecDepth 100000 in
/-- slices.Delete of one version out of a row of one's own. -/
theorem delete_.calls (base : Nat) (g cap : Nat) (l : List S72) (i : Nat) (w : World) (hi : i < l.length) (ho : Kd.R k72 72 w base (fun _ => True) (.slice (some ⟨g, 0, none⟩) l.length cap) l) :
    Calls Try.prog 68 #[.slice (some ⟨g, 0, none⟩) l.length cap, .int .i64 (i : Int), .int .i64 ((i : Int) + 1)] w fun e w' => e = .returned (.slice (some ⟨g, 0, none⟩) (l.length - 1) cap) ∧ Kd.R k72 72 w' base (fun _ => True) (.slice (some ⟨g, 0, none⟩) (l.length - 1) cap) (l.take i ++ l.drop (i + 1)) ∧ w.grownBy w' (some g) := by
  obtain ⟨hok, inner, hown, hreps⟩ := ho
  have hcap : l.length ≤ cap ∧ cap ≤ maxLen := by
    rcases hown.2 with ⟨he, _⟩ | ⟨g', cap', cur, he, _, _, hnc, hcm, _, _⟩
    · cases he
    · injection he with _ _ e3
      rw [e3]
      exact ⟨hnc, hcm⟩
  have hcm : cap ≤ 9223372036854775807 := by have := hcap.2; simp only [maxLen] at this; omega
  have hlen : inner.length = l.length * 4 := hreps.1
  obtain ⟨n, hn⟩ : ∃ n, n = l.length := ⟨_, rfl⟩
  rw [← hn] at hown hlen hi hcap ⊢
  -- what stands behind the version
  obtain ⟨news, hnews⟩ : ∃ news, news = inner.drop ((i + 1) * 4) := ⟨_, rfl⟩
  have hnl : news.length = (n - (i + 1)) * 4 := by rw [hnews, List.length_drop, hlen]; omega
  have hcell : ∀ j u, inner[j]? = some u → w.cell? ⟨g, j, none⟩ = some u := by
    rcases hown.2 with ⟨he, _⟩ | ⟨g', cap', cur, he, _, hh, _, _, _, ht⟩
    · cases he
    · intro j u hu
      injection he with e1
      injection e1 with e1
      injection e1 with e1
      subst e1
      rw [blk_cell hh j, ← Array.getElem?_toList]
      rw [← ht, List.getElem?_take] at hu
      split at hu
      · exact hu
      · cases hu
  have hone : ∀ u ∈ inner, u.oneCell' = true := by
    intro u hu
    obtain ⟨q, hq, rfl⟩ := List.mem_iff_getElem.1 hu
    have hql : q / 4 < l.length := by rw [← hn]; omega
    have hc := hreps.2 (q / 4) _ (List.getElem?_eq_getElem hql)
    refine k72.K_one (k72.K_of_M hc) _ ?_
    rw [List.mem_iff_getElem?]
    refine ⟨q % 4, ?_⟩
    show (List.take 4 (List.drop (q / 4 * 4) inner))[q % 4]? = _
    rw [List.getElem?_take, if_pos (Nat.mod_lt _ (by decide)), List.getElem?_drop, Nat.mul_comm, Nat.div_add_mod, List.getElem?_eq_getElem hq]
  obtain ⟨A, hA, hsrc⟩ : ∃ A : Addr, (if cap = i + 1 then (some ⟨g, 0, none⟩ : Option Addr) else (some ⟨g, 0, none⟩ : Option Addr).map (·.add ((i + 1) * 4))) = some A ∧ ∀ t u, news[t]? = some u → w.drew.cell? (A.add t) = some u := by
    by_cases h : cap = i + 1
    · refine ⟨⟨g, 0, none⟩, by rw [if_pos h], fun t u hu => ?_⟩
      have h0 : news.length = 0 := by rw [hnl]; omega
      rw [List.length_eq_zero_iff.1 h0] at hu
      simp at hu
    · refine ⟨⟨g, (i + 1) * 4, none⟩, by rw [if_neg h]; simp [Addr.add], fun t u hu => ?_⟩
      rw [hnews, List.getElem?_drop] at hu
      rw [Addr.add_lit]
      exact hcell _ _ hu
  obtain ⟨i0, hi0, hz0, hz1, hz2⟩ := info_parts info72
  have htake := own_take hown (Nat.le_of_lt hi)
  have hfit := run_append_fits (P := Try.prog) w.drew base 43 43 72 i0 4 Try.underlying43 hi0 hz1 g i cap (inner.take (i * 4)) htake A (n - (i + 1)) (cap - (i + 1)) news hnl hsrc (fun u hu => hone u (by rw [hnews] at hu; exact List.mem_of_mem_drop hu)) (by omega)
  obtain ⟨W1, hrun, hown1, hg1⟩ := hfit
  have hsum : i + (n - (i + 1)) = n - 1 := by omega
  rw [hsum] at hrun hown1
  have hcells1 : ∀ j, j < 4 → (W1.cell? ⟨g, (n - 1) * 4 + j, none⟩).isSome = true ∧ W1.frozen? ⟨g, (n - 1) * 4 + j, none⟩ = false := by
    rcases hown1.2 with ⟨he, _⟩ | ⟨g', cap', cur, he, _, hh, _, _, hcs, _⟩
    · cases he
    · injection he with e1 _ e3
      injection e1 with e1
      injection e1 with e1
      subst e1
      intro j hj
      refine ⟨?_, blk_frozen hh _⟩
      rw [blk_cell hh, Array.getElem?_eq_getElem (by rw [hcs]; omega)]
      rfl
  have hcl : ∀ ty, (Builtin.clear_ #[43] ty #[.slice (some ⟨g, (n - 1) * 4, none⟩) (n - (n - 1)) (cap - (n - 1))]).run Try.prog W1 = .ok (.tuple #[]) (W1.setCells g ((n - 1) * 4) [.int .i64 0, .bool false, .int .i64 0, .int .u32 0]) := fun ty => by
    rw [show n - (n - 1) = 1 by omega]
    exact clear_one W1 ty g _ _ (fun j hj => (hcells1 j hj).1) (fun j hj => (hcells1 j hj).2)
  have hcut1 := cut_from (P := Try.prog) 43 72 .i64 Try.underlying43 hi0 4 hz1 (some ⟨g, 0, none⟩) n cap ((i : Int) + 1) (by omega) (by omega)
  have hcut2 := cut_to (P := Try.prog) 43 72 .i64 Try.underlying43 hi0 (some ⟨g, 0, none⟩) n cap (i : Int) (by omega) (by omega) hcap.1
  rw [show ((i : Int) + 1).toNat = i + 1 by omega, hA] at hcut1
  rw [Int.toNat_natCast] at hcut2
  have HRUN := Aside0.mk hrun
  have HOWN := Aside0.mk hown1
  have HG1 := Aside0.mk hg1
  have HREPS := Aside0.mk hreps
  have HN := Aside0.mk hn
  have HI := Aside0.mk hi
  have HNEWS := Aside0.mk hnews
  have HOK := Aside0.mk hok
  have hne : ((i : Int) == (i : Int) + 1) = false := beq_eq_false_iff_ne.2 (by omega)
  have hc1 := hcap.1
  clear hown hreps hsrc hA hcell hone htake hrun hown1 hg1 hcells1 hnews hnl hlen hok hcap hn
  go_enter Try.func68, Try.ntmps68
  go_wp2
  refine start_ (n := 8) (S := fun _ => True) (ds := []) #[false, false, false, false, false, false, false, false] (by kernel_rfl) rfl rfl trivial (fun hHeld => ?_); refine with_tab delete_.tab5 (fun HT_ => ?_)
  refine pure_ (i := 0) (N := some 20) (v := ?_) (a' := ?_) #[true, false, false, false, false, false, false, false] rfl rfl (any_of HT_.out (by kernel_rfl)) (fun _ _ _ h => h) (Or.inl ⟨by rfl, ?_⟩) ?_ ?_
  rotate_left
  · intro w'
    go_simp
    with_reducible rfl
  rotate_left
  · simp only [Act.put, List.setIfInBounds_toArray, List.set_cons_zero, List.set_cons_succ, i64_w, i32_w]
    rfl
  refine pure_ (i := 1) (N := some 21) (v := ?_) (a' := ?_) #[true, true, false, false, false, false, false, false] rfl rfl (any_of HT_.out (by kernel_rfl)) (fun _ _ _ h => h) (Or.inl ⟨by rfl, ?_⟩) ?_ ?_
  rotate_left
  · intro w'
    go_simp
    with_reducible rfl
  rotate_left
  · simp only [Act.put, List.setIfInBounds_toArray, List.set_cons_zero, List.set_cons_succ, i64_w, i32_w]
    rfl
  refine pure_ (i := 2) (N := some 22) (v := ?_) (a' := ?_) #[true, true, true, false, false, false, false, false] rfl rfl (any_of HT_.out (by kernel_rfl)) (fun _ _ _ h => h) (Or.inl ⟨by rfl, ?_⟩) ?_ ?_
  rotate_left
  · intro w'
    go_simp
    with_reducible rfl
  rotate_left
  · simp only [Act.put, List.setIfInBounds_toArray, List.set_cons_zero, List.set_cons_succ, i64_w, i32_w]
    rfl
  refine pure_ (i := 3) (N := some 23) (v := ?_) (a' := ?_) #[true, true, true, true, false, false, false, false] rfl rfl (any_of HT_.out (by kernel_rfl)) (fun _ _ _ h => h) (Or.inl ⟨by rfl, ?_⟩) ?_ ?_
  rotate_left
  · intro w'
    go_simp
    with_reducible rfl
  rotate_left
  · simp only [Act.put, List.setIfInBounds_toArray, List.set_cons_zero, List.set_cons_succ, i64_w, i32_w]
    rfl
  refine pure_ (i := 4) (N := some 24) (v := ?_) (a' := ?_) #[true, true, true, true, true, false, false, false] rfl rfl (any_of HT_.out (by kernel_rfl)) (fun _ _ _ h => h) (Or.inl ⟨by rfl, ?_⟩) ?_ ?_
  rotate_left
  · intro w'
    go_simp
    with_reducible rfl
  rotate_left
  · simp only [Act.put, List.setIfInBounds_toArray, List.set_cons_zero, List.set_cons_succ, i64_w, i32_w]
    rfl
  refine pure_ (i := 5) (N := some 25) (v := ?_) (a' := ?_) #[true, true, true, true, true, true, false, false] rfl rfl (any_of HT_.out (by kernel_rfl)) (fun _ _ _ h => h) (Or.inl ⟨by rfl, ?_⟩) ?_ ?_
  rotate_left
  · intro w'
    go_simp
    with_reducible rfl
  rotate_left
  · simp only [Act.put, List.setIfInBounds_toArray, List.set_cons_zero, List.set_cons_succ, i64_w, i32_w]
    rfl
  refine one_ (i := 6) (N := some 26) #[true, true, true, true, true, true, true, false] rfl rfl (one_of HT_.out (by kernel_rfl)) (by decide) (fun K hK => ?_)
  refine append_step rfl (.tmp 22) (.tmp 25) 43 rfl _ _ _ rfl rfl HRUN.out ?_
  refine hK.out _ _ trivial (fun hHeld => ?_)
  clear hK K
  refine norm_ (a' := ?_) ?_ ?_
  rotate_left
  · show Act.put _ (some 26) _ = _
    simp only [Act.put, List.setIfInBounds_toArray, List.set_cons_zero, List.set_cons_succ, i64_w, i32_w]
    rfl
  refine pure_ (i := 7) (N := some 0) (v := ?_) (a' := ?_) #[true, true, true, true, true, true, true, true] rfl rfl (any_of HT_.out (by kernel_rfl)) (fun _ _ _ h => h) (Or.inl ⟨by rfl, ?_⟩) ?_ ?_
  rotate_left
  · intro w'
    go_simp
    with_reducible rfl
  rotate_left
  · simp only [Act.put, List.setIfInBounds_toArray, List.set_cons_zero, List.set_cons_succ, i64_w, i32_w]
    rfl
  refine done_ (done_of HT_.out (by kernel_rfl)) ?_
  go_wp2
  go_ret
  have hfl : (l.take i ++ l.drop (i + 1)).length = n - 1 := by rw [List.length_append, List.length_take, List.length_drop, ← HN.out]; have := HI.out; omega
  have hgr : w.grownBy (W1.setCells g ((n - 1) * 4) [.int .i64 0, .bool false, .int .i64 0, .int .u32 0]) (some g) := by
    have h1 := HG1.out
    have h2 := grown_sets (g := g) [.int .i64 0, .bool false, .int .i64 0, .int .u32 0] W1 ((n - 1) * 4)
    exact ⟨h2.os.trans h1.os, h2.2.trans h1.2, h2.3.trans h1.3, Nat.le_trans h1.size h2.size, fun k hk hne => (h2.block k (Nat.lt_of_lt_of_le hk h1.size) hne).trans (h1.block k hk hne)⟩
  refine ⟨rfl, ⟨fun _ _ => trivial, inner.take (i * 4) ++ news, ?_, ?_⟩, hgr⟩
  · rw [hfl]
    exact own_sets _ W1 _ HOWN.out (Nat.le_refl _)
  · have hr1 := Kd.reps_take (m := i) HREPS.out (by have := HI.out; have := HN.out; omega)
    have hr2 := Kd.reps_drop (m := i + 1) HREPS.out
    rw [HNEWS.out]
    exact (Kd.reps_append hr1 hr2).imp_ (fun p c hp => by obtain rfl := k72_openM hp; exact k72_mkM _ _ _ p)

/-- A journal without the version, false: none has the id. -/
def journal_Drop.f (a0_0 : Int) (a0_1 : ByteArray) (l0_2 : List (S72)) (a1 : Int) : Option (Int × ByteArray × (List (S72)) × Bool) :=
  if idxV a1 l0_2 0 < 0 then some (0, (⟨#[]⟩ : ByteArray), [], false) else if l0_2.length < 4398046511104 then some (a0_0, a0_1, l0_2.take (idxV a1 l0_2 0).toNat ++ l0_2.drop ((idxV a1 l0_2 0).toNat + 1), true) else none
theorem idxV_lt (id : Int) : ∀ (l : List S72) (i : Int), 0 ≤ i → idxV id l i = -1 ∨ (i ≤ idxV id l i ∧ idxV id l i < i + (l.length : Int))
  | [], i, _ => .inl rfl
  | v :: t, i, h => by
    unfold idxV
    split
    · exact .inr ⟨Int.le_refl _, by rw [List.length_cons]; omega⟩
    · rcases idxV_lt id t (i + 1) (by omega) with e | ⟨e1, e2⟩
      · exact .inl e
      · exact .inr ⟨by omega, by rw [List.length_cons]; omega⟩
set_option maxHeartbeats 4000000 in
set_option maxRecDepth 100000 in
theorem journal_Drop.calls (a0_0 : Int) (a0_1 : ByteArray) (A0_2 : Option Addr) (c0_2 : Nat) (l0_2 : List (S72)) (a1 : Int) (r1 : Int) (r2 : ByteArray) (r3 : List (S72)) (r4 : Bool) (w : World) (hr0_2 : Kd.C k72 w A0_2 l0_2.length l0_2) (hc0_2 : l0_2.length ≤ c0_2) (h : journal_Drop.f a0_0 a0_1 l0_2 a1 = some (r1, r2, r3, r4)) :
    Calls Try.prog 40 #[.agg #[.int .i64 a0_0, .string a0_1, .slice A0_2 l0_2.length c0_2], .int .i64 a1] w fun e w' => ∃ v2_ : Value, e = .returned (.tuple #[.agg #[.int .i64 r1, .string r2, v2_], .bool r4]) ∧ Kd.R k72 72 w' w.heap.size (fun _ => True) v2_ r3 ∧ Below w.heap.size w w' := by
  have hu48 := Try.underlying48
  have HR := Aside0.mk hr0_2
  clear hr0_2
  unfold journal_Drop.f at h
  obtain ⟨x, hx⟩ : ∃ x, x = idxV a1 l0_2 0 := ⟨_, rfl⟩
  have hrange := idxV_lt a1 l0_2 0 (Int.le_refl _)
  rw [← hx] at h hrange
  have HX := Aside0.mk (show journal_Journal_at.f a0_0 a0_1 l0_2 a1 = some x by rw [hx]; rfl)
  clear hx
  by_cases hneg : x < 0
  · rw [if_pos hneg] at h
    simp only [Option.some.injEq, Prod.mk.injEq] at h
    obtain ⟨rfl, rfl, rfl, rfl⟩ := h
    have hd := decide_eq_true hneg
    clear hneg hrange
    go_enter Try.func40, Try.ntmps40
    go_wp2_with (first
      | ((with_reducible refine gate_dst (N := 2) rfl ?_); refine box_event ?hg (N := 2) ?hd (cs := #[.int .i64 a0_0, .string a0_1, .slice A0_2 l0_2.length c0_2]) (t := 48) ?hr ?_; (case hd => rfl); (case hg => rfl); (case hr => first | (go_simp; done) | (go_simp; rfl)); intro g1 hg1 w1 hbox hb; have B1 := Aside0.mk hb; have X1 := Aside0.mk hbox; have G1 := Aside0.mk (show w.heap.size ≤ g1 by rw [hg1]; exact Nat.le_refl _); clear hb hbox hg1)
      | ((with_reducible refine gate_dst (N := 4) rfl ?_); refine box_event ?hg (N := 4) ?hd (cs := #[.int .i64 0, .string (⟨#[]⟩ : ByteArray), .slice none 0 0]) (t := 48) ?hr ?_; (case hd => rfl); (case hg => rfl); (case hr => first | (go_simp; done) | (go_simp; rfl)); intro g2 hg2 w2 hbox hb; have B2 := Aside0.mk (below_step B1.out hb); have Y1 := Aside0.mk (blk_below X1.out hb); have Y2 := Aside0.mk hbox; have G2 := Aside0.mk (show w.heap.size ≤ g2 by rw [hg2]; exact B1.out.size); have hz0 : w2.cell? ⟨g1, 0, none⟩ = some (.int .i64 a0_0) := (blk_cell Y1.out 0).trans rfl; have hz1 : w2.cell? ⟨g1, 1, none⟩ = some (.string a0_1) := (blk_cell Y1.out 1).trans rfl; have hz2 : w2.cell? ⟨g1, 2, none⟩ = some (.slice A0_2 l0_2.length c0_2) := (blk_cell Y1.out 2).trans rfl; clear hb hbox hg2)
      | (go_at_call 67; (with_reducible refine (journal_Journal_at.calls a0_0 a0_1 A0_2 c0_2 l0_2 a1 x _ ?side1 hc0_2 HX.out).mono ?_); (case side1 => exact Kd.C_below HR.out B2.out); rintro e w3 ⟨rfl, hb⟩; have B3 := Aside0.mk (below_step B2.out hb); have Z2 := Aside0.mk (blk_below Y2.out hb); have hy0 : w3.cell? ⟨g2, 0, none⟩ = some (.int .i64 0) := (blk_cell Z2.out 0).trans rfl; have hy1 : w3.cell? ⟨g2, 1, none⟩ = some (.string (⟨#[]⟩ : ByteArray)) := (blk_cell Z2.out 1).trans rfl; have hy2 : w3.cell? ⟨g2, 2, none⟩ = some (.slice none 0 0) := (blk_cell Z2.out 2).trans rfl; have hf0 := blk_frozen Z2.out 0; have hf1 := blk_frozen Z2.out 1; have hf2 := blk_frozen Z2.out 2; clear hb hz0 hz1 hz2))
    refine bodyPost_ret (results_ct rfl _ _ g2 48 #[.int .i64 0, .string (⟨#[]⟩ : ByteArray), .slice none 0 0] (0, 0) _ rfl (by refine blk_put (cs := #[.int .i64 0, .string (⟨#[]⟩ : ByteArray), .slice none 0 0]) ?_ 2 _ rfl; refine blk_put (cs := #[.int .i64 0, .string (⟨#[]⟩ : ByteArray), .slice none 0 0]) ?_ 1 _ rfl; refine blk_put (cs := #[.int .i64 0, .string (⟨#[]⟩ : ByteArray), .slice none 0 0]) ?_ 0 _ rfl; exact Z2.out) Try.underlying48 rfl (by kernel_rfl)) rfl ?_
    exact ⟨_, rfl, Kd.R_nil _ _ _ _ _, below_set (below_set (below_set B3.out G2.out) G2.out) G2.out⟩
  · rw [if_neg hneg] at h
    by_cases hbig : l0_2.length < 4398046511104
    case neg => rw [if_neg hbig] at h; cases h
    rw [if_pos hbig] at h
    simp only [Option.some.injEq, Prod.mk.injEq] at h
    obtain ⟨rfl, rfl, rfl, rfl⟩ := h
    have hd := decide_eq_false hneg
    obtain ⟨i, hi⟩ := Int.eq_ofNat_of_zero_le (show 0 ≤ x by omega)
    subst hi
    have hil : i < l0_2.length := by omega
    have hw : IntKind.i64.wrap ((i : Int) + 1) = (i : Int) + 1 := (i64_w _).trans (by unfold wrap64; omega)
    have HIL := Aside0.mk hil
    have HBG := Aside0.mk hbig
    clear hneg hrange hil hbig
    go_enter Try.func40, Try.ntmps40
    go_wp2_with (first
      | ((with_reducible refine gate_dst (N := 2) rfl ?_); refine box_event ?hg (N := 2) ?hd (cs := #[.int .i64 a0_0, .string a0_1, .slice A0_2 l0_2.length c0_2]) (t := 48) ?hr ?_; (case hd => rfl); (case hg => rfl); (case hr => first | (go_simp; done) | (go_simp; rfl)); intro g1 hg1 w1 hbox hb; have B1 := Aside0.mk hb; have X1 := Aside0.mk hbox; have G1 := Aside0.mk (show w.heap.size ≤ g1 by rw [hg1]; exact Nat.le_refl _); clear hb hbox hg1)
      | ((with_reducible refine gate_dst (N := 4) rfl ?_); refine box_event ?hg (N := 4) ?hd (cs := #[.int .i64 0, .string (⟨#[]⟩ : ByteArray), .slice none 0 0]) (t := 48) ?hr ?_; (case hd => rfl); (case hg => rfl); (case hr => first | (go_simp; done) | (go_simp; rfl)); intro g2 hg2 w2 hbox hb; have B2 := Aside0.mk (below_step B1.out hb); have Y1 := Aside0.mk (blk_below X1.out hb); have Y2 := Aside0.mk hbox; have G2 := Aside0.mk (show w.heap.size ≤ g2 by rw [hg2]; exact B1.out.size); have N12 := Aside0.mk (show g1 ≠ g2 by rw [hg2]; exact Nat.ne_of_lt (blk_lt X1.out)); have hz0 : w2.cell? ⟨g1, 0, none⟩ = some (.int .i64 a0_0) := (blk_cell Y1.out 0).trans rfl; have hz1 : w2.cell? ⟨g1, 1, none⟩ = some (.string a0_1) := (blk_cell Y1.out 1).trans rfl; have hz2 : w2.cell? ⟨g1, 2, none⟩ = some (.slice A0_2 l0_2.length c0_2) := (blk_cell Y1.out 2).trans rfl; clear hb hbox hg2)
      | (go_at_call 67; (with_reducible refine (journal_Journal_at.calls a0_0 a0_1 A0_2 c0_2 l0_2 a1 (i : Int) _ ?side1 hc0_2 HX.out).mono ?_); (case side1 => exact Kd.C_below HR.out B2.out); rintro e w3 ⟨rfl, hb⟩; have B3 := Aside0.mk (below_step B2.out hb); have Z1 := Aside0.mk (blk_below Y1.out hb); have Z2 := Aside0.mk (blk_below Y2.out hb); have ha2 : w3.cell? ⟨g1, 2, none⟩ = some (.slice A0_2 l0_2.length c0_2) := (blk_cell Z1.out 2).trans rfl; clear hb hz0 hz1 hz2)
      | (go_at_call 65; (with_reducible refine (api_Version_65.calls A0_2 c0_2 l0_2 l0_2 _ ?side1 hc0_2 ?side2).mono ?_); (case side1 => exact Kd.C_below HR.out B3.out); (case side2 => rw [api_Version_65.f, if_pos HBG.out]); rintro e w4 ⟨v4, rfl, ho, hb⟩; have B4 := Aside0.mk (below_step B3.out hb); have U1 := Aside0.mk (blk_below Z1.out hb); have U2 := Aside0.mk (blk_below Z2.out hb); obtain ⟨g, cap, ev, _, _, _⟩ := Kd.R_form ho (Nat.lt_of_le_of_lt (Nat.zero_le _) HIL.out); subst ev; have HO := Aside0.mk (Kd.R_lower ho B3.out.size); clear hb ho ha2)
      | (go_at_call 68; (with_reducible refine (delete_.calls w.heap.size g cap l0_2 i _ HIL.out HO.out).mono ?_); rintro e w5 ⟨rfl, ho, hg⟩; have hn1 := Kd.R_ne HO.out U1.out (by decide); have hn2 := Kd.R_ne HO.out U2.out (by decide); have V1 := Aside0.mk (blk_grown U1.out hg hn1); have V2 := Aside0.mk (blk_grown U2.out hg hn2); have B5 := Aside0.mk (B4.out.grown hg B4.out.size (fun k e => own_base (Kd.R_own HO.out).choose_spec k e)); have HO5 := Aside0.mk ho; have hb2 : w5.cell? ⟨g1, 2, none⟩ = some (.slice A0_2 l0_2.length c0_2) := (blk_cell V1.out 2).trans rfl; have hb0 : w5.cell? ⟨g1, 0, none⟩ = some (.int .i64 a0_0) := (blk_cell V1.out 0).trans rfl; have hb1 : w5.cell? ⟨g1, 1, none⟩ = some (.string a0_1) := (blk_cell V1.out 1).trans rfl; have hfb2 := blk_frozen V1.out 2; have hy0 : w5.cell? ⟨g2, 0, none⟩ = some (.int .i64 0) := (blk_cell V2.out 0).trans rfl; have hy1 : w5.cell? ⟨g2, 1, none⟩ = some (.string (⟨#[]⟩ : ByteArray)) := (blk_cell V2.out 1).trans rfl; have hy2 : w5.cell? ⟨g2, 2, none⟩ = some (.slice none 0 0) := (blk_cell V2.out 2).trans rfl; have hf0 := blk_frozen V2.out 0; have hf1 := blk_frozen V2.out 1; have hf2 := blk_frozen V2.out 2; have hnb := N12.out; have hnc := Ne.symm N12.out; clear ho hg hn1 hn2))
    refine bodyPost_ret (results_ct rfl _ _ g2 48 #[.int .i64 a0_0, .string a0_1, .slice (some ⟨g, 0, none⟩) (l0_2.length - 1) cap] (0, 0) _ rfl (by refine blk_put (cs := #[.int .i64 a0_0, .string a0_1, .slice none 0 0]) ?_ 2 _ rfl; refine blk_put (cs := #[.int .i64 a0_0, .string (⟨#[]⟩ : ByteArray), .slice none 0 0]) ?_ 1 _ rfl; refine blk_put (cs := #[.int .i64 0, .string (⟨#[]⟩ : ByteArray), .slice none 0 0]) ?_ 0 _ rfl; refine blk_far ?_ (Ne.symm N12.out) _; exact V2.out) Try.underlying48 rfl (by kernel_rfl)) rfl ?_
    refine ⟨_, rfl, ?_, below_set (below_set (below_set (below_set B5.out G1.out) G2.out) G2.out) G2.out⟩
    have h1 : some g1 ≠ (Value.slice (some ⟨g, 0, none⟩) (l0_2.length - 1) cap).ownBlock := Kd.R_ne HO5.out V1.out (by decide)
    have h2 : some g2 ≠ (Value.slice (some ⟨g, 0, none⟩) (l0_2.length - 1) cap).ownBlock := Kd.R_ne HO5.out V2.out (by decide)
    have f1 : ∀ k, some k = (Value.slice (some ⟨g, 0, none⟩) (l0_2.length - 1) cap).ownBlock → k ≠ g1 := fun k hk e => h1 (by rw [← e]; exact hk)
    have f2 : ∀ k, some k = (Value.slice (some ⟨g, 0, none⟩) (l0_2.length - 1) cap).ownBlock → k ≠ g2 := fun k hk e => h2 (by rw [← e]; exact hk)
    exact Kd.R_mono (Kd.R_far (p := ⟨g2, 2, none⟩) (Kd.R_far (p := ⟨g2, 1, none⟩) (Kd.R_far (p := ⟨g2, 0, none⟩) (Kd.R_far (p := ⟨g1, 2, none⟩) (Kd.R_tight rfl HO5.out) f1 _) f2 _) f2 _) f2 _) (fun _ _ => trivial)
end

/-! ### journal_Find: function 41 -/
def journal_Find.f (a0_0 : Int) (a0_1 : ByteArray) (l0_2 : List (S72)) (a1 : Int) : Option (Int × Bool × Int × Int × Bool) := (journal_Journal_at.f a0_0 a0_1 l0_2 a1).bind fun t255 => (if t255 < 0 then (some (0, false, 0, 0, false)) else (if 0 ≤ t255 then (if t255 < (l0_2.length : Int) then (some ((rd_T72 l0_2 t255).f0, (rd_T72 l0_2 t255).f1, (rd_T72 l0_2 t255).f2, (rd_T72 l0_2 t255).f3, true)) else (none)) else (none)))
set_option maxHeartbeats 8000000 in
set_option maxRecDepth 100000 in
theorem journal_Find.calls (a0_0 : Int) (a0_1 : ByteArray) (A0_2 : Option Addr) (c0_2 : Nat) (l0_2 : List (S72)) (a1 : Int) (r1 : Int) (r2 : Bool) (r3 : Int) (r4 : Int) (r5 : Bool) (w : World) (hr0_2 : Kd.C k72 w A0_2 l0_2.length l0_2) (hc0_2 : l0_2.length ≤ c0_2) (h : journal_Find.f a0_0 a0_1 l0_2 a1 = some (r1, r2, r3, r4, r5)) :
    Calls Try.prog 41 #[.agg #[.int .i64 a0_0, .string a0_1, .slice A0_2 l0_2.length c0_2], .int .i64 a1] w fun e w' => e = .returned (.tuple #[.agg #[.int .i64 r1, .bool r2, .int .i64 r3, .int .u32 r4], .bool r5]) ∧ Below w.heap.size w w' := by
  have hu48 := Try.underlying48
  have hu72 := Try.underlying72
  have HR0_2 := Aside0.mk hr0_2
  have HC0_2 := Aside0.mk hc0_2
  clear hr0_2 hc0_2
  have HB := Aside0.mk (Below.refl w.heap.size w)
  have H : ((journal_Journal_at.f a0_0 a0_1 l0_2 a1).bind fun t255 => (if t255 < 0 then (some (0, false, 0, 0, false)) else (if 0 ≤ t255 then (if t255 < (l0_2.length : Int) then (some ((rd_T72 l0_2 t255).f0, (rd_T72 l0_2 t255).f1, (rd_T72 l0_2 t255).f2, (rd_T72 l0_2 t255).f3, true)) else (none)) else (none)))) = some (r1, r2, r3, r4, r5) := h
  clear h
  replace H := Option.bind_eq_some_iff.mp H
  obtain ⟨t255, A30, H⟩ := H
  replace H : (if t255 < 0 then (some (0, false, 0, 0, false)) else (if 0 ≤ t255 then (if t255 < (l0_2.length : Int) then (some ((rd_T72 l0_2 t255).f0, (rd_T72 l0_2 t255).f1, (rd_T72 l0_2 t255).f2, (rd_T72 l0_2 t255).f3, true)) else (none)) else (none))) = some (r1, r2, r3, r4, r5) := H
  have A3 := Aside0.mk A30
  clear A30
  by_cases c4 : t255 < 0
  · rw [if_pos c4] at H
    have c4b0 : decide (t255 < 0) = true := decide_eq_true c4
    clear c4
    simp only [Option.some.injEq, Prod.mk.injEq] at H
    obtain ⟨rfl, rfl, rfl, rfl, rfl⟩ := H
    go_enter Try.func41, Try.ntmps41
    go_wp2_with (first | ((with_reducible refine gate_dst (N := 2) rfl ?_); refine box_event ?hg (N := 2) ?hd (cs := #[.int .i64 a0_0, .string a0_1, .slice A0_2 l0_2.length c0_2]) (t := 48) ?hr ?_; (case hd => rfl); (case hg => rfl); (case hr => first | (go_simp; done) | (go_simp; rfl)); intro gb253 hg w5 hbox hb; have n0_ := Aside0.mk (below_step (by repeat (first | (with_reducible first | exact HB.out | apply below_alloc | apply pw_below_drewN | apply below_drew1) | exact HB.out)) hb); have BK253 := Aside0.mk (hbox); have GW253 := Aside0.mk ((by rw [hg]; exact (below_size (by repeat (first | (with_reducible first | exact HB.out | apply below_alloc | apply pw_below_drewN | apply below_drew1) | exact HB.out))) : w.heap.size ≤ gb253)); have GE253 := Aside0.mk GW253.out; clear HB; have HB := n0_; clear n0_; clear hb hbox hg) | ((with_reducible refine gate_dst (N := 4) rfl ?_); refine box_event ?hg (N := 4) ?hd (cs := #[.int .i64 0, .bool false, .int .i64 0, .int .u32 0]) (t := 72) ?hr ?_; (case hd => rfl); (case hg => rfl); (case hr => first | (go_simp; done) | (go_simp; rfl)); intro gb254 hg w6 hbox hb; have n0_ := Aside0.mk (blk_below (by (with_reducible repeat (first | refine blk_drewN ?_ _ | refine blk_drew ?_ | refine blk_alloc ?_ _)); exact BK253.out) hb); have n1_ := Aside0.mk (below_step (by repeat (first | (with_reducible first | exact HB.out | apply below_alloc | apply pw_below_drewN | apply below_drew1 | refine below_set ?_ GE253.out) | exact HB.out)) hb); have BK254 := Aside0.mk (hbox); have GW254 := Aside0.mk ((by rw [hg]; exact (below_size (by repeat (first | (with_reducible first | exact HB.out | apply below_alloc | apply pw_below_drewN | apply below_drew1 | refine below_set ?_ GE253.out) | exact HB.out))) : w.heap.size ≤ gb254)); have GE254 := Aside0.mk GW254.out; have NB253_254 := Aside0.mk ((by rw [hg]; exact Nat.ne_of_lt (blk_lt (by (with_reducible repeat (first | refine blk_drewN ?_ _ | refine blk_drew ?_ | refine blk_alloc ?_ _)); exact BK253.out)) : gb253 ≠ gb254)); have NB254_253 := Aside0.mk NB253_254.out.symm; clear BK253; clear HB; have BK253 := n0_; have HB := n1_; clear n0_ n1_; clear hb hbox hg; have hnb7 := NB253_254.out; have hnc7 := NB254_253.out; have hcz8_0 : w6.cell? ⟨gb253, 0, none⟩ = some (.int .i64 a0_0) := (blk_cell BK253.out 0).trans rfl; have hcz8_1 : w6.cell? ⟨gb253, 1, none⟩ = some (.string a0_1) := (blk_cell BK253.out 1).trans rfl; have hcz8_2 : w6.cell? ⟨gb253, 2, none⟩ = some (.slice A0_2 l0_2.length c0_2) := (blk_cell BK253.out 2).trans rfl; have hfz8_0 := blk_frozen BK253.out 0; have hfz8_1 := blk_frozen BK253.out 1; have hfz8_2 := blk_frozen BK253.out 2) | ((with_reducible refine gate_callee (f := 67) rfl ?_); refine goesL_ (some 9) rfl rfl Try.func67 (by kernel_rfl) rfl #[.agg #[.int .i64 a0_0, .string a0_1, .slice A0_2 l0_2.length c0_2], .int .i64 a1] rfl (by (try simp only [List.map_toArray, List.map_cons, List.map_nil]); first | done | rfl | (simp only [List.length_drop, List.length_take]; rfl)) ?_; (with_reducible refine (journal_Journal_at.calls a0_0 a0_1 _ _ l0_2 a1 t255 _ ?side1 ?side2 A3.out).mono ?_); (case side1 => repeat (first | exact (Kd.C_below HR0_2.out HB.out) | (with_reducible refine Kd.C_alloc ?_ _) | (with_reducible refine Kd.C_drewN ?_ _) | (with_reducible refine Kd.C_drew ?_))); (case side2 => exact HC0_2.out); rintro e w9 ⟨rfl, hb⟩; refine ⟨_, rfl, ?_⟩; have n0_ := Aside0.mk (blk_below (by (with_reducible repeat (first | refine blk_drewN ?_ _ | refine blk_drew ?_ | refine blk_alloc ?_ _)); exact BK253.out) hb); have n1_ := Aside0.mk (blk_below (by (with_reducible repeat (first | refine blk_drewN ?_ _ | refine blk_drew ?_ | refine blk_alloc ?_ _)); exact BK254.out) hb); have n2_ := Aside0.mk (below_step (by repeat (first | (with_reducible first | exact HB.out | apply below_alloc | apply pw_below_drewN | apply below_drew1 | refine below_set ?_ GE253.out | refine below_set ?_ GE254.out) | exact HB.out)) hb); clear BK253; clear BK254; clear HB; have BK253 := n0_; have BK254 := n1_; have HB := n2_; clear n0_ n1_ n2_; (try clear hb); (try clear hb2); (try clear hk); (try clear hi); have hcz10_0 : w9.cell? ⟨gb254, 0, none⟩ = some (.int .i64 0) := (blk_cell BK254.out 0).trans rfl; have hcz10_1 : w9.cell? ⟨gb254, 1, none⟩ = some (.bool false) := (blk_cell BK254.out 1).trans rfl; have hcz10_2 : w9.cell? ⟨gb254, 2, none⟩ = some (.int .i64 0) := (blk_cell BK254.out 2).trans rfl; have hcz10_3 : w9.cell? ⟨gb254, 3, none⟩ = some (.int .u32 0) := (blk_cell BK254.out 3).trans rfl; have hfz10_0 := blk_frozen BK254.out 0; have hfz10_1 := blk_frozen BK254.out 1; have hfz10_2 := blk_frozen BK254.out 2; have hfz10_3 := blk_frozen BK254.out 3))
    refine bodyPost_ret (results_ct rfl _ _ gb254 72 #[.int .i64 0, .bool false, .int .i64 0, .int .u32 0] (0, 0) _ rfl (by (with_reducible repeat (first | refine blk_drewN ?_ _ | refine blk_drew ?_ | refine blk_alloc ?_ _)); refine blk_put (cs := #[.int .i64 0, .bool false, .int .i64 0, .int .u32 0]) ?_ 3 _ rfl; (with_reducible repeat (first | refine blk_drewN ?_ _ | refine blk_drew ?_ | refine blk_alloc ?_ _)); refine blk_put (cs := #[.int .i64 0, .bool false, .int .i64 0, .int .u32 0]) ?_ 2 _ rfl; (with_reducible repeat (first | refine blk_drewN ?_ _ | refine blk_drew ?_ | refine blk_alloc ?_ _)); refine blk_put (cs := #[.int .i64 0, .bool false, .int .i64 0, .int .u32 0]) ?_ 1 _ rfl; (with_reducible repeat (first | refine blk_drewN ?_ _ | refine blk_drew ?_ | refine blk_alloc ?_ _)); refine blk_put (cs := #[.int .i64 0, .bool false, .int .i64 0, .int .u32 0]) ?_ 0 _ rfl; (with_reducible repeat (first | refine blk_drewN ?_ _ | refine blk_drew ?_ | refine blk_alloc ?_ _)); exact BK254.out) Try.underlying72 rfl (by kernel_rfl)) rfl ?_
    exact ⟨by first | rfl | (simp [errW_none, errW_some] <;> rfl) | (simp [*, errW_none, errW_some] <;> rfl), by repeat (first | (with_reducible first | exact HB.out | apply below_alloc | apply pw_below_drewN | apply below_drew1 | refine below_set ?_ GE253.out | refine below_set ?_ GE254.out) | exact HB.out)⟩
  · rw [if_neg c4] at H
    have c4b0 : decide (t255 < 0) = false := decide_eq_false c4
    clear c4
    by_cases c11 : 0 ≤ t255
    · rw [if_pos c11] at H
      have c11b0 : decide (0 ≤ t255) = true := decide_eq_true c11
      clear c11
      by_cases c12 : t255 < (l0_2.length : Int)
      · rw [if_pos c12] at H
        have c12b0 : decide (t255 < (l0_2.length : Int)) = true := decide_eq_true c12
        clear c12
        simp only [Option.some.injEq, Prod.mk.injEq] at H
        obtain ⟨rfl, rfl, rfl, rfl, rfl⟩ := H
        go_enter Try.func41, Try.ntmps41
        go_wp2_with (first | ((with_reducible refine gate_dst (N := 2) rfl ?_); refine box_event ?hg (N := 2) ?hd (cs := #[.int .i64 a0_0, .string a0_1, .slice A0_2 l0_2.length c0_2]) (t := 48) ?hr ?_; (case hd => rfl); (case hg => rfl); (case hr => first | (go_simp; done) | (go_simp; rfl)); intro gb253 hg w13 hbox hb; have n0_ := Aside0.mk (below_step (by repeat (first | (with_reducible first | exact HB.out | apply below_alloc | apply pw_below_drewN | apply below_drew1) | exact HB.out)) hb); have BK253 := Aside0.mk (hbox); have GW253 := Aside0.mk ((by rw [hg]; exact (below_size (by repeat (first | (with_reducible first | exact HB.out | apply below_alloc | apply pw_below_drewN | apply below_drew1) | exact HB.out))) : w.heap.size ≤ gb253)); have GE253 := Aside0.mk GW253.out; clear HB; have HB := n0_; clear n0_; clear hb hbox hg) | ((with_reducible refine gate_dst (N := 4) rfl ?_); refine box_event ?hg (N := 4) ?hd (cs := #[.int .i64 0, .bool false, .int .i64 0, .int .u32 0]) (t := 72) ?hr ?_; (case hd => rfl); (case hg => rfl); (case hr => first | (go_simp; done) | (go_simp; rfl)); intro gb254 hg w14 hbox hb; have n0_ := Aside0.mk (blk_below (by (with_reducible repeat (first | refine blk_drewN ?_ _ | refine blk_drew ?_ | refine blk_alloc ?_ _)); exact BK253.out) hb); have n1_ := Aside0.mk (below_step (by repeat (first | (with_reducible first | exact HB.out | apply below_alloc | apply pw_below_drewN | apply below_drew1 | refine below_set ?_ GE253.out) | exact HB.out)) hb); have BK254 := Aside0.mk (hbox); have GW254 := Aside0.mk ((by rw [hg]; exact (below_size (by repeat (first | (with_reducible first | exact HB.out | apply below_alloc | apply pw_below_drewN | apply below_drew1 | refine below_set ?_ GE253.out) | exact HB.out))) : w.heap.size ≤ gb254)); have GE254 := Aside0.mk GW254.out; have NB253_254 := Aside0.mk ((by rw [hg]; exact Nat.ne_of_lt (blk_lt (by (with_reducible repeat (first | refine blk_drewN ?_ _ | refine blk_drew ?_ | refine blk_alloc ?_ _)); exact BK253.out)) : gb253 ≠ gb254)); have NB254_253 := Aside0.mk NB253_254.out.symm; clear BK253; clear HB; have BK253 := n0_; have HB := n1_; clear n0_ n1_; clear hb hbox hg; have hnb15 := NB253_254.out; have hnc15 := NB254_253.out; have hcz16_0 : w14.cell? ⟨gb253, 0, none⟩ = some (.int .i64 a0_0) := (blk_cell BK253.out 0).trans rfl; have hcz16_1 : w14.cell? ⟨gb253, 1, none⟩ = some (.string a0_1) := (blk_cell BK253.out 1).trans rfl; have hcz16_2 : w14.cell? ⟨gb253, 2, none⟩ = some (.slice A0_2 l0_2.length c0_2) := (blk_cell BK253.out 2).trans rfl; have hfz16_0 := blk_frozen BK253.out 0; have hfz16_1 := blk_frozen BK253.out 1; have hfz16_2 := blk_frozen BK253.out 2) | ((with_reducible refine gate_callee (f := 67) rfl ?_); refine goesL_ (some 9) rfl rfl Try.func67 (by kernel_rfl) rfl #[.agg #[.int .i64 a0_0, .string a0_1, .slice A0_2 l0_2.length c0_2], .int .i64 a1] rfl (by (try simp only [List.map_toArray, List.map_cons, List.map_nil]); first | done | rfl | (simp only [List.length_drop, List.length_take]; rfl)) ?_; (with_reducible refine (journal_Journal_at.calls a0_0 a0_1 _ _ l0_2 a1 t255 _ ?side1 ?side2 A3.out).mono ?_); (case side1 => repeat (first | exact (Kd.C_below HR0_2.out HB.out) | (with_reducible refine Kd.C_alloc ?_ _) | (with_reducible refine Kd.C_drewN ?_ _) | (with_reducible refine Kd.C_drew ?_))); (case side2 => exact HC0_2.out); rintro e w17 ⟨rfl, hb⟩; refine ⟨_, rfl, ?_⟩; have n0_ := Aside0.mk (blk_below (by (with_reducible repeat (first | refine blk_drewN ?_ _ | refine blk_drew ?_ | refine blk_alloc ?_ _)); exact BK253.out) hb); have n1_ := Aside0.mk (blk_below (by (with_reducible repeat (first | refine blk_drewN ?_ _ | refine blk_drew ?_ | refine blk_alloc ?_ _)); exact BK254.out) hb); have n2_ := Aside0.mk (below_step (by repeat (first | (with_reducible first | exact HB.out | apply below_alloc | apply pw_below_drewN | apply below_drew1 | refine below_set ?_ GE253.out | refine below_set ?_ GE254.out) | exact HB.out)) hb); clear BK253; clear BK254; clear HB; have BK253 := n0_; have BK254 := n1_; have HB := n2_; clear n0_ n1_ n2_; (try clear hb); (try clear hb2); (try clear hk); (try clear hi); have hcz18_0 : w17.cell? ⟨gb253, 0, none⟩ = some (.int .i64 a0_0) := (blk_cell BK253.out 0).trans rfl; have hcz18_1 : w17.cell? ⟨gb253, 1, none⟩ = some (.string a0_1) := (blk_cell BK253.out 1).trans rfl; have hcz18_2 : w17.cell? ⟨gb253, 2, none⟩ = some (.slice A0_2 l0_2.length c0_2) := (blk_cell BK253.out 2).trans rfl; have hfz18_0 := blk_frozen BK253.out 0; have hfz18_1 := blk_frozen BK253.out 1; have hfz18_2 := blk_frozen BK253.out 2; have p256 : 0 ≤ (t255 : Int) := of_decide_eq_true (by first | (with_reducible assumption) | assumption); have q256 : t255 < (l0_2.length : Int) := of_decide_eq_true (by first | (with_reducible assumption) | assumption); obtain ⟨ad256, e256, hx256_0, hx256_1, hx256_2, hx256_3⟩ := at_T72 HR0_2.out t255 p256 q256; cases e256; replace hx256_0 := (HB.out.cell (World.block_lt_of_cell? w _ hx256_0)).trans hx256_0; replace hx256_1 := (HB.out.cell (World.block_lt_of_cell? w _ hx256_1)).trans hx256_1; replace hx256_2 := (HB.out.cell (World.block_lt_of_cell? w _ hx256_2)).trans hx256_2; replace hx256_3 := (HB.out.cell (World.block_lt_of_cell? w _ hx256_3)).trans hx256_3; replace p256 := eq_true p256; replace q256 := eq_true q256; have hcz19_0 : w17.cell? ⟨gb254, 0, none⟩ = some (.int .i64 0) := (blk_cell BK254.out 0).trans rfl; have hcz19_1 : w17.cell? ⟨gb254, 1, none⟩ = some (.bool false) := (blk_cell BK254.out 1).trans rfl; have hcz19_2 : w17.cell? ⟨gb254, 2, none⟩ = some (.int .i64 0) := (blk_cell BK254.out 2).trans rfl; have hcz19_3 : w17.cell? ⟨gb254, 3, none⟩ = some (.int .u32 0) := (blk_cell BK254.out 3).trans rfl; have hfz19_0 := blk_frozen BK254.out 0; have hfz19_1 := blk_frozen BK254.out 1; have hfz19_2 := blk_frozen BK254.out 2; have hfz19_3 := blk_frozen BK254.out 3))
        refine bodyPost_ret (results_ct rfl _ _ gb254 72 #[.int .i64 ((rd_T72 l0_2 t255).f0), .bool ((rd_T72 l0_2 t255).f1), .int .i64 ((rd_T72 l0_2 t255).f2), .int .u32 ((rd_T72 l0_2 t255).f3)] (0, 0) _ rfl (by (with_reducible repeat (first | refine blk_drewN ?_ _ | refine blk_drew ?_ | refine blk_alloc ?_ _)); refine blk_put (cs := #[.int .i64 ((rd_T72 l0_2 t255).f0), .bool ((rd_T72 l0_2 t255).f1), .int .i64 ((rd_T72 l0_2 t255).f2), .int .u32 0]) ?_ 3 _ rfl; (with_reducible repeat (first | refine blk_drewN ?_ _ | refine blk_drew ?_ | refine blk_alloc ?_ _)); refine blk_put (cs := #[.int .i64 ((rd_T72 l0_2 t255).f0), .bool ((rd_T72 l0_2 t255).f1), .int .i64 0, .int .u32 0]) ?_ 2 _ rfl; (with_reducible repeat (first | refine blk_drewN ?_ _ | refine blk_drew ?_ | refine blk_alloc ?_ _)); refine blk_put (cs := #[.int .i64 ((rd_T72 l0_2 t255).f0), .bool false, .int .i64 0, .int .u32 0]) ?_ 1 _ rfl; (with_reducible repeat (first | refine blk_drewN ?_ _ | refine blk_drew ?_ | refine blk_alloc ?_ _)); refine blk_put (cs := #[.int .i64 0, .bool false, .int .i64 0, .int .u32 0]) ?_ 0 _ rfl; (with_reducible repeat (first | refine blk_drewN ?_ _ | refine blk_drew ?_ | refine blk_alloc ?_ _)); exact BK254.out) Try.underlying72 rfl (by kernel_rfl)) rfl ?_
        exact ⟨by first | rfl | (simp [errW_none, errW_some] <;> rfl) | (simp [*, errW_none, errW_some] <;> rfl), by repeat (first | (with_reducible first | exact HB.out | apply below_alloc | apply pw_below_drewN | apply below_drew1 | refine below_set ?_ GE253.out | refine below_set ?_ GE254.out) | exact HB.out)⟩
      · rw [if_neg c12] at H
        exact absurd H (by simp)
    · rw [if_neg c11] at H
      exact absurd H (by simp)

/-! ### journal_Latest: function 42 -/
def journal_Latest.f (a0_0 : Int) (a0_1 : ByteArray) (l0_2 : List (S72)) : Option (Int × Bool × Int × Int × Bool) := if (l0_2.length : Int) = 0 then (some (0, false, 0, 0, false)) else (if 0 ≤ (wrap64 ((l0_2.length : Int) - 1)) then (if (wrap64 ((l0_2.length : Int) - 1)) < (l0_2.length : Int) then (some ((rd_T72 l0_2 (wrap64 ((l0_2.length : Int) - 1))).f0, (rd_T72 l0_2 (wrap64 ((l0_2.length : Int) - 1))).f1, (rd_T72 l0_2 (wrap64 ((l0_2.length : Int) - 1))).f2, (rd_T72 l0_2 (wrap64 ((l0_2.length : Int) - 1))).f3, true)) else (none)) else (none))
set_option maxHeartbeats 8000000 in
set_option maxRecDepth 100000 in
theorem journal_Latest.calls (a0_0 : Int) (a0_1 : ByteArray) (A0_2 : Option Addr) (c0_2 : Nat) (l0_2 : List (S72)) (r1 : Int) (r2 : Bool) (r3 : Int) (r4 : Int) (r5 : Bool) (w : World) (hr0_2 : Kd.C k72 w A0_2 l0_2.length l0_2) (hc0_2 : l0_2.length ≤ c0_2) (h : journal_Latest.f a0_0 a0_1 l0_2 = some (r1, r2, r3, r4, r5)) :
    Calls Try.prog 42 #[.agg #[.int .i64 a0_0, .string a0_1, .slice A0_2 l0_2.length c0_2]] w fun e w' => e = .returned (.tuple #[.agg #[.int .i64 r1, .bool r2, .int .i64 r3, .int .u32 r4], .bool r5]) ∧ Below w.heap.size w w' := by
  have hu48 := Try.underlying48
  have hu72 := Try.underlying72
  have HR0_2 := Aside0.mk hr0_2
  have HC0_2 := Aside0.mk hc0_2
  clear hr0_2 hc0_2
  have HB := Aside0.mk (Below.refl w.heap.size w)
  have H : (if (l0_2.length : Int) = 0 then (some (0, false, 0, 0, false)) else (if 0 ≤ (wrap64 ((l0_2.length : Int) - 1)) then (if (wrap64 ((l0_2.length : Int) - 1)) < (l0_2.length : Int) then (some ((rd_T72 l0_2 (wrap64 ((l0_2.length : Int) - 1))).f0, (rd_T72 l0_2 (wrap64 ((l0_2.length : Int) - 1))).f1, (rd_T72 l0_2 (wrap64 ((l0_2.length : Int) - 1))).f2, (rd_T72 l0_2 (wrap64 ((l0_2.length : Int) - 1))).f3, true)) else (none)) else (none))) = some (r1, r2, r3, r4, r5) := h
  clear h
  by_cases c2 : (l0_2.length : Int) = 0
  · rw [if_pos c2] at H
    have c2b0 : ((l0_2.length : Int) == 0) = true := beq_iff_eq.mpr c2
    have c2b1 : ((l0_2.length : Int) != 0) = false := bne_eq_false_iff_eq.mpr c2
    clear c2
    simp only [Option.some.injEq, Prod.mk.injEq] at H
    obtain ⟨rfl, rfl, rfl, rfl, rfl⟩ := H
    go_enter Try.func42, Try.ntmps42
    go_wp2_with (first | ((with_reducible refine gate_dst (N := 1) rfl ?_); refine box_event ?hg (N := 1) ?hd (cs := #[.int .i64 a0_0, .string a0_1, .slice A0_2 l0_2.length c0_2]) (t := 48) ?hr ?_; (case hd => rfl); (case hg => rfl); (case hr => first | (go_simp; done) | (go_simp; rfl)); intro gb257 hg w3 hbox hb; have n0_ := Aside0.mk (below_step (by repeat (first | (with_reducible first | exact HB.out | apply below_alloc | apply pw_below_drewN | apply below_drew1) | exact HB.out)) hb); have BK257 := Aside0.mk (hbox); have GW257 := Aside0.mk ((by rw [hg]; exact (below_size (by repeat (first | (with_reducible first | exact HB.out | apply below_alloc | apply pw_below_drewN | apply below_drew1) | exact HB.out))) : w.heap.size ≤ gb257)); have GE257 := Aside0.mk GW257.out; clear HB; have HB := n0_; clear n0_; clear hb hbox hg) | ((with_reducible refine gate_dst (N := 2) rfl ?_); refine box_event ?hg (N := 2) ?hd (cs := #[.int .i64 0, .bool false, .int .i64 0, .int .u32 0]) (t := 72) ?hr ?_; (case hd => rfl); (case hg => rfl); (case hr => first | (go_simp; done) | (go_simp; rfl)); intro gb258 hg w4 hbox hb; have n0_ := Aside0.mk (blk_below (by (with_reducible repeat (first | refine blk_drewN ?_ _ | refine blk_drew ?_ | refine blk_alloc ?_ _)); exact BK257.out) hb); have n1_ := Aside0.mk (below_step (by repeat (first | (with_reducible first | exact HB.out | apply below_alloc | apply pw_below_drewN | apply below_drew1 | refine below_set ?_ GE257.out) | exact HB.out)) hb); have BK258 := Aside0.mk (hbox); have GW258 := Aside0.mk ((by rw [hg]; exact (below_size (by repeat (first | (with_reducible first | exact HB.out | apply below_alloc | apply pw_below_drewN | apply below_drew1 | refine below_set ?_ GE257.out) | exact HB.out))) : w.heap.size ≤ gb258)); have GE258 := Aside0.mk GW258.out; have NB257_258 := Aside0.mk ((by rw [hg]; exact Nat.ne_of_lt (blk_lt (by (with_reducible repeat (first | refine blk_drewN ?_ _ | refine blk_drew ?_ | refine blk_alloc ?_ _)); exact BK257.out)) : gb257 ≠ gb258)); have NB258_257 := Aside0.mk NB257_258.out.symm; clear BK257; clear HB; have BK257 := n0_; have HB := n1_; clear n0_ n1_; clear hb hbox hg; have hnb5 := NB257_258.out; have hnc5 := NB258_257.out; have hcz6_0 : w4.cell? ⟨gb257, 0, none⟩ = some (.int .i64 a0_0) := (blk_cell BK257.out 0).trans rfl; have hcz6_1 : w4.cell? ⟨gb257, 1, none⟩ = some (.string a0_1) := (blk_cell BK257.out 1).trans rfl; have hcz6_2 : w4.cell? ⟨gb257, 2, none⟩ = some (.slice A0_2 l0_2.length c0_2) := (blk_cell BK257.out 2).trans rfl; have hfz6_0 := blk_frozen BK257.out 0; have hfz6_1 := blk_frozen BK257.out 1; have hfz6_2 := blk_frozen BK257.out 2; have hcz7_0 : w4.cell? ⟨gb258, 0, none⟩ = some (.int .i64 0) := (blk_cell BK258.out 0).trans rfl; have hcz7_1 : w4.cell? ⟨gb258, 1, none⟩ = some (.bool false) := (blk_cell BK258.out 1).trans rfl; have hcz7_2 : w4.cell? ⟨gb258, 2, none⟩ = some (.int .i64 0) := (blk_cell BK258.out 2).trans rfl; have hcz7_3 : w4.cell? ⟨gb258, 3, none⟩ = some (.int .u32 0) := (blk_cell BK258.out 3).trans rfl; have hfz7_0 := blk_frozen BK258.out 0; have hfz7_1 := blk_frozen BK258.out 1; have hfz7_2 := blk_frozen BK258.out 2; have hfz7_3 := blk_frozen BK258.out 3))
    refine bodyPost_ret (results_ct rfl _ _ gb258 72 #[.int .i64 0, .bool false, .int .i64 0, .int .u32 0] (0, 0) _ rfl (by (with_reducible repeat (first | refine blk_drewN ?_ _ | refine blk_drew ?_ | refine blk_alloc ?_ _)); refine blk_put (cs := #[.int .i64 0, .bool false, .int .i64 0, .int .u32 0]) ?_ 3 _ rfl; (with_reducible repeat (first | refine blk_drewN ?_ _ | refine blk_drew ?_ | refine blk_alloc ?_ _)); refine blk_put (cs := #[.int .i64 0, .bool false, .int .i64 0, .int .u32 0]) ?_ 2 _ rfl; (with_reducible repeat (first | refine blk_drewN ?_ _ | refine blk_drew ?_ | refine blk_alloc ?_ _)); refine blk_put (cs := #[.int .i64 0, .bool false, .int .i64 0, .int .u32 0]) ?_ 1 _ rfl; (with_reducible repeat (first | refine blk_drewN ?_ _ | refine blk_drew ?_ | refine blk_alloc ?_ _)); refine blk_put (cs := #[.int .i64 0, .bool false, .int .i64 0, .int .u32 0]) ?_ 0 _ rfl; (with_reducible repeat (first | refine blk_drewN ?_ _ | refine blk_drew ?_ | refine blk_alloc ?_ _)); exact BK258.out) Try.underlying72 rfl (by kernel_rfl)) rfl ?_
    exact ⟨by first | rfl | (simp [errW_none, errW_some] <;> rfl) | (simp [*, errW_none, errW_some] <;> rfl), by repeat (first | (with_reducible first | exact HB.out | apply below_alloc | apply pw_below_drewN | apply below_drew1 | refine below_set ?_ GE257.out | refine below_set ?_ GE258.out) | exact HB.out)⟩
  · rw [if_neg c2] at H
    have c2b0 : ((l0_2.length : Int) == 0) = false := beq_eq_false_iff_ne.mpr c2
    have c2b1 : ((l0_2.length : Int) != 0) = true := bne_iff_ne.mpr c2
    have c2b2 : ¬ (l0_2 = []) := fun h_ => c2 (by rw [h_]; rfl)
    obtain ⟨ji8, hji8⟩ : ∃ j_ : Int, (wrap64 ((l0_2.length : Int) - 1)) = j_ := ⟨_, rfl⟩
    replace H : (if 0 ≤ (ji8) then (if (ji8) < (l0_2.length : Int) then (some ((rd_T72 l0_2 (ji8)).f0, (rd_T72 l0_2 (ji8)).f1, (rd_T72 l0_2 (ji8)).f2, (rd_T72 l0_2 (ji8)).f3, true)) else (none)) else (none)) = some (r1, r2, r3, r4, r5) := by first | (rw [hji8] at H; exact H) | (simp only [hji8] at H ⊢; exact H)
    have hji8w : (IntKind.i64.wrap ((l0_2.length : Int) - 1)) = ji8 := (i64_w _).trans hji8
    by_cases c9 : 0 ≤ (ji8)
    · rw [if_pos c9] at H
      have c9b0 : decide (0 ≤ (ji8)) = true := decide_eq_true c9
      clear c9
      by_cases c10 : (ji8) < (l0_2.length : Int)
      · rw [if_pos c10] at H
        have c10b0 : decide ((ji8) < (l0_2.length : Int)) = true := decide_eq_true c10
        clear c10
        simp only [Option.some.injEq, Prod.mk.injEq] at H
        obtain ⟨rfl, rfl, rfl, rfl, rfl⟩ := H
        go_enter Try.func42, Try.ntmps42
        go_wp2_with (first | ((with_reducible refine gate_dst (N := 1) rfl ?_); refine box_event ?hg (N := 1) ?hd (cs := #[.int .i64 a0_0, .string a0_1, .slice A0_2 l0_2.length c0_2]) (t := 48) ?hr ?_; (case hd => rfl); (case hg => rfl); (case hr => first | (go_simp; done) | (go_simp; rfl)); intro gb257 hg w11 hbox hb; have n0_ := Aside0.mk (below_step (by repeat (first | (with_reducible first | exact HB.out | apply below_alloc | apply pw_below_drewN | apply below_drew1) | exact HB.out)) hb); have BK257 := Aside0.mk (hbox); have GW257 := Aside0.mk ((by rw [hg]; exact (below_size (by repeat (first | (with_reducible first | exact HB.out | apply below_alloc | apply pw_below_drewN | apply below_drew1) | exact HB.out))) : w.heap.size ≤ gb257)); have GE257 := Aside0.mk GW257.out; clear HB; have HB := n0_; clear n0_; clear hb hbox hg) | ((with_reducible refine gate_dst (N := 2) rfl ?_); refine box_event ?hg (N := 2) ?hd (cs := #[.int .i64 0, .bool false, .int .i64 0, .int .u32 0]) (t := 72) ?hr ?_; (case hd => rfl); (case hg => rfl); (case hr => first | (go_simp; done) | (go_simp; rfl)); intro gb258 hg w12 hbox hb; have n0_ := Aside0.mk (blk_below (by (with_reducible repeat (first | refine blk_drewN ?_ _ | refine blk_drew ?_ | refine blk_alloc ?_ _)); exact BK257.out) hb); have n1_ := Aside0.mk (below_step (by repeat (first | (with_reducible first | exact HB.out | apply below_alloc | apply pw_below_drewN | apply below_drew1 | refine below_set ?_ GE257.out) | exact HB.out)) hb); have BK258 := Aside0.mk (hbox); have GW258 := Aside0.mk ((by rw [hg]; exact (below_size (by repeat (first | (with_reducible first | exact HB.out | apply below_alloc | apply pw_below_drewN | apply below_drew1 | refine below_set ?_ GE257.out) | exact HB.out))) : w.heap.size ≤ gb258)); have GE258 := Aside0.mk GW258.out; have NB257_258 := Aside0.mk ((by rw [hg]; exact Nat.ne_of_lt (blk_lt (by (with_reducible repeat (first | refine blk_drewN ?_ _ | refine blk_drew ?_ | refine blk_alloc ?_ _)); exact BK257.out)) : gb257 ≠ gb258)); have NB258_257 := Aside0.mk NB257_258.out.symm; clear BK257; clear HB; have BK257 := n0_; have HB := n1_; clear n0_ n1_; clear hb hbox hg; have hnb13 := NB257_258.out; have hnc13 := NB258_257.out; have hcz14_0 : w12.cell? ⟨gb257, 0, none⟩ = some (.int .i64 a0_0) := (blk_cell BK257.out 0).trans rfl; have hcz14_1 : w12.cell? ⟨gb257, 1, none⟩ = some (.string a0_1) := (blk_cell BK257.out 1).trans rfl; have hcz14_2 : w12.cell? ⟨gb257, 2, none⟩ = some (.slice A0_2 l0_2.length c0_2) := (blk_cell BK257.out 2).trans rfl; have hfz14_0 := blk_frozen BK257.out 0; have hfz14_1 := blk_frozen BK257.out 1; have hfz14_2 := blk_frozen BK257.out 2; have p259 : 0 ≤ ((ji8) : Int) := of_decide_eq_true (by first | (with_reducible assumption) | assumption); have q259 : (ji8) < (l0_2.length : Int) := of_decide_eq_true (by first | (with_reducible assumption) | assumption); obtain ⟨ad259, e259, hx259_0, hx259_1, hx259_2, hx259_3⟩ := at_T72 HR0_2.out (ji8) p259 q259; cases e259; replace hx259_0 := (HB.out.cell (World.block_lt_of_cell? w _ hx259_0)).trans hx259_0; replace hx259_1 := (HB.out.cell (World.block_lt_of_cell? w _ hx259_1)).trans hx259_1; replace hx259_2 := (HB.out.cell (World.block_lt_of_cell? w _ hx259_2)).trans hx259_2; replace hx259_3 := (HB.out.cell (World.block_lt_of_cell? w _ hx259_3)).trans hx259_3; replace p259 := eq_true p259; replace q259 := eq_true q259; have hcz15_0 : w12.cell? ⟨gb258, 0, none⟩ = some (.int .i64 0) := (blk_cell BK258.out 0).trans rfl; have hcz15_1 : w12.cell? ⟨gb258, 1, none⟩ = some (.bool false) := (blk_cell BK258.out 1).trans rfl; have hcz15_2 : w12.cell? ⟨gb258, 2, none⟩ = some (.int .i64 0) := (blk_cell BK258.out 2).trans rfl; have hcz15_3 : w12.cell? ⟨gb258, 3, none⟩ = some (.int .u32 0) := (blk_cell BK258.out 3).trans rfl; have hfz15_0 := blk_frozen BK258.out 0; have hfz15_1 := blk_frozen BK258.out 1; have hfz15_2 := blk_frozen BK258.out 2; have hfz15_3 := blk_frozen BK258.out 3))
        refine bodyPost_ret (results_ct rfl _ _ gb258 72 #[.int .i64 ((rd_T72 l0_2 (ji8)).f0), .bool ((rd_T72 l0_2 (ji8)).f1), .int .i64 ((rd_T72 l0_2 (ji8)).f2), .int .u32 ((rd_T72 l0_2 (ji8)).f3)] (0, 0) _ rfl (by (with_reducible repeat (first | refine blk_drewN ?_ _ | refine blk_drew ?_ | refine blk_alloc ?_ _)); refine blk_put (cs := #[.int .i64 ((rd_T72 l0_2 (ji8)).f0), .bool ((rd_T72 l0_2 (ji8)).f1), .int .i64 ((rd_T72 l0_2 (ji8)).f2), .int .u32 0]) ?_ 3 _ rfl; (with_reducible repeat (first | refine blk_drewN ?_ _ | refine blk_drew ?_ | refine blk_alloc ?_ _)); refine blk_put (cs := #[.int .i64 ((rd_T72 l0_2 (ji8)).f0), .bool ((rd_T72 l0_2 (ji8)).f1), .int .i64 0, .int .u32 0]) ?_ 2 _ rfl; (with_reducible repeat (first | refine blk_drewN ?_ _ | refine blk_drew ?_ | refine blk_alloc ?_ _)); refine blk_put (cs := #[.int .i64 ((rd_T72 l0_2 (ji8)).f0), .bool false, .int .i64 0, .int .u32 0]) ?_ 1 _ rfl; (with_reducible repeat (first | refine blk_drewN ?_ _ | refine blk_drew ?_ | refine blk_alloc ?_ _)); refine blk_put (cs := #[.int .i64 0, .bool false, .int .i64 0, .int .u32 0]) ?_ 0 _ rfl; (with_reducible repeat (first | refine blk_drewN ?_ _ | refine blk_drew ?_ | refine blk_alloc ?_ _)); exact BK258.out) Try.underlying72 rfl (by kernel_rfl)) rfl ?_
        exact ⟨by first | rfl | (simp [errW_none, errW_some] <;> rfl) | (simp only [← hji8]; first | rfl | (simp [errW_none, errW_some] <;> rfl)) | (simp [*, errW_none, errW_some] <;> rfl), by repeat (first | (with_reducible first | exact HB.out | apply below_alloc | apply pw_below_drewN | apply below_drew1 | refine below_set ?_ GE257.out | refine below_set ?_ GE258.out) | exact HB.out)⟩
      · rw [if_neg c10] at H
        exact absurd H (by simp)
    · rw [if_neg c9] at H
      exact absurd H (by simp)

/-! ### strongboxref4_Find: function 43 -/
def strongboxref4_Find.l0 : Nat → Int → Int → Int → ByteArray → List (S72) → Option (Int × Bool × Int × Int × Bool)
  | 0, _, _, _, _, _ => none
  | k + 1, x1, x6, x261000, x261001, x261002 => if x6 < (x261002.length : Int) then (if 0 ≤ x6 then (if ((rd_T72 x261002 x6).f0) = x1 then (some ((rd_T72 x261002 x6).f0, (rd_T72 x261002 x6).f1, (rd_T72 x261002 x6).f2, (rd_T72 x261002 x6).f3, true)) else (strongboxref4_Find.l0 k x1 (wrap64 (x6 + 1)) x261000 x261001 x261002)) else (none)) else (some (0, false, 0, 0, false))
def strongboxref4_Find.f (k : Nat) (a0_0 : Int) (a0_1 : ByteArray) (l0_2 : List (S72)) (a1 : Int) : Option (Int × Bool × Int × Int × Bool) := strongboxref4_Find.l0 k a1 0 a0_0 a0_1 l0_2
theorem strongboxref4_Find.mono_l : ∀ k, (∀ y0 y1 y2 y3 y4, LeO (strongboxref4_Find.l0 k y0 y1 y2 y3 y4) (strongboxref4_Find.l0 (k + 1) y0 y1 y2 y3 y4))
  | 0 => fun _ _ _ _ _ r h => by simp [strongboxref4_Find.l0] at h
  | k + 1 => by
    have ih0 := strongboxref4_Find.mono_l k
    · intro y0 y1 y2 y3 y4
      unfold strongboxref4_Find.l0
      repeat' first
      | (with_reducible exact ih0 _ _ _ _ _)
      | (with_reducible exact LeO.refl _)
      | (with_reducible exact LeO.none _)
      | (with_reducible refine LeO.ite ?_ ?_)
      | (with_reducible refine LeO.bind ?_ (fun _ => ?_))
      | exact ih0 _ _ _ _ _
      | exact LeO.none _
      | refine LeO.ite ?_ ?_
      | refine LeO.bind ?_ (fun _ => ?_)
theorem strongboxref4_Find.mono : ∀ a0 a1 a2 a3 k, LeO (strongboxref4_Find.f k a0 a1 a2 a3) (strongboxref4_Find.f (k + 1) a0 a1 a2 a3) := by
  intro a0 a1 a2 a3 k
  have ih0 := strongboxref4_Find.mono_l k
  unfold strongboxref4_Find.f
  repeat' first
      | (with_reducible exact ih0 _ _ _ _ _)
      | (with_reducible exact LeO.refl _)
      | (with_reducible exact LeO.none _)
      | (with_reducible refine LeO.ite ?_ ?_)
      | (with_reducible refine LeO.bind ?_ (fun _ => ?_))
      | exact ih0 _ _ _ _ _
      | exact LeO.none _
      | refine LeO.ite ?_ ?_
      | refine LeO.bind ?_ (fun _ => ?_)
set_option maxHeartbeats 8000000 in
set_option maxRecDepth 100000 in
theorem strongboxref4_Find.calls (k : Nat) (a0_0 : Int) (a0_1 : ByteArray) (A0_2 : Option Addr) (c0_2 : Nat) (l0_2 : List (S72)) (a1 : Int) (r1 : Int) (r2 : Bool) (r3 : Int) (r4 : Int) (r5 : Bool) (w : World) (hr0_2 : Kd.C k72 w A0_2 l0_2.length l0_2) (hc0_2 : l0_2.length ≤ c0_2) (h : strongboxref4_Find.f k a0_0 a0_1 l0_2 a1 = some (r1, r2, r3, r4, r5)) :
    Calls Try.prog 43 #[.agg #[.int .i64 a0_0, .string a0_1, .slice A0_2 l0_2.length c0_2], .int .i64 a1] w fun e w' => e = .returned (.tuple #[.agg #[.int .i64 r1, .bool r2, .int .i64 r3, .int .u32 r4], .bool r5]) ∧ Below w.heap.size w w' := by
  have hu45 := Try.underlying45
  have hu72 := Try.underlying72
  have HR0_2 := Aside0.mk hr0_2
  have HC0_2 := Aside0.mk hc0_2
  clear hr0_2 hc0_2
  have HB := Aside0.mk (Below.refl w.heap.size w)
  have H : (strongboxref4_Find.l0 k a1 0 a0_0 a0_1 l0_2) = some (r1, r2, r3, r4, r5) := h
  clear h
  have H' := Aside0.mk H
  clear H
  go_enter Try.func43, Try.ntmps43
  go_wp2_with (first | ((with_reducible refine gate_dst (N := 2) rfl ?_); refine box_event ?hg (N := 2) ?hd (cs := #[.int .i64 a0_0, .string a0_1, .slice A0_2 l0_2.length c0_2]) (t := 45) ?hr ?_; (case hd => rfl); (case hg => rfl); (case hr => first | (go_simp; done) | (go_simp; rfl)); intro gb260 hg w3 hbox hb; have n0_ := Aside0.mk (below_step (by repeat (first | (with_reducible first | exact HB.out | apply below_alloc | apply pw_below_drewN | apply below_drew1) | exact HB.out)) hb); have BK260 := Aside0.mk (hbox); have GW260 := Aside0.mk ((by rw [hg]; exact (below_size (by repeat (first | (with_reducible first | exact HB.out | apply below_alloc | apply pw_below_drewN | apply below_drew1) | exact HB.out))) : w.heap.size ≤ gb260)); have GE260 := Aside0.mk GW260.out; clear HB; have HB := n0_; clear n0_; clear hb hbox hg) | ((with_reducible refine gate_dst (N := 4) rfl ?_); refine box_event ?hg (N := 4) ?hd (cs := #[.int .i64 0, .bool false, .int .i64 0, .int .u32 0]) (t := 72) ?hr ?_; (case hd => rfl); (case hg => rfl); (case hr => first | (go_simp; done) | (go_simp; rfl)); intro gb261 hg w4 hbox hb; have n0_ := Aside0.mk (blk_below (by (with_reducible repeat (first | refine blk_drewN ?_ _ | refine blk_drew ?_ | refine blk_alloc ?_ _)); exact BK260.out) hb); have n1_ := Aside0.mk (below_step (by repeat (first | (with_reducible first | exact HB.out | apply below_alloc | apply pw_below_drewN | apply below_drew1 | refine below_set ?_ GE260.out) | exact HB.out)) hb); have BK261 := Aside0.mk (hbox); have GW261 := Aside0.mk ((by rw [hg]; exact (below_size (by repeat (first | (with_reducible first | exact HB.out | apply below_alloc | apply pw_below_drewN | apply below_drew1 | refine below_set ?_ GE260.out) | exact HB.out))) : w.heap.size ≤ gb261)); have GE261 := Aside0.mk GW261.out; have NB260_261 := Aside0.mk ((by rw [hg]; exact Nat.ne_of_lt (blk_lt (by (with_reducible repeat (first | refine blk_drewN ?_ _ | refine blk_drew ?_ | refine blk_alloc ?_ _)); exact BK260.out)) : gb260 ≠ gb261)); have NB261_260 := Aside0.mk NB260_261.out.symm; clear BK260; clear HB; have BK260 := n0_; have HB := n1_; clear n0_ n1_; clear hb hbox hg))
  go_loopg [6] k (fun kq v6 w' => ∃ (x6_1 : Int) (x262000_1 : Int) (x262001_1 : Bool) (x262002_1 : Int) (x262003_1 : Int), v6 = .int .i64 x6_1 ∧ Aside0 (strongboxref4_Find.l0 kq a1 x6_1 a0_0 a0_1 l0_2 = some (r1, r2, r3, r4, r5)) ∧ Aside0 (kq ≤ k) ∧ Aside0 (w'.heap[gb260]? = some (.cells #[.int .i64 a0_0, .string a0_1, (.slice A0_2 l0_2.length c0_2)] 45 (0, 0))) ∧ Aside0 (w'.heap[gb261]? = some (.cells #[.int .i64 x262000_1, .bool x262001_1, .int .i64 x262002_1, .int .u32 x262003_1] 72 (0, 0))) ∧ Aside0 (Below w.heap.size w w'))
  case atStart => exact ⟨(0), (0), (false), (0), (0), (by first | rfl | (simp; done) | (simp [*]; done)), H', ⟨Nat.le_refl _⟩, ⟨by (with_reducible repeat (first | refine blk_drewN ?_ _ | refine blk_drew ?_ | refine blk_alloc ?_ _)); exact BK260.out⟩, ⟨by (with_reducible repeat (first | refine blk_drewN ?_ _ | refine blk_drew ?_ | refine blk_alloc ?_ _)); exact BK261.out⟩, ⟨by repeat (first | (with_reducible first | exact HB.out | apply below_alloc | apply pw_below_drewN | apply below_drew1 | refine below_set ?_ GE260.out | refine below_set ?_ GE261.out) | exact HB.out)⟩⟩
  case round =>
    clear H'
    try clear p2
    try clear c4
    obtain ⟨x6_1, x262000_1, x262001_1, x262002_1, x262003_1, rfl, HA, HK1, BK260, BK261, HB⟩ := hrel
    cases gk with
    | zero => exact absurd HA.out (by simp [strongboxref4_Find.l0])
    | succ k1 =>
      have H := HA.out
      clear HA
      simp only [strongboxref4_Find.l0] at H
      by_cases c5 : x6_1 < (l0_2.length : Int)
      · rw [if_pos c5] at H
        have c5b0 : decide (x6_1 < (l0_2.length : Int)) = true := decide_eq_true c5
        clear c5
        by_cases c6 : 0 ≤ x6_1
        · rw [if_pos c6] at H
          have c6b0 : decide (0 ≤ x6_1) = true := decide_eq_true c6
          clear c6
          by_cases c7 : ((rd_T72 l0_2 x6_1).f0) = a1
          · rw [if_pos c7] at H
            have c7b0 : (((rd_T72 l0_2 x6_1).f0) == a1) = true := beq_iff_eq.mpr c7
            have c7b1 : (((rd_T72 l0_2 x6_1).f0) != a1) = false := bne_eq_false_iff_eq.mpr c7
            clear c7
            simp only [Option.some.injEq, Prod.mk.injEq] at H
            obtain ⟨rfl, rfl, rfl, rfl, rfl⟩ := H
            have hnb8 := NB260_261.out
            have hnc8 := NB261_260.out
            have hcz9_0 : wr.cell? ⟨gb260, 0, none⟩ = some (.int .i64 a0_0) := (blk_cell BK260.out 0).trans rfl
            have hcz9_1 : wr.cell? ⟨gb260, 1, none⟩ = some (.string a0_1) := (blk_cell BK260.out 1).trans rfl
            have hcz9_2 : wr.cell? ⟨gb260, 2, none⟩ = some (.slice A0_2 l0_2.length c0_2) := (blk_cell BK260.out 2).trans rfl
            have hfz9_0 := blk_frozen BK260.out 0
            have hfz9_1 := blk_frozen BK260.out 1
            have hfz9_2 := blk_frozen BK260.out 2
            have p262 : 0 ≤ (x6_1 : Int) := of_decide_eq_true (by first | (with_reducible assumption) | assumption)
            have q262 : x6_1 < (l0_2.length : Int) := of_decide_eq_true (by first | (with_reducible assumption) | assumption)
            obtain ⟨ad262, e262, hx262_0, hx262_1, hx262_2, hx262_3⟩ := at_T72 HR0_2.out x6_1 p262 q262
            cases e262
            replace hx262_0 := (HB.out.cell (World.block_lt_of_cell? w _ hx262_0)).trans hx262_0
            replace hx262_1 := (HB.out.cell (World.block_lt_of_cell? w _ hx262_1)).trans hx262_1
            replace hx262_2 := (HB.out.cell (World.block_lt_of_cell? w _ hx262_2)).trans hx262_2
            replace hx262_3 := (HB.out.cell (World.block_lt_of_cell? w _ hx262_3)).trans hx262_3
            replace p262 := eq_true p262
            replace q262 := eq_true q262
            have p263 : 0 ≤ (x6_1 : Int) := of_decide_eq_true (by first | (with_reducible assumption) | assumption)
            have q263 : x6_1 < (l0_2.length : Int) := of_decide_eq_true (by first | (with_reducible assumption) | assumption)
            obtain ⟨ad263, e263, hx263_0, hx263_1, hx263_2, hx263_3⟩ := at_T72 HR0_2.out x6_1 p263 q263
            obtain rfl : ad262 = ad263 := (by injection e263)
            replace hx263_0 := (HB.out.cell (World.block_lt_of_cell? w _ hx263_0)).trans hx263_0
            replace hx263_1 := (HB.out.cell (World.block_lt_of_cell? w _ hx263_1)).trans hx263_1
            replace hx263_2 := (HB.out.cell (World.block_lt_of_cell? w _ hx263_2)).trans hx263_2
            replace hx263_3 := (HB.out.cell (World.block_lt_of_cell? w _ hx263_3)).trans hx263_3
            replace p263 := eq_true p263
            replace q263 := eq_true q263
            have hcz10_0 : wr.cell? ⟨gb261, 0, none⟩ = some (.int .i64 x262000_1) := (blk_cell BK261.out 0).trans rfl
            have hcz10_1 : wr.cell? ⟨gb261, 1, none⟩ = some (.bool x262001_1) := (blk_cell BK261.out 1).trans rfl
            have hcz10_2 : wr.cell? ⟨gb261, 2, none⟩ = some (.int .i64 x262002_1) := (blk_cell BK261.out 2).trans rfl
            have hcz10_3 : wr.cell? ⟨gb261, 3, none⟩ = some (.int .u32 x262003_1) := (blk_cell BK261.out 3).trans rfl
            have hfz10_0 := blk_frozen BK261.out 0
            have hfz10_1 := blk_frozen BK261.out 1
            have hfz10_2 := blk_frozen BK261.out 2
            have hfz10_3 := blk_frozen BK261.out 3
            go_wp2
            refine bodyPost_ret (results_ct rfl _ _ gb261 72 #[.int .i64 ((rd_T72 l0_2 x6_1).f0), .bool ((rd_T72 l0_2 x6_1).f1), .int .i64 ((rd_T72 l0_2 x6_1).f2), .int .u32 ((rd_T72 l0_2 x6_1).f3)] (0, 0) _ rfl (by (with_reducible repeat (first | refine blk_drewN ?_ _ | refine blk_drew ?_ | refine blk_alloc ?_ _)); refine blk_put (cs := #[.int .i64 ((rd_T72 l0_2 x6_1).f0), .bool ((rd_T72 l0_2 x6_1).f1), .int .i64 ((rd_T72 l0_2 x6_1).f2), .int .u32 x262003_1]) ?_ 3 _ rfl; (with_reducible repeat (first | refine blk_drewN ?_ _ | refine blk_drew ?_ | refine blk_alloc ?_ _)); refine blk_put (cs := #[.int .i64 ((rd_T72 l0_2 x6_1).f0), .bool ((rd_T72 l0_2 x6_1).f1), .int .i64 x262002_1, .int .u32 x262003_1]) ?_ 2 _ rfl; (with_reducible repeat (first | refine blk_drewN ?_ _ | refine blk_drew ?_ | refine blk_alloc ?_ _)); refine blk_put (cs := #[.int .i64 ((rd_T72 l0_2 x6_1).f0), .bool x262001_1, .int .i64 x262002_1, .int .u32 x262003_1]) ?_ 1 _ rfl; (with_reducible repeat (first | refine blk_drewN ?_ _ | refine blk_drew ?_ | refine blk_alloc ?_ _)); refine blk_put (cs := #[.int .i64 x262000_1, .bool x262001_1, .int .i64 x262002_1, .int .u32 x262003_1]) ?_ 0 _ rfl; (with_reducible repeat (first | refine blk_drewN ?_ _ | refine blk_drew ?_ | refine blk_alloc ?_ _)); exact BK261.out) Try.underlying72 rfl (by kernel_rfl)) rfl ?_
            exact ⟨by first | rfl | (simp [errW_none, errW_some] <;> rfl) | (simp [*, errW_none, errW_some] <;> rfl), by repeat (first | (with_reducible first | exact HB.out | apply below_alloc | apply pw_below_drewN | apply below_drew1 | refine below_set ?_ GE260.out | refine below_set ?_ GE261.out) | exact HB.out)⟩
          · rw [if_neg c7] at H
            have c7b0 : (((rd_T72 l0_2 x6_1).f0) == a1) = false := beq_eq_false_iff_ne.mpr c7
            have c7b1 : (((rd_T72 l0_2 x6_1).f0) != a1) = true := bne_iff_ne.mpr c7
            have H' := Aside0.mk H
            clear H
            have hnb11 := NB260_261.out
            have hnc11 := NB261_260.out
            have hcz12_0 : wr.cell? ⟨gb260, 0, none⟩ = some (.int .i64 a0_0) := (blk_cell BK260.out 0).trans rfl
            have hcz12_1 : wr.cell? ⟨gb260, 1, none⟩ = some (.string a0_1) := (blk_cell BK260.out 1).trans rfl
            have hcz12_2 : wr.cell? ⟨gb260, 2, none⟩ = some (.slice A0_2 l0_2.length c0_2) := (blk_cell BK260.out 2).trans rfl
            have hfz12_0 := blk_frozen BK260.out 0
            have hfz12_1 := blk_frozen BK260.out 1
            have hfz12_2 := blk_frozen BK260.out 2
            have p262 : 0 ≤ (x6_1 : Int) := of_decide_eq_true (by first | (with_reducible assumption) | assumption)
            have q262 : x6_1 < (l0_2.length : Int) := of_decide_eq_true (by first | (with_reducible assumption) | assumption)
            obtain ⟨ad262, e262, hx262_0, hx262_1, hx262_2, hx262_3⟩ := at_T72 HR0_2.out x6_1 p262 q262
            cases e262
            replace hx262_0 := (HB.out.cell (World.block_lt_of_cell? w _ hx262_0)).trans hx262_0
            replace hx262_1 := (HB.out.cell (World.block_lt_of_cell? w _ hx262_1)).trans hx262_1
            replace hx262_2 := (HB.out.cell (World.block_lt_of_cell? w _ hx262_2)).trans hx262_2
            replace hx262_3 := (HB.out.cell (World.block_lt_of_cell? w _ hx262_3)).trans hx262_3
            replace p262 := eq_true p262
            replace q262 := eq_true q262
            go_wp2
            go_roundg k1
            case measure => have := HK1.out; omega
            case rel => exact ⟨(wrap64 (x6_1 + 1)), (x262000_1), (x262001_1), (x262002_1), (x262003_1), (by first | rfl | (simp; done) | (simp [*]; done)), H', ⟨by have := HK1.out; omega⟩, ⟨by (with_reducible repeat (first | refine blk_drewN ?_ _ | refine blk_drew ?_ | refine blk_alloc ?_ _)); exact BK260.out⟩, ⟨by (with_reducible repeat (first | refine blk_drewN ?_ _ | refine blk_drew ?_ | refine blk_alloc ?_ _)); exact BK261.out⟩, ⟨by repeat (first | (with_reducible first | exact HB.out | apply below_alloc | apply pw_below_drewN | apply below_drew1 | refine below_set ?_ GE260.out | refine below_set ?_ GE261.out) | exact HB.out)⟩⟩
        · rw [if_neg c6] at H
          exact absurd H (by simp)
      · rw [if_neg c5] at H
        have c5b0 : decide (x6_1 < (l0_2.length : Int)) = false := decide_eq_false c5
        clear c5
        simp only [Option.some.injEq, Prod.mk.injEq] at H
        obtain ⟨rfl, rfl, rfl, rfl, rfl⟩ := H
        have hnb13 := NB260_261.out
        have hnc13 := NB261_260.out
        have hcz14_0 : wr.cell? ⟨gb260, 0, none⟩ = some (.int .i64 a0_0) := (blk_cell BK260.out 0).trans rfl
        have hcz14_1 : wr.cell? ⟨gb260, 1, none⟩ = some (.string a0_1) := (blk_cell BK260.out 1).trans rfl
        have hcz14_2 : wr.cell? ⟨gb260, 2, none⟩ = some (.slice A0_2 l0_2.length c0_2) := (blk_cell BK260.out 2).trans rfl
        have hfz14_0 := blk_frozen BK260.out 0
        have hfz14_1 := blk_frozen BK260.out 1
        have hfz14_2 := blk_frozen BK260.out 2
        have hcz15_0 : wr.cell? ⟨gb261, 0, none⟩ = some (.int .i64 x262000_1) := (blk_cell BK261.out 0).trans rfl
        have hcz15_1 : wr.cell? ⟨gb261, 1, none⟩ = some (.bool x262001_1) := (blk_cell BK261.out 1).trans rfl
        have hcz15_2 : wr.cell? ⟨gb261, 2, none⟩ = some (.int .i64 x262002_1) := (blk_cell BK261.out 2).trans rfl
        have hcz15_3 : wr.cell? ⟨gb261, 3, none⟩ = some (.int .u32 x262003_1) := (blk_cell BK261.out 3).trans rfl
        have hfz15_0 := blk_frozen BK261.out 0
        have hfz15_1 := blk_frozen BK261.out 1
        have hfz15_2 := blk_frozen BK261.out 2
        have hfz15_3 := blk_frozen BK261.out 3
        go_wp2
        refine bodyPost_ret (results_ct rfl _ _ gb261 72 #[.int .i64 0, .bool false, .int .i64 0, .int .u32 0] (0, 0) _ rfl (by (with_reducible repeat (first | refine blk_drewN ?_ _ | refine blk_drew ?_ | refine blk_alloc ?_ _)); refine blk_put (cs := #[.int .i64 0, .bool false, .int .i64 0, .int .u32 x262003_1]) ?_ 3 _ rfl; (with_reducible repeat (first | refine blk_drewN ?_ _ | refine blk_drew ?_ | refine blk_alloc ?_ _)); refine blk_put (cs := #[.int .i64 0, .bool false, .int .i64 x262002_1, .int .u32 x262003_1]) ?_ 2 _ rfl; (with_reducible repeat (first | refine blk_drewN ?_ _ | refine blk_drew ?_ | refine blk_alloc ?_ _)); refine blk_put (cs := #[.int .i64 0, .bool x262001_1, .int .i64 x262002_1, .int .u32 x262003_1]) ?_ 1 _ rfl; (with_reducible repeat (first | refine blk_drewN ?_ _ | refine blk_drew ?_ | refine blk_alloc ?_ _)); refine blk_put (cs := #[.int .i64 x262000_1, .bool x262001_1, .int .i64 x262002_1, .int .u32 x262003_1]) ?_ 0 _ rfl; (with_reducible repeat (first | refine blk_drewN ?_ _ | refine blk_drew ?_ | refine blk_alloc ?_ _)); exact BK261.out) Try.underlying72 rfl (by kernel_rfl)) rfl ?_
        exact ⟨by first | rfl | (simp [errW_none, errW_some] <;> rfl) | (simp [*, errW_none, errW_some] <;> rfl), by repeat (first | (with_reducible first | exact HB.out | apply below_alloc | apply pw_below_drewN | apply below_drew1 | refine below_set ?_ GE260.out | refine below_set ?_ GE261.out) | exact HB.out)⟩

/-! ### strongboxref4_Latest: function 44 -/
def strongboxref4_Latest.f (a0_0 : Int) (a0_1 : ByteArray) (l0_2 : List (S72)) : Option (Int × Bool × Int × Int × Bool) := if (l0_2.length : Int) = 0 then (some (0, false, 0, 0, false)) else (if 0 ≤ (wrap64 ((l0_2.length : Int) - 1)) then (if (wrap64 ((l0_2.length : Int) - 1)) < (l0_2.length : Int) then (some ((rd_T72 l0_2 (wrap64 ((l0_2.length : Int) - 1))).f0, (rd_T72 l0_2 (wrap64 ((l0_2.length : Int) - 1))).f1, (rd_T72 l0_2 (wrap64 ((l0_2.length : Int) - 1))).f2, (rd_T72 l0_2 (wrap64 ((l0_2.length : Int) - 1))).f3, true)) else (none)) else (none))
set_option maxHeartbeats 8000000 in
set_option maxRecDepth 100000 in
theorem strongboxref4_Latest.calls (a0_0 : Int) (a0_1 : ByteArray) (A0_2 : Option Addr) (c0_2 : Nat) (l0_2 : List (S72)) (r1 : Int) (r2 : Bool) (r3 : Int) (r4 : Int) (r5 : Bool) (w : World) (hr0_2 : Kd.C k72 w A0_2 l0_2.length l0_2) (hc0_2 : l0_2.length ≤ c0_2) (h : strongboxref4_Latest.f a0_0 a0_1 l0_2 = some (r1, r2, r3, r4, r5)) :
    Calls Try.prog 44 #[.agg #[.int .i64 a0_0, .string a0_1, .slice A0_2 l0_2.length c0_2]] w fun e w' => e = .returned (.tuple #[.agg #[.int .i64 r1, .bool r2, .int .i64 r3, .int .u32 r4], .bool r5]) ∧ Below w.heap.size w w' := by
  have hu45 := Try.underlying45
  have hu72 := Try.underlying72
  have HR0_2 := Aside0.mk hr0_2
  have HC0_2 := Aside0.mk hc0_2
  clear hr0_2 hc0_2
  have HB := Aside0.mk (Below.refl w.heap.size w)
  have H : (if (l0_2.length : Int) = 0 then (some (0, false, 0, 0, false)) else (if 0 ≤ (wrap64 ((l0_2.length : Int) - 1)) then (if (wrap64 ((l0_2.length : Int) - 1)) < (l0_2.length : Int) then (some ((rd_T72 l0_2 (wrap64 ((l0_2.length : Int) - 1))).f0, (rd_T72 l0_2 (wrap64 ((l0_2.length : Int) - 1))).f1, (rd_T72 l0_2 (wrap64 ((l0_2.length : Int) - 1))).f2, (rd_T72 l0_2 (wrap64 ((l0_2.length : Int) - 1))).f3, true)) else (none)) else (none))) = some (r1, r2, r3, r4, r5) := h
  clear h
  by_cases c2 : (l0_2.length : Int) = 0
  · rw [if_pos c2] at H
    have c2b0 : ((l0_2.length : Int) == 0) = true := beq_iff_eq.mpr c2
    have c2b1 : ((l0_2.length : Int) != 0) = false := bne_eq_false_iff_eq.mpr c2
    clear c2
    simp only [Option.some.injEq, Prod.mk.injEq] at H
    obtain ⟨rfl, rfl, rfl, rfl, rfl⟩ := H
    go_enter Try.func44, Try.ntmps44
    go_wp2_with (first | ((with_reducible refine gate_dst (N := 1) rfl ?_); refine box_event ?hg (N := 1) ?hd (cs := #[.int .i64 a0_0, .string a0_1, .slice A0_2 l0_2.length c0_2]) (t := 45) ?hr ?_; (case hd => rfl); (case hg => rfl); (case hr => first | (go_simp; done) | (go_simp; rfl)); intro gb264 hg w3 hbox hb; have n0_ := Aside0.mk (below_step (by repeat (first | (with_reducible first | exact HB.out | apply below_alloc | apply pw_below_drewN | apply below_drew1) | exact HB.out)) hb); have BK264 := Aside0.mk (hbox); have GW264 := Aside0.mk ((by rw [hg]; exact (below_size (by repeat (first | (with_reducible first | exact HB.out | apply below_alloc | apply pw_below_drewN | apply below_drew1) | exact HB.out))) : w.heap.size ≤ gb264)); have GE264 := Aside0.mk GW264.out; clear HB; have HB := n0_; clear n0_; clear hb hbox hg) | ((with_reducible refine gate_dst (N := 2) rfl ?_); refine box_event ?hg (N := 2) ?hd (cs := #[.int .i64 0, .bool false, .int .i64 0, .int .u32 0]) (t := 72) ?hr ?_; (case hd => rfl); (case hg => rfl); (case hr => first | (go_simp; done) | (go_simp; rfl)); intro gb265 hg w4 hbox hb; have n0_ := Aside0.mk (blk_below (by (with_reducible repeat (first | refine blk_drewN ?_ _ | refine blk_drew ?_ | refine blk_alloc ?_ _)); exact BK264.out) hb); have n1_ := Aside0.mk (below_step (by repeat (first | (with_reducible first | exact HB.out | apply below_alloc | apply pw_below_drewN | apply below_drew1 | refine below_set ?_ GE264.out) | exact HB.out)) hb); have BK265 := Aside0.mk (hbox); have GW265 := Aside0.mk ((by rw [hg]; exact (below_size (by repeat (first | (with_reducible first | exact HB.out | apply below_alloc | apply pw_below_drewN | apply below_drew1 | refine below_set ?_ GE264.out) | exact HB.out))) : w.heap.size ≤ gb265)); have GE265 := Aside0.mk GW265.out; have NB264_265 := Aside0.mk ((by rw [hg]; exact Nat.ne_of_lt (blk_lt (by (with_reducible repeat (first | refine blk_drewN ?_ _ | refine blk_drew ?_ | refine blk_alloc ?_ _)); exact BK264.out)) : gb264 ≠ gb265)); have NB265_264 := Aside0.mk NB264_265.out.symm; clear BK264; clear HB; have BK264 := n0_; have HB := n1_; clear n0_ n1_; clear hb hbox hg; have hnb5 := NB264_265.out; have hnc5 := NB265_264.out; have hcz6_0 : w4.cell? ⟨gb264, 0, none⟩ = some (.int .i64 a0_0) := (blk_cell BK264.out 0).trans rfl; have hcz6_1 : w4.cell? ⟨gb264, 1, none⟩ = some (.string a0_1) := (blk_cell BK264.out 1).trans rfl; have hcz6_2 : w4.cell? ⟨gb264, 2, none⟩ = some (.slice A0_2 l0_2.length c0_2) := (blk_cell BK264.out 2).trans rfl; have hfz6_0 := blk_frozen BK264.out 0; have hfz6_1 := blk_frozen BK264.out 1; have hfz6_2 := blk_frozen BK264.out 2; have hcz7_0 : w4.cell? ⟨gb265, 0, none⟩ = some (.int .i64 0) := (blk_cell BK265.out 0).trans rfl; have hcz7_1 : w4.cell? ⟨gb265, 1, none⟩ = some (.bool false) := (blk_cell BK265.out 1).trans rfl; have hcz7_2 : w4.cell? ⟨gb265, 2, none⟩ = some (.int .i64 0) := (blk_cell BK265.out 2).trans rfl; have hcz7_3 : w4.cell? ⟨gb265, 3, none⟩ = some (.int .u32 0) := (blk_cell BK265.out 3).trans rfl; have hfz7_0 := blk_frozen BK265.out 0; have hfz7_1 := blk_frozen BK265.out 1; have hfz7_2 := blk_frozen BK265.out 2; have hfz7_3 := blk_frozen BK265.out 3))
    refine bodyPost_ret (results_ct rfl _ _ gb265 72 #[.int .i64 0, .bool false, .int .i64 0, .int .u32 0] (0, 0) _ rfl (by (with_reducible repeat (first | refine blk_drewN ?_ _ | refine blk_drew ?_ | refine blk_alloc ?_ _)); refine blk_put (cs := #[.int .i64 0, .bool false, .int .i64 0, .int .u32 0]) ?_ 3 _ rfl; (with_reducible repeat (first | refine blk_drewN ?_ _ | refine blk_drew ?_ | refine blk_alloc ?_ _)); refine blk_put (cs := #[.int .i64 0, .bool false, .int .i64 0, .int .u32 0]) ?_ 2 _ rfl; (with_reducible repeat (first | refine blk_drewN ?_ _ | refine blk_drew ?_ | refine blk_alloc ?_ _)); refine blk_put (cs := #[.int .i64 0, .bool false, .int .i64 0, .int .u32 0]) ?_ 1 _ rfl; (with_reducible repeat (first | refine blk_drewN ?_ _ | refine blk_drew ?_ | refine blk_alloc ?_ _)); refine blk_put (cs := #[.int .i64 0, .bool false, .int .i64 0, .int .u32 0]) ?_ 0 _ rfl; (with_reducible repeat (first | refine blk_drewN ?_ _ | refine blk_drew ?_ | refine blk_alloc ?_ _)); exact BK265.out) Try.underlying72 rfl (by kernel_rfl)) rfl ?_
    exact ⟨by first | rfl | (simp [errW_none, errW_some] <;> rfl) | (simp [*, errW_none, errW_some] <;> rfl), by repeat (first | (with_reducible first | exact HB.out | apply below_alloc | apply pw_below_drewN | apply below_drew1 | refine below_set ?_ GE264.out | refine below_set ?_ GE265.out) | exact HB.out)⟩
  · rw [if_neg c2] at H
    have c2b0 : ((l0_2.length : Int) == 0) = false := beq_eq_false_iff_ne.mpr c2
    have c2b1 : ((l0_2.length : Int) != 0) = true := bne_iff_ne.mpr c2
    have c2b2 : ¬ (l0_2 = []) := fun h_ => c2 (by rw [h_]; rfl)
    obtain ⟨ji8, hji8⟩ : ∃ j_ : Int, (wrap64 ((l0_2.length : Int) - 1)) = j_ := ⟨_, rfl⟩
    replace H : (if 0 ≤ (ji8) then (if (ji8) < (l0_2.length : Int) then (some ((rd_T72 l0_2 (ji8)).f0, (rd_T72 l0_2 (ji8)).f1, (rd_T72 l0_2 (ji8)).f2, (rd_T72 l0_2 (ji8)).f3, true)) else (none)) else (none)) = some (r1, r2, r3, r4, r5) := by first | (rw [hji8] at H; exact H) | (simp only [hji8] at H ⊢; exact H)
    have hji8w : (IntKind.i64.wrap ((l0_2.length : Int) - 1)) = ji8 := (i64_w _).trans hji8
    by_cases c9 : 0 ≤ (ji8)
    · rw [if_pos c9] at H
      have c9b0 : decide (0 ≤ (ji8)) = true := decide_eq_true c9
      clear c9
      by_cases c10 : (ji8) < (l0_2.length : Int)
      · rw [if_pos c10] at H
        have c10b0 : decide ((ji8) < (l0_2.length : Int)) = true := decide_eq_true c10
        clear c10
        simp only [Option.some.injEq, Prod.mk.injEq] at H
        obtain ⟨rfl, rfl, rfl, rfl, rfl⟩ := H
        go_enter Try.func44, Try.ntmps44
        go_wp2_with (first | ((with_reducible refine gate_dst (N := 1) rfl ?_); refine box_event ?hg (N := 1) ?hd (cs := #[.int .i64 a0_0, .string a0_1, .slice A0_2 l0_2.length c0_2]) (t := 45) ?hr ?_; (case hd => rfl); (case hg => rfl); (case hr => first | (go_simp; done) | (go_simp; rfl)); intro gb264 hg w11 hbox hb; have n0_ := Aside0.mk (below_step (by repeat (first | (with_reducible first | exact HB.out | apply below_alloc | apply pw_below_drewN | apply below_drew1) | exact HB.out)) hb); have BK264 := Aside0.mk (hbox); have GW264 := Aside0.mk ((by rw [hg]; exact (below_size (by repeat (first | (with_reducible first | exact HB.out | apply below_alloc | apply pw_below_drewN | apply below_drew1) | exact HB.out))) : w.heap.size ≤ gb264)); have GE264 := Aside0.mk GW264.out; clear HB; have HB := n0_; clear n0_; clear hb hbox hg) | ((with_reducible refine gate_dst (N := 2) rfl ?_); refine box_event ?hg (N := 2) ?hd (cs := #[.int .i64 0, .bool false, .int .i64 0, .int .u32 0]) (t := 72) ?hr ?_; (case hd => rfl); (case hg => rfl); (case hr => first | (go_simp; done) | (go_simp; rfl)); intro gb265 hg w12 hbox hb; have n0_ := Aside0.mk (blk_below (by (with_reducible repeat (first | refine blk_drewN ?_ _ | refine blk_drew ?_ | refine blk_alloc ?_ _)); exact BK264.out) hb); have n1_ := Aside0.mk (below_step (by repeat (first | (with_reducible first | exact HB.out | apply below_alloc | apply pw_below_drewN | apply below_drew1 | refine below_set ?_ GE264.out) | exact HB.out)) hb); have BK265 := Aside0.mk (hbox); have GW265 := Aside0.mk ((by rw [hg]; exact (below_size (by repeat (first | (with_reducible first | exact HB.out | apply below_alloc | apply pw_below_drewN | apply below_drew1 | refine below_set ?_ GE264.out) | exact HB.out))) : w.heap.size ≤ gb265)); have GE265 := Aside0.mk GW265.out; have NB264_265 := Aside0.mk ((by rw [hg]; exact Nat.ne_of_lt (blk_lt (by (with_reducible repeat (first | refine blk_drewN ?_ _ | refine blk_drew ?_ | refine blk_alloc ?_ _)); exact BK264.out)) : gb264 ≠ gb265)); have NB265_264 := Aside0.mk NB264_265.out.symm; clear BK264; clear HB; have BK264 := n0_; have HB := n1_; clear n0_ n1_; clear hb hbox hg; have hnb13 := NB264_265.out; have hnc13 := NB265_264.out; have hcz14_0 : w12.cell? ⟨gb264, 0, none⟩ = some (.int .i64 a0_0) := (blk_cell BK264.out 0).trans rfl; have hcz14_1 : w12.cell? ⟨gb264, 1, none⟩ = some (.string a0_1) := (blk_cell BK264.out 1).trans rfl; have hcz14_2 : w12.cell? ⟨gb264, 2, none⟩ = some (.slice A0_2 l0_2.length c0_2) := (blk_cell BK264.out 2).trans rfl; have hfz14_0 := blk_frozen BK264.out 0; have hfz14_1 := blk_frozen BK264.out 1; have hfz14_2 := blk_frozen BK264.out 2; have p266 : 0 ≤ ((ji8) : Int) := of_decide_eq_true (by first | (with_reducible assumption) | assumption); have q266 : (ji8) < (l0_2.length : Int) := of_decide_eq_true (by first | (with_reducible assumption) | assumption); obtain ⟨ad266, e266, hx266_0, hx266_1, hx266_2, hx266_3⟩ := at_T72 HR0_2.out (ji8) p266 q266; cases e266; replace hx266_0 := (HB.out.cell (World.block_lt_of_cell? w _ hx266_0)).trans hx266_0; replace hx266_1 := (HB.out.cell (World.block_lt_of_cell? w _ hx266_1)).trans hx266_1; replace hx266_2 := (HB.out.cell (World.block_lt_of_cell? w _ hx266_2)).trans hx266_2; replace hx266_3 := (HB.out.cell (World.block_lt_of_cell? w _ hx266_3)).trans hx266_3; replace p266 := eq_true p266; replace q266 := eq_true q266; have hcz15_0 : w12.cell? ⟨gb265, 0, none⟩ = some (.int .i64 0) := (blk_cell BK265.out 0).trans rfl; have hcz15_1 : w12.cell? ⟨gb265, 1, none⟩ = some (.bool false) := (blk_cell BK265.out 1).trans rfl; have hcz15_2 : w12.cell? ⟨gb265, 2, none⟩ = some (.int .i64 0) := (blk_cell BK265.out 2).trans rfl; have hcz15_3 : w12.cell? ⟨gb265, 3, none⟩ = some (.int .u32 0) := (blk_cell BK265.out 3).trans rfl; have hfz15_0 := blk_frozen BK265.out 0; have hfz15_1 := blk_frozen BK265.out 1; have hfz15_2 := blk_frozen BK265.out 2; have hfz15_3 := blk_frozen BK265.out 3))
        refine bodyPost_ret (results_ct rfl _ _ gb265 72 #[.int .i64 ((rd_T72 l0_2 (ji8)).f0), .bool ((rd_T72 l0_2 (ji8)).f1), .int .i64 ((rd_T72 l0_2 (ji8)).f2), .int .u32 ((rd_T72 l0_2 (ji8)).f3)] (0, 0) _ rfl (by (with_reducible repeat (first | refine blk_drewN ?_ _ | refine blk_drew ?_ | refine blk_alloc ?_ _)); refine blk_put (cs := #[.int .i64 ((rd_T72 l0_2 (ji8)).f0), .bool ((rd_T72 l0_2 (ji8)).f1), .int .i64 ((rd_T72 l0_2 (ji8)).f2), .int .u32 0]) ?_ 3 _ rfl; (with_reducible repeat (first | refine blk_drewN ?_ _ | refine blk_drew ?_ | refine blk_alloc ?_ _)); refine blk_put (cs := #[.int .i64 ((rd_T72 l0_2 (ji8)).f0), .bool ((rd_T72 l0_2 (ji8)).f1), .int .i64 0, .int .u32 0]) ?_ 2 _ rfl; (with_reducible repeat (first | refine blk_drewN ?_ _ | refine blk_drew ?_ | refine blk_alloc ?_ _)); refine blk_put (cs := #[.int .i64 ((rd_T72 l0_2 (ji8)).f0), .bool false, .int .i64 0, .int .u32 0]) ?_ 1 _ rfl; (with_reducible repeat (first | refine blk_drewN ?_ _ | refine blk_drew ?_ | refine blk_alloc ?_ _)); refine blk_put (cs := #[.int .i64 0, .bool false, .int .i64 0, .int .u32 0]) ?_ 0 _ rfl; (with_reducible repeat (first | refine blk_drewN ?_ _ | refine blk_drew ?_ | refine blk_alloc ?_ _)); exact BK265.out) Try.underlying72 rfl (by kernel_rfl)) rfl ?_
        exact ⟨by first | rfl | (simp [errW_none, errW_some] <;> rfl) | (simp only [← hji8]; first | rfl | (simp [errW_none, errW_some] <;> rfl)) | (simp [*, errW_none, errW_some] <;> rfl), by repeat (first | (with_reducible first | exact HB.out | apply below_alloc | apply pw_below_drewN | apply below_drew1 | refine below_set ?_ GE264.out | refine below_set ?_ GE265.out) | exact HB.out)⟩
      · rw [if_neg c10] at H
        exact absurd H (by simp)
    · rw [if_neg c9] at H
      exact absurd H (by simp)

end Go.Proofs.Ytnlpipjdpmaggaa.PJournalReads
