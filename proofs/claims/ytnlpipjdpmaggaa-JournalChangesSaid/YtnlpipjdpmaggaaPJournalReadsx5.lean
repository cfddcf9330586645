/- WRITTEN FOR THIS CLAIM by a program of the prover's own (the kit's printing program, with constructs added): for each Go function that the statement reaches a Lean function with the same answers, and the proof of that. Not trusted: Lean checks it. -/
import Derived.Test.YtnlpipjdpmaggaaPJournalReadsx0
import Derived.Test.YtnlpipjdpmaggaaPJournalReadsx4
import Derived.Outline
import Derived.RangeFuncCalls
import Derived.RangeFuncNested
import Derived.Test.YtnlpipjdpmaggaaChunk
import Derived.Test.YtnlpipjdpmaggaaMore4
namespace Go.Proofs.Ytnlpipjdpmaggaa.PJournalReads
open Go.RowKit Go.Proofs.YtnlpipjdpmaggaaW.PrintWords Go.Proofs.YtnlpipjdpmaggaaW.PrintLast Go.Proofs.YtnlpipjdpmaggaaW.PrintMore
attribute [local go_sem] max2_int min2_int max_two min_two max_three min_three max_four min_four   -- for this text's walks alone
set_option linter.unusedVariables false
set_option linter.unusedSimpArgs false

/-! ### journal_versions: function 60 -/
-- ROUNDS
-- IMPORTS Derived.Test.YtnlpipjdpmaggaaChunk Derived.Test.YtnlpipjdpmaggaaMore4 Derived.Outline Derived.RangeFuncCalls Derived.RangeFuncNested
section
attribute [local go_sem] Oper.semAt_some
/-- The i-th thirteen bytes. -/
def jpiece (l : List Int) (i : Nat) : List Int := (l.drop (i * 13)).take 13
/-- The number of four bytes at a place. -/
def jgv (p : List Int) (a : Int) : Int := (journal_get.f 5 p a 4).getD 0
/-- The version that thirteen bytes are. -/
def jver (p : List Int) : S72 := ⟨jgv p 0, (rd p 4) == 1, jgv p 5, (jgv p 9) % 4294967296⟩
/-- The versions that bytes are: thirteen bytes each, the fifth of them 0 or 1. (Told where the bytes are so many times thirteen, and no more than a file may have.) -/
def journal_versions.f (k : Nat) (l0 : List Int) : Option (List S72 × Bool) := if l0.length % 13 = 0 then (if l0.length ≤ 262144 then (if (List.range (l0.length / 13)).all (fun i => decide (rd (jpiece l0 i) 4 ≤ 1)) = true then some ((List.range (l0.length / 13)).map (fun i => jver (jpiece l0 i)), true) else some ([], false)) else none) else none
theorem journal_versions.mono : ∀ a0 k, LeO (journal_versions.f k a0) (journal_versions.f (k + 1) a0) := by
  intro a0 k
  unfold journal_versions.f
  exact LeO.refl _
theorem jget_some (l : List Int) (a : Nat) (hl : a + 4 ≤ l.length) (hb : l.length ≤ 1000000) : journal_get.f 5 l (a : Int) 4 = some (jgv l (a : Int)) := by
  have h : ∃ r, journal_get.f 5 l (a : Int) 4 = some r := by
    have e0 : wrap64 ((a : Int) + 0) = ((a + 0 : Nat) : Int) := by unfold wrap64; omega
    have e1 : wrap64 ((a : Int) + 1) = ((a + 1 : Nat) : Int) := by unfold wrap64; omega
    have e2 : wrap64 ((a : Int) + 2) = ((a + 2 : Nat) : Int) := by unfold wrap64; omega
    have e3 : wrap64 ((a : Int) + 3) = ((a + 3 : Nat) : Int) := by unfold wrap64; omega
    have f0 : wrap64 (0 + 1) = 1 := by unfold wrap64; omega
    have f1 : wrap64 (1 + 1) = 2 := by unfold wrap64; omega
    have f2 : wrap64 (2 + 1) = 3 := by unfold wrap64; omega
    have f3 : wrap64 (3 + 1) = 4 := by unfold wrap64; omega
    have g0 : (0 : Int) ≤ wrap64 (8 * 0) := by unfold wrap64; omega
    have g1 : (0 : Int) ≤ wrap64 (8 * 1) := by unfold wrap64; omega
    have g2 : (0 : Int) ≤ wrap64 (8 * 2) := by unfold wrap64; omega
    have g3 : (0 : Int) ≤ wrap64 (8 * 3) := by unfold wrap64; omega
    unfold journal_get.f
    simp only [journal_get.l0]
    rw [f0, f1, f2, f3, if_pos (by decide), if_pos (by rw [e0]; omega), if_pos (by rw [e0]; omega), if_pos g0, if_pos (by decide), if_pos (by rw [e1]; omega), if_pos (by rw [e1]; omega), if_pos g1, if_pos (by decide), if_pos (by rw [e2]; omega), if_pos (by rw [e2]; omega), if_pos g2, if_pos (by decide), if_pos (by rw [e3]; omega), if_pos (by rw [e3]; omega), if_pos g3, if_neg (by decide)]
    exact ⟨_, rfl⟩
  obtain ⟨r, h⟩ := h
  unfold jgv
  rw [h]
  rfl
theorem addr_add_add (a : Addr) (m n : Nat) : (a.add m).add n = a.add (m + n) := by
  unfold Addr.add
  by_cases hm : m = 0
  · subst hm; simp
  · by_cases hn : n = 0
    · subst hn; simp [hm]
    · have : ¬ m + n = 0 := by omega
      simp [hm, hn, this, Nat.add_assoc]
theorem C_piece {k : IntKind} {W : World} {A : Option Addr} {xs : List Int} (h : Kd.C (Kd.int k) W A xs.length xs) (i n : Nat) (hi : i < xs.length) :
    Kd.C (Kd.int k) W (some ((A.getD default).add i)) (min n (xs.length - i)) ((xs.drop i).take n) := by
  obtain ⟨h1, h2, h3⟩ := h
  refine ⟨by simp [Nat.min_comm], by omega, fun _ => ?_⟩
  obtain ⟨ad, rfl, h4⟩ := h3 (by omega)
  refine ⟨ad.add i, rfl, fun j p hj => ?_⟩
  have hj' : xs[i + j]? = some p := by
    rw [List.getElem?_take] at hj
    split at hj
    · rw [List.getElem?_drop] at hj; exact hj
    · cases hj
  obtain ⟨c, hc1, hc2, hc3⟩ := h4 (i + j) p hj'
  refine ⟨c, hc1, hc2, fun q u hq => ?_⟩
  have e : (Kd.int k).sz = 1 := rfl
  have := hc3 q u hq
  rw [e] at this ⊢
  rw [addr_add_add]
  rw [show i + (j * 1 + q) = (i + j) * 1 + q by omega]
  exact this
theorem R72_exact {W : World} {base : Nat} {ok : Nat → Prop} {v : Value} {xs : List S72} (h : Kd.R k72 72 W base ok v xs) : Kd.R k72 72 W base (fun k => some k = v.ownBlock) v xs := Kd.R_tight rfl h
theorem R72_block {W : World} {base : Nat} {ok : Nat → Prop} {v : Value} {xs : List S72} (h : Kd.R k72 72 W base ok v xs) (k : Nat) (hk : v.ownBlock = some k) : base ≤ k ∧ ∃ cells, W.heap[k]? = some (.cells cells 72 (0, 0)) := by
  obtain ⟨inner, ho⟩ := Kd.R_own h
  exact ⟨own_base ho k hk, own_typed ho k hk⟩
theorem boxed_ne72 {W : World} {base : Nat} {ok : Nat → Prop} {v u : Value} {xs : List S72} {B t : Nat} (h : Kd.R k72 72 W base ok v xs) (hb : Boxed W B t u) (ht : t ≠ 72) : some B ≠ v.ownBlock := by
  intro e
  obtain ⟨_, cells, hc⟩ := R72_block h B e.symm
  have : W.heap[B]? = some (.cells #[u] t (0, 0)) := hb
  rw [hc] at this
  injection this with this
  injection this with _ h2
  exact ht h2.symm
/-- What a round finds and leaves. -/
def VInv (w : World) (Bb : Nat) (A : Option Addr) (c : Nat) (l0 : List Int) (pre : List {i : Nat // i * 13 < l0.length}) (W : World) : Prop :=
  ∃ v, Boxed W Bb 43 (.slice none 0 0) ∧ Boxed W (Bb + 1) 4 (.bool false) ∧ Boxed W (Bb + 2) 43 v ∧ Boxed W (Bb + 3) 22 (.slice A l0.length c) ∧ Boxed W (Bb + 4) 3 (.int .i64 13) ∧ Kd.R k72 72 W w.heap.size (fun _ => True) v (pre.map fun x => jver (jpiece l0 x.1)) ∧ Below w.heap.size w W ∧
    (∀ x ∈ pre, rd (jpiece l0 x.1) 4 ≤ 1)
/-- What an early return leaves. -/
def VStop (w : World) (Bb : Nat) (l0 : List Int) (c : Code) (pre : List {i : Nat // i * 13 < l0.length}) (W : World) : Prop :=
  c = .ret ∧ Boxed W Bb 43 (.slice none 0 0) ∧ Boxed W (Bb + 1) 4 (.bool false) ∧ Below w.heap.size w W ∧ ∃ x ∈ pre, ¬ rd (jpiece l0 x.1) 4 ≤ 1
theorem box_not_row {W : World} {row : Option Nat} {B p t : Nat} {u : Value} (hb : Boxed W p t u) (hr : ∀ r, row = some r → B ≤ r ∧ ∃ o : Obj, W.heap[r]? = some o ∧ o.isCells = false) : some p ≠ row := by
  intro e
  obtain ⟨_, o, ho, hc⟩ := hr p e.symm
  have : W.heap[p]? = some (.cells #[u] t (0, 0)) := hb
  rw [ho] at this
  injection this with this
  subst this
  cases hc
theorem vinv_own (w : World) (Bb : Nat) (A : Option Addr) (c : Nat) (l0 : List Int) (B : Nat) (hB : w.heap.size ≤ B) : OwnFrom B (VInv w Bb A c l0) := by
  rintro s W W' row ⟨v, h1, h2, h3, h4, h5, h6, h7, h8⟩ hg hr
  have hne : ∀ {p t : Nat} {u : Value}, Boxed W p t u → some p ≠ row := fun hb => box_not_row hb hr
  refine ⟨v, h1.kept hg (hne h1), h2.kept hg (hne h2), h3.kept hg (hne h3), h4.kept hg (hne h4), h5.kept hg (hne h5), ?_, h7.grown hg h7.size (fun k e => Nat.le_trans hB (hr k e).1), h8⟩
  refine Kd.R_mono (Kd.R_grown (R72_exact h6) hg ?_) (fun _ _ => trivial)
  intro k hk e
  obtain ⟨_, o, ho, hc⟩ := hr k e.symm
  obtain ⟨_, cells, hcl⟩ := R72_block h6 k hk.symm
  rw [hcl] at ho
  injection ho with ho
  subst ho
  cases hc
theorem vstop_own (w : World) (Bb : Nat) (l0 : List Int) (c : Code) (B : Nat) (hB : w.heap.size ≤ B) : OwnFrom B (VStop w Bb l0 c) := by
  rintro s W W' row ⟨h0, h1, h2, h3, h4⟩ hg hr
  have hne : ∀ {p t : Nat} {u : Value}, Boxed W p t u → some p ≠ row := fun hb => box_not_row hb hr
  exact ⟨h0, h1.kept hg (hne h1), h2.kept hg (hne h2), h3.grown hg h3.size (fun k e => Nat.le_trans hB (hr k e).1), h4⟩
def journal_versions.T6 : Bool × List (List Nat × List Nat) := (true, [([], []), ([], []), ([1], [1]), ([], []), ([3], [3]), ([4], [4]), ([5], [5]), ([], []), ([7, 2], [7]), ([], []), ([9, 8], [9]), ([10], [10]), ([2, 6, 8, 11], [2, 6, 8, 11]), ([12], [12]), ([0, 13, 10], [0, 13]), ([14, 14, 0, 1, 2, 3, 4, 5, 6, 7, 8, 9, 10, 11, 12, 13, 14], [14])])
def journal_versions.B6 : List Nat := [0, 0, 2, 0, 8, 24, 56, 0, 134, 0, 902, 1926, 4094, 8190, 16383, 32767]
theorem journal_versions.tab6 : rtab .any (opsOf Try.f60 6) = journal_versions.T6 := by kernel_rfl
theorem journal_versions.bits6 : waitsOk journal_versions.T6.2 journal_versions.B6 = true := by kernel_rfl
set_option maxHeartbeats 4000000 in
set_option maxRecDepth 100000 in
theorem journal_versions.calls (k : Nat) (A0 : Option Addr) (c0 : Nat) (l0 : List Int) (r1 : List S72) (r2 : Bool) (w : World) (hr0 : Kd.C (Kd.int .u8) w A0 l0.length l0) (hc0 : l0.length ≤ c0) (h : journal_versions.f k l0 = some (r1, r2)) :
    Calls Try.prog 60 #[.slice A0 l0.length c0] w fun e w' => ∃ v0_ : Value, e = .returned (.tuple #[v0_, .bool r2]) ∧ Kd.R k72 72 w' w.heap.size (fun _ => True) v0_ r1 ∧ Below w.heap.size w w' := by
  unfold journal_versions.f at h
  by_cases hm : l0.length % 13 = 0
  case neg => rw [if_neg hm] at h; cases h
  rw [if_pos hm] at h
  by_cases hB : l0.length ≤ 262144
  case neg => rw [if_neg hB] at h; cases h
  rw [if_pos hB] at h
  have HR := Aside0.mk hr0
  have H := Aside0.mk h
  clear hr0 h
  refine (callsIn_wide (n := 9)).1 ?_
  refine callsIn_of_wp_marks Try.func60 rfl trivial ?_ rfl
  simp only [Try.ntmps60, List.size_toArray, List.length_cons, List.length_nil, Nat.reduceAdd, Nat.reduceSub, Array.replicate_succ, Array.replicate_zero, List.push_toArray, List.append_toArray, List.nil_append, List.cons_append]
  have hF : ∀ f, Fence.wide.fn f := fun _ => trivial
  gi_wp2_with (first | (gi_at_call 48; refine CallsIn.mono (Ytnlpipjdpmaggaa.Chunk.chunk_in 8 A0 l0.length c0 13 (by decide) _) ?_; rintro e w3 ⟨rfl, rfl⟩))
  generalize hW0 : (((((w.alloc (Obj.cells #[Value.slice none 0 0] 43)).alloc (Obj.cells #[Value.bool false] 4)).alloc (Obj.cells #[Value.slice none 0 0] 43)).alloc (Obj.cells #[Value.slice A0 l0.length c0] 22)).alloc (Obj.cells #[Value.int IntKind.i64 13] 3)) = W0
  have x1 : Boxed W0 w.heap.size 43 (.slice none 0 0) := by rw [← hW0]; exact ((((Boxed.new w 43 _).alloc _).alloc _).alloc _).alloc _
  have x2 : Boxed W0 (w.heap.size + 1) 4 (.bool false) := by
    rw [← hW0]
    have := (((Boxed.new (w.alloc (Obj.cells #[Value.slice none 0 0] 43)) 4 (.bool false)).alloc (Obj.cells #[Value.slice none 0 0] 43)).alloc (Obj.cells #[Value.slice A0 l0.length c0] 22)).alloc (Obj.cells #[Value.int IntKind.i64 13] 3)
    rwa [World.size_alloc] at this
  have x3 : Boxed W0 (w.heap.size + 2) 43 (.slice none 0 0) := by
    rw [← hW0]
    have := ((Boxed.new ((w.alloc (Obj.cells #[Value.slice none 0 0] 43)).alloc (Obj.cells #[Value.bool false] 4)) 43 (.slice none 0 0)).alloc (Obj.cells #[Value.slice A0 l0.length c0] 22)).alloc (Obj.cells #[Value.int IntKind.i64 13] 3)
    rwa [World.size_alloc, World.size_alloc] at this
  have x4 : Boxed W0 (w.heap.size + 3) 22 (.slice A0 l0.length c0) := by
    rw [← hW0]
    have := (Boxed.new (((w.alloc (Obj.cells #[Value.slice none 0 0] 43)).alloc (Obj.cells #[Value.bool false] 4)).alloc (Obj.cells #[Value.slice none 0 0] 43)) 22 (.slice A0 l0.length c0)).alloc (Obj.cells #[Value.int IntKind.i64 13] 3)
    rwa [World.size_alloc, World.size_alloc, World.size_alloc] at this
  have x5 : Boxed W0 (w.heap.size + 4) 3 (.int .i64 13) := by
    rw [← hW0]
    have := Boxed.new ((((w.alloc (Obj.cells #[Value.slice none 0 0] 43)).alloc (Obj.cells #[Value.bool false] 4)).alloc (Obj.cells #[Value.slice none 0 0] 43)).alloc (Obj.cells #[Value.slice A0 l0.length c0] 22)) 3 (.int .i64 13)
    rwa [World.size_alloc, World.size_alloc, World.size_alloc, World.size_alloc] at this
  have xB : Below w.heap.size w W0 := by rw [← hW0]; exact (((((Below.refl _ _).alloc (Nat.le_refl _) _).alloc (by simp) _).alloc (by simp; omega) _).alloc (by simp; omega) _).alloc (by simp; omega) _
  have xs : W0.heap.size = w.heap.size + 5 := by rw [← hW0]; simp
  clear hW0
  refine wpIn_rangeFunc_ownG rfl (by omega) (gf := 70) (lb := #[.pointer (some ⟨w.heap.size + 3, 0, none⟩), .pointer (some ⟨w.heap.size + 4, 0, none⟩)]) rfl trivial (enters_of Try.func70 (by kernel_rfl) rfl)
    (Ytnlpipjdpmaggaa.Chunk.stops 8 (by omega) (w.heap.size + 3) (w.heap.size + 4) A0 l0.length c0 13 (fun hp => by obtain ⟨ad, e, _⟩ := HR.out.2.2 hp; exact ⟨ad, e⟩) (by omega) (by omega) hc0 (by omega) W0 (by omega) (by omega) x4.cell x5.cell)
    (fun h k => h.trans k) (Ytnlpipjdpmaggaa.Chunk.Two.book (by omega) (by omega)) (Below.refl _ _) (fun _ => rfl)
    (VInv w w.heap.size A0 c0 l0) (VStop w w.heap.size l0)
    (vinv_own w w.heap.size A0 c0 l0 _ (by omega)) (fun c => vstop_own w w.heap.size l0 c _ (by omega))
    ⟨_, x1, x2, x3, x4, x5, Kd.R_nil _ _ _ _ _, xB, fun _ h => by cases h⟩
    (fun x => { tmps := #[.slice A0 l0.length c0, undef, .pointer (some ⟨w.heap.size, 0, none⟩), .pointer (some ⟨w.heap.size + 1, 0, none⟩), .pointer (some ⟨w.heap.size + 2, 0, none⟩),
      .slice (some ((A0.getD default).add (x.1 * 13))) (min 13 (l0.length - x.1 * 13)) (min 13 (l0.length - x.1 * 13)), .slice A0 l0.length c0, .func (.func 70) #[] #[.pointer (some ⟨w.heap.size + 3, 0, none⟩), .pointer (some ⟨w.heap.size + 4, 0, none⟩)],
      .slice (some ((A0.getD default).add (x.1 * 13))) (min 13 (l0.length - x.1 * 13)) (min 13 (l0.length - x.1 * 13)), undef, undef, undef, undef, undef, undef, undef, undef, undef, undef, undef, undef, undef, undef, undef, undef, undef, undef, undef, undef], defers := [] }) ?assign ?body ?done ?stop
  case assign =>
    intro l x W K hK
    gi_wp2
    exact hK
  case body =>
    rintro l pre x W ⟨v, h1, h2, h3, h4, h5, h6, h7, h8⟩ hN
    have hx2 := x.2
    have hx13 : x.1 * 13 + 13 ≤ l0.length := by omega
    have hmin : min 13 (l0.length - x.1 * 13) = (jpiece l0 x.1).length := by unfold jpiece; rw [List.length_take, List.length_drop]
    have hcl : (jpiece l0 x.1).length = 13 := by rw [← hmin]; omega
    have hcx : Kd.C (Kd.int .u8) W (some ((A0.getD default).add (x.1 * 13))) (min 13 (l0.length - x.1 * 13)) (jpiece l0 x.1) := C_piece (Kd.C_below HR.out h7) (x.1 * 13) 13 x.2
    have hcw : Kd.C (Kd.int .u8) w (some ((A0.getD default).add (x.1 * 13))) (min 13 (l0.length - x.1 * 13)) (jpiece l0 x.1) := C_piece HR.out (x.1 * 13) 13 x.2
    rw [hmin] at hcx hcw ⊢
    obtain ⟨Av, cv, ev⟩ := Kd.R_slice h6
    rw [List.length_map] at ev
    subst ev
    obtain ⟨c, hcdef⟩ : ∃ c, c = jpiece l0 x.1 := ⟨_, rfl⟩
    have HCD := Aside0.mk hcdef
    rw [← hcdef] at hcx hcw hcl ⊢
    clear hcdef hmin
    obtain ⟨ad, had⟩ : ∃ ad, ad = (A0.getD default).add (x.1 * 13) := ⟨_, rfl⟩
    rw [← had] at hcx hcw ⊢
    clear had
    obtain ⟨ad4, e4, hx4⟩ := Kd.at_int hcw 4 (by decide) (by omega)
    cases e4
    have SW := Aside0.mk (show w.cell? { block := ad.block, off := ad.off + 4 } = some (.int .u8 (rd c 4)) from by simpa [Addr.add] using hx4)
    clear hx4
    have hx4 : W.cell? { block := ad.block, off := ad.off + 4 } = some (.int .u8 (rd c 4)) := (h7.cell (World.block_lt_of_cell? w _ SW.out)).trans SW.out
    have q4 : ((4 : Int) < (c.length : Int)) = True := eq_true (by omega)
    have q4' : ((4 : Nat) < c.length) = True := eq_true (by omega)
    have HCX := Aside0.mk hcx
    have BX1 := Aside0.mk h1
    have BX2 := Aside0.mk h2
    have BX3 := Aside0.mk h3
    have BX4 := Aside0.mk h4
    have BX5 := Aside0.mk h5
    have HRW := Aside0.mk h6
    have HB1 := Aside0.mk h7
    have H8 := Aside0.mk h8
    have HPL := Aside0.mk (show pre.length < 262144 by omega)
    have XS := Aside0.mk xs
    have HCL := Aside0.mk hcl
    by_cases hgt : (1 : Int) < rd c 4
    · have hd : decide ((1 : Int) < rd c 4) = true := decide_eq_true hgt
      have HGT := Aside0.mk hgt
      have c1 := h1.cell
      have c2 := h2.cell
      have f1 := h1.frozen
      have f2 := h2.frozen
      clear h1 h2 h3 h4 h5 h6 h7 h8 hcx hcw hcl hN hx2 hx13 x1 x2 x3 x4 x5 xB xs hm hB hgt
      gi_wp2
      refine ⟨⟨?_, ?_⟩, rfl, (BX1.out.set _).other (by omega) _, (BX2.out.other (by omega) _).set _, below_set (below_set HB1.out (by show w.heap.size ≤ w.heap.size; omega)) (by show w.heap.size ≤ w.heap.size + 1; omega), x, by simp, by rw [← HCD.out]; have := HGT.out; omega⟩
      · exact Nat.le_trans (KeepsWalks.setCell W _ _).size (KeepsWalks.setCell _ _ _).size
      · intro q o hq ho hc
        have := XS.out
        exact (Below.heap_setCell _ _ _ q (by show q ≠ w.heap.size + 1; omega)).trans ((Below.heap_setCell W _ _ q (by show q ≠ w.heap.size; omega)).trans ho)
    · have hd : decide ((1 : Int) < rd c 4) = false := decide_eq_false hgt
      have HGT := Aside0.mk hgt
      have G0 := Aside0.mk (show journal_get.f 5 c 0 4 = some (jgv c 0) from jget_some c 0 (by omega) (by omega))
      have G5 := Aside0.mk (show journal_get.f 5 c 5 4 = some (jgv c 5) from jget_some c 5 (by omega) (by omega))
      have G9 := Aside0.mk (show journal_get.f 5 c 9 4 = some (jgv c 9) from jget_some c 9 (by omega) (by omega))
      clear h1 h2 h3 h4 h5 h6 h7 h8 hcx hcw hcl hN hx2 hx13 x1 x2 x3 x4 x5 xB xs hm hB hgt
      gi_wp2
      refine Ytnlpipjdpmaggaa.More4.startIn (n := 16) (S := fun w' => w'.cell? ⟨w.heap.size + 2, 0, none⟩ = some (.slice Av pre.length cv) ∧ w'.cell? { block := ad.block, off := ad.off + 4 } = some (.int .u8 (rd c 4))) (ds := [15]) #[false, false, false, false, false, false, false, false, false, false, false, false, false, false, false, false] (by rintro ⟨_, _, h⟩; exact h) (by kernel_rfl) (by kernel_rfl) rfl rfl ⟨BX3.out.cell, hx4⟩ (fun hHeld => ?_)
      refine with_tabW journal_versions.tab6 journal_versions.bits6 (fun HT_ HW_ => ?_)
      have S0 := Aside0.mk hHeld.1
      have S1 := Aside0.mk hHeld.2
      have KF := Aside0.mk (show W.heap = W.drew.heap from rfl)
      have Y1 := Aside0.mk (show Boxed W.drew w.heap.size 43 (.slice none 0 0) from BX1.out)
      have Y2 := Aside0.mk (show Boxed W.drew (w.heap.size + 1) 4 (.bool false) from BX2.out)
      have Y3 := Aside0.mk (show Boxed W.drew (w.heap.size + 2) 43 (.slice Av pre.length cv) from BX3.out)
      have Y4 := Aside0.mk (show Boxed W.drew (w.heap.size + 3) 22 (.slice A0 l0.length c0) from BX4.out)
      have Y5 := Aside0.mk (show Boxed W.drew (w.heap.size + 4) 3 (.int .i64 13) from BX5.out)
      have Y6 := Aside0.mk (Kd.R_drew HRW.out)
      have Y7 := Aside0.mk (below_drew1 HB1.out)
      have Y8 := Aside0.mk (Kd.C_drew HCX.out)
      clear BX3 HRW HB1 HCX hx4
      have BX3 := Y3
      have HRW := Y6
      have HB1 := Y7
      have HCX := Y8
      clear Y3 Y6 Y7 Y8
      generalize W.drew = W1 at S0 S1 KF Y1 Y2 BX3 Y4 Y5 HRW HB1 HCX hHeld ⊢
      refine pure_ (i := 1) (N := some 14) (v := ?_) (a' := ?_) #[false, true, false, false, false, false, false, false, false, false, false, false, false, false, false, false] rfl rfl (any_of HT_.out (by kernel_rfl)) (fun _ _ _ h => h) (Or.inl ⟨by rfl, ?_⟩) ?_ ?_
      rotate_left
      · intro w'
        go_simp
        with_reducible rfl
      rotate_left
      · simp only [Act.put, List.setIfInBounds_toArray, List.set_cons_zero, List.set_cons_succ, i64_w, i32_w]
        rfl
      refine pure_ (i := 3) (N := some 16) (v := ?_) (a' := ?_) #[false, true, false, true, false, false, false, false, false, false, false, false, false, false, false, false] rfl rfl (any_of HT_.out (by kernel_rfl)) (fun _ _ _ h => h) (Or.inl ⟨by rfl, ?_⟩) ?_ ?_
      rotate_left
      · intro w'
        go_simp
        with_reducible rfl
      rotate_left
      · simp only [Act.put, List.setIfInBounds_toArray, List.set_cons_zero, List.set_cons_succ, i64_w, i32_w]
        rfl
      refine pure_ (i := 4) (N := some 17) (v := ?_) (a' := ?_) #[false, true, false, true, true, false, false, false, false, false, false, false, false, false, false, false] rfl rfl (any_of HT_.out (by kernel_rfl)) (fun _ _ _ h => h) (Or.inl ⟨by rfl, ?_⟩) ?_ ?_
      rotate_left
      · intro w'
        go_simp
        with_reducible rfl
      rotate_left
      · simp only [Act.put, List.setIfInBounds_toArray, List.set_cons_zero, List.set_cons_succ, i64_w, i32_w]
        rfl
      refine pure_ (i := 7) (N := some 20) (v := ?_) (a' := ?_) #[false, true, false, true, true, false, false, true, false, false, false, false, false, false, false, false] rfl rfl (any_of HT_.out (by kernel_rfl)) (fun _ _ _ h => h) (Or.inl ⟨by rfl, ?_⟩) ?_ ?_
      rotate_left
      · intro w'
        go_simp
        with_reducible rfl
      rotate_left
      · simp only [Act.put, List.setIfInBounds_toArray, List.set_cons_zero, List.set_cons_succ, i64_w, i32_w]
        rfl
      refine pure_ (i := 9) (N := some 22) (v := ?_) (a' := ?_) #[false, true, false, true, true, false, false, true, false, true, false, false, false, false, false, false] rfl rfl (any_of HT_.out (by kernel_rfl)) (fun _ _ _ h => h) (Or.inl ⟨by rfl, ?_⟩) ?_ ?_
      rotate_left
      · intro w'
        go_simp
        with_reducible rfl
      rotate_left
      · simp only [Act.put, List.setIfInBounds_toArray, List.set_cons_zero, List.set_cons_succ, i64_w, i32_w]
        rfl
      refine take_ (i := 0) (N := some 13) (v := ?_) (a' := ?_) #[true, true, false, true, true, false, false, true, false, true, false, false, false, false, false, false] rfl rfl (take_ofW HT_.out HW_.out (by kernel_rfl)) (fun _ _ _ h => h) (Or.inl ⟨by rfl, ?_⟩) hHeld ?_ ?_
      rotate_left
      · rintro w' ⟨s0, s1⟩
        go_simp
        with_reducible rfl
      rotate_left
      · simp only [Act.put, List.setIfInBounds_toArray, List.set_cons_zero, List.set_cons_succ, i64_w, i32_w]
        rfl
      refine take_ (i := 5) (N := some 18) (v := ?_) (a' := ?_) #[true, true, false, true, true, true, false, true, false, true, false, false, false, false, false, false] rfl rfl (take_ofW HT_.out HW_.out (by kernel_rfl)) (fun _ _ _ h => h) (Or.inl ⟨by rfl, ?_⟩) hHeld ?_ ?_
      rotate_left
      · rintro w' ⟨s0, s1⟩
        go_simp
        with_reducible rfl
      rotate_left
      · simp only [Act.put, List.setIfInBounds_toArray, List.set_cons_zero, List.set_cons_succ, i64_w, i32_w]
        rfl
      refine pure_ (i := 6) (N := some 19) (v := ?_) (a' := ?_) #[true, true, false, true, true, true, true, true, false, true, false, false, false, false, false, false] rfl rfl (any_of HT_.out (by kernel_rfl)) (fun _ _ _ h => h) (Or.inl ⟨by rfl, ?_⟩) ?_ ?_
      rotate_left
      · intro w'
        go_simp
        with_reducible rfl
      rotate_left
      · simp only [Act.put, List.setIfInBounds_toArray, List.set_cons_zero, List.set_cons_succ, i64_w, i32_w]
        rfl
      refine one_ (i := 2) (N := some 15) #[true, true, true, true, true, true, true, true, false, true, false, false, false, false, false, false] rfl rfl (one_of HT_.out (by kernel_rfl)) (by decide) (fun K hK => ?_)
      refine goes_ Try.func59 (by kernel_rfl) rfl #[.slice (some ad) c.length c.length, .int .i64 0, .int .i64 4] (by rfl) rfl rfl (by (try simp only [List.map_toArray, List.map_cons, List.map_nil]); first | done | rfl) ?_
      with_reducible refine (journal_get.calls 5 _ _ c 0 4 (jgv c 0) _ ?side1 ?side2 G0.out).mono ?_
      (case side1 => repeat (first | exact HCX.out | (with_reducible refine Kd.C_drewN ?_ _)))
      (case side2 => exact Nat.le_refl _)
      rintro e w' ⟨rfl, ⟨nd0, rfl⟩⟩
      refine ⟨_, rfl, ?_⟩
      refine hK.out _ _ ⟨S0.out, S1.out⟩ (fun hHeld => ?_)
      clear hK K
      refine norm_ (a' := ?_) ?_ ?_
      rotate_left
      · show Act.put _ (some 15) _ = _
        simp only [Act.put, List.setIfInBounds_toArray, List.set_cons_zero, List.set_cons_succ, i64_w, i32_w]
        rfl
      refine one_ (i := 8) (N := some 21) #[true, true, true, true, true, true, true, true, true, true, false, false, false, false, false, false] rfl rfl (one_of HT_.out (by kernel_rfl)) (by decide) (fun K hK => ?_)
      refine goes_ Try.func59 (by kernel_rfl) rfl #[.slice (some ad) c.length c.length, .int .i64 5, .int .i64 4] (by rfl) rfl rfl (by (try simp only [List.map_toArray, List.map_cons, List.map_nil]); first | done | rfl) ?_
      with_reducible refine (journal_get.calls 5 _ _ c 5 4 (jgv c 5) _ ?side1 ?side2 G5.out).mono ?_
      (case side1 => repeat (first | exact HCX.out | (with_reducible refine Kd.C_drewN ?_ _)))
      (case side2 => exact Nat.le_refl _)
      rintro e w' ⟨rfl, ⟨nd5, rfl⟩⟩
      refine ⟨_, rfl, ?_⟩
      refine hK.out _ _ ⟨S0.out, S1.out⟩ (fun hHeld => ?_)
      clear hK K
      refine norm_ (a' := ?_) ?_ ?_
      rotate_left
      · show Act.put _ (some 21) _ = _
        simp only [Act.put, List.setIfInBounds_toArray, List.set_cons_zero, List.set_cons_succ, i64_w, i32_w]
        rfl
      refine one_ (i := 10) (N := some 23) #[true, true, true, true, true, true, true, true, true, true, true, false, false, false, false, false] rfl rfl (one_of HT_.out (by kernel_rfl)) (by decide) (fun K hK => ?_)
      refine goes_ Try.func59 (by kernel_rfl) rfl #[.slice (some ad) c.length c.length, .int .i64 9, .int .i64 4] (by rfl) rfl rfl (by (try simp only [List.map_toArray, List.map_cons, List.map_nil]); first | done | rfl) ?_
      with_reducible refine (journal_get.calls 5 _ _ c 9 4 (jgv c 9) _ ?side1 ?side2 G9.out).mono ?_
      (case side1 => repeat (first | exact HCX.out | (with_reducible refine Kd.C_drewN ?_ _)))
      (case side2 => exact Nat.le_refl _)
      rintro e w' ⟨rfl, ⟨nd9, rfl⟩⟩
      refine ⟨_, rfl, ?_⟩
      refine hK.out _ _ ⟨S0.out, S1.out⟩ (fun hHeld => ?_)
      clear hK K
      refine norm_ (a' := ?_) ?_ ?_
      rotate_left
      · show Act.put _ (some 23) _ = _
        simp only [Act.put, List.setIfInBounds_toArray, List.set_cons_zero, List.set_cons_succ, i64_w, i32_w]
        rfl
      refine pure_ (i := 11) (N := some 24) (v := ?_) (a' := ?_) #[true, true, true, true, true, true, true, true, true, true, true, true, false, false, false, false] rfl rfl (any_of HT_.out (by kernel_rfl)) (fun _ _ _ h => h) (Or.inl ⟨by rfl, ?_⟩) ?_ ?_
      rotate_left
      · intro w'
        go_simp
        with_reducible rfl
      rotate_left
      · simp only [Act.put, List.setIfInBounds_toArray, List.set_cons_zero, List.set_cons_succ, i64_w, i32_w]
        rfl
      refine pure_ (i := 12) (N := some 25) (v := ?_) (a' := ?_) #[true, true, true, true, true, true, true, true, true, true, true, true, true, false, false, false] rfl rfl (any_of HT_.out (by kernel_rfl)) (fun _ _ _ h => h) (Or.inl ⟨by rfl, ?_⟩) ?_ ?_
      rotate_left
      · intro w'
        go_simp
        with_reducible rfl
      rotate_left
      · simp only [Act.put, List.setIfInBounds_toArray, List.set_cons_zero, List.set_cons_succ, i64_w, i32_w]
        rfl
      refine one_ (i := 13) (N := some 26) #[true, true, true, true, true, true, true, true, true, true, true, true, true, true, false, false] rfl rfl (one_of HT_.out (by kernel_rfl)) (by decide) (fun K hK => ?_)
      refine value_ (w1 := ?_) (v := ?_) (by rfl) rfl ?_ ?_
      rotate_left 2
      · go_simp
        constructor
        · rfl
        · rfl
      refine hK.out _ _ ⟨(Boxed.alloc (show Boxed (((W1.drewN nd0).drewN nd5).drewN nd9) (w.heap.size + 2) 43 (.slice Av pre.length cv) from BX3.out) _).cell, (World.cell?_alloc_lt _ _ _ (World.block_lt_of_cell? W1 _ S1.out)).trans S1.out⟩ (fun hHeld => ?_)
      clear hK K
      refine norm_ (a' := ?_) ?_ ?_
      rotate_left
      · show Act.put _ (some 26) _ = _
        simp only [Act.put, List.setIfInBounds_toArray, List.set_cons_zero, List.set_cons_succ, i64_w, i32_w]
        rfl
      refine one_ (i := 14) (N := some 27) #[true, true, true, true, true, true, true, true, true, true, true, true, true, true, true, false] rfl rfl (one_of HT_.out (by kernel_rfl)) (by decide) (fun K hK => ?_)
      refine Kd.R_append_step k72 (w0 := w) w.heap.size (by rfl) (.tmp 13) (.tmp 26) 43 72 (.agg #[(.int .i64 0), (.bool false), (.int .i64 0), (.int .u32 0)]) 32 rfl Try.underlying43 info72 rfl (by decide) (by omega) (.slice Av pre.length cv) (pre.map fun x => jver (jpiece l0 x.1)) (jver c) [.int .i64 (jgv c 0), .bool ((rd c 4) == 1), .int .i64 (jgv c 5), .int .u32 ((jgv c 9) % 4294967296)] (fun _ => True) (fun _ => False) rfl rfl ?aP (fun _ hk => hk.elim) ?aF ?aO ?aB ?aS ?aL ?_
      (case aP => exact k72_mkM _ _ _ (jver c))
      (case aB => exact pw_below_drewN HB1.out _)
      (case aF => exact (fun _ _ => trivial))
      (case aO => exact Kd.R_drewN HRW.out _)
      (case aS => exact below_size (pw_below_drewN HB1.out _))
      (case aL => have := HPL.out; simp only [List.length_map]; omega)
      intro v2 W2 ho hb hg hat
      have HG := Aside0.mk hg
      have HO2 := Aside0.mk ho
      have HB2 := Aside0.mk hb
      clear ho hb hg hat
      obtain ⟨A2, c2, ev2⟩ := Kd.R_slice HO2.out
      subst ev2
      have kept : ∀ {p t : Nat} {u : Value}, Boxed W1 p t u → t ≠ 72 → Boxed W2 p t u := fun hb ht => (show Boxed (W1.drewN (nd0 + nd5 + nd9)) _ _ _ from hb).kept HG.out (boxed_ne72 HRW.out hb ht)
      have KE := Aside0.mk @kept
      clear kept
      refine hK.out _ _ ⟨(KE.out BX3.out (by decide)).cell, (HB2.out.cell (World.block_lt_of_cell? w _ SW.out)).trans SW.out⟩ (fun hHeld => ?_)
      clear hK K
      refine norm_ (a' := ?_) ?_ ?_
      rotate_left
      · show Act.put _ (some 27) _ = _
        simp only [Act.put, List.setIfInBounds_toArray, List.set_cons_zero, List.set_cons_succ, i64_w, i32_w]
        rfl
      refine last_ (i := 15) (N := none) #[true, true, true, true, true, true, true, true, true, true, true, true, true, true, true, true] rfl rfl (one_of HT_.out (by kernel_rfl)) (by decide) (fun K hK => ?_)
      have hs5 := (KE.out BX3.out (by decide)).cell
      have hf5 := (KE.out BX3.out (by decide)).frozen
      refine skip_ (w1 := ?_) (by rfl) rfl ?_ ?_
      rotate_left
      · go_simp
        rfl
      refine hK.out _ _ ?_
      clear hK K
      refine done_ (done_of HT_.out (by kernel_rfl)) ?_
      try gi_wp2
      have hW2 : ∀ (q : Nat) (o : Obj), W.heap[q]? = some o → o.isCells = false → W2.heap[q]? = some o := by
        intro q o ho hc
        have hq1 : W1.heap[q]? = some o := by rw [← KF.out]; exact ho
        have hlt : q < W1.heap.size := (Array.getElem?_eq_some_iff.1 hq1).1
        have hne : some q ≠ (Value.slice Av pre.length cv).ownBlock := by
          intro e
          obtain ⟨_, cells, hcl2⟩ := R72_block HRW.out q e.symm
          rw [hq1] at hcl2
          injection hcl2 with hcl2
          subst hcl2
          cases hc
        exact (HG.out.block q hlt hne).trans hq1
      have hsz : W.heap.size ≤ W2.heap.size := by
        have e1 : W.heap.size = W1.heap.size := by rw [KF.out]
        have e2 := HG.out.size
        have e3 : (W1.drewN (nd0 + nd5 + nd9)).heap.size = W1.heap.size := rfl
        omega
      have hxs := XS.out
      have b3 := KE.out BX3.out (by decide)
      refine ⟨⟨?_, ?_⟩, ⟨?_, ?_⟩, .slice A2 _ c2, (KE.out Y1.out (by decide)).other (by omega) _, (KE.out Y2.out (by decide)).other (by omega) _, b3.set _, (KE.out Y4.out (by decide)).other (by omega) _, (KE.out Y5.out (by decide)).other (by omega) _, ?_, below_set HB2.out (by show w.heap.size ≤ w.heap.size + 2; omega), ?_⟩
      · exact Nat.le_trans hsz (KeepsWalks.setCell W2 _ _).size
      · intro q o hq ho hc
        exact (Below.heap_setCell W2 _ _ q (by show q ≠ w.heap.size + 2; omega)).trans (hW2 q o ho hc)
      · exact (show _ = _ from (KE.out Y4.out (by decide)).other (by omega) _).trans (show W.heap[w.heap.size + 3]? = _ from BX4.out).symm
      · exact (show _ = _ from (KE.out Y5.out (by decide)).other (by omega) _).trans (show W.heap[w.heap.size + 4]? = _ from BX5.out).symm
      · have e : (pre ++ [x]).map (fun x => jver (jpiece l0 x.1)) = pre.map (fun x => jver (jpiece l0 x.1)) ++ [jver c] := by rw [List.map_append, HCD.out]; rfl
        rw [e]
        have hln : (pre.map (fun x => jver (jpiece l0 x.1)) ++ [jver c]).length = pre.length + 1 := by simp
        have ho3 := HO2.out
        rw [hln] at ho3
        exact Kd.R_mono (Kd.R_far (R72_exact ho3) (p := ⟨w.heap.size + 2, 0, none⟩) (fun k hk e => boxed_ne72 ho3 b3 (by decide) (by have e' : k = w.heap.size + 2 := e; rw [← e']; exact hk)) _) (fun _ _ => trivial)
      · intro y hy
        rcases List.mem_append.1 hy with hy | hy
        · exact H8.out y hy
        · obtain rfl := List.mem_singleton.1 hy
          rw [← HCD.out]
          have := HGT.out
          omega
  case done =>
    rintro D ys W hD ⟨k0, hys, hk0⟩ ⟨v, h1, h2, h3, h4, h5, h6, h7, h8⟩ hK
    have hk1 : k0 = l0.length / 13 := by
      rcases Nat.eq_zero_or_pos k0 with rfl | hp
      · omega
      · have hmem : k0 - 1 ∈ ys.map (·.1) := by rw [hys]; exact List.mem_range.2 (by omega)
        obtain ⟨y, _, hy⟩ := List.mem_map.1 hmem
        have hy2 := y.2
        rw [hy] at hy2
        omega
    have hall : ∀ i, i < l0.length / 13 → rd (jpiece l0 i) 4 ≤ 1 := by
      intro i hi
      have hmem : i ∈ ys.map (·.1) := by rw [hys]; exact List.mem_range.2 (by omega)
      obtain ⟨y, hy, rfl⟩ := List.mem_map.1 hmem
      exact h8 y hy
    have hmap : ys.map (fun x => jver (jpiece l0 x.1)) = (List.range (l0.length / 13)).map (fun i => jver (jpiece l0 i)) := by
      rw [← hk1, ← hys, List.map_map]; rfl
    have e := H.out
    rw [if_pos (List.all_eq_true.2 (fun i hi => decide_eq_true (hall i (List.mem_range.1 hi)))), ← hmap] at e
    obtain ⟨rfl, rfl⟩ := Prod.mk.inj (Option.some.inj e)
    obtain ⟨Av, cv, ev⟩ := Kd.R_slice h6
    rw [List.length_map] at ev
    subst ev
    have c1 := h1.cell
    have c2 := h2.cell
    have c3 := h3.cell
    have f1 := h1.frozen
    have f2 := h2.frozen
    have G := Aside0.mk (And.intro h1 (And.intro h2 (And.intro h6 (And.intro h7 (And.intro xs hD)))))
    clear h1 h2 h3 h4 h5 h6 h7 h8 x1 x2 x3 x4 x5 xB hD hall hmap e hk1 hys hk0
    have HK := Aside0.mk hK
    clear hK
    gi_wp2
    obtain ⟨h1, h2, h6, h7, xs', hD⟩ := G.out
    obtain ⟨n, hn⟩ : ∃ n, n = ys.length := ⟨_, rfl⟩
    rw [← hn] at h6 ⊢
    have n1 := boxed_ne72 h6 h1 (by decide)
    have n2 := boxed_ne72 h6 h2 (by decide)
    have r1 : Boxed ((W.setCell ⟨w.heap.size, 0, none⟩ (Value.slice Av n cv)).setCell ⟨w.heap.size + 1, 0, none⟩ (Value.bool true)) w.heap.size 43 (.slice Av n cv) := (h1.set _).other (by omega) _
    have r2 : Boxed ((W.setCell ⟨w.heap.size, 0, none⟩ (Value.slice Av n cv)).setCell ⟨w.heap.size + 1, 0, none⟩ (Value.bool true)) (w.heap.size + 1) 4 (.bool true) := (h2.other (by omega) _).set _
    have r3 : Kd.R k72 72 ((W.setCell ⟨w.heap.size, 0, none⟩ (Value.slice Av n cv)).setCell ⟨w.heap.size + 1, 0, none⟩ (Value.bool true)) w.heap.size (fun k => some k = (Value.slice Av n cv).ownBlock) (.slice Av n cv) _ :=
      Kd.R_far (Kd.R_far (R72_exact h6) (p := ⟨w.heap.size, 0, none⟩) (fun k hk e => n1 (by have e' : k = w.heap.size := e; rw [← e']; exact hk)) _) (p := ⟨w.heap.size + 1, 0, none⟩) (fun k hk e => n2 (by have e' : k = w.heap.size + 1 := e; rw [← e']; exact hk)) _
    have hD1 : ((W.setCell ⟨w.heap.size, 0, none⟩ (Value.slice Av n cv)).setCell ⟨w.heap.size + 1, 0, none⟩ (Value.bool true)).heap[D]? = some (.deferred (some [])) :=
      (Below.heap_setCell _ _ _ D (by show D ≠ w.heap.size + 1; omega)).trans ((Below.heap_setCell W _ _ D (by show D ≠ w.heap.size; omega)).trans HK.out)
    have hB : Below w.heap.size w ((W.setCell ⟨w.heap.size, 0, none⟩ (Value.slice Av n cv)).setCell ⟨w.heap.size + 1, 0, none⟩ (Value.bool true)) := below_set (below_set h7 (by show w.heap.size ≤ w.heap.size; omega)) (by show w.heap.size ≤ w.heap.size + 1; omega)
    generalize ((W.setCell ⟨w.heap.size, 0, none⟩ (Value.slice Av n cv)).setCell ⟨w.heap.size + 1, 0, none⟩ (Value.bool true)) = W2 at r1 r2 r3 hD1 hB ⊢
    refine ⟨by simp, .inl ⟨_, _, rfl, run_takeDeferred hD1, ?_⟩⟩
    have s1 : Boxed (W2.putObj D (.deferred none)) w.heap.size 43 (.slice Av n cv) := (World.putObj_heap_other (by omega)).trans r1
    have s2 : Boxed (W2.putObj D (.deferred none)) (w.heap.size + 1) 4 (.bool true) := (World.putObj_heap_other (by omega)).trans r2
    have hne : some D ≠ (Value.slice Av n cv).ownBlock := by
      intro e
      obtain ⟨_, cells, hc⟩ := R72_block r3 D e.symm
      rw [hD1] at hc
      injection hc with hc
      cases hc
    have d1 := s1.cell
    have d2 := s2.cell
    refine ⟨.tuple #[.slice Av n cv, .bool true], ?_, .slice Av n cv, rfl, Kd.R_mono (Kd.R_grown r3 (grownBy_putObj' W2 D (.deferred none)) (fun k hk e => hne (by rw [← e]; exact hk))) (fun _ _ => trivial), hB.trans (belowK_b (w := w) (Nat.le_refl _) W2 D _ _ (by omega) hD1 rfl rfl)⟩
    simp [results, Try.f60, asAddr, loadVar, isAgg, load, d1, d2, Try.underlying43, Try.underlying4, go_sem, Sem.run]
  case stop =>
    rintro D c pre W hD _ ⟨rfl, h1, h2, h3, x, hx, hgt⟩ hK
    have e := H.out
    rw [if_neg (fun ha => hgt (of_decide_eq_true (List.all_eq_true.1 ha x.1 (List.mem_range.2 (by have := x.2; omega)))))] at e
    obtain ⟨rfl, rfl⟩ := Prod.mk.inj (Option.some.inj e)
    refine wpIn_ret ?_
    refine ⟨by simp, .inl ⟨_, _, rfl, run_takeDeferred hK, ?_⟩⟩
    have s1 : Boxed (W.putObj D (.deferred none)) w.heap.size 43 (.slice none 0 0) := (World.putObj_heap_other (by omega)).trans h1
    have s2 : Boxed (W.putObj D (.deferred none)) (w.heap.size + 1) 4 (.bool false) := (World.putObj_heap_other (by omega)).trans h2
    have d1 := s1.cell
    have d2 := s2.cell
    refine ⟨.tuple #[.slice none 0 0, .bool false], ?_, .slice none 0 0, rfl, Kd.R_nil _ _ _ _ _, h3.trans (belowK_b (w := w) (Nat.le_refl _) W D _ _ (by omega) hK rfl rfl)⟩
    simp [results, Try.f60, asAddr, loadVar, isAgg, load, d1, d2, Try.underlying43, Try.underlying4, go_sem, Sem.run]
end

end Go.Proofs.Ytnlpipjdpmaggaa.PJournalReads
