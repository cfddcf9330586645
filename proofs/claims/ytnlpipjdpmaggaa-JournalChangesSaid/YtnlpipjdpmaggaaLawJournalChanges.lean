/- What is found, the latest, one more, one less; what was handed in stays: the row. The form of this text is a printed one (of another statement of the seat), turned by hand to a journal that comes in. -/
import Derived.Test.YtnlpipjdpmaggaaRows
import Derived.Test.YtnlpipjdpmaggaaPJournalChangesx16
import Derived.Test.YtnlpipjdpmaggaaPureJournalChanges
import Derived.Deep.Strs
import Derived.Lib.SmallJoins
import Derived.WalkKit
import Derived.ProofKit
import Derived.OpenShut
import Derived.ShutString
import Derived.ChangeOld
import Derived.Below
import Derived.SizedLaws
import Derived.Test.YtnlpipjdpmaggaaWSized
namespace Go.Proofs.Ytnlpipjdpmaggaa.journalChanges
open Go.ChangeShapes Go.WideShapes Go.ChangeAt Go.RowKit
open Go.ChangeMaps (open_string shut_string)
set_option linter.unusedVariables false
theorem own : ownKnob Try.prog.godebug = none := by kernel_rfl
theorem laidOut : laidOutB Try.prog = true := by kernel_rfl
def IsRow (k : IntKind) (w : World) (a : Option Addr) (len cap : Nat) (zs : List Int) : Prop :=
  (a = none ∧ len = 0 ∧ cap = 0 ∧ zs = []) ∨
  ∃ x, a = some x ∧ len ≤ cap ∧ cap ≤ maxLen ∧ zs.length = cap ∧ (∀ i, i < zs.length → w.cell? (x.add i) = some (.int k (zs.getD i 0))) ∧ ∀ n ∈ zs, (Lit.int k n).wf = true
open Go.Proofs.Ytnlpipjdpmaggaa.PJournalReads
theorem add_add (a : Addr) (m n : Nat) : (a.add m).add n = a.add (m + n) := by
  unfold Addr.add
  by_cases hm : m = 0
  · subst hm; simp
  · by_cases hn : n = 0
    · subst hn; simp [hm]
    · simp [hm, hn, Nat.add_assoc]
/-- A slice of versions that came in: its versions. -/
theorem open_vers {H : Type} {enc : TypeId × Value → H} {w : World} {base : Nat} {spare : Nat → Bool} {held : Bool} {fuel : Nat} {cs : List Value} {x : DataW H × List MemPlace} (h : DataW.trod enc Try.prog w base spare held fuel 43 cs = some x) :
    ∃ (A : Option Addr) (cap : Nat) (l : List S72), cs = [.slice A l.length cap] ∧ l.length ≤ cap ∧ Go.Proofs.YtnlpipjdpmaggaaW.PrintWords.Kd.C k72 w A l.length l ∧ ∀ v ∈ l, (Lit.int .u32 v.f3).wf = true := by
  rcases DataW.trod_slice Try.underlying43 h with ⟨rfl, _⟩ | ⟨a, len, cap, elems, rest, n, _, rfl, _, hb, hl, hm, hlen, hel, _, _⟩
  · exact ⟨none, 0, [], rfl, Nat.le_refl _, Go.Proofs.YtnlpipjdpmaggaaW.PrintWords.Kd.C_nil _ _, fun _ h => by cases h⟩
  have c72 : Try.prog.cellsOf 72 = 4 := by kernel_rfl
  have c3 : Try.prog.cellsOf 3 = 1 := by kernel_rfl
  have c4 : Try.prog.cellsOf 4 = 1 := by kernel_rfl
  have c23 : Try.prog.cellsOf 23 = 1 := by kernel_rfl
  have each : ∀ i, i < len → ∃ s : S72, (Lit.int .u32 s.f3).wf = true ∧ ∀ q u, ([.int .i64 s.f0, .bool s.f1, .int .i64 s.f2, .int .u32 s.f3] : List Value)[q]? = some u → w.cell? (a.add (i * 4 + q)) = some u := fun i hi => by
    have he := hel i hi
    rw [List.getElem?_eq_getElem (by omega), c72, Option.bind_eq_some_iff] at he
    obtain ⟨cs', hcs, hy⟩ := he
    obtain ⟨y0, y1, y2, y3, m, _, hlen4, h0, h1, h2, h3⟩ := Go.Joins.trod_struct4 Try.underlying72 hy
    rw [c72] at hlen4
    simp only [c3, c4, c23] at h0 h1 h2 h3
    obtain ⟨n0, e0, _, _⟩ := DataW.trod_int Try.underlying3 h0
    obtain ⟨b1, e1, _⟩ := DataW.trod_bool Try.underlying4 h1
    obtain ⟨n2, e2, _, _⟩ := DataW.trod_int Try.underlying3 h2
    obtain ⟨n3, e3, _, wf3⟩ := DataW.trod_int Try.underlying23 h3
    refine ⟨⟨n0, b1, n2, n3⟩, wf3, ?_⟩
    have hcell := (World.cells?_some hcs).2.2
    match cs', hlen4 with
    | [u0, u1, u2, u3], _ =>
      simp at e0 e1 e2 e3
      subst e0; subst e1; subst e2; subst e3
      intro q u hq
      have hq4 : q < 4 := (List.getElem?_eq_some_iff.1 hq).1
      have := hcell q (by omega)
      rw [add_add] at this
      rw [this]
      exact hq
  refine ⟨some a, cap, (List.range len).map (fun i => if h : i < len then (each i h).choose else z72), by simp, by simpa using hl, ⟨by simp, by simp only [maxLen] at hm; simp; omega, fun _ => ⟨a, rfl, fun j p hj => ?_⟩⟩, ?_⟩
  · have hj2 : j < len := by have := (List.getElem?_eq_some_iff.1 hj).1; simpa using this
    refine ⟨[.int .i64 p.f0, .bool p.f1, .int .i64 p.f2, .int .u32 p.f3], rfl, k72_mk w p, fun q u hq => ?_⟩
    have hp : p = (each j hj2).choose := by
      rw [List.getElem?_map, List.getElem?_range hj2] at hj
      simp only [Option.map_some, Option.some.injEq, dif_pos hj2] at hj
      exact hj.symm
    rw [hp] at hq
    exact (each j hj2).choose_spec.2 q u hq
  · intro v hv
    obtain ⟨i, hi, rfl⟩ := List.mem_map.1 hv
    have hi2 := List.mem_range.1 hi
    rw [dif_pos hi2]
    exact (each i hi2).choose_spec.1

set_option maxRecDepth 100000 in
theorem open_journal {H : Type} {enc : TypeId × Value → H} {w : World} {base b0 : Nat} {spare : Nat → Bool} {held : Bool} {r : Reach} {v : Value} {d : DataW H} {ps : List MemPlace}
    (hval : Value.okWide Try.prog w r b0 45 v) (hd : DataW.Trod enc Try.prog w base spare held 45 v d ps) :
    ∃ (tg : Int) (nm : ByteArray) (A : Option Addr) (cap : Nat) (l : List S72), v = .agg #[.int .i64 tg, .string nm, .slice A l.length cap] ∧ l.length ≤ cap ∧ Go.Proofs.YtnlpipjdpmaggaaW.PrintWords.Kd.C k72 w A l.length l ∧ ∀ v ∈ l, (Lit.int .u32 v.f3).wf = true := by
  simp only [Value.okWide, Try.underlying45] at hval
  obtain ⟨cs, rfl, hsz, _⟩ := hval
  obtain ⟨fuel, hf⟩ := hd
  obtain ⟨y0, y1, y2, m, _, hlen, h0, h1, h2⟩ := Go.Deep.trod_struct3 Try.underlying45 hf
  have c3 : Try.prog.cellsOf 3 = 1 := by kernel_rfl
  have c9 : Try.prog.cellsOf 9 = 1 := by kernel_rfl
  have c43 : Try.prog.cellsOf 43 = 1 := by kernel_rfl
  have c45 : Try.prog.cellsOf 45 = 3 := by kernel_rfl
  simp only [c3, c9, c43] at h0 h1 h2
  rw [c45] at hsz
  obtain ⟨tg, e0, _, _⟩ := DataW.trod_int Try.underlying3 h0
  obtain ⟨nm, e1, _, _⟩ := DataW.trod_string Try.underlying9 h1
  obtain ⟨A, cap, l, e2, hl, hC, hw3⟩ := open_vers h2
  refine ⟨tg, nm, A, cap, l, ?_, hl, hC, hw3⟩
  obtain ⟨cs⟩ := cs
  simp only [Value.cells] at e0 e1 e2
  match cs, hsz with
  | [u0, u1, u2], _ => simp at e0 e1 e2; rw [e0, e1, e2]
set_option maxRecDepth 100000 in
theorem open_version {H : Type} {enc : TypeId × Value → H} {w : World} {base b0 : Nat} {spare : Nat → Bool} {held : Bool} {r : Reach} {v : Value} {d : DataW H} {ps : List MemPlace}
    (hval : Value.okWide Try.prog w r b0 72 v) (hd : DataW.Trod enc Try.prog w base spare held 72 v d ps) :
    ∃ x : S72, v = .agg #[.int .i64 x.f0, .bool x.f1, .int .i64 x.f2, .int .u32 x.f3] := by
  simp only [Value.okWide, Try.underlying72] at hval
  obtain ⟨cs, rfl, hsz, _⟩ := hval
  obtain ⟨fuel, hf⟩ := hd
  obtain ⟨y0, y1, y2, y3, m, _, hlen, h0, h1, h2, h3⟩ := Go.Joins.trod_struct4 Try.underlying72 hf
  have c72 : Try.prog.cellsOf 72 = 4 := by kernel_rfl
  have c3 : Try.prog.cellsOf 3 = 1 := by kernel_rfl
  have c4 : Try.prog.cellsOf 4 = 1 := by kernel_rfl
  have c23 : Try.prog.cellsOf 23 = 1 := by kernel_rfl
  simp only [c3, c4, c23] at h0 h1 h2 h3
  rw [c72] at hsz
  obtain ⟨n0, e0, _, _⟩ := DataW.trod_int Try.underlying3 h0
  obtain ⟨b1, e1, _⟩ := DataW.trod_bool Try.underlying4 h1
  obtain ⟨n2, e2, _, _⟩ := DataW.trod_int Try.underlying3 h2
  obtain ⟨n3, e3, _, _⟩ := DataW.trod_int Try.underlying23 h3
  refine ⟨⟨n0, b1, n2, n3⟩, ?_⟩
  obtain ⟨cs⟩ := cs
  simp only [Value.cells] at e0 e1 e2 e3
  match cs, hsz with
  | [u0, u1, u2, u3], _ => simp at e0 e1 e2 e3; rw [e0, e1, e2, e3]
set_option maxRecDepth 100000 in
theorem lifted (os : Os) (started : os.Started) (H : Type) (enc : TypeId × Value → H) :
    ReturnsInHanded {} Try.checked os 13 .any (Rows.journalChangesSpec.pre6 enc Try.prog Try.f13 Rows.journalChangesRow.domain false) (Rows.journalChangesSpec.post enc Try.prog Try.f13 false true false false) := by
  refine returnsInHanded_of_change_sized (C := Try.checked) own started (by kernel_rfl) Try.func13
    (ChangeSpec.witness6 (enc := enc) (C := Try.checked) false ⟨#[], #[.agg #[.int .i64 0, .string (⟨#[]⟩ : ByteArray), .slice none 0 0], .agg #[.int .i64 0, .bool false, .int .i64 0, .int .u32 0], .int .i64 0], []⟩ 8 (by kernel_rfl) (by kernel_rfl) (by kernel_rfl) (by kernel_rfl)) ?_
  intro W base args ds gs before hval0 hW hcnd hsz0 _
  have hsz : (DataW.weightsEach Try.prog (Try.f13.params.toList ++ Rows.journalChangesSpec.plain.varTypes Try.prog) (ds ++ gs)).all (· ≤ reachBytes) = true := hsz0
  have hval : ∀ (j : Nat) t v, Try.f13.params[j]? = some t → args[j]? = some v → Value.okWide Try.prog W .any base t v := hval0
  have hW' := hW
  obtain ⟨p, q, hA0, hV, rfl, hfz, hnd⟩ := hW
  have hA : DataW.TrodAll enc Try.prog W 0 (fun _ => true) true Try.f13.params.toList args.toList ds p := hA0
  rw [Try.params13] at hA hval hsz
  obtain ⟨v0, vs0, d0, ds0, p0, q0, hargs, rfl, rfl, h0, r0⟩ := trodAll_cons hA
  obtain ⟨v1, vs1, d1, ds1, p1, q1, rfl, rfl, rfl, h1, r1⟩ := trodAll_cons r0
  obtain ⟨v2, vs2, d2, ds2, p2, q2, rfl, rfl, rfl, h2, r2⟩ := trodAll_cons r1
  obtain ⟨rfl, rfl, rfl⟩ := trodAll_nil r2
  obtain rfl : args = #[v0, v1, v2] := by cases args; simp_all
  obtain ⟨rfl, rfl⟩ := trodVars_none hV
  have k0 := h0
  have k1 := h1
  have lt0 : ∀ x ∈ p0, x.block < W.heap.size := by obtain ⟨m, hm⟩ := k0; exact DataW.trod_lt m _ _ _ hm
  have lt1 : ∀ x ∈ p1, x.block < W.heap.size := by obtain ⟨m, hm⟩ := k1; exact DataW.trod_lt m _ _ _ hm
  obtain ⟨tg, nm, A, cap, l, rfl, hl, hC, hw3⟩ := open_journal (hval 0 45 v0 rfl rfl) h0
  obtain ⟨x1, rfl⟩ := open_version (hval 1 72 v1 rfl rfl) h1
  obtain ⟨a2, rfl, rfl, rfl, w2⟩ := open_int Try.underlying3 (hval 2 3 v2 rfl rfl) h2
  clear hA0 hval0 hsz0 hsz
  obtain ⟨k, hk⟩ := Pure.JournalChanges tg nm l x1 a2
  refine (PJournalReads.strongboxlaw7_JournalChanges.calls k tg nm A cap l x1.f0 x1.f1 x1.f2 x1.f3 a2 true W hC hl hk).mono fun e W' ⟨he, bel⟩ => ?_
  subst he
  exact ⟨_, rfl, _, _, _, [], _, [], hW', trodAll_mk1 (shut_bool Try.underlying4 _), (trodAll_cons_mk (Below.trod laidOut (by kernel_rfl) (of_decide_eq_true (by kernel_rfl)) k0 bel lt0) (trodAll_cons_mk (Below.trod laidOut (by kernel_rfl) (of_decide_eq_true (by kernel_rfl)) k1 bel lt1) (trodAll_cons_mk (shut_int Try.underlying3 w2) trodAll_mk0))), rfl, bel.frame _, fun h => by cases h⟩
theorem over : Rows.journalChangesRow.holds Try.pinned (OpenSpec.ofChange Rows.journalChangesSpec) :=
  OpenClaim.holds_of_wide 13 Try.f13 rfl rfl rfl rfl rfl rfl rfl ⟨rfl, rfl, rfl, rfl, rfl⟩ rfl rfl rfl rfl rfl (by kernel_rfl) Try.func13 (by kernel_rfl)
    (of_decide_eq_true (by kernel_rfl)) (by unfold Func.isWrapper; first | (rw [if_pos (by decide +kernel)]; kernel_rfl) | (rw [if_neg (by decide +kernel)]; exact ⟨rfl, rfl⟩))
    (fun os started H enc _ => lifted os started H enc)
theorem proved : Rows.JournalChangesSaid := over
#print axioms proved
end Go.Proofs.Ytnlpipjdpmaggaa.journalChanges
namespace Go.Proofs.Ytnlpipjdpmaggaa
/-- The row, under a short name, for the claim. -/
theorem journalChanges_holds : Rows.JournalChangesSaid := journalChanges.proved
end Go.Proofs.Ytnlpipjdpmaggaa
