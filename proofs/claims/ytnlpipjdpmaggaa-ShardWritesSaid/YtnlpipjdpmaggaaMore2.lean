/- Facts that the contracts of this seat's layer 7 share: a string put behind a row of one's own, as one step of a region that draws its order. No function of the program here. -/
import Derived.Test.YtnlpipjdpmaggaaWMore
import Derived.Test.YtnlpipjdpmaggaaWKept
import Derived.Lib.SlBytesConst
import Derived.ArgAppend
set_option linter.unusedVariables false
set_option linter.unusedSimpArgs false
namespace Go.Proofs.YtnlpipjdpmaggaaW.PrintWords
open Go.RowKit
end Go.Proofs.YtnlpipjdpmaggaaW.PrintWords
namespace Go.Proofs.Ytnlpipjdpmaggaa.More2
open Go.RowKit Go.Proofs.YtnlpipjdpmaggaaW.PrintWords Go.Proofs.YtnlpipjdpmaggaaW.PrintLast Go.Proofs.YtnlpipjdpmaggaaW.PrintMore
open Go.Proofs.YtnlpipjdpmaggaaW.PrintWords.Kd
theorem C_marked (w : World) (xs : List Int) (e : TypeId) (m : Nat × Nat) (hm : xs.length ≤ 9223372036854775807) :
    Kd.C (Kd.int .u8) (w.alloc (.cells (xs.map (Value.int .u8)).toArray e m)) (some ⟨w.heap.size, 0, none⟩) xs.length xs := by
  refine ⟨rfl, hm, fun _ => ⟨_, rfl, ?_⟩⟩
  intro j p hj
  refine ⟨[.int .u8 p], rfl, rfl, ?_⟩
  intro i u hu
  cases i with
  | succ i => simp at hu
  | zero =>
    have hu' : Value.int .u8 p = u := by simpa using hu
    subst hu'
    have e1 : (Kd.int .u8).sz = 1 := rfl
    rw [e1]
    have e2 : ({ block := w.heap.size, off := 0 } : Addr).add (j * 1 + 0) = ⟨w.heap.size, j, none⟩ := by
      simp only [Addr.add]
      split
      · next h => first | (simp; done) | (simp; omega)
      · simp
    rw [e2, World.cell?_alloc_mark]
    simp [hj]
theorem append_marked {P : Program} {W : World} {ops : Array Oper} {rest : List Oper} {o : Oper} {a : Act} {Q : Exit → Act → World → Prop}
    (hgd : o.guard = none) (s x : Operand) (t e : TypeId) (z : Value) (bytes : Nat)
    (ho : o.op = .call { callee := .builtin .append, args := #[s, x], argTypes := #[t, t] })
    (ht : P.underlying t = some (.slice e)) (hinfo : (P.info? e).map (fun i => (i.zero, i.size, i.bytes)) = some (some z, 1, bytes)) (hz : z.cells.size = 1)
    (Ad : Addr) (n cap : Nat) (xs ys : List Int) (A : Addr) (m c : Nat) (hs : a.eval s = .slice (some Ad) n cap) (hx : a.eval x = .slice (some A) m c)
    (HO : Kd.C (Kd.int .u8) W (some Ad) n xs) (HR : Kd.C (Kd.int .u8) W (some A) m ys) (hfull : cap < n + m) (hb : (n + m) * bytes ≤ 140737488355328) (hb1 : n + m ≤ 140737488355328)
    (h : ∀ v1 w1, Kd.R (Kd.int .u8) e w1 W.heap.size (fun _ => True) v1 (xs ++ ys) → W.grownBy w1 none → wpList P ops Q rest (a.put o.dst v1) w1) :
    wpList P ops Q (o :: rest) a W := by
  obtain ⟨i0, hi, hzz⟩ := Option.map_eq_some_iff.1 hinfo
  simp only [Prod.mk.injEq] at hzz
  obtain ⟨hz0, hz1, hz2⟩ := hzz
  obtain ⟨olds, hor, hoc⟩ := ReadsRow.inner_ HO
  obtain ⟨news, hnr, hnc⟩ := ReadsRow.inner_ HR
  have one : ∀ {l : List Int} {cs : List Value}, Reps (Kd.K (Kd.int .u8) W) 1 l cs → ∀ u ∈ cs, u.oneCell' = true := by
    intro l cs hr u hu
    obtain ⟨q, hq, rfl⟩ := List.mem_iff_getElem.1 hu
    have hql : q < l.length := by have := hr.1; simp at this; omega
    have hc := hr.2 q _ (List.getElem?_eq_getElem hql)
    have hc' : (List.take 1 (List.drop (q * 1) cs)) = [.int .u8 l[q]] := hc
    rw [Nat.mul_one, List.drop_eq_getElem_cons hq] at hc'
    injection hc' with hc' _
    rw [hc']; rfl
  have hm1 : xs.length = n := HO.1
  have hm2 : ys.length = m := HR.1
  refine wpList_append_grows W hgd s x t ho e i0 z 1 bytes ht hi hz0 hz1 hz2 hz (by decide) (some Ad) n cap olds hs (fun h => by cases h) (by have := hor.1; rw [this, hm1]; rfl) ?_ A m c news hx (by have := hnr.1; rw [this, hm2]; rfl) ?_ (one hnr) hfull (by simp only [maxLen]; omega) hb ?_
  · rintro b rfl' j u hj
    cases rfl'
    exact hoc _ _ hj
  · intro j u hj
    exact hnc _ _ hj
  · intro v' w' ho' hg'
    refine h v' w' ⟨fun _ _ => trivial, olds ++ news, ?_, ?_⟩ hg'
    · have e1 : (xs ++ ys).length = n + m := by rw [List.length_append, hm1, hm2]
      rw [e1]
      exact ho'
    · exact reps_append (hor.imp_ (fun _ _ hq => hq)) (hnr.imp_ (fun _ _ hq => hq))
end Go.Proofs.Ytnlpipjdpmaggaa.More2
