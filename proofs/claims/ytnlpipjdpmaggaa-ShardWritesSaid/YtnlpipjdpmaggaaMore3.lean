/- Facts for the reference's Encode: an append to the bytes of a constant of a row that may be told by an option. No function of the program here. -/
import Derived.Test.YtnlpipjdpmaggaaMore2
set_option linter.unusedVariables false
namespace Go.Proofs.Ytnlpipjdpmaggaa.More2
open Go.RowKit Go.Proofs.YtnlpipjdpmaggaaW.PrintWords Go.Proofs.YtnlpipjdpmaggaaW.PrintLast Go.Proofs.YtnlpipjdpmaggaaW.PrintMore
open Go.Proofs.YtnlpipjdpmaggaaW.PrintWords.Kd
theorem append_markedO {P : Program} {W : World} {ops : Array Oper} {rest : List Oper} {o : Oper} {a : Act} {Q : Exit → Act → World → Prop}
    (hgd : o.guard = none) (s x : Operand) (t e : TypeId) (z : Value) (bytes : Nat)
    (ho : o.op = .call { callee := .builtin .append, args := #[s, x], argTypes := #[t, t] })
    (ht : P.underlying t = some (.slice e)) (hinfo : (P.info? e).map (fun i => (i.zero, i.size, i.bytes)) = some (some z, 1, bytes)) (hz : z.cells.size = 1)
    (Ad : Addr) (n cap : Nat) (xs ys : List Int) (A : Option Addr) (m c : Nat) (hs : a.eval s = .slice (some Ad) n cap) (hx : a.eval x = .slice A m c)
    (HO : Kd.C (Kd.int .u8) W (some Ad) n xs) (HR : Kd.C (Kd.int .u8) W A m ys) (hm : 0 < m) (hfull : cap < n + m) (hb : (n + m) * bytes ≤ 140737488355328) (hb1 : n + m ≤ 140737488355328)
    (h : ∀ v1 w1, Kd.R (Kd.int .u8) e w1 W.heap.size (fun _ => True) v1 (xs ++ ys) → W.grownBy w1 none → wpList P ops Q rest (a.put o.dst v1) w1) :
    wpList P ops Q (o :: rest) a W := by
  obtain ⟨ad, rfl, _⟩ := HR.2.2 hm
  exact append_marked hgd s x t e z bytes ho ht hinfo hz Ad n cap xs ys ad m c hs hx HO HR hfull hb hb1 h
end Go.Proofs.Ytnlpipjdpmaggaa.More2
