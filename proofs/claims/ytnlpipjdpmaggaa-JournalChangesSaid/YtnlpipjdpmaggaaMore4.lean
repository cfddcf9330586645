/- A region that draws its order, inside a round of a range over a function: what was shown of it outside any round holds inside. No function of the program here. -/
import Derived.Test.YtnlpipjdpmaggaaWLast
import Derived.OrdersIn
import Derived.RangeFuncCalls
set_option linter.unusedVariables false
namespace Go.Proofs.Ytnlpipjdpmaggaa.More4
open Go.Proofs.YtnlpipjdpmaggaaW.PrintLast
section
variable {P : Program} {ops : Array Oper} {Q : Exit → Act → World → Prop} {md : Region.Mode}
theorem uponIn_of {n l : Nat} {o : Oper} {a : Act} {K : Act → World → Prop} {r : Result Next} (h : o.upon P a K Q r) : o.uponIn (Fence.wide.inRound l) n P a K Q r := by
  rcases r with ⟨x, w'⟩ | ⟨x, w'⟩
  · cases x
    case enter f args => exact ⟨(fun hd => by cases hd), CallsIn.inRound l (callsIn_wide.2 h)⟩
    case row row args =>
      refine ⟨(fun hd => by cases hd), fun c cs _ => ?_⟩
      obtain ⟨v, w'', hk, hs⟩ := h c cs
      exact ⟨v, w'', hk, stepsIn_wide.2 hs⟩
    all_goals first | exact h | exact h.elim
  · cases x <;> first | exact h | exact h.elim
theorem opIn_of {n l i : Nat} (hno : ¬ LetsOut Q) (hd : ∀ (j : Nat) (o : Oper) c, ops[j]? = some o → o.op ≠ .defer c) {K : Act → World → Prop} {a : Act} {w : World} (h : wpOp P ops Q i K a w) :
    wpOpIn (Fence.wide.inRound l) n P ops Q i K a w := by
  unfold wpOp at h
  unfold wpOpIn
  split
  · rename_i ho
    simpa [ho] using h
  · rename_i o ho
    simp only [ho] at h
    split
    · rename_i hw
      rw [if_pos hw] at h
      rcases h with h | ⟨_, h⟩
      · unfold Oper.wpIn
        refine ⟨fun _ _ => trivial, ?_⟩
        rw [Oper.semAt_eq _ _ _ (hd i o · ho)]
        exact uponIn_of h
      · exact absurd h hno
    · rename_i hw
      rw [if_neg hw] at h
      exact ⟨fun _ _ => trivial, h⟩
theorem anyIn_of {n l : Nat} (hno : ¬ LetsOut Q) (hd : ∀ (j : Nat) (o : Oper) c, ops[j]? = some o → o.op ≠ .defer c) : ∀ (fuel : Nat) (listed : Array Bool) (a : Act) (w : World), wpAny P md ops Q fuel listed a w →
    wpAnyIn (Fence.wide.inRound l) n P md ops Q fuel listed a w
  | 0, _, _, _, h => h
  | fuel + 1, _, _, _, h => ⟨h.1, fun i hi => wpOpIn_mono (fun a' w' h' => anyIn_of hno hd fuel _ a' w' h') (opIn_of hno hd (h.2 i hi))⟩
def noDefer (ops : Array Oper) : Bool := ops.toList.all fun o => match o.op with | .defer _ => false | _ => true
theorem noDefer_spec (h : noDefer ops = true) : ∀ (j : Nat) (o : Oper) c, ops[j]? = some o → o.op ≠ .defer c := fun j o c ho e => by
  have hm : o ∈ ops.toList := by
    rw [Array.getElem?_eq_some_iff] at ho
    obtain ⟨hj, rfl⟩ := ho
    exact Array.getElem_mem_toList hj
  have := List.all_eq_true.1 h o hm
  rw [e] at this
  cases this
variable {S : World → Prop} {ds : List Nat}
/-- 'start_', inside a round. -/
theorem startIn {id n nn l : Nat} {a : Act} {w : World} (lst : Array Bool) (hno : ¬ LetsOut Q) (hd : noDefer ops = true) (hm : P.follows .mixedOrders = true) (hn : ops.size = n) (hl : Array.replicate n false = lst) (hS : S w.drew)
    (h : S w.drew → wpAnyLast P .any ops Q S ds n lst a w.drew) : (Code.region id ops true).wpIn (Fence.wide.inRound l) nn P Q a w := by
  subst hn
  subst hl
  exact wpIn_region_any hm (anyIn_of hno (noDefer_spec hd) _ _ _ _ (wpAny_of_last _ _ _ _ (h hS)))
end
end Go.Proofs.Ytnlpipjdpmaggaa.More4
