/- What the first End leaves: the second writes nothing. Typed by hand. -/
import Derived.Test.YtnlpipjdpmaggaaWriterD
import Derived.Test.YtnlpipjdpmaggaaWriterF
set_option linter.unusedVariables false
set_option linter.unusedSimpArgs false
namespace Go.Proofs.Ytnlpipjdpmaggaa.PShardWrites
open Go.RowKit Go.Proofs.YtnlpipjdpmaggaaW.PrintWords Go.Proofs.YtnlpipjdpmaggaaW.PrintLast Go.Proofs.YtnlpipjdpmaggaaW.PrintMore
/-- Behind an End, whatever it answered, another End writes nothing; behind one that went well it answers 1. -/
theorem End_left {k : Nat} {a0 a1 a2 a3 a4 a5 : Int} {l6 l7 : List Int} {sz : Int} {en : Bool} {r1 r2 r3 r4 r5 r6 : Int} {r7 r8 : List Int} {r9 : Int} {r10 : Bool} {r11 : List Int} {r12 : Int}
    (h : shard_Writer_End.f k a0 a1 a2 a3 a4 a5 l6 l7 sz en = some (r1, r2, r3, r4, r5, r6, r7, r8, r9, r10, r11, r12)) :
    ∃ m : Bool, shard_Writer_open.f k r1 r2 r3 r4 r5 r6 r7 r8 r9 r10 = some m ∧ (m = true → r9 < r5) ∧ (r12 = 0 → m = false) := by
  unfold shard_Writer_End.f at h
  obtain ⟨t, ht, h⟩ := Option.bind_eq_some_iff.mp h
  by_cases c : t = true
  · rw [if_pos c] at h
    by_cases c2 : sz < a4
    · rw [if_pos c2] at h
      simp only [Option.some.injEq, Prod.mk.injEq] at h
      obtain ⟨rfl, rfl, rfl, rfl, rfl, rfl, rfl, rfl, rfl, rfl, rfl, rfl⟩ := h
      exact ⟨t, ht, fun _ => c2, fun e => absurd e (by decide)⟩
    · rw [if_neg c2] at h
      obtain ⟨b, hb, h⟩ := Option.bind_eq_some_iff.mp h
      simp only [Option.some.injEq, Prod.mk.injEq] at h
      obtain ⟨rfl, rfl, rfl, rfl, rfl, rfl, rfl, rfl, rfl, rfl, rfl, rfl⟩ := h
      refine ⟨false, ?_, fun e => absurd e (by decide), fun _ => rfl⟩
      unfold shard_Writer_open.f
      rw [if_pos rfl]
  · rw [if_neg c] at h
    simp only [Option.some.injEq, Prod.mk.injEq] at h
    obtain ⟨rfl, rfl, rfl, rfl, rfl, rfl, rfl, rfl, rfl, rfl, rfl, rfl⟩ := h
    exact ⟨t, ht, fun e => absurd e c, fun e => absurd e (by decide)⟩
end Go.Proofs.Ytnlpipjdpmaggaa.PShardWrites
