/- What the pure texts of the sums share: the register of chapter 4 as numbers, its run over a row of bytes, and that a change within 32 bits in a row always shows. No program here. -/
import Derived.Laws.BitsAllLaws
import Derived.OpenShut
namespace CrcMath

abbrev W := BitVec 32
def poly : W := 0x82f63b78#32

def step (s : W) : W := if s.getLsbD 0 then (s >>> 1) ^^^ poly else s >>> 1
def steps : Nat → W → W
  | 0, s => s
  | n + 1, s => steps n (step s)

end CrcMath

namespace CrcMath
open Go Go.RowKit

/-- bytes, as numbers -/
def Bytes (l : List Int) : Prop := ∀ x ∈ l, 0 ≤ x ∧ x < 256
theorem bytes_of {l : List Int} (h : ∀ x ∈ l, (Lit.int .u8 x).wf = true) : Bytes l := fun x hx => by
  have := bounds_u8 (h x hx); omega

def byteStep (s : W) (x : Int) : W := steps 8 (s ^^^ BitVec.ofInt 32 x)
def run (s : W) (l : List Int) : W := l.foldl byteStep s
/-- the bit at a place -/
def bitAt (l : List Int) (j : Nat) : Bool := (l.getD (j / 8) 0).toNat.testBit (j % 8)

end CrcMath
namespace CrcMath
open Go Go.RowKit

/-- b is a, its bits from f on turned where the first i bits of M say so. -/
structure Burst (a b : List Int) (f M i : Nat) : Prop where
  len : b.length = a.length
  bytes : Bytes b
  bits : ∀ j, j < 8 * a.length → bitAt b j = Bool.xor (bitAt a j) (decide (f ≤ j ∧ j < f + i) && M.testBit (j - f))

theorem Burst.skip {a b : List Int} {f M i : Nat} (h : Burst a b f M i) (hM : M.testBit i = false) : Burst a b f M (i + 1) := ⟨h.len, h.bytes, fun j hj => by
  rw [h.bits j hj]
  congr 1
  by_cases h1 : j = f + i
  · subst h1
    rw [show f + i - f = i by omega, hM]
    simp
  · congr 1
    apply decide_eq_decide.2
    omega⟩
theorem Burst.some {a b : List Int} {f M : Nat} (h : Burst a b f M 32) (h0 : M ≠ 0) (h1 : M < 4294967296) (hf : f + 32 ≤ 8 * a.length) : ∃ j, j < 8 * a.length ∧ bitAt a j ≠ bitAt b j := by
  obtain ⟨i, hi⟩ := Nat.exists_testBit_of_ne_zero h0
  have hi32 : i < 32 := by
    rcases Nat.lt_or_ge i 32 with h | h
    · exact h
    · have : M.testBit i = false := Nat.testBit_lt_two_pow (Nat.lt_of_lt_of_le h1 (by
        have : (2 : Nat) ^ 32 ≤ 2 ^ i := Nat.pow_le_pow_right (by omega) h
        omega))
      rw [this] at hi
      exact absurd hi (by simp)
  refine ⟨f + i, by omega, ?_⟩
  rw [h.bits (f + i) (by omega)]
  have e2 : f ≤ f + i ∧ f + i < f + 32 := by omega
  rw [show f + i - f = i by omega, hi, decide_eq_true e2]
  cases bitAt a (f + i) <;> simp
end CrcMath
