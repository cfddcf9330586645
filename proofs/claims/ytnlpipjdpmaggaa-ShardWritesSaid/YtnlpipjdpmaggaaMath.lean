/- What the pure texts of the sums share: the register of chapter 4 as numbers, its run over a row of bytes, and that a change within 32 bits in a row always shows. No program here. -/
import Derived.Laws.BitsAllLaws
import Derived.OpenShut
namespace CrcMath

abbrev W := BitVec 32
def poly : W := 0x82f63b78#32

def step (s : W) : W := if s.getLsbD 0 then (s >>> 1) ^^^ poly else s >>> 1
def steps : Nat → W → W
  | 0, s => s
  | n + 1, s => steps n (step s)

end CrcMath

namespace CrcMath
open Go Go.RowKit

def toI (s : W) : Int := (s.toNat : Int)

theorem toI_range (s : W) : 0 ≤ toI s ∧ toI s < 4294967296 := by unfold toI; have := s.isLt; omega
theorem toI_of {n : Int} (h0 : 0 ≤ n) (h1 : n < 4294967296) : toI (BitVec.ofInt 32 n) = n := by
  obtain ⟨m, rfl⟩ := Int.eq_ofNat_of_zero_le h0
  unfold toI
  rw [ofInt_u32 m (by omega)]
theorem xor_toI (a b : W) : bits .xor .u32 (toI a) (toI b) = toI (a ^^^ b) := by
  unfold toI
  rw [u32_xor_nat _ _ a.isLt b.isLt, BitVec.toNat_xor]
theorem not_toI (a : W) : bits .xor .u32 4294967295 (toI a) = toI (~~~ a) := by
  have h : (4294967295 : Int) = toI (BitVec.allOnes 32) := by rfl
  rw [h, xor_toI, BitVec.allOnes_xor]
theorem half (a : W) : toI a / (2 : Int) = toI (a >>> 1) := by
  unfold toI
  rw [BitVec.toNat_ushiftRight, Nat.shiftRight_eq_div_pow]
  omega
theorem low (a : W) : bits .and .u32 (toI a) 1 = if a.getLsbD 0 then 1 else 0 := by
  have h : (1 : Int) = toI 1 := rfl
  rw [h]
  unfold toI
  rw [u32_and_nat _ _ a.isLt (by decide)]
  have e : (a.toNat &&& (1 : W).toNat) = a.toNat % 2 := by
    show a.toNat &&& 1 = _
    rw [Nat.and_one_is_mod]
  rw [e]
  have hl : a.getLsbD 0 = decide (a.toNat % 2 = 1) := by
    rw [BitVec.getLsbD, Nat.testBit_zero]
  rw [hl]
  by_cases h1 : a.toNat % 2 = 1
  · simp [h1]
  · have h0 : a.toNat % 2 = 0 := by omega
    simp [h0]
theorem step_on {s : W} (h : s.getLsbD 0 = true) : bits .xor .u32 (toI s / (2 : Int)) 2197175160 = toI (step s) := by
  have e : (2197175160 : Int) = toI poly := rfl
  rw [half, e, xor_toI]
  unfold step
  rw [h]; rfl
theorem step_off {s : W} (h : s.getLsbD 0 = false) : toI s / (2 : Int) = toI (step s) := by
  rw [half]
  unfold step
  rw [h]; rfl

/-- bytes, as numbers -/
def Bytes (l : List Int) : Prop := ∀ x ∈ l, 0 ≤ x ∧ x < 256
theorem bytes_of {l : List Int} (h : ∀ x ∈ l, (Lit.int .u8 x).wf = true) : Bytes l := fun x hx => by
  have := bounds_u8 (h x hx); omega

theorem Bytes.sub {l m : List Int} (h : Bytes l) (hs : ∀ x ∈ m, x ∈ l) : Bytes m := fun x hx => h x (hs x hx)

def byteStep (s : W) (x : Int) : W := steps 8 (s ^^^ BitVec.ofInt 32 x)
def run (s : W) (l : List Int) : W := l.foldl byteStep s
def moreW (s : W) (l : List Int) : W := ~~~ (run (~~~ s) l)
def sumW (l : List Int) : W := moreW 0 l

/-- the bit at a place -/
def bitAt (l : List Int) (j : Nat) : Bool := (l.getD (j / 8) 0).toNat.testBit (j % 8)

end CrcMath
namespace CrcMath
open Go Go.RowKit

/-- a number's four bytes, the lowest first; and back -/
def le4 (v : Int) : List Int := [v % 256, v / 256 % 256, v / 65536 % 256, v / 16777216 % 256]
def rd4 : List Int → Int
  | [a, b, c, d] => a + 256 * b + 65536 * c + 16777216 * d
  | _ => 0
theorem le4_bytes (v : Int) : Bytes (le4 v) := by
  intro x hx
  simp only [le4, List.mem_cons, List.not_mem_nil, or_false] at hx
  omega
theorem le4_length (v : Int) : (le4 v).length = 4 := rfl
theorem rd4_le4 {v : Int} (h0 : 0 ≤ v) (h1 : v < 4294967296) : rd4 (le4 v) = v := by
  simp only [le4, rd4]
  omega
theorem four {t : List Int} (h : t.length = 4) : ∃ a b c d, t = [a, b, c, d] := by
  match t, h with
  | [a, b, c, d], _ => exact ⟨a, b, c, d, rfl⟩
/-- b is a, its bits from f on turned where the first i bits of M say so. -/
structure Burst (a b : List Int) (f M i : Nat) : Prop where
  len : b.length = a.length
  bytes : Bytes b
  bits : ∀ j, j < 8 * a.length → bitAt b j = Bool.xor (bitAt a j) (decide (f ≤ j ∧ j < f + i) && M.testBit (j - f))

theorem Burst.skip {a b : List Int} {f M i : Nat} (h : Burst a b f M i) (hM : M.testBit i = false) : Burst a b f M (i + 1) := ⟨h.len, h.bytes, fun j hj => by
  rw [h.bits j hj]
  congr 1
  by_cases h1 : j = f + i
  · subst h1
    rw [show f + i - f = i by omega, hM]
    simp
  · congr 1
    apply decide_eq_decide.2
    omega⟩
theorem Burst.some {a b : List Int} {f M : Nat} (h : Burst a b f M 32) (h0 : M ≠ 0) (h1 : M < 4294967296) (hf : f + 32 ≤ 8 * a.length) : ∃ j, j < 8 * a.length ∧ bitAt a j ≠ bitAt b j := by
  obtain ⟨i, hi⟩ := Nat.exists_testBit_of_ne_zero h0
  have hi32 : i < 32 := by
    rcases Nat.lt_or_ge i 32 with h | h
    · exact h
    · have : M.testBit i = false := Nat.testBit_lt_two_pow (Nat.lt_of_lt_of_le h1 (by
        have : (2 : Nat) ^ 32 ≤ 2 ^ i := Nat.pow_le_pow_right (by omega) h
        omega))
      rw [this] at hi
      exact absurd hi (by simp)
  refine ⟨f + i, by omega, ?_⟩
  rw [h.bits (f + i) (by omega)]
  have e2 : f ≤ f + i ∧ f + i < f + 32 := by omega
  rw [show f + i - f = i by omega, hi, decide_eq_true e2]
  cases bitAt a (f + i) <;> simp
end CrcMath
