/- What the pure texts of the sums share: the register of chapter 4 as numbers, its run over a row of bytes, and that a change within 32 bits in a row always shows. No program here. -/
import Derived.Laws.BitsAllLaws
import Derived.OpenShut
namespace CrcMath

abbrev W := BitVec 32
def poly : W := 0x82f63b78#32

def step (s : W) : W := if s.getLsbD 0 then (s >>> 1) ^^^ poly else s >>> 1
def steps : Nat → W → W
  | 0, s => s
  | n + 1, s => steps n (step s)

theorem step_xor (a b : W) : step (a ^^^ b) = step a ^^^ step b := by
  unfold step
  rw [BitVec.getLsbD_xor]
  have hs : (a ^^^ b) >>> 1 = (a >>> 1) ^^^ (b >>> 1) := by
    ext i hi; simp
  cases ha : a.getLsbD 0 <;> cases hb : b.getLsbD 0 <;> simp [hs]
  · rw [BitVec.xor_assoc]
  · rw [BitVec.xor_assoc, BitVec.xor_assoc]; congr 1; exact BitVec.xor_comm _ _
  · rw [BitVec.xor_assoc, ← BitVec.xor_assoc poly, BitVec.xor_comm poly, BitVec.xor_assoc, BitVec.xor_self, BitVec.xor_zero]

theorem step_zero : step 0 = 0 := by decide
theorem zero_x (x : W) : (0 : W) ^^^ x = x := BitVec.zero_xor

theorem step_ne {s : W} (h : s ≠ 0) : step s ≠ 0 := by
  intro hz
  apply h
  unfold step at hz
  cases hl : s.getLsbD 0 with
  | true =>
    rw [hl] at hz; simp only [if_true] at hz
    have := congrArg (fun x : W => x.getLsbD 31) hz
    simp [poly] at this
  | false =>
    rw [hl] at hz; simp only [Bool.false_eq_true, if_false] at hz
    ext i hi
    by_cases h0 : i = 0
    · subst h0; simpa using hl
    · have := congrArg (fun x : W => x.getLsbD (i - 1)) hz
      simp at this
      rw [show 1 + (i - 1) = i by omega] at this
      rw [BitVec.getLsbD_eq_getElem hi] at this
      simpa using this

theorem steps_xor (n : Nat) : ∀ a b : W, steps n (a ^^^ b) = steps n a ^^^ steps n b := by
  induction n with
  | zero => intros; rfl
  | succ n ih => intro a b; simp only [steps]; rw [step_xor, ih]

theorem steps_zero (n : Nat) : steps n 0 = 0 := by
  induction n with
  | zero => rfl
  | succ n ih => simp only [steps]; rw [step_zero, ih]

theorem steps_ne (n : Nat) : ∀ {s : W}, s ≠ 0 → steps n s ≠ 0 := by
  induction n with
  | zero => intro s h; exact h
  | succ n ih => intro s h; exact ih (step_ne h)

theorem steps_add (m n : Nat) : ∀ s, steps (m + n) s = steps n (steps m s) := by
  induction m with
  | zero => intro s; simp [steps]
  | succ m ih => intro s; rw [show m + 1 + n = (m + n) + 1 by omega]; simp only [steps]; exact ih _

/-- a bit, as a register -/
def bit (b : Bool) : W := if b then 1 else 0

/-- bits, the first one read first -/
def bitrun : W → List Bool → W
  | s, [] => s
  | s, b :: bs => bitrun (step (s ^^^ bit b)) bs

theorem bitrun_append (xs ys : List Bool) : ∀ s, bitrun s (xs ++ ys) = bitrun (bitrun s xs) ys := by
  induction xs with
  | nil => intro s; rfl
  | cons x xs ih => intro s; exact ih _

theorem bitrun_zeros (n : Nat) : ∀ s, bitrun s (List.replicate n false) = steps n s := by
  induction n with
  | zero => intro s; rfl
  | succ n ih => intro s; simp only [List.replicate_succ, bitrun, bit, steps]; rw [ih]; simp

/-- bits as a register's value, the first one lowest -/
def val : List Bool → W
  | [] => 0
  | b :: bs => bit b ^^^ (val bs <<< 1)

theorem val_high (bs : List Bool) : ∀ i, bs.length ≤ i → (val bs).getLsbD i = false := by
  induction bs with
  | nil => intro i _; simp [val]
  | cons b bs ih =>
    intro i hi
    simp only [List.length_cons] at hi
    simp only [val, BitVec.getLsbD_xor, BitVec.getLsbD_shiftLeft]
    rw [ih (i - 1) (by omega)]
    have : (bit b).getLsbD i = false := by
      cases b
      · simp [bit]
      · simp [bit]; omega
    simp [this]

theorem step_shift {v : W} (h : v.getLsbD 31 = false) : step (v <<< 1) = v := by
  unfold step
  have h0 : (v <<< 1).getLsbD 0 = false := by simp
  rw [h0]; simp only [Bool.false_eq_true, if_false]
  ext i hi
  simp only [BitVec.getElem_ushiftRight, BitVec.getLsbD_shiftLeft]
  by_cases h1 : i = 31
  · subst h1; simp; rw [← BitVec.getLsbD_eq_getElem]; exact h
  · have : 1 + i < 32 := by omega
    simp [this]
    rw [← BitVec.getLsbD_eq_getElem]

theorem bitrun_val (bs : List Bool) (h : bs.length ≤ 32) : ∀ s, bitrun s bs = steps bs.length (s ^^^ val bs) := by
  induction bs with
  | nil => intro s; simp [bitrun, steps, val]
  | cons b bs ih =>
    intro s
    simp only [List.length_cons] at h
    simp only [bitrun, List.length_cons, steps, val]
    rw [ih (by omega)]
    congr 1
    rw [← BitVec.xor_assoc, step_xor (s ^^^ bit b), step_shift (val_high bs 31 (by omega))]

theorem val_ne {bs : List Bool} (h : true ∈ bs) (hl : bs.length ≤ 32) : val bs ≠ 0 := by
  induction bs with
  | nil => simp at h
  | cons b bs ih =>
    simp only [List.length_cons] at hl
    intro hz
    cases b with
    | true =>
      have := congrArg (fun x : W => x.getLsbD 0) hz
      simp [val, bit] at this
    | false =>
      have h' : true ∈ bs := by simpa using h
      apply ih h' (by omega)
      simp only [val, bit, Bool.false_eq_true, if_false, zero_x] at hz
      have h2 := step_shift (val_high bs 31 (by omega))
      rw [← h2, hz]; exact step_zero

/-- what is changed within 32 bits in a row shows in the register. -/
theorem bitrun_burst (a z : Nat) (w : List Bool) (hw : w.length ≤ 32) (h : true ∈ w) :
    bitrun 0 (List.replicate a false ++ (w ++ List.replicate z false)) ≠ 0 := by
  rw [bitrun_append, bitrun_zeros, steps_zero, bitrun_append, bitrun_val w hw, bitrun_zeros]
  rw [zero_x]
  exact steps_ne _ (steps_ne _ (val_ne h hw))

theorem bitrun_xor (xs : List Bool) : ∀ (ys : List Bool) (s t : W), xs.length = ys.length →
    bitrun (s ^^^ t) (List.zipWith Bool.xor xs ys) = bitrun s xs ^^^ bitrun t ys := by
  induction xs with
  | nil => intro ys s t h; cases ys with
    | nil => rfl
    | cons _ _ => simp at h
  | cons x xs ih =>
    intro ys s t h
    cases ys with
    | nil => simp at h
    | cons y ys =>
      simp only [List.zipWith_cons_cons, bitrun]
      rw [← ih ys _ _ (by simpa using h), ← step_xor]
      congr 2
      have : bit (Bool.xor x y) = bit x ^^^ bit y := by cases x <;> cases y <;> decide
      rw [this]
      ac_rfl

end CrcMath

namespace CrcMath
open Go Go.RowKit

def toI (s : W) : Int := (s.toNat : Int)

theorem toI_inj {a b : W} (h : toI a = toI b) : a = b := BitVec.eq_of_toNat_eq (by unfold toI at h; omega)
theorem toI_range (s : W) : 0 ≤ toI s ∧ toI s < 4294967296 := by unfold toI; have := s.isLt; omega
theorem toI_zero : toI 0 = 0 := rfl
theorem toI_of {n : Int} (h0 : 0 ≤ n) (h1 : n < 4294967296) : toI (BitVec.ofInt 32 n) = n := by
  obtain ⟨m, rfl⟩ := Int.eq_ofNat_of_zero_le h0
  unfold toI
  rw [ofInt_u32 m (by omega)]
theorem xor_toI (a b : W) : bits .xor .u32 (toI a) (toI b) = toI (a ^^^ b) := by
  unfold toI
  rw [u32_xor_nat _ _ a.isLt b.isLt, BitVec.toNat_xor]
theorem not_toI (a : W) : bits .xor .u32 4294967295 (toI a) = toI (~~~ a) := by
  have h : (4294967295 : Int) = toI (BitVec.allOnes 32) := by rfl
  rw [h, xor_toI, BitVec.allOnes_xor]
theorem half (a : W) : toI a / (2 : Int) = toI (a >>> 1) := by
  unfold toI
  rw [BitVec.toNat_ushiftRight, Nat.shiftRight_eq_div_pow]
  omega
theorem low (a : W) : bits .and .u32 (toI a) 1 = if a.getLsbD 0 then 1 else 0 := by
  have h : (1 : Int) = toI 1 := rfl
  rw [h]
  unfold toI
  rw [u32_and_nat _ _ a.isLt (by decide)]
  have e : (a.toNat &&& (1 : W).toNat) = a.toNat % 2 := by
    show a.toNat &&& 1 = _
    rw [Nat.and_one_is_mod]
  rw [e]
  have hl : a.getLsbD 0 = decide (a.toNat % 2 = 1) := by
    rw [BitVec.getLsbD, Nat.testBit_zero]
  rw [hl]
  by_cases h1 : a.toNat % 2 = 1
  · simp [h1]
  · have h0 : a.toNat % 2 = 0 := by omega
    simp [h0]
theorem step_on {s : W} (h : s.getLsbD 0 = true) : bits .xor .u32 (toI s / (2 : Int)) 2197175160 = toI (step s) := by
  have e : (2197175160 : Int) = toI poly := rfl
  rw [half, e, xor_toI]
  unfold step
  rw [h]; rfl
theorem step_off {s : W} (h : s.getLsbD 0 = false) : toI s / (2 : Int) = toI (step s) := by
  rw [half]
  unfold step
  rw [h]; rfl

/-- bytes, as numbers -/
def Bytes (l : List Int) : Prop := ∀ x ∈ l, 0 ≤ x ∧ x < 256
theorem bytes_of {l : List Int} (h : ∀ x ∈ l, (Lit.int .u8 x).wf = true) : Bytes l := fun x hx => by
  have := bounds_u8 (h x hx); omega

theorem Bytes.sub {l m : List Int} (h : Bytes l) (hs : ∀ x ∈ m, x ∈ l) : Bytes m := fun x hx => h x (hs x hx)

def byteStep (s : W) (x : Int) : W := steps 8 (s ^^^ BitVec.ofInt 32 x)
def run (s : W) (l : List Int) : W := l.foldl byteStep s
def moreW (s : W) (l : List Int) : W := ~~~ (run (~~~ s) l)
def sumW (l : List Int) : W := moreW 0 l

theorem run_append (s : W) (a b : List Int) : run s (a ++ b) = run (run s a) b := List.foldl_append
theorem moreW_append (s : W) (a b : List Int) : moreW s (a ++ b) = moreW (moreW s a) b := by
  unfold moreW
  rw [run_append, BitVec.not_not]
theorem moreW_nil (s : W) : moreW s [] = s := by
  unfold moreW run
  rw [List.foldl_nil, BitVec.not_not]

/-- a byte's bits, the lowest first -/
def bitsOf (x : Int) : List Bool := (List.range 8).map fun i => x.toNat.testBit i
theorem bitsOf_length (x : Int) : (bitsOf x).length = 8 := by simp [bitsOf]

theorem val_bits (n : Nat) : ∀ (m : Nat), m < 2 ^ n → n ≤ 32 → val ((List.range n).map fun i => m.testBit i) = BitVec.ofNat 32 m := by
  induction n with
  | zero =>
    intro m h _
    have : m = 0 := by omega
    subst this
    rfl
  | succ n ih =>
    intro m h hn
    rw [List.range_succ_eq_map, List.map_cons, List.map_map]
    have e : ((fun i => m.testBit i) ∘ Nat.succ) = fun i => (m / 2).testBit i := by
      funext i
      simp [Nat.testBit_succ]
    rw [e]
    simp only [val]
    have hp : (2 : Nat) ^ (n + 1) = 2 ^ n * 2 := Nat.pow_succ 2 n
    rw [ih (m / 2) (by omega) (by omega)]
    have hb : (2 : Nat) ^ (n + 1) ≤ 2 ^ 32 := Nat.pow_le_pow_right (by omega) (by omega)
    apply BitVec.eq_of_getLsbD_eq
    intro i hi
    rw [BitVec.getLsbD_xor, BitVec.getLsbD_shiftLeft]
    simp only [BitVec.getLsbD_ofNat]
    cases i with
    | zero =>
      have : (bit (m.testBit 0)).getLsbD 0 = m.testBit 0 := by
        cases m.testBit 0 <;> rfl
      rw [this]
      simp
    | succ i =>
      have hz : (bit (m.testBit 0)).getLsbD (i + 1) = false := by
        cases m.testBit 0 <;> simp [bit]
      rw [hz]
      simp only [Nat.testBit_succ]
      have h1 : i + 1 < 32 := hi
      have h2 : i < 32 := by omega
      simp [h1, h2]

theorem byteStep_bits (s : W) (x : Int) (h0 : 0 ≤ x) (h1 : x < 256) : byteStep s x = bitrun s (bitsOf x) := by
  rw [bitrun_val _ (by rw [bitsOf_length]; omega), bitsOf_length]
  unfold byteStep bitsOf
  rw [val_bits 8 x.toNat (by omega) (by omega)]
  congr 2
  obtain ⟨m, rfl⟩ := Int.eq_ofNat_of_zero_le h0
  rw [Int.toNat_natCast]
  exact BitVec.ofInt_natCast ..

theorem run_bits (l : List Int) (h : Bytes l) : ∀ s, run s l = bitrun s (l.flatMap bitsOf) := by
  induction l with
  | nil => intro s; rfl
  | cons x l ih =>
    intro s
    have hx := h x (by simp)
    rw [List.flatMap_cons, bitrun_append, ← byteStep_bits s x hx.1 hx.2, ← ih (fun y hy => h y (by simp [hy]))]
    rfl

/-- the bit at a place -/
def bitAt (l : List Int) (j : Nat) : Bool := (l.getD (j / 8) 0).toNat.testBit (j % 8)

theorem flat_length (l : List Int) : (l.flatMap bitsOf).length = 8 * l.length := by
  induction l with
  | nil => rfl
  | cons x l ih => rw [List.flatMap_cons, List.length_append, ih, bitsOf_length, List.length_cons]; omega

theorem flat_at (l : List Int) : ∀ j, j < 8 * l.length → (l.flatMap bitsOf)[j]? = some (bitAt l j) := by
  induction l with
  | nil => intro j h; simp at h
  | cons x l ih =>
    intro j h
    rw [List.flatMap_cons]
    simp only [List.length_cons] at h
    by_cases hj : j < 8
    · rw [List.getElem?_append_left (by rw [bitsOf_length]; exact hj)]
      have e1 : j / 8 = 0 := by omega
      have e2 : j % 8 = j := by omega
      simp [bitAt, bitsOf, e1, e2, hj]
    · rw [List.getElem?_append_right (by rw [bitsOf_length]; omega), bitsOf_length, ih (j - 8) (by omega)]
      have e1 : j / 8 = (j - 8) / 8 + 1 := by omega
      have e2 : j % 8 = (j - 8) % 8 := by omega
      simp only [bitAt, e1, e2, List.getD_cons_succ]

theorem flat_eq (l : List Int) : l.flatMap bitsOf = (List.range (8 * l.length)).map (bitAt l) := by
  apply List.ext_getElem?
  intro j
  by_cases h : j < 8 * l.length
  · rw [flat_at l j h]; simp [h]
  · rw [List.getElem?_eq_none (by rw [flat_length]; omega), List.getElem?_eq_none (by simp; omega)]

/-- the bits that two rows of one length do not share -/
theorem run_differ (a b : List Int) (ha : Bytes a) (hb : Bytes b) (hl : a.length = b.length) (s t : W) :
    run s a ^^^ run t b = bitrun (s ^^^ t) ((List.range (8 * a.length)).map fun j => Bool.xor (bitAt a j) (bitAt b j)) := by
  rw [run_bits a ha, run_bits b hb, ← bitrun_xor _ _ s t (by rw [flat_length, flat_length, hl])]
  congr 1
  rw [flat_eq, flat_eq, hl]
  apply List.ext_getElem?
  intro j
  by_cases h : j < 8 * b.length
  · simp [h]
  · simp [h]

/-- a row of bits that is true at some place of 32 in a row and nowhere else changes a register of noughts. -/
theorem bitrun_window (n f : Nat) (g : Nat → Bool) (hg : ∀ j, j < n → g j = true → f ≤ j ∧ j < f + 32) (hx : ∃ j, j < n ∧ g j = true) :
    bitrun 0 ((List.range n).map g) ≠ 0 := by
  obtain ⟨j0, hj0, hjt⟩ := hx
  have hw := hg j0 hj0 hjt
  obtain ⟨m, hm⟩ : ∃ m, min (f + 32) n = m := ⟨_, rfl⟩
  have e : (List.range n).map g = List.replicate f false ++ (((List.range (m - f)).map fun i => g (f + i)) ++ List.replicate (n - m) false) := by
    apply List.ext_getElem?
    intro j
    by_cases h1 : j < n
    · by_cases h2 : j < f
      · rw [List.getElem?_append_left (by simpa using h2)]
        have : g j = false := by
          cases hgj : g j with
          | false => rfl
          | true => have := hg j h1 hgj; omega
        simp [h1, h2, this]
      · rw [List.getElem?_append_right (by simp; omega)]
        simp only [List.length_replicate]
        by_cases h3 : j < m
        · rw [List.getElem?_append_left (by simp; omega)]
          have e4 : f + (j - f) = j := by omega
          have h5 : j - f < m - f := by omega
          simp [h1, h5, e4]
        · rw [List.getElem?_append_right (by simp; omega)]
          have : g j = false := by
            cases hgj : g j with
            | false => rfl
            | true => have := hg j h1 hgj; omega
          have h5 : j - f - (m - f) < n - m := by omega
          simp [h1, this, h5]
    · rw [List.getElem?_eq_none (by simp; omega), List.getElem?_eq_none (by simp; omega)]
  rw [e]
  refine bitrun_burst f (n - m) _ (by simp; omega) ?_
  rw [List.mem_map]
  exact ⟨j0 - f, by simp; omega, by rw [show f + (j0 - f) = j0 by omega]; exact hjt⟩

/-- P4.2: unlike only within 32 bits in a row: unlike sums. -/
theorem sum_unlike (a b : List Int) (ha : Bytes a) (hb : Bytes b) (hl : a.length = b.length) (f : Nat)
    (hg : ∀ j, j < 8 * a.length → bitAt a j ≠ bitAt b j → f ≤ j ∧ j < f + 32) (hx : ∃ j, j < 8 * a.length ∧ bitAt a j ≠ bitAt b j) : sumW a ≠ sumW b := by
  intro h
  have h2 : run (~~~ 0) a ^^^ run (~~~ 0) b = 0 := by
    have h3 : run (~~~ 0) a = run (~~~ 0) b := by
      have := congrArg (fun x : W => ~~~ x) h
      simpa [sumW, moreW] using this
    rw [h3, BitVec.xor_self]; rfl
  rw [run_differ a b ha hb hl, BitVec.xor_self] at h2
  refine bitrun_window (8 * a.length) f _ ?_ ?_ h2
  · intro j hj ht
    exact hg j hj (by intro e; rw [e] at ht; simp at ht)
  · obtain ⟨j, hj, hne⟩ := hx
    refine ⟨j, hj, ?_⟩
    cases h1 : bitAt a j <;> cases h2 : bitAt b j <;> simp_all

/-- the sums of two rows differ by what the exclusive or of the rows is, over what noughts are. -/
theorem sum_xor (a b d z : List Int) (ha : Bytes a) (hb : Bytes b) (hd : Bytes d) (hz : Bytes z) (hl : a.length = b.length) (hld : a.length = d.length) (hlz : a.length = z.length)
    (hx : ∀ j, j < 8 * a.length → bitAt d j = Bool.xor (bitAt a j) (bitAt b j)) (hzz : ∀ j, j < 8 * a.length → bitAt z j = false) :
    sumW a ^^^ sumW b = sumW d ^^^ sumW z := by
  have e : ∀ x y : W, ~~~ x ^^^ ~~~ y = x ^^^ y := fun x y => by
    apply BitVec.eq_of_getLsbD_eq; intro i hi; simp [hi]
  unfold sumW moreW
  rw [e, e, run_differ a b ha hb hl, run_differ d z hd hz (by omega), ← hld]
  congr 1
  apply List.map_congr_left
  intro j hj
  rw [hx j (by simpa using hj), hzz j (by simpa using hj)]
  simp
end CrcMath
namespace CrcMath
open Go Go.RowKit

/-- a number's four bytes, the lowest first; and back -/
def le4 (v : Int) : List Int := [v % 256, v / 256 % 256, v / 65536 % 256, v / 16777216 % 256]
def rd4 : List Int → Int
  | [a, b, c, d] => a + 256 * b + 65536 * c + 16777216 * d
  | _ => 0
theorem le4_bytes (v : Int) : Bytes (le4 v) := by
  intro x hx
  simp only [le4, List.mem_cons, List.not_mem_nil, or_false] at hx
  omega
theorem le4_length (v : Int) : (le4 v).length = 4 := rfl
theorem rd4_le4 {v : Int} (h0 : 0 ≤ v) (h1 : v < 4294967296) : rd4 (le4 v) = v := by
  simp only [le4, rd4]
  omega
theorem four {t : List Int} (h : t.length = 4) : ∃ a b c d, t = [a, b, c, d] := by
  match t, h with
  | [a, b, c, d], _ => exact ⟨a, b, c, d, rfl⟩
theorem rd4_range {t : List Int} (hb : Bytes t) : 0 ≤ rd4 t ∧ rd4 t < 4294967296 := by
  unfold rd4
  split
  · next a b c d =>
    have h0 := hb a (by simp); have h1 := hb b (by simp); have h2 := hb c (by simp); have h3 := hb d (by simp)
    omega
  · omega
theorem le4_rd4 {t : List Int} (hb : Bytes t) (h : t.length = 4) : le4 (rd4 t) = t := by
  obtain ⟨a, b, c, d, rfl⟩ := four h
  have h0 := hb a (by simp); have h1 := hb b (by simp); have h2 := hb c (by simp); have h3 := hb d (by simp)
  simp only [le4, rd4, List.cons.injEq, and_true]
  omega

theorem testBit_low (x y r : Nat) (hr : r < 8) : (x + 256 * y).testBit r = x.testBit r := by
  have h1 : (x + 256 * y) % 2 ^ 8 = x % 2 ^ 8 := by omega
  have h2 : ∀ z : Nat, z.testBit r = (z % 2 ^ 8).testBit r := fun z => by rw [Nat.testBit_mod_two_pow]; simp [hr]
  rw [h2, h1, ← h2]
theorem testBit_high (x y r : Nat) (hx : x < 256) : (x + 256 * y).testBit (8 + r) = y.testBit r := by
  rw [Nat.add_comm 8 r, Nat.testBit_add]
  congr 1
  omega

theorem rd4_bits {t : List Int} (hb : Bytes t) (h : t.length = 4) : val (t.flatMap bitsOf) = BitVec.ofInt 32 (rd4 t) := by
  obtain ⟨a, b, c, d, rfl⟩ := four h
  have h0 := hb a (by simp); have h1 := hb b (by simp); have h2 := hb c (by simp); have h3 := hb d (by simp)
  obtain ⟨a, rfl⟩ := Int.eq_ofNat_of_zero_le h0.1
  obtain ⟨b, rfl⟩ := Int.eq_ofNat_of_zero_le h1.1
  obtain ⟨c, rfl⟩ := Int.eq_ofNat_of_zero_le h2.1
  obtain ⟨d, rfl⟩ := Int.eq_ofNat_of_zero_le h3.1
  have hm := val_bits 32 (a + 256 * (b + 256 * (c + 256 * d))) (by omega) (by omega)
  have e : BitVec.ofInt 32 (rd4 [(a : Int), b, c, d]) = BitVec.ofNat 32 (a + 256 * (b + 256 * (c + 256 * d))) := by
    have : rd4 [(a : Int), b, c, d] = ((a + 256 * (b + 256 * (c + 256 * d)) : Nat) : Int) := by simp only [rd4]; omega
    rw [this]
    exact BitVec.ofInt_natCast ..
  rw [e, ← hm]
  congr 1
  have r32 : List.range 32 = List.range 8 ++ ((List.range 8).map (fun i => 8 + i) ++ ((List.range 8).map (fun i => 8 + (8 + i)) ++ (List.range 8).map (fun i => 8 + (8 + (8 + i))))) := by decide
  rw [r32]
  simp only [List.flatMap_cons, List.flatMap_nil, List.append_nil, List.map_append, List.map_map, bitsOf, Int.toNat_natCast]
  have step8 : ∀ (x y : Nat), x < 256 → ((List.range 8).map fun i => x.testBit i) = (List.range 8).map fun i => (x + 256 * y).testBit i := fun x y _ => by
    apply List.map_congr_left
    intro i hi
    exact (testBit_low x y i (by simpa using hi)).symm
  have f1 : ∀ (i : Nat), (a + 256 * (b + 256 * (c + 256 * d))).testBit (8 + i) = (b + 256 * (c + 256 * d)).testBit i := fun i => testBit_high _ _ _ (by omega)
  have f2 : ∀ (i : Nat), (b + 256 * (c + 256 * d)).testBit (8 + i) = (c + 256 * d).testBit i := fun i => testBit_high _ _ _ (by omega)
  have f3 : ∀ (i : Nat), (c + 256 * d).testBit (8 + i) = d.testBit i := fun i => testBit_high _ _ _ (by omega)
  have g : ∀ (f : Nat → Nat), ((fun i => (a + 256 * (b + 256 * (c + 256 * d))).testBit i) ∘ f) = fun i => (a + 256 * (b + 256 * (c + 256 * d))).testBit (f i) := fun f => rfl
  simp only [g, f1, f2, f3]
  rw [step8 a (b + 256 * (c + 256 * d)) (by omega), step8 b (c + 256 * d) (by omega), step8 c d (by omega)]

theorem run_four (s : W) {t : List Int} (hb : Bytes t) (h : t.length = 4) : run s t = steps 32 (s ^^^ BitVec.ofInt 32 (rd4 t)) := by
  rw [run_bits t hb, bitrun_val _ (by rw [flat_length]; omega), flat_length, h, rd4_bits hb h]

/-- bytes with their sum behind them leave one register, whatever they are. -/
theorem run_sealed (l t : List Int) (ht : Bytes t) (h : t.length = 4) (he : rd4 t = toI (sumW l)) : run (~~~ 0) (l ++ t) = steps 32 (BitVec.allOnes 32) := by
  rw [run_append, run_four _ ht h]
  congr 1
  rw [he]
  have e : BitVec.ofInt 32 (toI (sumW l)) = sumW l := toI_inj (toI_of (toI_range _).1 (toI_range _).2)
  rw [e]
  unfold sumW moreW
  apply BitVec.eq_of_getLsbD_eq
  intro i hi
  simp [hi, -BitVec.reduceAllOnes]

theorem xor_of_ne : ∀ {x y : Bool}, x ≠ y → Bool.xor x y = true := by decide
/-- P4.2, T2: whatever is changed within 32 bits in a row, of the bytes or of their sum behind them, is told. -/
theorem sealed_told (l c t : List Int) (hl : Bytes l) (hc : Bytes c) (ht : Bytes t) (hn : c.length = l.length) (h4 : t.length = 4) (f : Nat)
    (hg : ∀ j, j < 8 * (l.length + 4) → bitAt (l ++ le4 (toI (sumW l))) j ≠ bitAt (c ++ t) j → f ≤ j ∧ j < f + 32)
    (hx : ∃ j, j < 8 * (l.length + 4) ∧ bitAt (l ++ le4 (toI (sumW l))) j ≠ bitAt (c ++ t) j) : rd4 t ≠ toI (sumW c) := by
  intro he
  have h1 := run_sealed l (le4 (toI (sumW l))) (le4_bytes _) rfl (rd4_le4 (toI_range _).1 (toI_range _).2)
  have h2 := run_sealed c t ht h4 he
  have hb1 : Bytes (l ++ le4 (toI (sumW l))) := fun x hx => by
    rcases List.mem_append.1 hx with h | h
    · exact hl x h
    · exact le4_bytes _ x h
  have hb2 : Bytes (c ++ t) := fun x hx => by
    rcases List.mem_append.1 hx with h | h
    · exact hc x h
    · exact ht x h
  have hlen : (l ++ le4 (toI (sumW l))).length = l.length + 4 := by rw [List.length_append, le4_length]
  have h3 := run_differ _ _ hb1 hb2 (by rw [hlen, List.length_append, hn, h4]) (~~~ 0) (~~~ 0)
  rw [h1, h2, BitVec.xor_self, BitVec.xor_self, hlen] at h3
  refine bitrun_window (8 * (l.length + 4)) f _ ?_ ?_ h3.symm
  · intro j hj hne
    exact hg j hj (by intro e; rw [e] at hne; simp at hne)
  · obtain ⟨j, hj, hne⟩ := hx
    exact ⟨j, hj, xor_of_ne hne⟩

/-- b is a, its bits from f on turned where the first i bits of M say so. -/
structure Burst (a b : List Int) (f M i : Nat) : Prop where
  len : b.length = a.length
  bytes : Bytes b
  bits : ∀ j, j < 8 * a.length → bitAt b j = Bool.xor (bitAt a j) (decide (f ≤ j ∧ j < f + i) && M.testBit (j - f))

theorem Burst.start {a : List Int} (h : Bytes a) (f M : Nat) : Burst a a f M 0 := ⟨rfl, h, fun j _ => by
  have : ¬ (f ≤ j ∧ j < f + 0) := by omega
  rw [decide_eq_false this, Bool.false_and, Bool.xor_false]⟩
theorem Burst.skip {a b : List Int} {f M i : Nat} (h : Burst a b f M i) (hM : M.testBit i = false) : Burst a b f M (i + 1) := ⟨h.len, h.bytes, fun j hj => by
  rw [h.bits j hj]
  congr 1
  by_cases h1 : j = f + i
  · subst h1
    rw [show f + i - f = i by omega, hM]
    simp
  · congr 1
    apply decide_eq_decide.2
    omega⟩
theorem flip_at (l : List Int) (hb : Bytes l) (p r : Nat) (hp : p < l.length) (hr : r < 8) (v : Int) (hv : v = ((((l.getD p 0).toNat ^^^ 2 ^ r : Nat)) : Int)) :
    Bytes (l.set p v) ∧ ∀ j, bitAt (l.set p v) j = Bool.xor (bitAt l j) (decide (j = 8 * p + r)) := by
  have hx := hb l[p] (List.getElem_mem hp)
  have hg : l.getD p 0 = l[p] := by rw [List.getD_eq_getElem?_getD, List.getElem?_eq_getElem hp]; rfl
  have h2 : (2 : Nat) ^ r < 2 ^ 8 := Nat.pow_lt_pow_right (by omega) hr
  have hlt : (l.getD p 0).toNat ^^^ 2 ^ r < 2 ^ 8 := Nat.xor_lt_two_pow (by rw [hg]; omega) h2
  constructor
  · intro x hxm
    rcases List.mem_or_eq_of_mem_set hxm with h | h
    · exact hb x h
    · rw [h, hv]; omega
  · intro j
    unfold bitAt
    by_cases hj : j / 8 = p
    · rw [hj]
      have e1 : (l.set p v).getD p 0 = v := by rw [List.getD_eq_getElem?_getD, List.getElem?_set_self hp]; rfl
      rw [e1, hv, Int.toNat_natCast, Nat.testBit_xor, Nat.testBit_two_pow]
      congr 1
      apply decide_eq_decide.2
      omega
    · have e1 : (l.set p v).getD (j / 8) 0 = l.getD (j / 8) 0 := by
        rw [List.getD_eq_getElem?_getD, List.getD_eq_getElem?_getD, List.getElem?_set_ne (by omega)]
      rw [e1]
      have : ¬ j = 8 * p + r := by omega
      simp [this]
theorem Burst.turn {a b : List Int} {f M i : Nat} (h : Burst a b f M i) (hM : M.testBit i = true) (hi : f + i < 8 * a.length) (v : Int) (hv : v = ((((b.getD ((f + i) / 8) 0).toNat ^^^ 2 ^ ((f + i) % 8) : Nat)) : Int)) :
    Burst a (b.set ((f + i) / 8) v) f M (i + 1) := by
  have hf := flip_at b h.bytes ((f + i) / 8) ((f + i) % 8) (by rw [h.len]; omega) (by omega) v hv
  refine ⟨by rw [List.length_set, h.len], hf.1, fun j hj => ?_⟩
  rw [hf.2 j, h.bits j hj, Bool.xor_assoc]
  congr 1
  by_cases h1 : j = f + i
  · subst h1
    have e1 : ¬ (f ≤ f + i ∧ f + i < f + i) := by omega
    have e2 : f ≤ f + i ∧ f + i < f + (i + 1) := by omega
    have e3 : f + i = 8 * ((f + i) / 8) + (f + i) % 8 := by omega
    rw [show f + i - f = i by omega, hM, decide_eq_false e1, decide_eq_true e2, decide_eq_true e3]
    rfl
  · have e3 : ¬ j = 8 * ((f + i) / 8) + (f + i) % 8 := by omega
    rw [decide_eq_false e3, Bool.xor_false]
    congr 1
    apply decide_eq_decide.2
    omega
theorem Burst.window {a b : List Int} {f M : Nat} (h : Burst a b f M 32) : ∀ j, j < 8 * a.length → bitAt a j ≠ bitAt b j → f ≤ j ∧ j < f + 32 := by
  intro j hj hne
  rw [h.bits j hj] at hne
  by_cases hd : f ≤ j ∧ j < f + 32
  · exact hd
  · exact absurd (by simp [hd]) hne
theorem Burst.some {a b : List Int} {f M : Nat} (h : Burst a b f M 32) (h0 : M ≠ 0) (h1 : M < 4294967296) (hf : f + 32 ≤ 8 * a.length) : ∃ j, j < 8 * a.length ∧ bitAt a j ≠ bitAt b j := by
  obtain ⟨i, hi⟩ := Nat.exists_testBit_of_ne_zero h0
  have hi32 : i < 32 := by
    rcases Nat.lt_or_ge i 32 with h | h
    · exact h
    · have : M.testBit i = false := Nat.testBit_lt_two_pow (Nat.lt_of_lt_of_le h1 (by
        have : (2 : Nat) ^ 32 ≤ 2 ^ i := Nat.pow_le_pow_right (by omega) h
        omega))
      rw [this] at hi
      exact absurd hi (by simp)
  refine ⟨f + i, by omega, ?_⟩
  rw [h.bits (f + i) (by omega)]
  have e2 : f ≤ f + i ∧ f + i < f + 32 := by omega
  rw [show f + i - f = i by omega, hi, decide_eq_true e2]
  cases bitAt a (f + i) <;> simp
end CrcMath
