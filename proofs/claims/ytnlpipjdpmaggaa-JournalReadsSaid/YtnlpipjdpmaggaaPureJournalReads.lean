/- Any bytes: the program's Decode and the document's answer the same journal, or the same first error: over the printed functions alone. Conditions: the bytes are bytes. -/
import Derived.Test.YtnlpipjdpmaggaaPJournalReadsx13
import Derived.Test.YtnlpipjdpmaggaaMath
set_option linter.unusedVariables false
set_option linter.unusedSimpArgs false
namespace Go.Proofs.Ytnlpipjdpmaggaa.Pure
open Go.RowKit Go.Proofs.Ytnlpipjdpmaggaa.PJournalReads Go.Proofs.YtnlpipjdpmaggaaW.PrintWords Go.Proofs.YtnlpipjdpmaggaaW.PrintLast Go.Proofs.YtnlpipjdpmaggaaW.PrintMore CrcMath

theorem w64_lt {n : Int} (h0 : 0 ≤ n) (h : n < 9223372036854775807) : wrap64 n = n := by unfold wrap64; omega

theorem more_l1 (l : List Int) (n i : Int) (r : Int) (d : Nat) : ∀ (S : W) (j : Int), j + d = 8 → 0 ≤ j →
    Ev (fun k => crc_More.l0 k (toI (steps d S)) l n (wrap64 (i + 1))) r → Ev (fun k => crc_More.l1 k (toI S) l n i j) r := by
  induction d with
  | zero =>
    intro S j hj h0 h
    refine Ev.step (f := fun k => crc_More.l0 k (toI S) l n (wrap64 (i + 1))) (fun k => ?_) h
    simp only [crc_More.l1]
    rw [if_neg (by omega)]
  | succ d ih =>
    intro S j hj h0 h
    refine Ev.step (f := fun k => crc_More.l1 k (toI (CrcMath.step S)) l n i (j + 1)) (fun k => ?_) (ih (CrcMath.step S) (j + 1) (by omega) (by omega) h)
    simp only [crc_More.l1]
    rw [if_pos (by omega), w64_lt (by omega) (by omega), low]
    cases hs : S.getLsbD 0 with
    | true => simp only [if_true]; rw [step_on hs]
    | false => rw [if_neg (by simp), step_off hs]

theorem more_l0 (l : List Int) (hl : l.length < 4611686018427387904) (rest : List Int) : ∀ (pre : List Int) (S : W), l = pre ++ rest → Bytes rest →
    Ev (fun k => crc_More.l0 k (toI S) l (l.length : Int) (pre.length : Int)) (toI (~~~ (CrcMath.run S rest))) := by
  induction rest with
  | nil =>
    intro pre S e _
    refine Ev.step (f := fun _ => some (toI (~~~ S))) (fun k => ?_) (Ev.now _)
    simp only [crc_More.l0]
    have : l.length = pre.length := by rw [e]; simp
    rw [if_neg (by omega), not_toI]
  | cons x rest ih =>
    intro pre S e hb
    have hx := hb x (by simp)
    have hlen : l.length = pre.length + (rest.length + 1) := by rw [e]; simp
    have hrd : rd l (pre.length : Int) = x := by
      unfold rd
      rw [Int.toNat_natCast, e]
      simp [List.getD_eq_getElem?_getD]
    refine Ev.step (f := fun k => crc_More.l1 k (toI (S ^^^ BitVec.ofInt 32 x)) l (l.length : Int) (pre.length : Int) 0) (fun k => ?_) ?_
    · simp only [crc_More.l0]
      rw [if_pos (by omega), if_pos (by omega), if_pos (by omega), hrd, Int.emod_eq_of_lt hx.1 (by omega)]
      rw [← toI_of hx.1 (by omega : x < 4294967296), xor_toI, toI_of hx.1 (by omega)]
    · refine more_l1 l _ _ _ 8 _ 0 (by omega) (by omega) ?_
      have h := ih (pre ++ [x]) (byteStep S x) (by rw [e]; simp) (fun y hy => hb y (by simp [hy]))
      have e2 : ((pre ++ [x]).length : Int) = wrap64 ((pre.length : Int) + 1) := by
        rw [w64_lt (by omega) (by omega)]; simp
      rw [e2] at h
      exact h

theorem more_ev (S : W) (l : List Int) (hl : l.length < 4611686018427387904) (hb : Bytes l) : Ev (fun k => crc_More.f k (toI S) l) (toI (moreW S l)) := by
  have h := more_l0 l hl l [] (~~~ S) rfl hb
  refine Ev.congr (fun k => ?_) h
  unfold crc_More.f
  rw [not_toI]; rfl

theorem sum_ev (l : List Int) (hl : l.length < 4611686018427387904) (hb : Bytes l) : Ev (fun k => crc_Sum.f k l) (toI (sumW l)) := by
  have h := more_ev 0 l hl hb
  unfold crc_Sum.f
  exact Ev.bind (g := fun k => crc_More.f k 0 l) (f := fun _ t => some t) h (Ev.now _)

theorem or_step (s x : Nat) (i : Nat) (hi : i < 4) (hs : s < 2 ^ (8 * i)) (hx : x < 256) :
    Go.bits .or .u32 (s : Int) (shl .u32 ((x : Int) % 4294967296) (wrap64 (8 * (i : Int)))) = ((s + x * 2 ^ (8 * i) : Nat) : Int) := by
  have e0 : wrap64 (8 * (i : Int)) = ((8 * i : Nat) : Int) := by rw [w64_lt (by omega) (by omega)]; omega
  have hp : x * 2 ^ (8 * i) < 4294967296 := by
    have h2 : (2 : Nat) ^ (8 * i) ≤ 2 ^ 24 := Nat.pow_le_pow_right (by omega) (by omega)
    have h3 : x * 2 ^ (8 * i) ≤ 255 * 2 ^ 24 := Nat.mul_le_mul (by omega) h2
    omega
  have e1 : shl .u32 ((x : Int) % 4294967296) (wrap64 (8 * (i : Int))) = ((x * 2 ^ (8 * i) : Nat) : Int) := by
    rw [e0]
    unfold shl
    rw [Int.toNat_natCast, Nat.min_eq_left (by show 8 * i ≤ 32; omega), IntKind.wrap_u32', Int.emod_eq_of_lt (by omega : (0 : Int) ≤ (x : Int)) (by omega)]
    have h4 : (x : Int) * 2 ^ (8 * i) = ((x * 2 ^ (8 * i) : Nat) : Int) := by simp
    rw [h4]
    generalize x * 2 ^ (8 * i) = q at hp ⊢
    omega
  have hs2 : s < 4294967296 := by
    have h2 : (2 : Nat) ^ (8 * i) ≤ 2 ^ 24 := Nat.pow_le_pow_right (by omega) (by omega)
    omega
  rw [e1, u32_or_nat _ _ hs2 hp, Nat.or_comm, ← Nat.shiftLeft_eq, ← Nat.shiftLeft_add_eq_or_of_lt hs, Nat.add_comm]

theorem read_step (t : List Int) (h4 : t.length = 4) (s : Nat) (i : Nat) (r : Int × Bool) (x : Nat) (hx : rd t (i : Int) = (x : Int)) (hxb : x < 256) (hi : i < 4) (hs : s < 2 ^ (8 * i))
    (h : Ev (fun k => crc_Read.l0 k ((s + x * 2 ^ (8 * i) : Nat) : Int) t 4 ((i + 1 : Nat) : Int)) r) : Ev (fun k => crc_Read.l0 k (s : Int) t 4 (i : Int)) r := by
  refine Ev.step (f := fun k => crc_Read.l0 k ((s + x * 2 ^ (8 * i) : Nat) : Int) t 4 ((i + 1 : Nat) : Int)) (fun k => ?_) h
  simp only [crc_Read.l0]
  have ew : wrap64 ((i : Int) + 1) = ((i + 1 : Nat) : Int) := by rw [w64_lt (by omega) (by omega)]; omega
  have e1 : (i : Int) < 4 := by omega
  have e2 : (i : Int) < (t.length : Int) := by omega
  have e3 : (0 : Int) ≤ wrap64 (8 * (i : Int)) := by rw [w64_lt (by omega) (by omega)]; omega
  rw [if_pos e1, if_pos (Int.natCast_nonneg i), if_pos e2, if_pos e3, hx, or_step s x i hi hs hxb, ew]

theorem read_end (t : List Int) (v : Int) : Ev (fun k => crc_Read.l0 k v t 4 ((4 : Nat) : Int)) (v, true) := by
  refine Ev.step (f := fun _ => some (v, true)) (fun k => ?_) (Ev.now _)
  simp only [crc_Read.l0]
  rw [if_neg (by omega)]

theorem read_nat (a b c d : Nat) (ha : a < 256) (hb : b < 256) (hc : c < 256) (hd : d < 256) :
    Ev (fun k => crc_Read.l0 k ((0 : Nat) : Int) [(a : Int), b, c, d] 4 ((0 : Nat) : Int)) (((0 + a * 2 ^ (8 * 0) + b * 2 ^ (8 * 1) + c * 2 ^ (8 * 2) + d * 2 ^ (8 * 3) : Nat) : Int), true) := by
  have l4 : [(a : Int), b, c, d].length = 4 := rfl
  refine read_step _ l4 0 0 _ a rfl ha (by decide) (by decide) ?_
  refine read_step _ l4 _ 1 _ b rfl hb (by decide) (by clear l4; omega) ?_
  refine read_step _ l4 _ 2 _ c rfl hc (by decide) (by clear l4; omega) ?_
  refine read_step _ l4 _ 3 _ d rfl hd (by decide) (by clear l4; omega) ?_
  exact read_end _ _

theorem read_ev (t : List Int) (hb : Bytes t) (h : t.length = 4) : Ev (fun k => crc_Read.f k t) (rd4 t, true) := by
  obtain ⟨a, b, c, d, rfl⟩ := four h
  have h0 := hb a (by simp); have h1 := hb b (by simp); have h2 := hb c (by simp); have h3 := hb d (by simp)
  obtain ⟨a, rfl⟩ := Int.eq_ofNat_of_zero_le h0.1
  obtain ⟨b, rfl⟩ := Int.eq_ofNat_of_zero_le h1.1
  obtain ⟨c, rfl⟩ := Int.eq_ofNat_of_zero_le h2.1
  obtain ⟨d, rfl⟩ := Int.eq_ofNat_of_zero_le h3.1
  clear hb
  have e : ((0 + a * 2 ^ (8 * 0) + b * 2 ^ (8 * 1) + c * 2 ^ (8 * 2) + d * 2 ^ (8 * 3) : Nat) : Int) = rd4 [(a : Int), b, c, d] := by simp only [rd4]; omega
  have hr := read_nat a b c d (by omega) (by omega) (by omega) (by omega)
  rw [e] at hr
  refine Ev.congr (fun k => ?_) hr
  unfold crc_Read.f
  rw [if_pos (by rw [h]; rfl)]
  rfl
theorem bytes_some (v : Int) : crc_Bytes.f v = some (le4 v) := rfl

theorem i64_or_nat (a b : Nat) (ha : a < 9223372036854775808) (hb : b < 9223372036854775808) : Go.bits .or .i64 (a : Int) (b : Int) = ((a ||| b : Nat) : Int) := by
  have hx : a ||| b < 2 ^ 63 := Nat.or_lt_two_pow (by omega) (by omega)
  show IntKind.i64.wrap ((BitVec.ofInt 64 (a : Int) ||| BitVec.ofInt 64 (b : Int)).toNat : Int) = _
  rw [BitVec.toNat_or, ofInt_u64 a (by omega), ofInt_u64 b (by omega), IntKind.wrap_i64]
  omega
theorem or_add (s x i : Nat) (hs : s < 2 ^ i) : s ||| x * 2 ^ i = s + x * 2 ^ i := by
  rw [Nat.or_comm, ← Nat.shiftLeft_eq, ← Nat.shiftLeft_add_eq_or_of_lt hs, Nat.add_comm]
theorem take_four (l : List Int) (n : Nat) (h : n + 4 ≤ l.length) : (l.drop n).take 4 = [rd l n, rd l ((n + 1 : Nat) : Int), rd l ((n + 2 : Nat) : Int), rd l ((n + 3 : Nat) : Int)] := by
  have g : ∀ i : Nat, (hi : i < l.length) → rd l (i : Int) = l[i] := fun i hi => by
    unfold rd
    rw [Int.toNat_natCast, List.getD_eq_getElem?_getD, List.getElem?_eq_getElem hi]
    rfl
  rw [g n (by omega), g (n + 1) (by omega), g (n + 2) (by omega), g (n + 3) (by omega)]
  rw [List.drop_eq_getElem_cons (by omega : n < l.length), List.drop_eq_getElem_cons (by omega : n + 1 < l.length), List.drop_eq_getElem_cons (by omega : n + 1 + 1 < l.length), List.drop_eq_getElem_cons (by omega : n + 1 + 1 + 1 < l.length)]
  rfl
theorem rd_byte {l : List Int} (h : Bytes l) (i : Nat) (h1 : i < l.length) : ∃ x : Nat, rd l (i : Int) = (x : Int) ∧ x < 256 := by
  have : 0 ≤ rd l i ∧ rd l i < 256 := by
    unfold rd
    rw [Int.toNat_natCast, List.getD_eq_getElem?_getD, List.getElem?_eq_getElem h1]
    exact h _ (List.getElem_mem _)
  obtain ⟨x, hx⟩ := Int.eq_ofNat_of_zero_le this.1
  exact ⟨x, hx, by omega⟩

theorem nextw (i : Nat) (h : i < 1000000) : wrap64 ((i : Int) + 1) = ((i + 1 : Nat) : Int) := by rw [w64_lt (by omega) (by omega)]; omega

def verB (v : S72) : Bool := (journal_version.f v.f0 v.f1 v.f2 v.f3).getD false
theorem version_some (v : S72) : journal_version.f v.f0 v.f1 v.f2 v.f3 = some (verB v) := by
  have h : ∃ b, journal_version.f v.f0 v.f1 v.f2 v.f3 = some b := by
    unfold journal_version.f
    repeat' split
    all_goals exact ⟨_, rfl⟩
  obtain ⟨b, h⟩ := h
  unfold verB
  rw [h]; rfl
theorem mayVersion_some (v : S72) : strongboxref4_MayVersion.f v.f0 v.f1 v.f2 v.f3 = some (verB v) := by
  rw [← version_some]
  unfold strongboxref4_MayVersion.f journal_version.f
  by_cases h1 : v.f0 < 0
  · rw [if_neg (by omega), if_pos h1]
  rw [if_pos (by omega), if_neg h1]
  by_cases h2 : v.f0 > 2147483647
  · rw [if_neg (by omega), if_pos h2]
  rw [if_pos (by omega), if_neg h2]
  by_cases h3 : v.f2 < 0
  · rw [if_neg (by omega), if_pos h3]
  rw [if_pos (by omega), if_neg h3]
  by_cases h4 : v.f2 > 65536
  · rw [if_neg (by omega), if_pos h4]
  rw [if_pos (by omega), if_neg h4]
theorem verB_id {v : S72} (h : verB v = true) : 0 ≤ v.f0 ∧ v.f0 ≤ 2147483647 := by
  have := version_some v
  rw [h] at this
  unfold journal_version.f at this
  by_cases h1 : v.f0 < 0
  · rw [if_pos h1] at this; cases this
  by_cases h2 : v.f0 > 2147483647
  · rw [if_neg h1, if_pos h2] at this; cases this
  omega
/-- Versions that may be, with rising ids. -/
def okFrom (last : Int) : List S72 → Bool
  | [] => true
  | v :: t => verB v && decide (last < v.f0) && okFrom v.f0 t
theorem rd_at (l : List S72) (i : Nat) (v : S72) (t : List S72) (h : l.drop i = v :: t) : rd_T72 l (i : Int) = v ∧ i < l.length ∧ l.drop (i + 1) = t := by
  have hi : i < l.length := by
    rcases Nat.lt_or_ge i l.length with h1 | h1
    · exact h1
    · rw [List.drop_eq_nil_of_le h1] at h; cases h
  rw [List.drop_eq_getElem_cons hi] at h
  injection h with h1 h2
  refine ⟨?_, hi, h2⟩
  unfold rd_T72
  rw [Int.toNat_natCast, List.getD_eq_getElem?_getD, List.getElem?_eq_getElem hi, ← h1]; rfl
theorem jmay_l0 (l : List S72) (hl : l.length < 4611686018427387904) (d : Nat) : ∀ (i : Nat) (last : Int), i + d = l.length →
    Ev (fun k => journal_May.l0 k last l (l.length : Int) (i : Int)) (okFrom last (l.drop i)) := by
  induction d with
  | zero =>
    intro i last hi
    refine Ev.step (f := fun _ => some true) (fun k => ?_) ?_
    · rw [journal_May.l0, if_neg (by omega)]
    · rw [List.drop_eq_nil_of_le (by omega)]; exact Ev.now _
  | succ d ih =>
    intro i last hi
    obtain ⟨v, t, hd⟩ : ∃ v t, l.drop i = v :: t := by
      rw [List.drop_eq_getElem_cons (by omega)]; exact ⟨_, _, rfl⟩
    obtain ⟨h1, h2, h3⟩ := rd_at l i v t hd
    have ew : wrap64 ((i : Int) + 1) = ((i + 1 : Nat) : Int) := by rw [w64_lt (by omega) (by omega)]; omega
    rw [hd, okFrom]
    cases hv : verB v with
    | false =>
      refine Ev.step (f := fun _ => some false) (fun k => ?_) (Ev.now _)
      rw [journal_May.l0, if_pos (by omega), if_pos (by omega), if_pos (by omega), h1, version_some, hv, Option.bind_some, if_neg (by decide)]
    | true =>
      by_cases hlt : last < v.f0
      · rw [decide_eq_true hlt]
        refine Ev.step (f := fun k => journal_May.l0 k v.f0 l (l.length : Int) ((i + 1 : Nat) : Int)) (fun k => ?_) ?_
        · rw [journal_May.l0, if_pos (by omega), if_pos (by omega), if_pos (by omega), h1, version_some, hv, Option.bind_some, if_pos rfl, if_neg (by omega), ew]
        · have := ih (i + 1) v.f0 (by omega)
          rw [h3] at this
          exact this
      · rw [decide_eq_false hlt]
        refine Ev.step (f := fun _ => some false) (fun k => ?_) (Ev.now _)
        rw [journal_May.l0, if_pos (by omega), if_pos (by omega), if_pos (by omega), h1, version_some, hv, Option.bind_some, if_pos rfl, if_pos (by omega)]
theorem rmay_l0 (l : List S72) (hl : l.length < 4611686018427387904) (tg : Int) (nm : ByteArray) (d : Nat) : ∀ (i : Nat), i + d = l.length →
    Ev (fun k => strongboxref4_May.l0 k (i : Int) tg nm l) (okFrom (if i = 0 then -1 else (rd_T72 l ((i - 1 : Nat) : Int)).f0) (l.drop i)) := by
  induction d with
  | zero =>
    intro i hi
    refine Ev.step (f := fun _ => some true) (fun k => ?_) ?_
    · rw [strongboxref4_May.l0, if_neg (by omega)]
    · rw [List.drop_eq_nil_of_le (by omega)]; exact Ev.now _
  | succ d ih =>
    intro i hi
    obtain ⟨v, t, hd⟩ : ∃ v t, l.drop i = v :: t := by
      rw [List.drop_eq_getElem_cons (by omega)]; exact ⟨_, _, rfl⟩
    obtain ⟨h1, h2, h3⟩ := rd_at l i v t hd
    have ew : wrap64 ((i : Int) + 1) = ((i + 1 : Nat) : Int) := by rw [w64_lt (by omega) (by omega)]; omega
    have nx := ih (i + 1) (by omega)
    rw [if_neg (by omega), Nat.add_sub_cancel, h1, h3] at nx
    rw [hd, okFrom]
    cases hv : verB v with
    | false =>
      refine Ev.step (f := fun _ => some false) (fun k => ?_) (Ev.now _)
      rw [strongboxref4_May.l0, if_pos (by omega), if_pos (by omega), h1, mayVersion_some, hv, Option.bind_some, if_neg (by decide)]
    | true =>
      by_cases h0 : i = 0
      · subst h0
        rw [if_pos rfl, decide_eq_true (show (-1 : Int) < v.f0 by have := verB_id hv; omega)]
        refine Ev.step (f := fun k => strongboxref4_May.l0 k ((0 + 1 : Nat) : Int) tg nm l) (fun k => ?_) nx
        rw [strongboxref4_May.l0, if_pos (by omega), if_pos (by omega), h1, mayVersion_some, hv, Option.bind_some, if_pos rfl, if_neg (by omega), ew]
      · rw [if_neg h0]
        have em : wrap64 ((i : Int) - 1) = ((i - 1 : Nat) : Int) := by rw [w64_lt (by omega) (by omega)]; omega
        by_cases hlt : (rd_T72 l ((i - 1 : Nat) : Int)).f0 < v.f0
        · rw [decide_eq_true hlt]
          refine Ev.step (f := fun k => strongboxref4_May.l0 k ((i + 1 : Nat) : Int) tg nm l) (fun k => ?_) nx
          rw [strongboxref4_May.l0, if_pos (by omega), if_pos (by omega), h1, mayVersion_some, hv, Option.bind_some, if_pos rfl, if_pos (by omega), em, if_pos (by omega), if_pos (by omega), if_neg (by omega), ew]
        · rw [decide_eq_false hlt]
          refine Ev.step (f := fun _ => some false) (fun k => ?_) (Ev.now _)
          rw [strongboxref4_May.l0, if_pos (by omega), if_pos (by omega), h1, mayVersion_some, hv, Option.bind_some, if_pos rfl, if_pos (by omega), em, if_pos (by omega), if_pos (by omega), if_pos (by omega)]
/-- A journal that may be. -/
def mayJ (tg : Int) (nm : ByteArray) (l : List S72) : Bool := decide (0 ≤ tg ∧ tg ≤ 2147483647 ∧ nm.size ≤ 600 ∧ l.length ≤ 64) && okFrom (-1) l
theorem jmay_ev (tg : Int) (nm : ByteArray) (l : List S72) (hl : l.length < 4611686018427387904) : Ev (fun k => journal_May.f k tg nm l) (mayJ tg nm l) := by
  have nt : ∀ b, b = true → ¬ (0 ≤ tg ∧ tg ≤ 2147483647 ∧ nm.size ≤ 600 ∧ l.length ≤ 64) → Ev (fun k => journal_May.j0 k b tg nm l) (mayJ tg nm l) := fun b hb hn => by
    unfold mayJ
    rw [decide_eq_false hn, hb]
    exact Ev.step (f := fun _ => some false) (fun k => by rw [journal_May.j0, if_pos rfl]) (Ev.now _)
  unfold journal_May.f
  by_cases h1 : tg < 0
  · simp only [if_pos h1]; exact nt _ rfl (by omega)
  simp only [if_neg h1]
  by_cases h2 : tg > 2147483647
  · simp only [if_pos h2]; exact nt _ rfl (by omega)
  simp only [if_neg h2]
  by_cases h3 : (nm.size : Int) > 600
  · simp only [if_pos h3]; exact nt _ rfl (by omega)
  simp only [if_neg h3]
  by_cases h4 : (l.length : Int) > 64
  · exact nt _ (decide_eq_true h4) (by omega)
  · rw [decide_eq_false h4]
    have := jmay_l0 l hl l.length 0 (-1) (by omega)
    unfold mayJ
    rw [decide_eq_true (by omega)]
    refine Ev.step (f := fun k => journal_May.l0 k (-1) l (l.length : Int) ((0 : Nat) : Int)) (fun k => ?_) this
    rw [journal_May.j0, if_neg (by decide)]; rfl
theorem rmay_ev (tg : Int) (nm : ByteArray) (l : List S72) (hl : l.length < 4611686018427387904) : Ev (fun k => strongboxref4_May.f k tg nm l) (mayJ tg nm l) := by
  have nt : ∀ b, b = true → ¬ (0 ≤ tg ∧ tg ≤ 2147483647 ∧ nm.size ≤ 600 ∧ l.length ≤ 64) → Ev (fun k => strongboxref4_May.j0 k b tg nm l) (mayJ tg nm l) := fun b hb hn => by
    unfold mayJ
    rw [decide_eq_false hn, hb]
    exact Ev.step (f := fun _ => some false) (fun k => by rw [strongboxref4_May.j0, if_pos rfl]) (Ev.now _)
  unfold strongboxref4_May.f
  by_cases h1 : tg < 0
  · simp only [if_pos h1]; exact nt _ rfl (by omega)
  simp only [if_neg h1]
  by_cases h2 : tg > 2147483647
  · simp only [if_pos h2]; exact nt _ rfl (by omega)
  simp only [if_neg h2]
  by_cases h3 : (nm.size : Int) > 600
  · simp only [if_pos h3]; exact nt _ rfl (by omega)
  simp only [if_neg h3]
  by_cases h4 : (l.length : Int) > 64
  · exact nt _ (decide_eq_true h4) (by omega)
  · rw [decide_eq_false h4]
    have := rmay_l0 l hl tg nm l.length 0 (by omega)
    unfold mayJ
    rw [decide_eq_true (by omega)]
    refine Ev.step (f := fun k => strongboxref4_May.l0 k ((0 : Nat) : Int) tg nm l) (fun k => ?_) this
    rw [strongboxref4_May.j0, if_neg (by decide)]; rfl

theorem rmore_l1 (l : List Int) (i : Int) (r : Int) (d : Nat) : ∀ (S : W) (j : Int), j + d = 8 → 0 ≤ j →
    Ev (fun k => strongboxref4_More.l0 k (toI (steps d S)) l (wrap64 (i + 1))) r → Ev (fun k => strongboxref4_More.l1 k (toI S) l i j) r := by
  induction d with
  | zero =>
    intro S j hj h0 h
    refine Ev.step (f := fun k => strongboxref4_More.l0 k (toI S) l (wrap64 (i + 1))) (fun k => ?_) h
    simp only [strongboxref4_More.l1]
    rw [if_neg (by omega)]
  | succ d ih =>
    intro S j hj h0 h
    refine Ev.step (f := fun k => strongboxref4_More.l1 k (toI (CrcMath.step S)) l i (j + 1)) (fun k => ?_) (ih (CrcMath.step S) (j + 1) (by omega) (by omega) h)
    simp only [strongboxref4_More.l1]
    rw [if_pos (by omega), w64_lt (by omega) (by omega), low]
    cases hs : S.getLsbD 0 with
    | true => simp only [if_true]; rw [step_on hs]
    | false => rw [if_neg (by simp), step_off hs]
theorem rmore_l0 (l : List Int) (hl : l.length < 4611686018427387904) (rest : List Int) : ∀ (pre : List Int) (S : W), l = pre ++ rest → Bytes rest →
    Ev (fun k => strongboxref4_More.l0 k (toI S) l (pre.length : Int)) (toI (~~~ (CrcMath.run S rest))) := by
  induction rest with
  | nil =>
    intro pre S e _
    refine Ev.step (f := fun _ => some (toI (~~~ S))) (fun k => ?_) (Ev.now _)
    simp only [strongboxref4_More.l0]
    have : l.length = pre.length := by rw [e]; simp
    rw [if_neg (by omega), not_toI]
  | cons x rest ih =>
    intro pre S e hb
    have hx := hb x (by simp)
    have hlen : l.length = pre.length + (rest.length + 1) := by rw [e]; simp
    have hrd : rd l (pre.length : Int) = x := by
      unfold rd
      rw [Int.toNat_natCast, e]
      simp [List.getD_eq_getElem?_getD]
    refine Ev.step (f := fun k => strongboxref4_More.l1 k (toI (S ^^^ BitVec.ofInt 32 x)) l (pre.length : Int) 0) (fun k => ?_) ?_
    · simp only [strongboxref4_More.l0]
      rw [if_pos (by omega), if_pos (by omega), hrd, Int.emod_eq_of_lt hx.1 (by omega)]
      rw [← toI_of hx.1 (by omega : x < 4294967296), xor_toI, toI_of hx.1 (by omega)]
    · refine rmore_l1 l _ _ 8 _ 0 (by omega) (by omega) ?_
      have h := ih (pre ++ [x]) (byteStep S x) (by rw [e]; simp) (fun y hy => hb y (by simp [hy]))
      have e2 : ((pre ++ [x]).length : Int) = wrap64 ((pre.length : Int) + 1) := by
        rw [w64_lt (by omega) (by omega)]; simp
      rw [e2] at h
      exact h
theorem rsum_ev (l : List Int) (hl : l.length < 4611686018427387904) (hb : Bytes l) : Ev (fun k => strongboxref4_Sum.f k l) (toI (sumW l)) := by
  have h := rmore_l0 l hl l [] (~~~ 0) rfl hb
  unfold strongboxref4_Sum.f
  refine Ev.bind (g := fun k => strongboxref4_More.f k 0 l) (f := fun _ t => some t) ?_ (Ev.now _)
  refine Ev.congr (fun k => ?_) h
  unfold strongboxref4_More.f
  have := not_toI 0
  have e0 : toI 0 = 0 := rfl
  rw [e0] at this
  rw [this]
  rfl

theorem rd_take (l : List Int) (n i : Nat) (h : i < n) : rd (l.take n) (i : Int) = rd l (i : Int) := by
  unfold rd
  rw [Int.toNat_natCast, List.getD_eq_getElem?_getD, List.getD_eq_getElem?_getD, List.getElem?_take, if_pos h]
theorem rd_drop (l : List Int) (p i : Nat) : rd (l.drop p) (i : Int) = rd l ((p + i : Nat) : Int) := by
  unfold rd
  rw [Int.toNat_natCast, Int.toNat_natCast, List.getD_eq_getElem?_getD, List.getD_eq_getElem?_getD, List.getElem?_drop]
theorem rd_range {l : List Int} (h : Bytes l) (i : Nat) (h1 : i < l.length) : 0 ≤ rd l (i : Int) ∧ rd l (i : Int) < 256 := by
  obtain ⟨x, e, hx⟩ := rd_byte h i h1
  omega
/-- The number of four bytes at a place, of two. -/
def num4 (l : List Int) (a : Nat) : Int := rd l (a : Int) + 256 * rd l ((a + 1 : Nat) : Int) + 65536 * rd l ((a + 2 : Nat) : Int) + 16777216 * rd l ((a + 3 : Nat) : Int)
def num2 (l : List Int) (a : Nat) : Int := rd l (a : Int) + 256 * rd l ((a + 1 : Nat) : Int)
theorem num4_range {l : List Int} (h : Bytes l) (a : Nat) (h1 : a + 4 ≤ l.length) : 0 ≤ num4 l a ∧ num4 l a < 4294967296 := by
  have := rd_range h a (by omega)
  have := rd_range h (a + 1) (by omega)
  have := rd_range h (a + 2) (by omega)
  have := rd_range h (a + 3) (by omega)
  unfold num4
  omega
theorem num2_range {l : List Int} (h : Bytes l) (a : Nat) (h1 : a + 2 ≤ l.length) : 0 ≤ num2 l a ∧ num2 l a < 65536 := by
  have := rd_range h a (by omega)
  have := rd_range h (a + 1) (by omega)
  unfold num2
  omega
theorem num4_take (l : List Int) (n a : Nat) (h : a + 4 ≤ n) : num4 (l.take n) a = num4 l a := by
  unfold num4
  rw [rd_take l n a (by omega), rd_take l n (a + 1) (by omega), rd_take l n (a + 2) (by omega), rd_take l n (a + 3) (by omega)]
theorem num2_take (l : List Int) (n a : Nat) (h : a + 2 ≤ n) : num2 (l.take n) a = num2 l a := by
  unfold num2
  rw [rd_take l n a (by omega), rd_take l n (a + 1) (by omega)]
theorem num4_drop (l : List Int) (p a : Nat) : num4 (l.drop p) a = num4 l (p + a) := by
  unfold num4
  rw [rd_drop, rd_drop, rd_drop, rd_drop]
  rfl
theorem num4_rd4 (l : List Int) (n : Nat) (h : l.length = n + 4) : rd4 (l.drop n) = num4 l n := by
  have e : l.drop n = (l.drop n).take 4 := (List.take_of_length_le (by rw [List.length_drop]; omega)).symm
  rw [e, take_four l n (by omega)]
  rfl
theorem or_place (s x : Nat) (i : Nat) (hi : i < 4) (hs : s < 2 ^ (8 * i)) (hx : x < 256) :
    Go.bits .or .i64 (s : Int) (shl .i64 (wrap64 (x : Int)) ((8 * i : Nat) : Int)) = ((s + x * 2 ^ (8 * i) : Nat) : Int) := by
  have hp : x * 2 ^ (8 * i) < 4294967296 := by
    have h2 : (2 : Nat) ^ (8 * i) ≤ 2 ^ 24 := Nat.pow_le_pow_right (by omega) (by omega)
    have h3 : x * 2 ^ (8 * i) ≤ 255 * 2 ^ 24 := Nat.mul_le_mul (by omega) h2
    omega
  have e1 : shl .i64 (wrap64 (x : Int)) ((8 * i : Nat) : Int) = ((x * 2 ^ (8 * i) : Nat) : Int) := by
    rw [w64_lt (by omega) (by omega : (x : Int) < _)]
    unfold shl
    rw [Int.toNat_natCast, Nat.min_eq_left (by show 8 * i ≤ 64; omega), IntKind.wrap_i64]
    have h4 : (x : Int) * 2 ^ (8 * i) = ((x * 2 ^ (8 * i) : Nat) : Int) := by simp
    rw [h4]
    generalize x * 2 ^ (8 * i) = q at hp ⊢
    omega
  have hs2 : s < 4294967296 := by
    have h2 : (2 : Nat) ^ (8 * i) ≤ 2 ^ 24 := Nat.pow_le_pow_right (by omega) (by omega)
    omega
  have hp2 : x * 2 ^ (8 * i) < 9223372036854775808 := Nat.lt_trans hp (by decide)
  have hs3 : s < 9223372036854775808 := Nat.lt_trans hs2 (by decide)
  rw [e1, i64_or_nat _ _ hs3 hp2, or_add s x (8 * i) hs]
theorem jget_step (l : List Int) (a w s x i : Nat) (k : Nat) (hx : rd l ((a + i : Nat) : Int) = (x : Int)) (hxb : x < 256) (hi : i < w) (hw : w ≤ 4) (hs : s < 2 ^ (8 * i)) (hl : a + i < l.length) (hl2 : l.length ≤ 1000000) :
    journal_get.l0 (k + 1) l (a : Int) (s : Int) (w : Int) (i : Int) = journal_get.l0 k l (a : Int) ((s + x * 2 ^ (8 * i) : Nat) : Int) (w : Int) ((i + 1 : Nat) : Int) := by
  have i4 : i < 4 := Nat.lt_of_lt_of_le hi hw
  have op := or_place s x i i4 hs hxb
  have c1 : (i : Int) < (w : Int) := Int.ofNat_lt.2 hi
  have c2 : (0 : Int) ≤ ((a + i : Nat) : Int) := Int.natCast_nonneg _
  have c3 : ((a + i : Nat) : Int) < (l.length : Int) := Int.ofNat_lt.2 hl
  have c4 : (0 : Int) ≤ ((8 * i : Nat) : Int) := Int.natCast_nonneg _
  have ew : wrap64 ((a : Int) + (i : Int)) = ((a + i : Nat) : Int) ∧ wrap64 (8 * (i : Int)) = ((8 * i : Nat) : Int) ∧ wrap64 ((i : Int) + 1) = ((i + 1 : Nat) : Int) := by
    clear op hx hs c1 c2 c3 c4
    refine ⟨?_, ?_, ?_⟩
    · rw [w64_lt (by omega) (by omega)]; omega
    · rw [w64_lt (by omega) (by omega)]; omega
    · rw [w64_lt (by omega) (by omega)]; omega
  rw [journal_get.l0, if_pos c1, ew.1, if_pos c2, if_pos c3, ew.2.1, if_pos c4, hx, op, ew.2.2]
theorem jget_end (l : List Int) (a w : Nat) (s : Int) (k : Nat) : journal_get.l0 (k + 1) l (a : Int) s (w : Int) (w : Int) = some s := by
  rw [journal_get.l0, if_neg (by omega)]
theorem jget4 {l : List Int} (h : Bytes l) (a : Nat) (h1 : a + 4 ≤ l.length) (hl : l.length ≤ 1000000) (k : Nat) : journal_get.f (k + 5) l (a : Int) 4 = some (num4 l a) := by
  obtain ⟨b0, e0, h0⟩ := rd_byte h (a + 0) (by omega)
  obtain ⟨b1, e1, h1'⟩ := rd_byte h (a + 1) (by omega)
  obtain ⟨b2, e2, h2⟩ := rd_byte h (a + 2) (by omega)
  obtain ⟨b3, e3, h3⟩ := rd_byte h (a + 3) (by omega)
  show journal_get.l0 (k + 5) l (a : Int) ((0 : Nat) : Int) ((4 : Nat) : Int) ((0 : Nat) : Int) = _
  rw [jget_step l a 4 0 b0 0 _ e0 h0 (by decide) (by decide) (by decide) (by omega) hl,
    jget_step l a 4 _ b1 1 _ e1 h1' (by decide) (by decide) (by clear e0 e1 e2 e3; omega) (by omega) hl,
    jget_step l a 4 _ b2 2 _ e2 h2 (by decide) (by decide) (by clear e0 e1 e2 e3; omega) (by omega) hl,
    jget_step l a 4 _ b3 3 _ e3 h3 (by decide) (by decide) (by clear e0 e1 e2 e3; omega) (by omega) hl]
  rw [show ((3 + 1 : Nat) : Int) = ((4 : Nat) : Int) from rfl, jget_end]
  unfold num4
  rw [show ((a : Nat) : Int) = ((a + 0 : Nat) : Int) from rfl, e0, e1, e2, e3]
  congr 1
  clear e0 e1 e2 e3
  omega
theorem jget2 {l : List Int} (h : Bytes l) (a : Nat) (h1 : a + 2 ≤ l.length) (hl : l.length ≤ 1000000) (k : Nat) : journal_get.f (k + 3) l (a : Int) 2 = some (num2 l a) := by
  obtain ⟨b0, e0, h0⟩ := rd_byte h (a + 0) (by omega)
  obtain ⟨b1, e1, h1'⟩ := rd_byte h (a + 1) (by omega)
  show journal_get.l0 (k + 3) l (a : Int) ((0 : Nat) : Int) ((2 : Nat) : Int) ((0 : Nat) : Int) = _
  rw [jget_step l a 2 0 b0 0 _ e0 h0 (by decide) (by decide) (by decide) (by omega) hl,
    jget_step l a 2 _ b1 1 _ e1 h1' (by decide) (by decide) (by clear e0 e1; omega) (by omega) hl]
  rw [show ((1 + 1 : Nat) : Int) = ((2 : Nat) : Int) from rfl, jget_end]
  unfold num2
  rw [show ((a : Nat) : Int) = ((a + 0 : Nat) : Int) from rfl, e0, e1]
  congr 1
  clear e0 e1
  omega
theorem jgv_num {l : List Int} (h : Bytes l) (a : Nat) (h1 : a + 4 ≤ l.length) (hl : l.length ≤ 1000000) : jgv l (a : Int) = num4 l a := by
  unfold jgv
  rw [jget4 h a h1 hl 0]
  rfl
theorem rget_step (l : List Int) (a s x i : Nat) (k : Nat) (hx : rd l ((a + i : Nat) : Int) = (x : Int)) (hxb : x < 256) (hi : i < 4) (hs : s < 16777216) (hl : a + i < l.length) (hl2 : l.length ≤ 1000000) :
    strongboxref4_get.l0 (k + 1) l (a : Int) (s : Int) (i : Int) = strongboxref4_get.l0 k l (a : Int) ((s * 256 + x : Nat) : Int) ((i : Int) - 1) := by
  have c1 : (i : Int) ≥ 0 := Int.natCast_nonneg _
  have c2 : (0 : Int) ≤ ((a + i : Nat) : Int) := Int.natCast_nonneg _
  have c3 : ((a + i : Nat) : Int) < (l.length : Int) := Int.ofNat_lt.2 hl
  have e5 : Go.bits .or .i64 ((s * 2 ^ 8 : Nat) : Int) (x : Int) = ((s * 256 + x : Nat) : Int) := by
    clear hx c1 c2 c3
    rw [i64_or_nat _ _ (by omega) (by omega), Nat.or_comm, or_add x s 8 hxb, Nat.add_comm]
  have ew : wrap64 ((a : Int) + (i : Int)) = ((a + i : Nat) : Int) ∧ wrap64 ((s : Int) * 256) = ((s * 2 ^ 8 : Nat) : Int) ∧ wrap64 ((i : Int) - 1) = (i : Int) - 1 ∧ wrap64 (x : Int) = (x : Int) := by
    clear hx c1 c2 c3 e5
    refine ⟨?_, ?_, ?_, ?_⟩
    · rw [w64_lt (by omega) (by omega)]; omega
    · rw [w64_lt (by omega) (by omega)]; omega
    · unfold wrap64; omega
    · exact w64_lt (by omega) (by omega)
  rw [strongboxref4_get.l0, if_pos c1, ew.1, if_pos c2, if_pos c3, ew.2.1, hx, ew.2.2.2, e5, ew.2.2.1]
theorem rget_end (l : List Int) (a : Nat) (s : Int) (k : Nat) : strongboxref4_get.l0 (k + 1) l (a : Int) s (((0 : Nat) : Int) - 1) = some s := by
  rw [strongboxref4_get.l0, if_neg (by omega)]
theorem rget4 {l : List Int} (h : Bytes l) (a : Nat) (h1 : a + 4 ≤ l.length) (hl : l.length ≤ 1000000) (k : Nat) : strongboxref4_get.f (k + 5) l (a : Int) 4 = some (num4 l a) := by
  obtain ⟨b0, e0, h0⟩ := rd_byte h (a + 0) (by omega)
  obtain ⟨b1, e1, h1'⟩ := rd_byte h (a + 1) (by omega)
  obtain ⟨b2, e2, h2⟩ := rd_byte h (a + 2) (by omega)
  obtain ⟨b3, e3, h3⟩ := rd_byte h (a + 3) (by omega)
  have ew : wrap64 (4 - 1) = ((3 : Nat) : Int) := by unfold wrap64; omega
  unfold strongboxref4_get.f
  rw [ew]
  show strongboxref4_get.l0 (k + 5) l (a : Int) ((0 : Nat) : Int) ((3 : Nat) : Int) = _
  rw [rget_step l a 0 b3 3 _ e3 h3 (by decide) (by decide) (by omega) hl, show ((3 : Nat) : Int) - 1 = ((2 : Nat) : Int) from rfl,
    rget_step l a _ b2 2 _ e2 h2 (by decide) (by clear e0 e1 e2 e3 ew; omega) (by omega) hl, show ((2 : Nat) : Int) - 1 = ((1 : Nat) : Int) from rfl,
    rget_step l a _ b1 1 _ e1 h1' (by decide) (by clear e0 e1 e2 e3 ew; omega) (by omega) hl, show ((1 : Nat) : Int) - 1 = ((0 : Nat) : Int) from rfl,
    rget_step l a _ b0 0 _ e0 h0 (by decide) (by clear e0 e1 e2 e3 ew; omega) (by omega) hl, rget_end]
  unfold num4
  rw [show ((a : Nat) : Int) = ((a + 0 : Nat) : Int) from rfl, e0, e1, e2, e3]
  congr 1
  clear e0 e1 e2 e3 ew
  omega
theorem rget2 {l : List Int} (h : Bytes l) (a : Nat) (h1 : a + 2 ≤ l.length) (hl : l.length ≤ 1000000) (k : Nat) : strongboxref4_get.f (k + 3) l (a : Int) 2 = some (num2 l a) := by
  obtain ⟨b0, e0, h0⟩ := rd_byte h (a + 0) (by omega)
  obtain ⟨b1, e1, h1'⟩ := rd_byte h (a + 1) (by omega)
  have ew : wrap64 (2 - 1) = ((1 : Nat) : Int) := by unfold wrap64; omega
  unfold strongboxref4_get.f
  rw [ew]
  show strongboxref4_get.l0 (k + 3) l (a : Int) ((0 : Nat) : Int) ((1 : Nat) : Int) = _
  rw [rget_step l a _ b1 1 _ e1 h1' (by decide) (by decide) (by omega) hl, show ((1 : Nat) : Int) - 1 = ((0 : Nat) : Int) from rfl,
    rget_step l a _ b0 0 _ e0 h0 (by decide) (by clear e0 e1 ew; omega) (by omega) hl, rget_end]
  unfold num2
  rw [show ((a : Nat) : Int) = ((a + 0 : Nat) : Int) from rfl, e0, e1]
  congr 1
  clear e0 e1 ew
  omega
/-- The version at a place. -/
def verAt (l : List Int) (p : Nat) : S72 := ⟨num4 l p, rd l ((p + 4 : Nat) : Int) == 1, num4 l (p + 5), num4 l (p + 9) % 4294967296⟩
/-- No fifth byte is above one. -/
def okMark (l : List Int) (o m : Nat) : Bool := (List.range m).all fun i => decide (rd l ((o + i * 13 + 4 : Nat) : Int) ≤ 1)
def versAt (l : List Int) (o m : Nat) : List S72 := (List.range m).map fun i => verAt l (o + i * 13)
theorem versAt_length (l : List Int) (o m : Nat) : (versAt l o m).length = m := by unfold versAt; rw [List.length_map, List.length_range]
theorem jver_at {l : List Int} (h : Bytes l) (o i : Nat) (hi : o + i * 13 + 13 ≤ l.length) (hl : l.length ≤ 1000000) : jver (jpiece (l.drop o) i) = verAt l (o + i * 13) ∧ rd (jpiece (l.drop o) i) 4 = rd l ((o + i * 13 + 4 : Nat) : Int) := by
  have e1 : (jpiece (l.drop o) i).length = 13 := by unfold jpiece; rw [List.length_take, List.length_drop, List.length_drop]; omega
  have e2 : Bytes (jpiece (l.drop o) i) := h.sub fun x hx => List.mem_of_mem_drop (List.mem_of_mem_drop (List.mem_of_mem_take hx))
  have er : rd (jpiece (l.drop o) i) 4 = rd l ((o + i * 13 + 4 : Nat) : Int) := by
    show rd (jpiece (l.drop o) i) ((4 : Nat) : Int) = _
    unfold jpiece
    rw [rd_take _ 13 4 (by decide), rd_drop, rd_drop, Nat.add_assoc]
  have en : ∀ a : Nat, a + 4 ≤ 13 → jgv (jpiece (l.drop o) i) (a : Int) = num4 l (o + i * 13 + a) := fun a ha => by
    rw [jgv_num e2 a (by omega) (by omega)]
    unfold jpiece
    rw [num4_take _ 13 a ha, num4_drop, num4_drop, Nat.add_assoc]
  refine ⟨?_, er⟩
  unfold jver verAt
  have n0 := en 0 (by decide)
  have n5 := en 5 (by decide)
  have n9 := en 9 (by decide)
  have n0' : jgv (jpiece (l.drop o) i) 0 = num4 l (o + i * 13) := n0
  have n5' : jgv (jpiece (l.drop o) i) 5 = num4 l (o + i * 13 + 5) := n5
  have n9' : jgv (jpiece (l.drop o) i) 9 = num4 l (o + i * 13 + 9) := n9
  rw [n0', n5', n9', er]
theorem versions_at {l : List Int} (h : Bytes l) (o m : Nat) (hm : l.length = o + 13 * m) (hl : l.length ≤ 262144) (k : Nat) :
    journal_versions.f k (l.drop o) = some (if okMark l o m = true then (versAt l o m, true) else ([], false)) := by
  have e1 : (l.drop o).length = 13 * m := by rw [List.length_drop]; omega
  have e2 : 13 * m / 13 = m := by omega
  have hc : ∀ i, i ∈ List.range m → jver (jpiece (l.drop o) i) = verAt l (o + i * 13) ∧ rd (jpiece (l.drop o) i) 4 = rd l ((o + i * 13 + 4 : Nat) : Int) := fun i hi => jver_at h o i (by have := List.mem_range.1 hi; omega) (by omega)
  have ea : (List.range m).all (fun i => decide (rd (jpiece (l.drop o) i) 4 ≤ 1)) = okMark l o m := by
    unfold okMark
    rw [Bool.eq_iff_iff, List.all_eq_true, List.all_eq_true]
    constructor
    · intro g i hi; rw [← (hc i hi).2]; exact g i hi
    · intro g i hi; rw [(hc i hi).2]; exact g i hi
  have em : (List.range m).map (fun i => jver (jpiece (l.drop o) i)) = versAt l o m := List.map_congr_left fun i hi => (hc i hi).1
  unfold journal_versions.f
  rw [e1, if_pos (by omega), if_pos (by omega), e2, ea, em]
  split <;> rfl
/-- What Decode answers. -/
def errJ (e : Int) : Int × ByteArray × List S72 × Int := (0, (⟨#[]⟩ : ByteArray), ([] : List S72), e)
def nameAt (l : List Int) (q : Nat) : ByteArray := strOfNums ((l.take (10 + q)).drop 10)
def decT (l : List Int) (q m : Nat) : Int × ByteArray × List S72 × Int :=
  if okMark l (11 + q) m = true then (if mayJ (num4 l 4) (nameAt l q) (versAt l (11 + q) m) = true then (num4 l 4, nameAt l q, versAt l (11 + q) m, 0) else errJ 4) else errJ 4
def formJ (l : List Int) (n q m : Nat) : Prop := (strOfNums (l.take 4)).toList = ([83, 66, 74, 49] : List UInt8) ∧ 11 + q ≤ n ∧ n = 11 + q + 13 * m
instance (l : List Int) (n q m : Nat) : Decidable (formJ l n q m) := by unfold formJ; exact inferInstance
def decR (l : List Int) : Int × ByteArray × List S72 × Int :=
  if l.length > 262144 then errJ 3 else if l.length < 15 then errJ 2 else
  if num4 l (l.length - 4) = toI (sumW (l.take (l.length - 4))) then
    (if formJ l (l.length - 4) (num2 l 8).toNat (rd l ((10 + (num2 l 8).toNat : Nat) : Int)).toNat then decT l (num2 l 8).toNat (rd l ((10 + (num2 l 8).toNat : Nat) : Int)).toNat else errJ 4)
  else errJ 5
theorem take_take_min (l : List Int) (n m : Nat) (h : m ≤ n) : (l.take n).take m = l.take m := by rw [List.take_take, Nat.min_eq_left h]
theorem okMark_take (l : List Int) (n o m : Nat) (h : o + 13 * m ≤ n) : okMark (l.take n) o m = okMark l o m := by
  unfold okMark
  rw [Bool.eq_iff_iff, List.all_eq_true, List.all_eq_true]
  constructor
  · intro g i hi
    have hi' := List.mem_range.1 hi
    rw [← rd_take l n _ (by omega)]; exact g i hi
  · intro g i hi
    have hi' := List.mem_range.1 hi
    rw [rd_take l n _ (by omega)]; exact g i hi
theorem versAt_take (l : List Int) (n o m : Nat) (h : o + 13 * m ≤ n) : versAt (l.take n) o m = versAt l o m := by
  unfold versAt
  refine List.map_congr_left fun i hi => ?_
  have hi' := List.mem_range.1 hi
  unfold verAt
  rw [num4_take l n _ (by omega), num4_take l n _ (by omega), num4_take l n _ (by omega), rd_take l n _ (by omega)]
theorem jdec_tail {l : List Int} (h : Bytes l) (n q m : Nat) (hn : n ≤ l.length) (hl : l.length ≤ 262144) (hf : n = 11 + q + 13 * m) :
    Ev (fun k => journal_Decode.j0 k (l.take n) ((10 + q : Nat) : Int) false) (decT l q m) := by
  have hb : Bytes (l.take n) := h.sub fun x hx => List.mem_of_mem_take hx
  have hlen : (l.take n).length = n := by rw [List.length_take]; omega
  have e1 : wrap64 (((10 + q : Nat) : Int) + 1) = ((11 + q : Nat) : Int) := by rw [w64_lt (by omega) (by omega)]; omega
  have c1 : (0 : Int) ≤ ((11 + q : Nat) : Int) := Int.natCast_nonneg _
  have c2 : ((11 + q : Nat) : Int) ≤ ((l.take n).length : Int) := by rw [hlen]; clear e1; omega
  have c3 : (10 : Int) ≤ ((10 + q : Nat) : Int) := by clear e1; omega
  have c4 : ((10 + q : Nat) : Int) ≤ ((l.take n).length : Int) := by rw [hlen]; clear e1; omega
  have hv := versions_at hb (11 + q) m (by rw [hlen]; exact hf) (by rw [hlen]; omega)
  rw [okMark_take l n _ _ (by omega), versAt_take l n _ _ (by omega)] at hv
  have hg := jget4 hb 4 (by rw [hlen]; omega) (by rw [hlen]; omega)
  rw [num4_take l n 4 (by omega)] at hg
  obtain ⟨K, gm⟩ := jmay_ev (num4 l 4) (nameAt l q) (versAt l (11 + q) m) (by rw [versAt_length]; omega)
  refine ⟨K + 6, fun k hk => ?_⟩
  obtain ⟨k, rfl⟩ : ∃ j, k = j + 6 := ⟨k - 6, by clear e1; omega⟩
  have gm := gm (k + 5) (by clear e1; omega)
  simp only at gm
  have hg' : journal_get.f (k + 5) (l.take n) 4 4 = some (num4 l 4) := hg k
  show journal_Decode.j0 (k + 5 + 1) (l.take n) ((10 + q : Nat) : Int) false = _
  rw [journal_Decode.j0, if_neg (by decide), e1, if_pos c1, if_pos c2, Int.toNat_natCast, hv (k + 5), Option.bind_some, hg', Option.bind_some, if_pos c3, if_pos c4, Option.bind_some, Int.toNat_natCast, take_take_min l n (10 + q) (by clear e1; omega)]
  unfold decT
  by_cases hok : okMark l (11 + q) m = true
  · rw [if_pos hok, if_pos hok, if_pos rfl]
    have gm' : journal_May.f (k + 5) (num4 l 4) (strOfNums ((l.take (10 + q)).drop 10)) (versAt l (11 + q) m) = some (mayJ (num4 l 4) (nameAt l q) (versAt l (11 + q) m)) := gm
    rw [gm', Option.bind_some]
    by_cases hm : mayJ (num4 l 4) (nameAt l q) (versAt l (11 + q) m) = true
    · rw [if_pos hm, if_pos hm]; rfl
    · rw [if_neg hm, if_neg hm]; rfl
  · rw [if_neg hok, if_neg hok, if_neg (by decide)]; rfl
theorem jdec_true (l : List Int) (q : Int) : Ev (fun k => journal_Decode.j0 k l q true) (errJ 4) :=
  Ev.step (f := fun _ => some (errJ 4)) (fun k => by rw [journal_Decode.j0, if_pos rfl]; rfl) (Ev.now _)
theorem form_w (q m : Nat) (hq : q < 65536) (hm : m < 256) : wrap64 (m : Int) = (m : Int) ∧ wrap64 (13 * (m : Int)) = ((13 * m : Nat) : Int) ∧ wrap64 (((11 + q : Nat) : Int) + ((13 * m : Nat) : Int)) = ((11 + q + 13 * m : Nat) : Int) := by
  refine ⟨?_, ?_, ?_⟩
  · exact w64_lt (by omega) (by omega)
  · rw [w64_lt (by omega) (by omega)]; omega
  · rw [w64_lt (by omega) (by omega)]; omega
theorem form_q (q : Nat) (hq : q < 65536) : wrap64 (10 + (q : Int)) = ((10 + q : Nat) : Int) ∧ wrap64 (((10 + q : Nat) : Int) + 1) = ((11 + q : Nat) : Int) ∧ wrap64 (11 + (q : Int)) = ((11 + q : Nat) : Int) := by
  refine ⟨?_, ?_, ?_⟩
  · rw [w64_lt (by omega) (by omega)]; omega
  · rw [w64_lt (by omega) (by omega)]; omega
  · rw [w64_lt (by omega) (by omega)]; omega
theorem form_n (n len : Nat) (h : n + 4 = len) (hl : len ≤ 262144) : wrap64 ((len : Int) - 4) = (n : Int) := by
  rw [w64_lt (by omega) (by omega)]; omega
theorem jdec_ev {l : List Int} (h : Bytes l) : Ev (fun k => journal_Decode.f k l) (decR l) := by
  unfold decR
  by_cases h1 : l.length > 262144
  · rw [if_pos h1]
    refine Ev.congr (f := fun _ => some (errJ 3)) (fun k => ?_) (Ev.now _)
    rw [journal_Decode.f, if_pos (by omega)]; rfl
  rw [if_neg h1]
  by_cases h2 : l.length < 15
  · rw [if_pos h2]
    refine Ev.congr (f := fun _ => some (errJ 2)) (fun k => ?_) (Ev.now _)
    rw [journal_Decode.f, if_neg (by omega), if_pos (by omega)]; rfl
  rw [if_neg h2]
  obtain ⟨n, hn⟩ : ∃ n, n = l.length - 4 := ⟨_, rfl⟩
  obtain ⟨K1, g1⟩ := read_ev (l.drop n) (h.sub fun x hx => List.mem_of_mem_drop hx) (by rw [List.length_drop]; omega)
  obtain ⟨K2, g2⟩ := sum_ev (l.take n) (by rw [List.length_take]; omega) (h.sub fun x hx => List.mem_of_mem_take hx)
  rw [num4_rd4 l n (by omega)] at g1
  have c1 : ¬ (l.length : Int) > 262144 := by omega
  have c2 : ¬ (l.length : Int) < 15 := by omega
  have c3 : (0 : Int) ≤ (n : Int) := Int.natCast_nonneg _
  have c4 : (n : Int) ≤ (l.length : Int) := by omega
  have hlen : (l.take n).length = n := by rw [List.length_take]; omega
  have hb : Bytes (l.take n) := h.sub fun x hx => List.mem_of_mem_take hx
  rw [← hn]
  by_cases hs : num4 l n = toI (sumW (l.take n))
  · rw [if_pos hs]
    have hq := num2_range h 8 (by omega)
    obtain ⟨q, eq⟩ := Int.eq_ofNat_of_zero_le hq.1
    have hg := jget2 hb 8 (by rw [hlen]; omega) (by rw [hlen]; omega)
    rw [num2_take l n 8 (by omega), eq] at hg
    rw [eq, Int.toNat_natCast]
    have hq2 : q < 65536 := by rw [eq] at hq; omega
    have c5 : (4 : Int) ≤ ((l.take n).length : Int) := by rw [hlen]; omega
    -- what the walk comes to behind the sum
    have main : Ev (fun k => if (strOfNums ((l.take n).take 4)).toList = ([83, 66, 74, 49] : List UInt8) then (if (n : Int) < ((11 + q : Nat) : Int) then (journal_Decode.j0 k (l.take n) ((10 + q : Nat) : Int) true) else (if (0 : Int) ≤ ((10 + q : Nat) : Int) then (if ((10 + q : Nat) : Int) < ((l.take n).length : Int) then (journal_Decode.j0 k (l.take n) ((10 + q : Nat) : Int) ((n : Int) != (wrap64 (((11 + q : Nat) : Int) + (wrap64 (13 * (wrap64 (rd (l.take n) ((10 + q : Nat) : Int))))))))) else (none)) else (none))) else (journal_Decode.j0 k (l.take n) ((10 + q : Nat) : Int) true))
        (if formJ l n q (rd l ((10 + q : Nat) : Int)).toNat then decT l q (rd l ((10 + q : Nat) : Int)).toNat else errJ 4) := by
      rw [take_take_min l n 4 (by omega)]
      by_cases m1 : (strOfNums (l.take 4)).toList = ([83, 66, 74, 49] : List UInt8)
      · simp only [if_pos m1]
        by_cases m2 : (n : Int) < ((11 + q : Nat) : Int)
        · simp only [if_pos m2]
          rw [if_neg (fun hf : formJ l n q _ => by have := hf.2.1; omega)]
          exact jdec_true _ _
        · simp only [if_neg m2]
          have c6 : ((10 + q : Nat) : Int) < ((l.take n).length : Int) := by rw [hlen]; omega
          have hr := rd_range h (10 + q) (by omega)
          rw [rd_take l n (10 + q) (by omega)]
          obtain ⟨m, em⟩ := Int.eq_ofNat_of_zero_le hr.1
          rw [em, Int.toNat_natCast]
          have em2 : m < 256 := by rw [em] at hr; omega
          rw [(form_w q m hq2 em2).1, (form_w q m hq2 em2).2.1, (form_w q m hq2 em2).2.2]
          simp only [if_pos (Int.natCast_nonneg (10 + q)), if_pos c6]
          by_cases m3 : n = 11 + q + 13 * m
          · rw [if_pos ⟨m1, by omega, m3⟩]
            have eb : ((n : Int) != ((11 + q + 13 * m : Nat) : Int)) = false := bne_eq_false_iff_eq.2 (by rw [m3])
            rw [eb]
            exact jdec_tail h n q m (by omega) (by omega) m3
          · rw [if_neg (fun hf : formJ l n q m => m3 hf.2.2)]
            have eb : ((n : Int) != ((11 + q + 13 * m : Nat) : Int)) = true := bne_iff_ne.2 (by omega)
            rw [eb]
            exact jdec_true _ _
      · simp only [if_neg m1]
        rw [if_neg (fun hf : formJ l n q _ => m1 hf.1)]
        exact jdec_true _ _
    obtain ⟨K5, g5⟩ := main
    refine ⟨max (max K1 K2) K5 + 3, fun k hk => ?_⟩
    have g1 := g1 k (by omega)
    have g2 := g2 k (by omega)
    have g5 := g5 k (by omega)
    obtain ⟨j, rfl⟩ : ∃ j, k = j + 3 := ⟨k - 3, by omega⟩
    have hg' : journal_get.f (j + 3) (l.take n) 8 2 = some (q : Int) := hg j
    simp only at g1 g2 g5
    show journal_Decode.f (j + 3) l = _
    rw [journal_Decode.f, if_neg c1, if_neg c2, form_n n l.length (by omega) (by omega), if_pos c3, if_pos c4, Int.toNat_natCast, g1, Option.bind_some, g2, Option.bind_some, if_pos hs, Option.bind_some, hg', Option.bind_some, if_pos c5, (form_q q hq2).1, (form_q q hq2).2.1]
    exact g5
  · rw [if_neg hs]
    refine ⟨max K1 K2, fun k hk => ?_⟩
    have g1 := g1 k (by omega)
    have g2 := g2 k (by omega)
    simp only at g1 g2
    show journal_Decode.f k l = _
    rw [journal_Decode.f, if_neg c1, if_neg c2, form_n n l.length (by omega) (by omega), if_pos c3, if_pos c4, Int.toNat_natCast, g1, Option.bind_some, g2, Option.bind_some, if_neg hs]
    rfl

theorem rdec_end (l : List Int) (n p : Nat) (hp : ¬ p < n) (tg : Int) (nm : ByteArray) (acc : List S72) (ha : acc.length < 1000000) :
    Ev (fun k => strongboxref4_Decode.l0 k l (n : Int) (p : Int) tg nm acc) (if mayJ tg nm acc = true then (tg, nm, acc, 0) else errJ 4) := by
  obtain ⟨K, g⟩ := rmay_ev tg nm acc (by omega)
  refine ⟨K + 1, fun k hk => ?_⟩
  obtain ⟨k, rfl⟩ : ∃ j, k = j + 1 := ⟨k - 1, by omega⟩
  have g := g k (by omega)
  simp only at g
  show strongboxref4_Decode.l0 (k + 1) l (n : Int) (p : Int) tg nm acc = _
  rw [strongboxref4_Decode.l0, if_neg (by omega), g, Option.bind_some]
  split <;> rfl
theorem rdec_l0 {l : List Int} (h : Bytes l) (n o m : Nat) (hn : n + 4 ≤ l.length) (hl : l.length ≤ 262144) (hf : n = o + 13 * m) (tg : Int) (nm : ByteArray) (d : Nat) : ∀ (i : Nat), i + d = m → okMark l o i = true →
    Ev (fun k => strongboxref4_Decode.l0 k l (n : Int) ((o + i * 13 : Nat) : Int) tg nm (versAt l o i)) (if okMark l o m = true then (if mayJ tg nm (versAt l o m) = true then (tg, nm, versAt l o m, 0) else errJ 4) else errJ 4) := by
  induction d with
  | zero =>
    intro i hi hok
    obtain rfl : i = m := by omega
    rw [if_pos hok]
    exact rdec_end l n _ (by omega) tg nm _ (by rw [versAt_length]; omega)
  | succ d ih =>
    intro i hi hok
    have c1 : ((o + i * 13 : Nat) : Int) < (n : Int) := by omega
    have e4 : wrap64 (((o + i * 13 : Nat) : Int) + 4) = ((o + i * 13 + 4 : Nat) : Int) := by rw [w64_lt (by omega) (by omega)]; omega
    have e5 : wrap64 (((o + i * 13 : Nat) : Int) + 5) = ((o + i * 13 + 5 : Nat) : Int) := by rw [w64_lt (by omega) (by omega)]; omega
    have e9 : wrap64 (((o + i * 13 : Nat) : Int) + 9) = ((o + i * 13 + 9 : Nat) : Int) := by rw [w64_lt (by omega) (by omega)]; omega
    have e13 : wrap64 (((o + i * 13 : Nat) : Int) + 13) = ((o + (i + 1) * 13 : Nat) : Int) := by rw [w64_lt (by omega) (by omega)]; omega
    have c2 : (0 : Int) ≤ ((o + i * 13 + 4 : Nat) : Int) := Int.natCast_nonneg _
    have c3 : ((o + i * 13 + 4 : Nat) : Int) < (l.length : Int) := by clear e4 e5 e9 e13; omega
    by_cases hgt : rd l ((o + i * 13 + 4 : Nat) : Int) > 1
    · have hno : ¬ okMark l o m = true := fun ha => by
        have := of_decide_eq_true (List.all_eq_true.1 ha i (List.mem_range.2 (by clear e4 e5 e9 e13; omega)))
        clear e4 e5 e9 e13
        omega
      rw [if_neg hno]
      refine Ev.step (f := fun _ => some (errJ 4)) (fun k => ?_) (Ev.now _)
      rw [strongboxref4_Decode.l0, if_pos c1, e4, if_pos c2, if_pos c3, if_pos hgt]
      rfl
    · have hok2 : okMark l o (i + 1) = true := by
        unfold okMark at hok ⊢
        rw [List.range_succ, List.all_append, hok, Bool.true_and]
        simp only [List.all_cons, List.all_nil, Bool.and_true]
        exact decide_eq_true (by clear e4 e5 e9 e13; omega)
      have hva : versAt l o (i + 1) = versAt l o i ++ [verAt l (o + i * 13)] := by
        unfold versAt
        rw [List.range_succ, List.map_append]
        rfl
      obtain ⟨K, g⟩ := ih (i + 1) (by clear e4 e5 e9 e13; omega) hok2
      have g0 := rget4 h (o + i * 13) (by clear e4 e5 e9 e13; omega) (by clear e4 e5 e9 e13; omega)
      have g5 := rget4 h (o + i * 13 + 5) (by clear e4 e5 e9 e13; omega) (by clear e4 e5 e9 e13; omega)
      have g9 := rget4 h (o + i * 13 + 9) (by clear e4 e5 e9 e13; omega) (by clear e4 e5 e9 e13; omega)
      have ca : (versAt l o i).length < 4398046511104 := by rw [versAt_length]; clear e4 e5 e9 e13; omega
      refine ⟨K + 6, fun k hk => ?_⟩
      obtain ⟨k, rfl⟩ : ∃ j, k = j + 6 := ⟨k - 6, by clear e4 e5 e9 e13; omega⟩
      have g := g (k + 5) (by clear e4 e5 e9 e13; omega)
      simp only at g
      show strongboxref4_Decode.l0 (k + 5 + 1) l (n : Int) ((o + i * 13 : Nat) : Int) tg nm (versAt l o i) = _
      rw [strongboxref4_Decode.l0, if_pos c1, e4, if_pos c2, if_pos c3, if_neg hgt, g0 k, Option.bind_some, e5, g5 k, Option.bind_some, e9, g9 k, Option.bind_some, if_pos ca, e13]
      rw [hva] at g
      exact g
theorem rdec_tail {l : List Int} (h : Bytes l) (n q m : Nat) (hn : n + 4 ≤ l.length) (hl : l.length ≤ 262144) (hf : n = 11 + q + 13 * m) :
    Ev (fun k => strongboxref4_Decode.j0 k l (n : Int) (q : Int) false) (decT l q m) := by
  have e10 : wrap64 (10 + (q : Int)) = ((10 + q : Nat) : Int) := by rw [w64_lt (by omega) (by omega)]; omega
  have e11 : wrap64 (11 + (q : Int)) = ((11 + q + 0 * 13 : Nat) : Int) := by rw [w64_lt (by omega) (by omega)]; omega
  have c3 : (10 : Int) ≤ ((10 + q : Nat) : Int) := by clear e10 e11; omega
  have c4 : ((10 + q : Nat) : Int) ≤ (l.length : Int) := by clear e10 e11; omega
  have hg := rget4 h 4 (by clear e10 e11; omega) (by clear e10 e11; omega)
  obtain ⟨K, g⟩ := rdec_l0 h n (11 + q) m hn hl hf (num4 l 4) (nameAt l q) m 0 (by clear e10 e11; omega) rfl
  refine ⟨K + 6, fun k hk => ?_⟩
  obtain ⟨k, rfl⟩ : ∃ j, k = j + 6 := ⟨k - 6, by clear e10 e11; omega⟩
  have g := g (k + 5) (by clear e10 e11; omega)
  simp only at g
  have hg' : strongboxref4_get.f (k + 5) l 4 4 = some (num4 l 4) := hg k
  show strongboxref4_Decode.j0 (k + 5 + 1) l (n : Int) (q : Int) false = _
  rw [strongboxref4_Decode.j0, if_neg (by decide), hg', Option.bind_some, e10, if_pos c3, if_pos c4, e11, Int.toNat_natCast]
  exact g
theorem rdec_true (l : List Int) (n q : Int) : Ev (fun k => strongboxref4_Decode.j0 k l n q true) (errJ 4) :=
  Ev.step (f := fun _ => some (errJ 4)) (fun k => by rw [strongboxref4_Decode.j0, if_pos rfl]; rfl) (Ev.now _)
theorem rdec_ev {l : List Int} (h : Bytes l) : Ev (fun k => strongboxref4_Decode.f k l) (decR l) := by
  unfold decR
  by_cases h1 : l.length > 262144
  · rw [if_pos h1]
    refine Ev.congr (f := fun _ => some (errJ 3)) (fun k => ?_) (Ev.now _)
    rw [strongboxref4_Decode.f, if_pos (by omega)]; rfl
  rw [if_neg h1]
  by_cases h2 : l.length < 15
  · rw [if_pos h2]
    refine Ev.congr (f := fun _ => some (errJ 2)) (fun k => ?_) (Ev.now _)
    rw [strongboxref4_Decode.f, if_neg (by omega), if_pos (by omega)]; rfl
  rw [if_neg h2]
  obtain ⟨n, hn⟩ : ∃ n, n = l.length - 4 := ⟨_, rfl⟩
  obtain ⟨K2, g2⟩ := rsum_ev (l.take n) (by rw [List.length_take]; omega) (h.sub fun x hx => List.mem_of_mem_take hx)
  have hgn := rget4 h n (by omega) (by omega)
  have hrn := num4_range h n (by omega)
  have c1 : ¬ (l.length : Int) > 262144 := by omega
  have c2 : ¬ (l.length : Int) < 15 := by omega
  have c3 : (0 : Int) ≤ (n : Int) := Int.natCast_nonneg _
  have c4 : (n : Int) ≤ (l.length : Int) := by omega
  have em4 : num4 l n % 4294967296 = num4 l n := Int.emod_eq_of_lt hrn.1 hrn.2
  rw [← hn]
  by_cases hs : num4 l n = toI (sumW (l.take n))
  · rw [if_pos hs]
    have hq := num2_range h 8 (by omega)
    obtain ⟨q, eq⟩ := Int.eq_ofNat_of_zero_le hq.1
    have hg := rget2 h 8 (by omega) (by omega)
    rw [eq] at hg
    rw [eq, Int.toNat_natCast]
    have hq2 : q < 65536 := by rw [eq] at hq; omega
    have c5 : (4 : Int) ≤ (l.length : Int) := by omega
    have main : Ev (fun k => if (strOfNums (l.take 4)).toList = ([83, 66, 74, 49] : List UInt8) then (if (n : Int) < ((11 + q : Nat) : Int) then (strongboxref4_Decode.j0 k l (n : Int) (q : Int) true) else (if (0 : Int) ≤ ((10 + q : Nat) : Int) then (if ((10 + q : Nat) : Int) < (l.length : Int) then (strongboxref4_Decode.j0 k l (n : Int) (q : Int) ((n : Int) != (wrap64 (((11 + q : Nat) : Int) + (wrap64 (13 * (wrap64 (rd l ((10 + q : Nat) : Int))))))))) else (none)) else (none))) else (strongboxref4_Decode.j0 k l (n : Int) (q : Int) true))
        (if formJ l n q (rd l ((10 + q : Nat) : Int)).toNat then decT l q (rd l ((10 + q : Nat) : Int)).toNat else errJ 4) := by
      by_cases m1 : (strOfNums (l.take 4)).toList = ([83, 66, 74, 49] : List UInt8)
      · simp only [if_pos m1]
        by_cases m2 : (n : Int) < ((11 + q : Nat) : Int)
        · simp only [if_pos m2]
          rw [if_neg (fun hf : formJ l n q _ => by have := hf.2.1; omega)]
          exact rdec_true _ _ _
        · simp only [if_neg m2]
          have c6 : ((10 + q : Nat) : Int) < (l.length : Int) := by omega
          have hr := rd_range h (10 + q) (by omega)
          obtain ⟨m, em⟩ := Int.eq_ofNat_of_zero_le hr.1
          rw [em, Int.toNat_natCast]
          have em2 : m < 256 := by rw [em] at hr; omega
          rw [(form_w q m hq2 em2).1, (form_w q m hq2 em2).2.1, (form_w q m hq2 em2).2.2]
          simp only [if_pos (Int.natCast_nonneg (10 + q)), if_pos c6]
          by_cases m3 : n = 11 + q + 13 * m
          · rw [if_pos ⟨m1, by omega, m3⟩]
            have eb : ((n : Int) != ((11 + q + 13 * m : Nat) : Int)) = false := bne_eq_false_iff_eq.2 (by rw [m3])
            rw [eb]
            exact rdec_tail h n q m (by omega) (by omega) m3
          · rw [if_neg (fun hf : formJ l n q m => m3 hf.2.2)]
            have eb : ((n : Int) != ((11 + q + 13 * m : Nat) : Int)) = true := bne_iff_ne.2 (by omega)
            rw [eb]
            exact rdec_true _ _ _
      · simp only [if_neg m1]
        rw [if_neg (fun hf : formJ l n q _ => m1 hf.1)]
        exact rdec_true _ _ _
    obtain ⟨K5, g5⟩ := main
    refine ⟨max K2 K5 + 5, fun k hk => ?_⟩
    have g2 := g2 k (by omega)
    have g5 := g5 k (by omega)
    obtain ⟨j, rfl⟩ : ∃ j, k = j + 5 := ⟨k - 5, by omega⟩
    have hg' : strongboxref4_get.f (j + 5) l 8 2 = some (q : Int) := hg (j + 2)
    have hgn' := hgn j
    simp only at g2 g5
    show strongboxref4_Decode.f (j + 5) l = _
    rw [strongboxref4_Decode.f, if_neg c1, if_neg c2, form_n n l.length (by omega) (by omega), hgn', Option.bind_some, if_pos c3, if_pos c4, Int.toNat_natCast, g2, Option.bind_some, em4, if_pos hs, hg', Option.bind_some, if_pos c5, (form_q q hq2).1, (form_q q hq2).2.2]
    exact g5
  · rw [if_neg hs]
    refine ⟨K2 + 5, fun k hk => ?_⟩
    have g2 := g2 k (by omega)
    obtain ⟨j, rfl⟩ : ∃ j, k = j + 5 := ⟨k - 5, by omega⟩
    have hgn' := hgn j
    simp only at g2
    show strongboxref4_Decode.f (j + 5) l = _
    rw [strongboxref4_Decode.f, if_neg c1, if_neg c2, form_n n l.length (by omega) (by omega), hgn', Option.bind_some, if_pos c3, if_pos c4, Int.toNat_natCast, g2, Option.bind_some, em4, if_neg hs]
    rfl
theorem same_l0 (l : List S72) (hl : l.length < 1000000) (tg : Int) (nm : ByteArray) (d : Nat) : ∀ i : Nat, i + d = l.length → Ev (fun k => strongboxref4_Same.l0 k (i : Int) tg nm l tg nm l) true := by
  induction d with
  | zero =>
    intro i hi
    refine Ev.step (f := fun _ => some true) (fun k => ?_) (Ev.now _)
    rw [strongboxref4_Same.l0, if_neg (by omega)]
  | succ d ih =>
    intro i hi
    have ew := nextw i (by omega)
    refine Ev.step (f := fun k => strongboxref4_Same.l0 k ((i + 1 : Nat) : Int) tg nm l tg nm l) (fun k => ?_) (ih (i + 1) (by omega))
    have c1 : (i : Int) < (l.length : Int) := by clear ew; omega
    rw [strongboxref4_Same.l0, if_pos c1, if_pos (Int.natCast_nonneg _), if_pos c1, if_neg (by simp), ew]
theorem same_ev (tg : Int) (nm : ByteArray) (l : List S72) (hl : l.length < 1000000) : Ev (fun k => strongboxref4_Same.f k tg nm l tg nm l) true := by
  obtain ⟨K, g⟩ := same_l0 l hl tg nm l.length 0 (by omega)
  refine ⟨K + 1, fun k hk => ?_⟩
  obtain ⟨k, rfl⟩ : ∃ j, k = j + 1 := ⟨k - 1, by omega⟩
  have g := g k (by omega)
  simp only at g
  show strongboxref4_Same.f (k + 1) tg nm l tg nm l = _
  rw [strongboxref4_Same.f, if_pos rfl, if_pos rfl, show ((l.length : Int) != (l.length : Int)) = false from bne_eq_false_iff_eq.2 rfl, strongboxref4_Same.j0, if_neg (by decide)]
  exact g
theorem decR_vers {l : List Int} (h : Bytes l) : (decR l).2.2.1.length < 1000 := by
  unfold decR
  repeat' split
  all_goals first | (show (0 : Nat) < 1000; decide) | skip
  next h1 h2 h3 h4 =>
    have hr := rd_range h (10 + (num2 l 8).toNat) (by have := h4.2.1; have := h4.2.2; omega)
    unfold decT
    repeat' split
    all_goals first | (show (0 : Nat) < 1000; decide) | skip
    next => show (versAt l _ _).length < 1000; rw [versAt_length]; omega

theorem awake7_at : strongboxlaw7_awake.f 200 = some true := by decide +kernel
theorem awake7_ev : Ev (fun k => strongboxlaw7_awake.f k) true := by
  refine ⟨200, fun k hk => ?_⟩
  obtain ⟨j, rfl⟩ : ∃ j, k = 200 + j := ⟨k - 200, by omega⟩
  clear hk
  induction j with
  | zero => exact awake7_at
  | succ j ih => exact strongboxlaw7_awake.mono (200 + j) true ih

theorem JournalReads : strongboxlaw7_JournalReads.Pure := by
  intro l _ _ hw
  have h : Bytes l := bytes_of hw
  refine Ev.rounds (g := fun k => strongboxlaw7_JournalReads.f k l) ?_
  obtain ⟨K0, g0⟩ := awake7_ev
  by_cases hl : (l.length : Int) > 20000
  · refine ⟨K0, fun k hk => ?_⟩
    have g0 := g0 k hk
    simp only at g0
    show strongboxlaw7_JournalReads.f k l = _
    rw [strongboxlaw7_JournalReads.f, g0, Option.bind_some, if_pos rfl, if_pos hl]
  · obtain ⟨K1, g1⟩ := jdec_ev h
    obtain ⟨K2, g2⟩ := rdec_ev h
    have hv := decR_vers h
    obtain ⟨K3, g3⟩ := same_ev (decR l).1 (decR l).2.1 (decR l).2.2.1 (by omega)
    have hb : strongboxlaw7_Back.f (decR l).1 (decR l).2.1 (decR l).2.2.1 = some ((decR l).1, (decR l).2.1, (decR l).2.2.1) := by
      rw [strongboxlaw7_Back.f, if_pos (by rw [List.length_nil]; omega), List.nil_append]
    refine ⟨max (max K0 K1) (max K2 K3), fun k hk => ?_⟩
    have g0 := g0 k (by omega)
    have g1 := g1 k (by omega)
    have g2 := g2 k (by omega)
    have g3 := g3 k (by omega)
    simp only at g0 g1 g2 g3
    show strongboxlaw7_JournalReads.f k l = _
    rw [strongboxlaw7_JournalReads.f, g0, Option.bind_some, if_pos rfl, if_neg hl, g1, Option.bind_some, g2, Option.bind_some, if_pos rfl, hb, Option.bind_some, g3, Option.bind_some]

end Go.Proofs.Ytnlpipjdpmaggaa.Pure
