/- A journal has as many versions as it may, and no more; it is written and read whole: over the printed functions alone. No conditions. -/
import Derived.Test.YtnlpipjdpmaggaaPJournalFullx10
import Derived.Test.YtnlpipjdpmaggaaMath
set_option linter.unusedVariables false
set_option linter.unusedSimpArgs false
namespace Go.Proofs.Ytnlpipjdpmaggaa.Pure
open Go.RowKit Go.Proofs.Ytnlpipjdpmaggaa.PJournalReads Go.Proofs.YtnlpipjdpmaggaaW.PrintWords Go.Proofs.YtnlpipjdpmaggaaW.PrintLast Go.Proofs.YtnlpipjdpmaggaaW.PrintMore CrcMath

theorem w64_lt {n : Int} (h0 : 0 ≤ n) (h : n < 9223372036854775807) : wrap64 n = n := by unfold wrap64; omega

theorem more_l1 (l : List Int) (n i : Int) (r : Int) (d : Nat) : ∀ (S : W) (j : Int), j + d = 8 → 0 ≤ j →
    Ev (fun k => crc_More.l0 k (toI (steps d S)) l n (wrap64 (i + 1))) r → Ev (fun k => crc_More.l1 k (toI S) l n i j) r := by
  induction d with
  | zero =>
    intro S j hj h0 h
    refine Ev.step (f := fun k => crc_More.l0 k (toI S) l n (wrap64 (i + 1))) (fun k => ?_) h
    simp only [crc_More.l1]
    rw [if_neg (by omega)]
  | succ d ih =>
    intro S j hj h0 h
    refine Ev.step (f := fun k => crc_More.l1 k (toI (CrcMath.step S)) l n i (j + 1)) (fun k => ?_) (ih (CrcMath.step S) (j + 1) (by omega) (by omega) h)
    simp only [crc_More.l1]
    rw [if_pos (by omega), w64_lt (by omega) (by omega), low]
    cases hs : S.getLsbD 0 with
    | true => simp only [if_true]; rw [step_on hs]
    | false => rw [if_neg (by simp), step_off hs]

theorem more_l0 (l : List Int) (hl : l.length < 4611686018427387904) (rest : List Int) : ∀ (pre : List Int) (S : W), l = pre ++ rest → Bytes rest →
    Ev (fun k => crc_More.l0 k (toI S) l (l.length : Int) (pre.length : Int)) (toI (~~~ (CrcMath.run S rest))) := by
  induction rest with
  | nil =>
    intro pre S e _
    refine Ev.step (f := fun _ => some (toI (~~~ S))) (fun k => ?_) (Ev.now _)
    simp only [crc_More.l0]
    have : l.length = pre.length := by rw [e]; simp
    rw [if_neg (by omega), not_toI]
  | cons x rest ih =>
    intro pre S e hb
    have hx := hb x (by simp)
    have hlen : l.length = pre.length + (rest.length + 1) := by rw [e]; simp
    have hrd : rd l (pre.length : Int) = x := by
      unfold rd
      rw [Int.toNat_natCast, e]
      simp [List.getD_eq_getElem?_getD]
    refine Ev.step (f := fun k => crc_More.l1 k (toI (S ^^^ BitVec.ofInt 32 x)) l (l.length : Int) (pre.length : Int) 0) (fun k => ?_) ?_
    · simp only [crc_More.l0]
      rw [if_pos (by omega), if_pos (by omega), if_pos (by omega), hrd, Int.emod_eq_of_lt hx.1 (by omega)]
      rw [← toI_of hx.1 (by omega : x < 4294967296), xor_toI, toI_of hx.1 (by omega)]
    · refine more_l1 l _ _ _ 8 _ 0 (by omega) (by omega) ?_
      have h := ih (pre ++ [x]) (byteStep S x) (by rw [e]; simp) (fun y hy => hb y (by simp [hy]))
      have e2 : ((pre ++ [x]).length : Int) = wrap64 ((pre.length : Int) + 1) := by
        rw [w64_lt (by omega) (by omega)]; simp
      rw [e2] at h
      exact h

theorem more_ev (S : W) (l : List Int) (hl : l.length < 4611686018427387904) (hb : Bytes l) : Ev (fun k => crc_More.f k (toI S) l) (toI (moreW S l)) := by
  have h := more_l0 l hl l [] (~~~ S) rfl hb
  refine Ev.congr (fun k => ?_) h
  unfold crc_More.f
  rw [not_toI]; rfl

theorem sum_ev (l : List Int) (hl : l.length < 4611686018427387904) (hb : Bytes l) : Ev (fun k => crc_Sum.f k l) (toI (sumW l)) := by
  have h := more_ev 0 l hl hb
  unfold crc_Sum.f
  exact Ev.bind (g := fun k => crc_More.f k 0 l) (f := fun _ t => some t) h (Ev.now _)

theorem or_step (s x : Nat) (i : Nat) (hi : i < 4) (hs : s < 2 ^ (8 * i)) (hx : x < 256) :
    Go.bits .or .u32 (s : Int) (shl .u32 ((x : Int) % 4294967296) (wrap64 (8 * (i : Int)))) = ((s + x * 2 ^ (8 * i) : Nat) : Int) := by
  have e0 : wrap64 (8 * (i : Int)) = ((8 * i : Nat) : Int) := by rw [w64_lt (by omega) (by omega)]; omega
  have hp : x * 2 ^ (8 * i) < 4294967296 := by
    have h2 : (2 : Nat) ^ (8 * i) ≤ 2 ^ 24 := Nat.pow_le_pow_right (by omega) (by omega)
    have h3 : x * 2 ^ (8 * i) ≤ 255 * 2 ^ 24 := Nat.mul_le_mul (by omega) h2
    omega
  have e1 : shl .u32 ((x : Int) % 4294967296) (wrap64 (8 * (i : Int))) = ((x * 2 ^ (8 * i) : Nat) : Int) := by
    rw [e0]
    unfold shl
    rw [Int.toNat_natCast, Nat.min_eq_left (by show 8 * i ≤ 32; omega), IntKind.wrap_u32', Int.emod_eq_of_lt (by omega : (0 : Int) ≤ (x : Int)) (by omega)]
    have h4 : (x : Int) * 2 ^ (8 * i) = ((x * 2 ^ (8 * i) : Nat) : Int) := by simp
    rw [h4]
    generalize x * 2 ^ (8 * i) = q at hp ⊢
    omega
  have hs2 : s < 4294967296 := by
    have h2 : (2 : Nat) ^ (8 * i) ≤ 2 ^ 24 := Nat.pow_le_pow_right (by omega) (by omega)
    omega
  rw [e1, u32_or_nat _ _ hs2 hp, Nat.or_comm, ← Nat.shiftLeft_eq, ← Nat.shiftLeft_add_eq_or_of_lt hs, Nat.add_comm]

theorem read_step (t : List Int) (h4 : t.length = 4) (s : Nat) (i : Nat) (r : Int × Bool) (x : Nat) (hx : rd t (i : Int) = (x : Int)) (hxb : x < 256) (hi : i < 4) (hs : s < 2 ^ (8 * i))
    (h : Ev (fun k => crc_Read.l0 k ((s + x * 2 ^ (8 * i) : Nat) : Int) t 4 ((i + 1 : Nat) : Int)) r) : Ev (fun k => crc_Read.l0 k (s : Int) t 4 (i : Int)) r := by
  refine Ev.step (f := fun k => crc_Read.l0 k ((s + x * 2 ^ (8 * i) : Nat) : Int) t 4 ((i + 1 : Nat) : Int)) (fun k => ?_) h
  simp only [crc_Read.l0]
  have ew : wrap64 ((i : Int) + 1) = ((i + 1 : Nat) : Int) := by rw [w64_lt (by omega) (by omega)]; omega
  have e1 : (i : Int) < 4 := by omega
  have e2 : (i : Int) < (t.length : Int) := by omega
  have e3 : (0 : Int) ≤ wrap64 (8 * (i : Int)) := by rw [w64_lt (by omega) (by omega)]; omega
  rw [if_pos e1, if_pos (Int.natCast_nonneg i), if_pos e2, if_pos e3, hx, or_step s x i hi hs hxb, ew]

theorem read_end (t : List Int) (v : Int) : Ev (fun k => crc_Read.l0 k v t 4 ((4 : Nat) : Int)) (v, true) := by
  refine Ev.step (f := fun _ => some (v, true)) (fun k => ?_) (Ev.now _)
  simp only [crc_Read.l0]
  rw [if_neg (by omega)]

theorem read_nat (a b c d : Nat) (ha : a < 256) (hb : b < 256) (hc : c < 256) (hd : d < 256) :
    Ev (fun k => crc_Read.l0 k ((0 : Nat) : Int) [(a : Int), b, c, d] 4 ((0 : Nat) : Int)) (((0 + a * 2 ^ (8 * 0) + b * 2 ^ (8 * 1) + c * 2 ^ (8 * 2) + d * 2 ^ (8 * 3) : Nat) : Int), true) := by
  have l4 : [(a : Int), b, c, d].length = 4 := rfl
  refine read_step _ l4 0 0 _ a rfl ha (by decide) (by decide) ?_
  refine read_step _ l4 _ 1 _ b rfl hb (by decide) (by clear l4; omega) ?_
  refine read_step _ l4 _ 2 _ c rfl hc (by decide) (by clear l4; omega) ?_
  refine read_step _ l4 _ 3 _ d rfl hd (by decide) (by clear l4; omega) ?_
  exact read_end _ _

theorem read_ev (t : List Int) (hb : Bytes t) (h : t.length = 4) : Ev (fun k => crc_Read.f k t) (rd4 t, true) := by
  obtain ⟨a, b, c, d, rfl⟩ := four h
  have h0 := hb a (by simp); have h1 := hb b (by simp); have h2 := hb c (by simp); have h3 := hb d (by simp)
  obtain ⟨a, rfl⟩ := Int.eq_ofNat_of_zero_le h0.1
  obtain ⟨b, rfl⟩ := Int.eq_ofNat_of_zero_le h1.1
  obtain ⟨c, rfl⟩ := Int.eq_ofNat_of_zero_le h2.1
  obtain ⟨d, rfl⟩ := Int.eq_ofNat_of_zero_le h3.1
  clear hb
  have e : ((0 + a * 2 ^ (8 * 0) + b * 2 ^ (8 * 1) + c * 2 ^ (8 * 2) + d * 2 ^ (8 * 3) : Nat) : Int) = rd4 [(a : Int), b, c, d] := by simp only [rd4]; omega
  have hr := read_nat a b c d (by omega) (by omega) (by omega) (by omega)
  rw [e] at hr
  refine Ev.congr (fun k => ?_) hr
  unfold crc_Read.f
  rw [if_pos (by rw [h]; rfl)]
  rfl
theorem bytes_some (v : Int) : crc_Bytes.f v = some (le4 v) := rfl

theorem i64_or_nat (a b : Nat) (ha : a < 9223372036854775808) (hb : b < 9223372036854775808) : Go.bits .or .i64 (a : Int) (b : Int) = ((a ||| b : Nat) : Int) := by
  have hx : a ||| b < 2 ^ 63 := Nat.or_lt_two_pow (by omega) (by omega)
  show IntKind.i64.wrap ((BitVec.ofInt 64 (a : Int) ||| BitVec.ofInt 64 (b : Int)).toNat : Int) = _
  rw [BitVec.toNat_or, ofInt_u64 a (by omega), ofInt_u64 b (by omega), IntKind.wrap_i64]
  omega
theorem or_add (s x i : Nat) (hs : s < 2 ^ i) : s ||| x * 2 ^ i = s + x * 2 ^ i := by
  rw [Nat.or_comm, ← Nat.shiftLeft_eq, ← Nat.shiftLeft_add_eq_or_of_lt hs, Nat.add_comm]
theorem take_four (l : List Int) (n : Nat) (h : n + 4 ≤ l.length) : (l.drop n).take 4 = [rd l n, rd l ((n + 1 : Nat) : Int), rd l ((n + 2 : Nat) : Int), rd l ((n + 3 : Nat) : Int)] := by
  have g : ∀ i : Nat, (hi : i < l.length) → rd l (i : Int) = l[i] := fun i hi => by
    unfold rd
    rw [Int.toNat_natCast, List.getD_eq_getElem?_getD, List.getElem?_eq_getElem hi]
    rfl
  rw [g n (by omega), g (n + 1) (by omega), g (n + 2) (by omega), g (n + 3) (by omega)]
  rw [List.drop_eq_getElem_cons (by omega : n < l.length), List.drop_eq_getElem_cons (by omega : n + 1 < l.length), List.drop_eq_getElem_cons (by omega : n + 1 + 1 < l.length), List.drop_eq_getElem_cons (by omega : n + 1 + 1 + 1 < l.length)]
  rfl
theorem rd_byte {l : List Int} (h : Bytes l) (i : Nat) (h1 : i < l.length) : ∃ x : Nat, rd l (i : Int) = (x : Int) ∧ x < 256 := by
  have : 0 ≤ rd l i ∧ rd l i < 256 := by
    unfold rd
    rw [Int.toNat_natCast, List.getD_eq_getElem?_getD, List.getElem?_eq_getElem h1]
    exact h _ (List.getElem_mem _)
  obtain ⟨x, hx⟩ := Int.eq_ofNat_of_zero_le this.1
  exact ⟨x, hx, by omega⟩

def verB (v : S72) : Bool := (journal_version.f v.f0 v.f1 v.f2 v.f3).getD false
theorem version_some (v : S72) : journal_version.f v.f0 v.f1 v.f2 v.f3 = some (verB v) := by
  have h : ∃ b, journal_version.f v.f0 v.f1 v.f2 v.f3 = some b := by
    unfold journal_version.f
    repeat' split
    all_goals exact ⟨_, rfl⟩
  obtain ⟨b, h⟩ := h
  unfold verB
  rw [h]; rfl
theorem verB_id {v : S72} (h : verB v = true) : 0 ≤ v.f0 ∧ v.f0 ≤ 2147483647 := by
  have := version_some v
  rw [h] at this
  unfold journal_version.f at this
  by_cases h1 : v.f0 < 0
  · rw [if_pos h1] at this; cases this
  by_cases h2 : v.f0 > 2147483647
  · rw [if_neg h1, if_pos h2] at this; cases this
  omega
/-- Versions that may be, with rising ids. -/
def okFrom (last : Int) : List S72 → Bool
  | [] => true
  | v :: t => verB v && decide (last < v.f0) && okFrom v.f0 t
theorem rd_at (l : List S72) (i : Nat) (v : S72) (t : List S72) (h : l.drop i = v :: t) : rd_T72 l (i : Int) = v ∧ i < l.length ∧ l.drop (i + 1) = t := by
  have hi : i < l.length := by
    rcases Nat.lt_or_ge i l.length with h1 | h1
    · exact h1
    · rw [List.drop_eq_nil_of_le h1] at h; cases h
  rw [List.drop_eq_getElem_cons hi] at h
  injection h with h1 h2
  refine ⟨?_, hi, h2⟩
  unfold rd_T72
  rw [Int.toNat_natCast, List.getD_eq_getElem?_getD, List.getElem?_eq_getElem hi, ← h1]; rfl
theorem jmay_l0 (l : List S72) (hl : l.length < 4611686018427387904) (d : Nat) : ∀ (i : Nat) (last : Int), i + d = l.length →
    Ev (fun k => journal_May.l0 k last l (l.length : Int) (i : Int)) (okFrom last (l.drop i)) := by
  induction d with
  | zero =>
    intro i last hi
    refine Ev.step (f := fun _ => some true) (fun k => ?_) ?_
    · rw [journal_May.l0, if_neg (by omega)]
    · rw [List.drop_eq_nil_of_le (by omega)]; exact Ev.now _
  | succ d ih =>
    intro i last hi
    obtain ⟨v, t, hd⟩ : ∃ v t, l.drop i = v :: t := by
      rw [List.drop_eq_getElem_cons (by omega)]; exact ⟨_, _, rfl⟩
    obtain ⟨h1, h2, h3⟩ := rd_at l i v t hd
    have ew : wrap64 ((i : Int) + 1) = ((i + 1 : Nat) : Int) := by rw [w64_lt (by omega) (by omega)]; omega
    rw [hd, okFrom]
    cases hv : verB v with
    | false =>
      refine Ev.step (f := fun _ => some false) (fun k => ?_) (Ev.now _)
      rw [journal_May.l0, if_pos (by omega), if_pos (by omega), if_pos (by omega), h1, version_some, hv, Option.bind_some, if_neg (by decide)]
    | true =>
      by_cases hlt : last < v.f0
      · rw [decide_eq_true hlt]
        refine Ev.step (f := fun k => journal_May.l0 k v.f0 l (l.length : Int) ((i + 1 : Nat) : Int)) (fun k => ?_) ?_
        · rw [journal_May.l0, if_pos (by omega), if_pos (by omega), if_pos (by omega), h1, version_some, hv, Option.bind_some, if_pos rfl, if_neg (by omega), ew]
        · have := ih (i + 1) v.f0 (by omega)
          rw [h3] at this
          exact this
      · rw [decide_eq_false hlt]
        refine Ev.step (f := fun _ => some false) (fun k => ?_) (Ev.now _)
        rw [journal_May.l0, if_pos (by omega), if_pos (by omega), if_pos (by omega), h1, version_some, hv, Option.bind_some, if_pos rfl, if_pos (by omega)]
/-- A journal that may be. -/
def mayJ (tg : Int) (nm : ByteArray) (l : List S72) : Bool := decide (0 ≤ tg ∧ tg ≤ 2147483647 ∧ nm.size ≤ 600 ∧ l.length ≤ 64) && okFrom (-1) l
theorem jmay_ev (tg : Int) (nm : ByteArray) (l : List S72) (hl : l.length < 4611686018427387904) : Ev (fun k => journal_May.f k tg nm l) (mayJ tg nm l) := by
  have nt : ∀ b, b = true → ¬ (0 ≤ tg ∧ tg ≤ 2147483647 ∧ nm.size ≤ 600 ∧ l.length ≤ 64) → Ev (fun k => journal_May.j0 k b tg nm l) (mayJ tg nm l) := fun b hb hn => by
    unfold mayJ
    rw [decide_eq_false hn, hb]
    exact Ev.step (f := fun _ => some false) (fun k => by rw [journal_May.j0, if_pos rfl]) (Ev.now _)
  unfold journal_May.f
  by_cases h1 : tg < 0
  · simp only [if_pos h1]; exact nt _ rfl (by omega)
  simp only [if_neg h1]
  by_cases h2 : tg > 2147483647
  · simp only [if_pos h2]; exact nt _ rfl (by omega)
  simp only [if_neg h2]
  by_cases h3 : (nm.size : Int) > 600
  · simp only [if_pos h3]; exact nt _ rfl (by omega)
  simp only [if_neg h3]
  by_cases h4 : (l.length : Int) > 64
  · exact nt _ (decide_eq_true h4) (by omega)
  · rw [decide_eq_false h4]
    have := jmay_l0 l hl l.length 0 (-1) (by omega)
    unfold mayJ
    rw [decide_eq_true (by omega)]
    refine Ev.step (f := fun k => journal_May.l0 k (-1) l (l.length : Int) ((0 : Nat) : Int)) (fun k => ?_) this
    rw [journal_May.j0, if_neg (by decide)]; rfl

theorem bytes_app {a b : List Int} (ha : Bytes a) (hb : Bytes b) : Bytes (a ++ b) := fun x hx => (List.mem_append.1 hx).elim (fun h => ha x h) (fun h => hb x h)
theorem bytesOf_bytes (s : ByteArray) : Bytes (bytesOf s) := by
  intro x hx
  unfold bytesOf at hx
  obtain ⟨u, _, rfl⟩ := List.mem_map.1 hx
  have := u.toNat_lt
  omega
/-- A number's bytes, from the i-th on, d of them. -/
def bN (a : Int) : Nat → Nat → List Int
  | _, 0 => []
  | i, d + 1 => (shr .i64 a ((8 * i : Nat) : Int)) % 256 :: bN a (i + 1) d
theorem bN_length (a : Int) (d : Nat) : ∀ i, (bN a i d).length = d := by
  induction d with
  | zero => intro i; rfl
  | succ d ih => intro i; rw [bN, List.length_cons, ih]
theorem bN_bytes (a : Int) (d : Nat) : ∀ i, Bytes (bN a i d) := by
  induction d with
  | zero => intro i x hx; cases hx
  | succ d ih =>
    intro i x hx
    rw [bN] at hx
    rcases List.mem_cons.1 hx with h | h
    · omega
    · exact ih _ x h
theorem eight (i : Nat) (h : i < 100) : wrap64 (8 * (i : Int)) = ((8 * i : Nat) : Int) := by rw [w64_lt (by omega) (by omega)]; omega
theorem eightu (i : Nat) (h : i < 100) : IntKind.u64.wrap (wrap64 (8 * (i : Int))) = ((8 * i : Nat) : Int) := by rw [eight i h, IntKind.wrap_u64]; omega
theorem nextw (i : Nat) (h : i < 1000000) : wrap64 ((i : Int) + 1) = ((i + 1 : Nat) : Int) := by rw [w64_lt (by omega) (by omega)]; omega
theorem xput_l0 (a : Int) (w : Nat) (hw : w ≤ 4) (d : Nat) : ∀ (i : Nat) (b : List Int), i + d = w → b.length + d < 140737488355328 →
    Ev (fun k => journal_put.l0 k b a (w : Int) (i : Int)) (b ++ bN a i d) := by
  induction d with
  | zero =>
    intro i b hi _
    refine Ev.step (f := fun _ => some (b ++ [])) (fun k => ?_) (Ev.now _)
    rw [journal_put.l0, if_neg (by omega), List.append_nil]
  | succ d ih =>
    intro i b hi hl
    have e8 := eight i (by omega)
    have ew := nextw i (by omega)
    have h := ih (i + 1) (b ++ [(shr .i64 a ((8 * i : Nat) : Int)) % 256]) (by omega) (by rw [List.length_append]; simp; omega)
    rw [List.append_assoc] at h
    refine Ev.step (f := fun k => journal_put.l0 k (b ++ [(shr .i64 a ((8 * i : Nat) : Int)) % 256]) a (w : Int) ((i + 1 : Nat) : Int)) (fun k => ?_) h
    have c1 : (i : Int) < (w : Int) := by clear e8 ew; omega
    have c2 : (0 : Int) ≤ ((8 * i : Nat) : Int) := by clear e8 ew; omega
    have c3 : b.length < 140737488355328 := by clear e8 ew; omega
    rw [journal_put.l0, if_pos c1, e8, if_pos c2, if_pos c3, ew]
theorem xput_ev (a : Int) (w : Nat) (hw : w ≤ 4) (b : List Int) (hl : b.length < 70368744177664) : Ev (fun k => journal_put.f k b a (w : Int)) (b ++ bN a 0 w) := xput_l0 a w hw w 0 b (by omega) (by omega)
/-- A version's bytes. -/
def vB (v : S72) : List Int := bN v.f0 0 4 ++ [if v.f1 then 1 else 0] ++ bN v.f2 0 4 ++ bN (wrap64 v.f3) 0 4
theorem vB_length (v : S72) : (vB v).length = 13 := by unfold vB; simp only [List.length_append, bN_length, List.length_singleton]
theorem vB_bytes (v : S72) : Bytes (vB v) := by
  unfold vB
  refine bytes_app (bytes_app (bytes_app (bN_bytes _ _ _) ?_) (bN_bytes _ _ _)) (bN_bytes _ _ _)
  intro x hx
  have : x = if v.f1 then 1 else 0 := by simpa using hx
  rw [this]
  split <;> decide
/-- All bytes: what stands ahead, the versions, the sum. -/
def encB (x4 : List Int) : List S72 → List Int
  | [] => x4 ++ le4 (toI (sumW x4))
  | v :: t => encB (x4 ++ vB v) t
theorem le4_bN (n : Int) (h0 : 0 ≤ n) (h1 : n < 4294967296) : bN (wrap64 n) 0 4 = le4 n := by
  obtain ⟨m, rfl⟩ := Int.eq_ofNat_of_zero_le h0
  rw [w64_lt (by omega) (by omega)]
  simp only [bN, le4]
  have q : ∀ s : Nat, s ≤ 64 → shr .i64 ((m : Nat) : Int) (s : Int) = ((m / 2 ^ s : Nat) : Int) := fun s hs => by
    unfold shr
    rw [Int.toNat_natCast, Nat.min_eq_left (by show s ≤ 64; omega)]
    simp
  rw [q (8 * 0) (by omega), q (8 * (0 + 1)) (by omega), q (8 * (0 + 1 + 1)) (by omega), q (8 * (0 + 1 + 1 + 1)) (by omega)]
  have p0 : (2 : Nat) ^ (8 * 0) = 1 := rfl
  have p8 : (2 : Nat) ^ (8 * (0 + 1)) = 256 := rfl
  have p16 : (2 : Nat) ^ (8 * (0 + 1 + 1)) = 65536 := rfl
  have p24 : (2 : Nat) ^ (8 * (0 + 1 + 1 + 1)) = 16777216 := rfl
  rw [p0, p8, p16, p24, Nat.div_one]
  rfl
theorem xenc_l0 (l : List S72) (hl : l.length ≤ 1000) (d : Nat) : ∀ (i : Nat) (x4 : List Int), i + d = l.length → Bytes x4 → x4.length + 13 * d < 1000000 →
    Ev (fun k => journal_Encode.l0 k x4 l (l.length : Int) (i : Int)) (encB x4 (l.drop i), 0) := by
  induction d with
  | zero =>
    intro i x4 hi hb hx
    rw [List.drop_eq_nil_of_le (by omega), encB]
    refine Ev.step (f := fun k => (crc_Sum.f k x4).bind fun t131 => ((crc_Bytes.f t131).bind fun t132 => (if x4.length + t132.length < 140737488355328 then (some ((x4 ++ t132), 0)) else (none)))) (fun k => ?_) ?_
    · rw [journal_Encode.l0, if_neg (by omega)]
    · refine Ev.bind (f := fun _ t131 => ((crc_Bytes.f t131).bind fun t132 => (if x4.length + t132.length < 140737488355328 then (some ((x4 ++ t132), (0 : Int))) else (none)))) (sum_ev x4 (by omega) hb) ?_
      refine Ev.congr (f := fun _ => some (x4 ++ le4 (toI (sumW x4)), 0)) (fun k => ?_) (Ev.now _)
      show (some (le4 (toI (sumW x4)))).bind _ = _
      rw [Option.bind_some, if_pos (by rw [le4_length]; omega)]
  | succ d ih =>
    intro i x4 hi hb hx
    obtain ⟨v, t, hd⟩ : ∃ v t, l.drop i = v :: t := by
      rw [List.drop_eq_getElem_cons (by omega)]; exact ⟨_, _, rfl⟩
    obtain ⟨h1, h2, h3⟩ := rd_at l i v t hd
    rw [hd, encB]
    have ew := nextw i (by omega)
    obtain ⟨K5, g5⟩ := ih (i + 1) (x4 ++ vB v) (by clear ew; omega) (bytes_app hb (vB_bytes v)) (by clear ew; rw [List.length_append, vB_length]; omega)
    rw [h3] at g5
    have go : ∀ m : Int, bN m 0 1 = [if v.f1 then 1 else 0] → Ev (fun k => journal_Encode.j1 k x4 m l (l.length : Int) (i : Int) v.f0 v.f1 v.f2 v.f3) (encB (x4 ++ vB v) t, 0) := fun m hm => by
      obtain ⟨K1, g1⟩ := xput_ev v.f0 4 (by decide) x4 (by clear ew; omega)
      obtain ⟨K2, g2⟩ := xput_ev m 1 (by decide) (x4 ++ bN v.f0 0 4) (by clear ew; rw [List.length_append, bN_length]; omega)
      obtain ⟨K3, g3⟩ := xput_ev v.f2 4 (by decide) (x4 ++ bN v.f0 0 4 ++ bN m 0 1) (by clear ew; rw [List.length_append, List.length_append, bN_length, bN_length]; omega)
      obtain ⟨K4, g4⟩ := xput_ev (wrap64 v.f3) 4 (by decide) (x4 ++ bN v.f0 0 4 ++ bN m 0 1 ++ bN v.f2 0 4) (by clear ew; rw [List.length_append, List.length_append, List.length_append, bN_length, bN_length, bN_length]; omega)
      have e : x4 ++ bN v.f0 0 4 ++ bN m 0 1 ++ bN v.f2 0 4 ++ bN (wrap64 v.f3) 0 4 = x4 ++ vB v := by rw [hm]; unfold vB; simp only [List.append_assoc]
      refine ⟨max (max K1 K2) (max (max K3 K4) K5) + 1, fun k hk => ?_⟩
      obtain ⟨k, rfl⟩ : ∃ j, k = j + 1 := ⟨k - 1, by clear ew; omega⟩
      have g1 := g1 k (by clear ew; omega)
      have g2 := g2 k (by clear ew; omega)
      have g3 := g3 k (by clear ew; omega)
      have g4 := g4 k (by clear ew; omega)
      have g5 := g5 k (by clear ew; omega)
      simp only at g1 g2 g3 g4 g5
      have g1' : journal_put.f k x4 v.f0 4 = some (x4 ++ bN v.f0 0 4) := g1
      have g2' : journal_put.f k (x4 ++ bN v.f0 0 4) m 1 = some (x4 ++ bN v.f0 0 4 ++ bN m 0 1) := g2
      have g3' : journal_put.f k (x4 ++ bN v.f0 0 4 ++ bN m 0 1) v.f2 4 = some (x4 ++ bN v.f0 0 4 ++ bN m 0 1 ++ bN v.f2 0 4) := g3
      have g4' : journal_put.f k (x4 ++ bN v.f0 0 4 ++ bN m 0 1 ++ bN v.f2 0 4) (wrap64 v.f3) 4 = some (x4 ++ vB v) := by rw [← e]; exact g4
      show journal_Encode.j1 (k + 1) x4 m l (l.length : Int) (i : Int) v.f0 v.f1 v.f2 v.f3 = _
      rw [journal_Encode.j1, g1', Option.bind_some, g2', Option.bind_some, g3', Option.bind_some, g4', Option.bind_some, ew, g5]
    cases hm : v.f1 with
    | true =>
      refine Ev.step (f := fun k => journal_Encode.j1 k x4 1 l (l.length : Int) (i : Int) v.f0 v.f1 v.f2 v.f3) (fun k => ?_) (go 1 (by rw [hm]; decide))
      clear ew
      rw [journal_Encode.l0, if_pos (by omega), if_pos (by omega), if_pos (by omega), h1, if_pos hm]
    | false =>
      refine Ev.step (f := fun k => journal_Encode.j1 k x4 0 l (l.length : Int) (i : Int) v.f0 v.f1 v.f2 v.f3) (fun k => ?_) (go 0 (by rw [hm]; decide))
      clear ew
      rw [journal_Encode.l0, if_pos (by omega), if_pos (by omega), if_pos (by omega), h1, if_neg (by rw [hm]; decide)]
/-- What stands ahead of the versions. -/
def headJ (tg : Int) (nm : ByteArray) (l : List S72) : List Int := [83, 66, 74, 49] ++ bN tg 0 4 ++ bN (nm.size : Int) 0 2 ++ bytesOf nm ++ [(l.length : Int) % 256]
theorem headJ_length (tg : Int) (nm : ByteArray) (l : List S72) : (headJ tg nm l).length = 11 + nm.size := by
  unfold headJ
  simp only [List.length_append, bN_length, bytesOf_length, List.length_singleton, List.length_cons, List.length_nil]
  omega
theorem headJ_bytes (tg : Int) (nm : ByteArray) (l : List S72) : Bytes (headJ tg nm l) := by
  unfold headJ
  refine bytes_app (bytes_app (bytes_app (bytes_app ?_ (bN_bytes _ _ _)) (bN_bytes _ _ _)) (bytesOf_bytes nm)) ?_
  · unfold Bytes; decide
  · intro x hx
    have : x = (l.length : Int) % 256 := by simpa using hx
    omega
/-- What Encode answers. -/
def encR (tg : Int) (nm : ByteArray) (l : List S72) : List Int × Int := if mayJ tg nm l = true then (encB (headJ tg nm l) l, 0) else ([], 1)
theorem mayJ_bounds {tg : Int} {nm : ByteArray} {l : List S72} (hm : mayJ tg nm l = true) : nm.size ≤ 600 ∧ l.length ≤ 64 := by
  unfold mayJ at hm
  rw [Bool.and_eq_true] at hm
  have := of_decide_eq_true hm.1
  omega
theorem xenc_ev (tg : Int) (nm : ByteArray) (l : List S72) (hl : l.length < 1000000) : Ev (fun k => journal_Encode.f k tg nm l) (encR tg nm l) := by
  obtain ⟨K0, g0⟩ := jmay_ev tg nm l (by omega)
  unfold encR
  by_cases hm : mayJ tg nm l = true
  · have hb := mayJ_bounds hm
    rw [if_pos hm]
    obtain ⟨K1, g1⟩ := xput_ev tg 4 (by decide) [83, 66, 74, 49] (by decide)
    obtain ⟨K2, g2⟩ := xput_ev (nm.size : Int) 2 (by decide) ([83, 66, 74, 49] ++ bN tg 0 4) (by rw [List.length_append, bN_length]; decide)
    obtain ⟨K5, g5⟩ := xenc_l0 l (by omega) l.length 0 (headJ tg nm l) (by omega) (headJ_bytes _ _ _) (by rw [headJ_length]; omega)
    refine ⟨max (max K0 K1) (max K2 K5), fun k hk => ?_⟩
    have g0 := g0 k (by omega)
    have g1 := g1 k (by omega)
    have g2 := g2 k (by omega)
    have g5 := g5 k (by omega)
    simp only at g0 g1 g2 g5
    have g1' : journal_put.f k [83, 66, 74, 49] tg 4 = some ([83, 66, 74, 49] ++ bN tg 0 4) := g1
    have g2' : journal_put.f k ([83, 66, 74, 49] ++ bN tg 0 4) (nm.size : Int) 2 = some ([83, 66, 74, 49] ++ bN tg 0 4 ++ bN (nm.size : Int) 0 2) := g2
    have c1 : ([83, 66, 74, 49] ++ bN tg 0 4 ++ bN (nm.size : Int) 0 2 : List Int).length + nm.size < 140737488355328 := by
      simp only [List.length_append, bN_length, List.length_cons, List.length_nil]; omega
    have c2 : ([83, 66, 74, 49] ++ bN tg 0 4 ++ bN (nm.size : Int) 0 2 ++ bytesOf nm : List Int).length < 140737488355328 := by
      simp only [List.length_append, bN_length, bytesOf_length, List.length_cons, List.length_nil]; omega
    show journal_Encode.f k tg nm l = _
    rw [journal_Encode.f, g0, hm, Option.bind_some, if_pos rfl, g1', Option.bind_some, g2', Option.bind_some, if_pos c1, Option.bind_some, if_pos c2]
    exact g5
  · rw [if_neg hm]
    refine ⟨K0, fun k hk => ?_⟩
    have g0 := g0 k hk
    simp only at g0
    show journal_Encode.f k tg nm l = _
    rw [journal_Encode.f, g0, Option.bind_some, if_neg hm]

theorem rd_take (l : List Int) (n i : Nat) (h : i < n) : rd (l.take n) (i : Int) = rd l (i : Int) := by
  unfold rd
  rw [Int.toNat_natCast, List.getD_eq_getElem?_getD, List.getD_eq_getElem?_getD, List.getElem?_take, if_pos h]
theorem rd_drop (l : List Int) (p i : Nat) : rd (l.drop p) (i : Int) = rd l ((p + i : Nat) : Int) := by
  unfold rd
  rw [Int.toNat_natCast, Int.toNat_natCast, List.getD_eq_getElem?_getD, List.getD_eq_getElem?_getD, List.getElem?_drop]
theorem rd_range {l : List Int} (h : Bytes l) (i : Nat) (h1 : i < l.length) : 0 ≤ rd l (i : Int) ∧ rd l (i : Int) < 256 := by
  obtain ⟨x, e, hx⟩ := rd_byte h i h1
  omega
/-- The number of four bytes at a place, of two. -/
def num4 (l : List Int) (a : Nat) : Int := rd l (a : Int) + 256 * rd l ((a + 1 : Nat) : Int) + 65536 * rd l ((a + 2 : Nat) : Int) + 16777216 * rd l ((a + 3 : Nat) : Int)
def num2 (l : List Int) (a : Nat) : Int := rd l (a : Int) + 256 * rd l ((a + 1 : Nat) : Int)
theorem num4_range {l : List Int} (h : Bytes l) (a : Nat) (h1 : a + 4 ≤ l.length) : 0 ≤ num4 l a ∧ num4 l a < 4294967296 := by
  have := rd_range h a (by omega)
  have := rd_range h (a + 1) (by omega)
  have := rd_range h (a + 2) (by omega)
  have := rd_range h (a + 3) (by omega)
  unfold num4
  omega
theorem num2_range {l : List Int} (h : Bytes l) (a : Nat) (h1 : a + 2 ≤ l.length) : 0 ≤ num2 l a ∧ num2 l a < 65536 := by
  have := rd_range h a (by omega)
  have := rd_range h (a + 1) (by omega)
  unfold num2
  omega
theorem num4_take (l : List Int) (n a : Nat) (h : a + 4 ≤ n) : num4 (l.take n) a = num4 l a := by
  unfold num4
  rw [rd_take l n a (by omega), rd_take l n (a + 1) (by omega), rd_take l n (a + 2) (by omega), rd_take l n (a + 3) (by omega)]
theorem num2_take (l : List Int) (n a : Nat) (h : a + 2 ≤ n) : num2 (l.take n) a = num2 l a := by
  unfold num2
  rw [rd_take l n a (by omega), rd_take l n (a + 1) (by omega)]
theorem num4_drop (l : List Int) (p a : Nat) : num4 (l.drop p) a = num4 l (p + a) := by
  unfold num4
  rw [rd_drop, rd_drop, rd_drop, rd_drop]
  rfl
theorem num4_rd4 (l : List Int) (n : Nat) (h : l.length = n + 4) : rd4 (l.drop n) = num4 l n := by
  have e : l.drop n = (l.drop n).take 4 := (List.take_of_length_le (by rw [List.length_drop]; omega)).symm
  rw [e, take_four l n (by omega)]
  rfl
theorem or_place (s x : Nat) (i : Nat) (hi : i < 4) (hs : s < 2 ^ (8 * i)) (hx : x < 256) :
    Go.bits .or .i64 (s : Int) (shl .i64 (wrap64 (x : Int)) ((8 * i : Nat) : Int)) = ((s + x * 2 ^ (8 * i) : Nat) : Int) := by
  have hp : x * 2 ^ (8 * i) < 4294967296 := by
    have h2 : (2 : Nat) ^ (8 * i) ≤ 2 ^ 24 := Nat.pow_le_pow_right (by omega) (by omega)
    have h3 : x * 2 ^ (8 * i) ≤ 255 * 2 ^ 24 := Nat.mul_le_mul (by omega) h2
    omega
  have e1 : shl .i64 (wrap64 (x : Int)) ((8 * i : Nat) : Int) = ((x * 2 ^ (8 * i) : Nat) : Int) := by
    rw [w64_lt (by omega) (by omega : (x : Int) < _)]
    unfold shl
    rw [Int.toNat_natCast, Nat.min_eq_left (by show 8 * i ≤ 64; omega), IntKind.wrap_i64]
    have h4 : (x : Int) * 2 ^ (8 * i) = ((x * 2 ^ (8 * i) : Nat) : Int) := by simp
    rw [h4]
    generalize x * 2 ^ (8 * i) = q at hp ⊢
    omega
  have hs2 : s < 4294967296 := by
    have h2 : (2 : Nat) ^ (8 * i) ≤ 2 ^ 24 := Nat.pow_le_pow_right (by omega) (by omega)
    omega
  have hp2 : x * 2 ^ (8 * i) < 9223372036854775808 := Nat.lt_trans hp (by decide)
  have hs3 : s < 9223372036854775808 := Nat.lt_trans hs2 (by decide)
  rw [e1, i64_or_nat _ _ hs3 hp2, or_add s x (8 * i) hs]
theorem jget_step (l : List Int) (a w s x i : Nat) (k : Nat) (hx : rd l ((a + i : Nat) : Int) = (x : Int)) (hxb : x < 256) (hi : i < w) (hw : w ≤ 4) (hs : s < 2 ^ (8 * i)) (hl : a + i < l.length) (hl2 : l.length ≤ 1000000) :
    journal_get.l0 (k + 1) l (a : Int) (s : Int) (w : Int) (i : Int) = journal_get.l0 k l (a : Int) ((s + x * 2 ^ (8 * i) : Nat) : Int) (w : Int) ((i + 1 : Nat) : Int) := by
  have i4 : i < 4 := Nat.lt_of_lt_of_le hi hw
  have op := or_place s x i i4 hs hxb
  have c1 : (i : Int) < (w : Int) := Int.ofNat_lt.2 hi
  have c2 : (0 : Int) ≤ ((a + i : Nat) : Int) := Int.natCast_nonneg _
  have c3 : ((a + i : Nat) : Int) < (l.length : Int) := Int.ofNat_lt.2 hl
  have c4 : (0 : Int) ≤ ((8 * i : Nat) : Int) := Int.natCast_nonneg _
  have ew : wrap64 ((a : Int) + (i : Int)) = ((a + i : Nat) : Int) ∧ wrap64 (8 * (i : Int)) = ((8 * i : Nat) : Int) ∧ wrap64 ((i : Int) + 1) = ((i + 1 : Nat) : Int) := by
    clear op hx hs c1 c2 c3 c4
    refine ⟨?_, ?_, ?_⟩
    · rw [w64_lt (by omega) (by omega)]; omega
    · rw [w64_lt (by omega) (by omega)]; omega
    · rw [w64_lt (by omega) (by omega)]; omega
  rw [journal_get.l0, if_pos c1, ew.1, if_pos c2, if_pos c3, ew.2.1, if_pos c4, hx, op, ew.2.2]
theorem jget_end (l : List Int) (a w : Nat) (s : Int) (k : Nat) : journal_get.l0 (k + 1) l (a : Int) s (w : Int) (w : Int) = some s := by
  rw [journal_get.l0, if_neg (by omega)]
theorem jget4 {l : List Int} (h : Bytes l) (a : Nat) (h1 : a + 4 ≤ l.length) (hl : l.length ≤ 1000000) (k : Nat) : journal_get.f (k + 5) l (a : Int) 4 = some (num4 l a) := by
  obtain ⟨b0, e0, h0⟩ := rd_byte h (a + 0) (by omega)
  obtain ⟨b1, e1, h1'⟩ := rd_byte h (a + 1) (by omega)
  obtain ⟨b2, e2, h2⟩ := rd_byte h (a + 2) (by omega)
  obtain ⟨b3, e3, h3⟩ := rd_byte h (a + 3) (by omega)
  show journal_get.l0 (k + 5) l (a : Int) ((0 : Nat) : Int) ((4 : Nat) : Int) ((0 : Nat) : Int) = _
  rw [jget_step l a 4 0 b0 0 _ e0 h0 (by decide) (by decide) (by decide) (by omega) hl,
    jget_step l a 4 _ b1 1 _ e1 h1' (by decide) (by decide) (by clear e0 e1 e2 e3; omega) (by omega) hl,
    jget_step l a 4 _ b2 2 _ e2 h2 (by decide) (by decide) (by clear e0 e1 e2 e3; omega) (by omega) hl,
    jget_step l a 4 _ b3 3 _ e3 h3 (by decide) (by decide) (by clear e0 e1 e2 e3; omega) (by omega) hl]
  rw [show ((3 + 1 : Nat) : Int) = ((4 : Nat) : Int) from rfl, jget_end]
  unfold num4
  rw [show ((a : Nat) : Int) = ((a + 0 : Nat) : Int) from rfl, e0, e1, e2, e3]
  congr 1
  clear e0 e1 e2 e3
  omega
theorem jget2 {l : List Int} (h : Bytes l) (a : Nat) (h1 : a + 2 ≤ l.length) (hl : l.length ≤ 1000000) (k : Nat) : journal_get.f (k + 3) l (a : Int) 2 = some (num2 l a) := by
  obtain ⟨b0, e0, h0⟩ := rd_byte h (a + 0) (by omega)
  obtain ⟨b1, e1, h1'⟩ := rd_byte h (a + 1) (by omega)
  show journal_get.l0 (k + 3) l (a : Int) ((0 : Nat) : Int) ((2 : Nat) : Int) ((0 : Nat) : Int) = _
  rw [jget_step l a 2 0 b0 0 _ e0 h0 (by decide) (by decide) (by decide) (by omega) hl,
    jget_step l a 2 _ b1 1 _ e1 h1' (by decide) (by decide) (by clear e0 e1; omega) (by omega) hl]
  rw [show ((1 + 1 : Nat) : Int) = ((2 : Nat) : Int) from rfl, jget_end]
  unfold num2
  rw [show ((a : Nat) : Int) = ((a + 0 : Nat) : Int) from rfl, e0, e1]
  congr 1
  clear e0 e1
  omega
theorem jgv_num {l : List Int} (h : Bytes l) (a : Nat) (h1 : a + 4 ≤ l.length) (hl : l.length ≤ 1000000) : jgv l (a : Int) = num4 l a := by
  unfold jgv
  rw [jget4 h a h1 hl 0]
  rfl
/-- The version at a place. -/
def verAt (l : List Int) (p : Nat) : S72 := ⟨num4 l p, rd l ((p + 4 : Nat) : Int) == 1, num4 l (p + 5), num4 l (p + 9) % 4294967296⟩
/-- No fifth byte is above one. -/
def okMark (l : List Int) (o m : Nat) : Bool := (List.range m).all fun i => decide (rd l ((o + i * 13 + 4 : Nat) : Int) ≤ 1)
def versAt (l : List Int) (o m : Nat) : List S72 := (List.range m).map fun i => verAt l (o + i * 13)
theorem versAt_length (l : List Int) (o m : Nat) : (versAt l o m).length = m := by unfold versAt; rw [List.length_map, List.length_range]
theorem jver_at {l : List Int} (h : Bytes l) (o i : Nat) (hi : o + i * 13 + 13 ≤ l.length) (hl : l.length ≤ 1000000) : jver (jpiece (l.drop o) i) = verAt l (o + i * 13) ∧ rd (jpiece (l.drop o) i) 4 = rd l ((o + i * 13 + 4 : Nat) : Int) := by
  have e1 : (jpiece (l.drop o) i).length = 13 := by unfold jpiece; rw [List.length_take, List.length_drop, List.length_drop]; omega
  have e2 : Bytes (jpiece (l.drop o) i) := h.sub fun x hx => List.mem_of_mem_drop (List.mem_of_mem_drop (List.mem_of_mem_take hx))
  have er : rd (jpiece (l.drop o) i) 4 = rd l ((o + i * 13 + 4 : Nat) : Int) := by
    show rd (jpiece (l.drop o) i) ((4 : Nat) : Int) = _
    unfold jpiece
    rw [rd_take _ 13 4 (by decide), rd_drop, rd_drop, Nat.add_assoc]
  have en : ∀ a : Nat, a + 4 ≤ 13 → jgv (jpiece (l.drop o) i) (a : Int) = num4 l (o + i * 13 + a) := fun a ha => by
    rw [jgv_num e2 a (by omega) (by omega)]
    unfold jpiece
    rw [num4_take _ 13 a ha, num4_drop, num4_drop, Nat.add_assoc]
  refine ⟨?_, er⟩
  unfold jver verAt
  have n0 := en 0 (by decide)
  have n5 := en 5 (by decide)
  have n9 := en 9 (by decide)
  have n0' : jgv (jpiece (l.drop o) i) 0 = num4 l (o + i * 13) := n0
  have n5' : jgv (jpiece (l.drop o) i) 5 = num4 l (o + i * 13 + 5) := n5
  have n9' : jgv (jpiece (l.drop o) i) 9 = num4 l (o + i * 13 + 9) := n9
  rw [n0', n5', n9', er]
theorem versions_at {l : List Int} (h : Bytes l) (o m : Nat) (hm : l.length = o + 13 * m) (hl : l.length ≤ 262144) (k : Nat) :
    journal_versions.f k (l.drop o) = some (if okMark l o m = true then (versAt l o m, true) else ([], false)) := by
  have e1 : (l.drop o).length = 13 * m := by rw [List.length_drop]; omega
  have e2 : 13 * m / 13 = m := by omega
  have hc : ∀ i, i ∈ List.range m → jver (jpiece (l.drop o) i) = verAt l (o + i * 13) ∧ rd (jpiece (l.drop o) i) 4 = rd l ((o + i * 13 + 4 : Nat) : Int) := fun i hi => jver_at h o i (by have := List.mem_range.1 hi; omega) (by omega)
  have ea : (List.range m).all (fun i => decide (rd (jpiece (l.drop o) i) 4 ≤ 1)) = okMark l o m := by
    unfold okMark
    rw [Bool.eq_iff_iff, List.all_eq_true, List.all_eq_true]
    constructor
    · intro g i hi; rw [← (hc i hi).2]; exact g i hi
    · intro g i hi; rw [(hc i hi).2]; exact g i hi
  have em : (List.range m).map (fun i => jver (jpiece (l.drop o) i)) = versAt l o m := List.map_congr_left fun i hi => (hc i hi).1
  unfold journal_versions.f
  rw [e1, if_pos (by omega), if_pos (by omega), e2, ea, em]
  split <;> rfl
/-- What Decode answers. -/
def errJ (e : Int) : Int × ByteArray × List S72 × Int := (0, (⟨#[]⟩ : ByteArray), ([] : List S72), e)
def nameAt (l : List Int) (q : Nat) : ByteArray := strOfNums ((l.take (10 + q)).drop 10)
def decT (l : List Int) (q m : Nat) : Int × ByteArray × List S72 × Int :=
  if okMark l (11 + q) m = true then (if mayJ (num4 l 4) (nameAt l q) (versAt l (11 + q) m) = true then (num4 l 4, nameAt l q, versAt l (11 + q) m, 0) else errJ 4) else errJ 4
def formJ (l : List Int) (n q m : Nat) : Prop := (strOfNums (l.take 4)).toList = ([83, 66, 74, 49] : List UInt8) ∧ 11 + q ≤ n ∧ n = 11 + q + 13 * m
instance (l : List Int) (n q m : Nat) : Decidable (formJ l n q m) := by unfold formJ; exact inferInstance
def decR (l : List Int) : Int × ByteArray × List S72 × Int :=
  if l.length > 262144 then errJ 3 else if l.length < 15 then errJ 2 else
  if num4 l (l.length - 4) = toI (sumW (l.take (l.length - 4))) then
    (if formJ l (l.length - 4) (num2 l 8).toNat (rd l ((10 + (num2 l 8).toNat : Nat) : Int)).toNat then decT l (num2 l 8).toNat (rd l ((10 + (num2 l 8).toNat : Nat) : Int)).toNat else errJ 4)
  else errJ 5
theorem take_take_min (l : List Int) (n m : Nat) (h : m ≤ n) : (l.take n).take m = l.take m := by rw [List.take_take, Nat.min_eq_left h]
theorem okMark_take (l : List Int) (n o m : Nat) (h : o + 13 * m ≤ n) : okMark (l.take n) o m = okMark l o m := by
  unfold okMark
  rw [Bool.eq_iff_iff, List.all_eq_true, List.all_eq_true]
  constructor
  · intro g i hi
    have hi' := List.mem_range.1 hi
    rw [← rd_take l n _ (by omega)]; exact g i hi
  · intro g i hi
    have hi' := List.mem_range.1 hi
    rw [rd_take l n _ (by omega)]; exact g i hi
theorem versAt_take (l : List Int) (n o m : Nat) (h : o + 13 * m ≤ n) : versAt (l.take n) o m = versAt l o m := by
  unfold versAt
  refine List.map_congr_left fun i hi => ?_
  have hi' := List.mem_range.1 hi
  unfold verAt
  rw [num4_take l n _ (by omega), num4_take l n _ (by omega), num4_take l n _ (by omega), rd_take l n _ (by omega)]
theorem jdec_tail {l : List Int} (h : Bytes l) (n q m : Nat) (hn : n ≤ l.length) (hl : l.length ≤ 262144) (hf : n = 11 + q + 13 * m) :
    Ev (fun k => journal_Decode.j0 k (l.take n) ((10 + q : Nat) : Int) false) (decT l q m) := by
  have hb : Bytes (l.take n) := h.sub fun x hx => List.mem_of_mem_take hx
  have hlen : (l.take n).length = n := by rw [List.length_take]; omega
  have e1 : wrap64 (((10 + q : Nat) : Int) + 1) = ((11 + q : Nat) : Int) := by rw [w64_lt (by omega) (by omega)]; omega
  have c1 : (0 : Int) ≤ ((11 + q : Nat) : Int) := Int.natCast_nonneg _
  have c2 : ((11 + q : Nat) : Int) ≤ ((l.take n).length : Int) := by rw [hlen]; clear e1; omega
  have c3 : (10 : Int) ≤ ((10 + q : Nat) : Int) := by clear e1; omega
  have c4 : ((10 + q : Nat) : Int) ≤ ((l.take n).length : Int) := by rw [hlen]; clear e1; omega
  have hv := versions_at hb (11 + q) m (by rw [hlen]; exact hf) (by rw [hlen]; omega)
  rw [okMark_take l n _ _ (by omega), versAt_take l n _ _ (by omega)] at hv
  have hg := jget4 hb 4 (by rw [hlen]; omega) (by rw [hlen]; omega)
  rw [num4_take l n 4 (by omega)] at hg
  obtain ⟨K, gm⟩ := jmay_ev (num4 l 4) (nameAt l q) (versAt l (11 + q) m) (by rw [versAt_length]; omega)
  refine ⟨K + 6, fun k hk => ?_⟩
  obtain ⟨k, rfl⟩ : ∃ j, k = j + 6 := ⟨k - 6, by clear e1; omega⟩
  have gm := gm (k + 5) (by clear e1; omega)
  simp only at gm
  have hg' : journal_get.f (k + 5) (l.take n) 4 4 = some (num4 l 4) := hg k
  show journal_Decode.j0 (k + 5 + 1) (l.take n) ((10 + q : Nat) : Int) false = _
  rw [journal_Decode.j0, if_neg (by decide), e1, if_pos c1, if_pos c2, Int.toNat_natCast, hv (k + 5), Option.bind_some, hg', Option.bind_some, if_pos c3, if_pos c4, Option.bind_some, Int.toNat_natCast, take_take_min l n (10 + q) (by clear e1; omega)]
  unfold decT
  by_cases hok : okMark l (11 + q) m = true
  · rw [if_pos hok, if_pos hok, if_pos rfl]
    have gm' : journal_May.f (k + 5) (num4 l 4) (strOfNums ((l.take (10 + q)).drop 10)) (versAt l (11 + q) m) = some (mayJ (num4 l 4) (nameAt l q) (versAt l (11 + q) m)) := gm
    rw [gm', Option.bind_some]
    by_cases hm : mayJ (num4 l 4) (nameAt l q) (versAt l (11 + q) m) = true
    · rw [if_pos hm, if_pos hm]; rfl
    · rw [if_neg hm, if_neg hm]; rfl
  · rw [if_neg hok, if_neg hok, if_neg (by decide)]; rfl
theorem jdec_true (l : List Int) (q : Int) : Ev (fun k => journal_Decode.j0 k l q true) (errJ 4) :=
  Ev.step (f := fun _ => some (errJ 4)) (fun k => by rw [journal_Decode.j0, if_pos rfl]; rfl) (Ev.now _)
theorem form_w (q m : Nat) (hq : q < 65536) (hm : m < 256) : wrap64 (m : Int) = (m : Int) ∧ wrap64 (13 * (m : Int)) = ((13 * m : Nat) : Int) ∧ wrap64 (((11 + q : Nat) : Int) + ((13 * m : Nat) : Int)) = ((11 + q + 13 * m : Nat) : Int) := by
  refine ⟨?_, ?_, ?_⟩
  · exact w64_lt (by omega) (by omega)
  · rw [w64_lt (by omega) (by omega)]; omega
  · rw [w64_lt (by omega) (by omega)]; omega
theorem form_q (q : Nat) (hq : q < 65536) : wrap64 (10 + (q : Int)) = ((10 + q : Nat) : Int) ∧ wrap64 (((10 + q : Nat) : Int) + 1) = ((11 + q : Nat) : Int) ∧ wrap64 (11 + (q : Int)) = ((11 + q : Nat) : Int) := by
  refine ⟨?_, ?_, ?_⟩
  · rw [w64_lt (by omega) (by omega)]; omega
  · rw [w64_lt (by omega) (by omega)]; omega
  · rw [w64_lt (by omega) (by omega)]; omega
theorem form_n (n len : Nat) (h : n + 4 = len) (hl : len ≤ 262144) : wrap64 ((len : Int) - 4) = (n : Int) := by
  rw [w64_lt (by omega) (by omega)]; omega
theorem jdec_ev {l : List Int} (h : Bytes l) : Ev (fun k => journal_Decode.f k l) (decR l) := by
  unfold decR
  by_cases h1 : l.length > 262144
  · rw [if_pos h1]
    refine Ev.congr (f := fun _ => some (errJ 3)) (fun k => ?_) (Ev.now _)
    rw [journal_Decode.f, if_pos (by omega)]; rfl
  rw [if_neg h1]
  by_cases h2 : l.length < 15
  · rw [if_pos h2]
    refine Ev.congr (f := fun _ => some (errJ 2)) (fun k => ?_) (Ev.now _)
    rw [journal_Decode.f, if_neg (by omega), if_pos (by omega)]; rfl
  rw [if_neg h2]
  obtain ⟨n, hn⟩ : ∃ n, n = l.length - 4 := ⟨_, rfl⟩
  obtain ⟨K1, g1⟩ := read_ev (l.drop n) (h.sub fun x hx => List.mem_of_mem_drop hx) (by rw [List.length_drop]; omega)
  obtain ⟨K2, g2⟩ := sum_ev (l.take n) (by rw [List.length_take]; omega) (h.sub fun x hx => List.mem_of_mem_take hx)
  rw [num4_rd4 l n (by omega)] at g1
  have c1 : ¬ (l.length : Int) > 262144 := by omega
  have c2 : ¬ (l.length : Int) < 15 := by omega
  have c3 : (0 : Int) ≤ (n : Int) := Int.natCast_nonneg _
  have c4 : (n : Int) ≤ (l.length : Int) := by omega
  have hlen : (l.take n).length = n := by rw [List.length_take]; omega
  have hb : Bytes (l.take n) := h.sub fun x hx => List.mem_of_mem_take hx
  rw [← hn]
  by_cases hs : num4 l n = toI (sumW (l.take n))
  · rw [if_pos hs]
    have hq := num2_range h 8 (by omega)
    obtain ⟨q, eq⟩ := Int.eq_ofNat_of_zero_le hq.1
    have hg := jget2 hb 8 (by rw [hlen]; omega) (by rw [hlen]; omega)
    rw [num2_take l n 8 (by omega), eq] at hg
    rw [eq, Int.toNat_natCast]
    have hq2 : q < 65536 := by rw [eq] at hq; omega
    have c5 : (4 : Int) ≤ ((l.take n).length : Int) := by rw [hlen]; omega
    -- what the walk comes to behind the sum
    have main : Ev (fun k => if (strOfNums ((l.take n).take 4)).toList = ([83, 66, 74, 49] : List UInt8) then (if (n : Int) < ((11 + q : Nat) : Int) then (journal_Decode.j0 k (l.take n) ((10 + q : Nat) : Int) true) else (if (0 : Int) ≤ ((10 + q : Nat) : Int) then (if ((10 + q : Nat) : Int) < ((l.take n).length : Int) then (journal_Decode.j0 k (l.take n) ((10 + q : Nat) : Int) ((n : Int) != (wrap64 (((11 + q : Nat) : Int) + (wrap64 (13 * (wrap64 (rd (l.take n) ((10 + q : Nat) : Int))))))))) else (none)) else (none))) else (journal_Decode.j0 k (l.take n) ((10 + q : Nat) : Int) true))
        (if formJ l n q (rd l ((10 + q : Nat) : Int)).toNat then decT l q (rd l ((10 + q : Nat) : Int)).toNat else errJ 4) := by
      rw [take_take_min l n 4 (by omega)]
      by_cases m1 : (strOfNums (l.take 4)).toList = ([83, 66, 74, 49] : List UInt8)
      · simp only [if_pos m1]
        by_cases m2 : (n : Int) < ((11 + q : Nat) : Int)
        · simp only [if_pos m2]
          rw [if_neg (fun hf : formJ l n q _ => by have := hf.2.1; omega)]
          exact jdec_true _ _
        · simp only [if_neg m2]
          have c6 : ((10 + q : Nat) : Int) < ((l.take n).length : Int) := by rw [hlen]; omega
          have hr := rd_range h (10 + q) (by omega)
          rw [rd_take l n (10 + q) (by omega)]
          obtain ⟨m, em⟩ := Int.eq_ofNat_of_zero_le hr.1
          rw [em, Int.toNat_natCast]
          have em2 : m < 256 := by rw [em] at hr; omega
          rw [(form_w q m hq2 em2).1, (form_w q m hq2 em2).2.1, (form_w q m hq2 em2).2.2]
          simp only [if_pos (Int.natCast_nonneg (10 + q)), if_pos c6]
          by_cases m3 : n = 11 + q + 13 * m
          · rw [if_pos ⟨m1, by omega, m3⟩]
            have eb : ((n : Int) != ((11 + q + 13 * m : Nat) : Int)) = false := bne_eq_false_iff_eq.2 (by rw [m3])
            rw [eb]
            exact jdec_tail h n q m (by omega) (by omega) m3
          · rw [if_neg (fun hf : formJ l n q m => m3 hf.2.2)]
            have eb : ((n : Int) != ((11 + q + 13 * m : Nat) : Int)) = true := bne_iff_ne.2 (by omega)
            rw [eb]
            exact jdec_true _ _
      · simp only [if_neg m1]
        rw [if_neg (fun hf : formJ l n q _ => m1 hf.1)]
        exact jdec_true _ _
    obtain ⟨K5, g5⟩ := main
    refine ⟨max (max K1 K2) K5 + 3, fun k hk => ?_⟩
    have g1 := g1 k (by omega)
    have g2 := g2 k (by omega)
    have g5 := g5 k (by omega)
    obtain ⟨j, rfl⟩ : ∃ j, k = j + 3 := ⟨k - 3, by omega⟩
    have hg' : journal_get.f (j + 3) (l.take n) 8 2 = some (q : Int) := hg j
    simp only at g1 g2 g5
    show journal_Decode.f (j + 3) l = _
    rw [journal_Decode.f, if_neg c1, if_neg c2, form_n n l.length (by omega) (by omega), if_pos c3, if_pos c4, Int.toNat_natCast, g1, Option.bind_some, g2, Option.bind_some, if_pos hs, Option.bind_some, hg', Option.bind_some, if_pos c5, (form_q q hq2).1, (form_q q hq2).2.1]
    exact g5
  · rw [if_neg hs]
    refine ⟨max K1 K2, fun k hk => ?_⟩
    have g1 := g1 k (by omega)
    have g2 := g2 k (by omega)
    simp only at g1 g2
    show journal_Decode.f k l = _
    rw [journal_Decode.f, if_neg c1, if_neg c2, form_n n l.length (by omega) (by omega), if_pos c3, if_pos c4, Int.toNat_natCast, g1, Option.bind_some, g2, Option.bind_some, if_neg hs]
    rfl

theorem same_l0 (l : List S72) (hl : l.length < 1000000) (tg : Int) (nm : ByteArray) (d : Nat) : ∀ i : Nat, i + d = l.length → Ev (fun k => strongboxref4_Same.l0 k (i : Int) tg nm l tg nm l) true := by
  induction d with
  | zero =>
    intro i hi
    refine Ev.step (f := fun _ => some true) (fun k => ?_) (Ev.now _)
    rw [strongboxref4_Same.l0, if_neg (by omega)]
  | succ d ih =>
    intro i hi
    have ew := nextw i (by omega)
    refine Ev.step (f := fun k => strongboxref4_Same.l0 k ((i + 1 : Nat) : Int) tg nm l tg nm l) (fun k => ?_) (ih (i + 1) (by omega))
    have c1 : (i : Int) < (l.length : Int) := by clear ew; omega
    rw [strongboxref4_Same.l0, if_pos c1, if_pos (Int.natCast_nonneg _), if_pos c1, if_neg (by simp), ew]
theorem same_ev (tg : Int) (nm : ByteArray) (l : List S72) (hl : l.length < 1000000) : Ev (fun k => strongboxref4_Same.f k tg nm l tg nm l) true := by
  obtain ⟨K, g⟩ := same_l0 l hl tg nm l.length 0 (by omega)
  refine ⟨K + 1, fun k hk => ?_⟩
  obtain ⟨k, rfl⟩ : ∃ j, k = j + 1 := ⟨k - 1, by omega⟩
  have g := g k (by omega)
  simp only at g
  show strongboxref4_Same.f (k + 1) tg nm l tg nm l = _
  rw [strongboxref4_Same.f, if_pos rfl, if_pos rfl, show ((l.length : Int) != (l.length : Int)) = false from bne_eq_false_iff_eq.2 rfl, strongboxref4_Same.j0, if_neg (by decide)]
  exact g
theorem decR_vers {l : List Int} (h : Bytes l) : (decR l).2.2.1.length < 1000 := by
  unfold decR
  repeat' split
  all_goals first | (show (0 : Nat) < 1000; decide) | skip
  next h1 h2 h3 h4 =>
    have hr := rd_range h (10 + (num2 l 8).toNat) (by have := h4.2.1; have := h4.2.2; omega)
    unfold decT
    repeat' split
    all_goals first | (show (0 : Nat) < 1000; decide) | skip
    next => show (versAt l _ _).length < 1000; rw [versAt_length]; omega

theorem str_bytes (s : ByteArray) : strOfNums (bytesOf s) = s := by
  unfold strOfNums bytesOf
  rw [List.map_map]
  have e : s.data.toList.map ((fun n : Int => UInt8.ofNat n.toNat) ∘ fun b : UInt8 => (b.toNat : Int)) = s.data.toList := by
    conv => rhs; rw [← List.map_id s.data.toList]
    refine List.map_congr_left fun b _ => ?_
    show UInt8.ofNat ((b.toNat : Int)).toNat = b
    rw [Int.toNat_natCast]
    exact UInt8.ofNat_toNat
  rw [e]
theorem byte_back {n : Int} (h0 : 0 ≤ n) (h1 : n < 256) : ((UInt8.ofNat n.toNat).toNat : Int) = n := by
  rw [UInt8.toNat_ofNat']
  have : n.toNat % 2 ^ 8 = n.toNat := Nat.mod_eq_of_lt (by omega)
  rw [this]
  omega
theorem bytes_str {x : List Int} (h : Bytes x) : bytesOf (strOfNums x) = x := by
  unfold strOfNums bytesOf
  show (x.map fun n => UInt8.ofNat n.toNat).map (fun b : UInt8 => (b.toNat : Int)) = x
  rw [List.map_map]
  conv => rhs; rw [← List.map_id x]
  refine List.map_congr_left fun n hn => ?_
  exact byte_back (h n hn).1 (h n hn).2
theorem str_size (x : List Int) : (strOfNums x).size = x.length := by
  show ((x.map fun n => UInt8.ofNat n.toNat).toArray).size = _
  simp
theorem str_told {x : List Int} (h : Bytes x) {y : List Int} {u : List UInt8} (e : (strOfNums x).toList = u) (hy : u.map (fun b : UInt8 => (b.toNat : Int)) = y) : x = y := by
  rw [show (strOfNums x).toList = (strOfNums x).data.toList from ByteArray.toList_eq _] at e
  have e2 := bytes_str h
  unfold bytesOf at e2
  rw [e, hy] at e2
  exact e2.symm
theorem encB_eq (l : List S72) : ∀ x, encB x l = (x ++ l.flatMap vB) ++ le4 (toI (sumW (x ++ l.flatMap vB))) := by
  induction l with
  | nil => intro x; rw [encB, List.flatMap_nil, List.append_nil]
  | cons v t ih => intro x; rw [encB, ih, List.flatMap_cons]; simp only [List.append_assoc]
theorem flat_length (l : List S72) : (l.flatMap vB).length = 13 * l.length := by
  induction l with
  | nil => rfl
  | cons v t ih => rw [List.flatMap_cons, List.length_append, vB_length, ih, List.length_cons]; omega
theorem flat_bytes (l : List S72) : Bytes (l.flatMap vB) := by
  intro x hx
  obtain ⟨v, _, hv⟩ := List.mem_flatMap.1 hx
  exact vB_bytes v x hv
theorem rd_app (x y : List Int) (i : Nat) : rd (x ++ y) ((x.length + i : Nat) : Int) = rd y (i : Int) := by
  rw [← rd_drop, List.drop_left]
theorem num4_app (x y : List Int) (i : Nat) : num4 (x ++ y) (x.length + i) = num4 y i := by
  rw [← num4_drop, List.drop_left]
theorem num2_drop (l : List Int) (p a : Nat) : num2 (l.drop p) a = num2 l (p + a) := by
  unfold num2
  rw [rd_drop, rd_drop]
  rfl
theorem num2_app (x y : List Int) (i : Nat) : num2 (x ++ y) (x.length + i) = num2 y i := by
  rw [← num2_drop, List.drop_left]
theorem num4_le4 {v : Int} (h0 : 0 ≤ v) (h1 : v < 4294967296) (y : List Int) : num4 (le4 v ++ y) 0 = v := by
  show v % 256 + 256 * (v / 256 % 256) + 65536 * (v / 65536 % 256) + 16777216 * (v / 16777216 % 256) = v
  omega
theorem bN4 {n : Int} (h0 : 0 ≤ n) (h1 : n < 4294967296) : bN n 0 4 = le4 n := by
  have := le4_bN n h0 h1
  rwa [w64_lt h0 (by omega)] at this
theorem bN2 (m : Nat) : bN (m : Int) 0 2 = [(m : Int) % 256, (m : Int) / 256 % 256] := by
  simp only [bN]
  have q : ∀ s : Nat, s ≤ 64 → shr .i64 ((m : Nat) : Int) (s : Int) = ((m / 2 ^ s : Nat) : Int) := fun s hs => by
    unfold shr
    rw [Int.toNat_natCast, Nat.min_eq_left (by show s ≤ 64; omega)]
    simp
  rw [q (8 * 0) (by omega), q (8 * (0 + 1)) (by omega)]
  have p0 : (2 : Nat) ^ (8 * 0) = 1 := rfl
  have p8 : (2 : Nat) ^ (8 * (0 + 1)) = 256 := rfl
  rw [p0, p8, Nat.div_one]
  rfl
theorem verB_all {v : S72} (h : verB v = true) : (0 ≤ v.f0 ∧ v.f0 ≤ 2147483647) ∧ (0 ≤ v.f2 ∧ v.f2 ≤ 65536) := by
  refine ⟨verB_id h, ?_⟩
  have := version_some v
  rw [h] at this
  unfold journal_version.f at this
  have hi := verB_id h
  rw [if_neg (by omega), if_neg (by omega)] at this
  by_cases h3 : v.f2 < 0
  · rw [if_pos h3] at this; cases this
  by_cases h4 : v.f2 > 65536
  · rw [if_neg h3, if_pos h4] at this; cases this
  omega
theorem vB_le4 {v : S72} (h0 : 0 ≤ v.f0 ∧ v.f0 < 4294967296) (h2 : 0 ≤ v.f2 ∧ v.f2 < 4294967296) (h3 : 0 ≤ v.f3 ∧ v.f3 < 4294967296) : vB v = le4 v.f0 ++ [if v.f1 then 1 else 0] ++ le4 v.f2 ++ le4 v.f3 := by
  unfold vB
  rw [bN4 h0.1 h0.2, bN4 h2.1 h2.2, le4_bN v.f3 h3.1 h3.2]
theorem verAt_vB {v : S72} (hv : verB v = true) (h3 : 0 ≤ v.f3 ∧ v.f3 < 4294967296) (y : List Int) : verAt (vB v ++ y) 0 = v ∧ rd (vB v ++ y) ((0 + 4 : Nat) : Int) ≤ 1 := by
  obtain ⟨⟨a1, a2⟩, b1, b2⟩ := verB_all hv
  rw [vB_le4 ⟨a1, by omega⟩ ⟨b1, by omega⟩ h3]
  obtain ⟨f0, f1, f2, f3⟩ := v
  simp only at a1 a2 b1 b2 h3 ⊢
  constructor
  · show (⟨f0 % 256 + 256 * (f0 / 256 % 256) + 65536 * (f0 / 65536 % 256) + 16777216 * (f0 / 16777216 % 256), (if f1 then (1 : Int) else 0) == 1,
      f2 % 256 + 256 * (f2 / 256 % 256) + 65536 * (f2 / 65536 % 256) + 16777216 * (f2 / 16777216 % 256),
      (f3 % 256 + 256 * (f3 / 256 % 256) + 65536 * (f3 / 65536 % 256) + 16777216 * (f3 / 16777216 % 256)) % 4294967296⟩ : S72) = ⟨f0, f1, f2, f3⟩
    rw [S72.mk.injEq]
    refine ⟨by omega, ?_, by omega, by omega⟩
    cases f1 <;> rfl
  · show (if f1 then (1 : Int) else 0) ≤ 1
    split <;> decide
theorem verAt_drop (l : List Int) (p a : Nat) : verAt (l.drop p) a = verAt l (p + a) := by
  unfold verAt
  rw [num4_drop, num4_drop, num4_drop, rd_drop]
  rfl
theorem versAt_cons (l : List Int) (o m : Nat) : versAt l o (m + 1) = verAt l o :: versAt l (o + 13) m := by
  unfold versAt
  rw [List.range_succ_eq_map, List.map_cons, List.map_map]
  congr 1
  refine List.map_congr_left fun i _ => ?_
  show verAt l (o + (i + 1) * 13) = verAt l (o + 13 + i * 13)
  congr 1
  omega
theorem okMark_cons (l : List Int) (o m : Nat) : okMark l o (m + 1) = (decide (rd l ((o + 4 : Nat) : Int) ≤ 1) && okMark l (o + 13) m) := by
  unfold okMark
  rw [List.range_succ_eq_map, List.all_cons, List.all_map, Nat.zero_mul, Nat.add_zero]
  congr 2
  funext i
  show decide (rd l ((o + (i + 1) * 13 + 4 : Nat) : Int) ≤ 1) = decide (rd l ((o + 13 + i * 13 + 4 : Nat) : Int) ≤ 1)
  rw [show o + (i + 1) * 13 + 4 = o + 13 + i * 13 + 4 by omega]
theorem versAt_flat (l : List S72) : ∀ (x y : List Int), (∀ v ∈ l, verB v = true ∧ 0 ≤ v.f3 ∧ v.f3 < 4294967296) →
    versAt (x ++ (l.flatMap vB ++ y)) x.length l.length = l ∧ okMark (x ++ (l.flatMap vB ++ y)) x.length l.length = true := by
  induction l with
  | nil => intro x y _; exact ⟨rfl, rfl⟩
  | cons v t ih =>
    intro x y hv
    have h1 := hv v (by simp)
    have e : x ++ ((v :: t).flatMap vB ++ y) = (x ++ vB v) ++ (t.flatMap vB ++ y) := by rw [List.flatMap_cons]; simp only [List.append_assoc]
    have hl : (x ++ vB v).length = x.length + 13 := by rw [List.length_append, vB_length]
    have i2 := ih (x ++ vB v) y (fun u hu => hv u (by simp [hu]))
    rw [hl] at i2
    have hva := verAt_vB h1.1 h1.2 (t.flatMap vB ++ y)
    have ed : ((x ++ vB v) ++ (t.flatMap vB ++ y)).drop x.length = vB v ++ (t.flatMap vB ++ y) := by rw [List.append_assoc, List.drop_left]
    rw [e, List.length_cons, versAt_cons, okMark_cons, i2.1, i2.2, Bool.and_true]
    refine ⟨?_, ?_⟩
    · have := verAt_drop ((x ++ vB v) ++ (t.flatMap vB ++ y)) x.length 0
      rw [ed, hva.1, Nat.add_zero] at this
      rw [← this]
    · have := rd_drop ((x ++ vB v) ++ (t.flatMap vB ++ y)) x.length (0 + 4)
      rw [ed] at this
      have h2 := hva.2
      rw [this] at h2
      exact decide_eq_true (by rw [Nat.zero_add] at h2; exact h2)
theorem okFrom_all (l : List S72) : ∀ last, okFrom last l = true → ∀ v ∈ l, verB v = true := by
  induction l with
  | nil => intro _ _ v hv; cases hv
  | cons u t ih =>
    intro last h v hv
    unfold okFrom at h
    simp only [Bool.and_eq_true] at h
    rcases List.mem_cons.1 hv with rfl | hv
    · exact h.1.1
    · exact ih _ h.2 v hv
/-- What was written is read as it was. -/
theorem dec_enc {tg : Int} {nm : ByteArray} {l : List S72} (hm : mayJ tg nm l = true) (h3 : ∀ v ∈ l, 0 ≤ v.f3 ∧ v.f3 < 4294967296) : decR (encB (headJ tg nm l) l) = (tg, nm, l, 0) := by
  have hb := mayJ_bounds hm
  have htg : 0 ≤ tg ∧ tg ≤ 2147483647 := by
    unfold mayJ at hm
    rw [Bool.and_eq_true] at hm
    have := of_decide_eq_true hm.1
    omega
  have hok : ∀ v ∈ l, verB v = true ∧ 0 ≤ v.f3 ∧ v.f3 < 4294967296 := fun v hv => by
    unfold mayJ at hm
    rw [Bool.and_eq_true] at hm
    exact ⟨okFrom_all l _ hm.2 v hv, h3 v hv⟩
  rw [encB_eq]
  obtain ⟨s, hs⟩ : ∃ s, s = toI (sumW (headJ tg nm l ++ l.flatMap vB)) := ⟨_, rfl⟩
  have hsr : 0 ≤ s ∧ s < 4294967296 := by rw [hs]; exact toI_range _
  have hlen : (headJ tg nm l ++ l.flatMap vB).length = 11 + nm.size + 13 * l.length := by rw [List.length_append, headJ_length, flat_length]
  have hl4 : (headJ tg nm l ++ l.flatMap vB ++ le4 s).length = 11 + nm.size + 13 * l.length + 4 := by rw [List.length_append, hlen, le4_length]
  have esub : (headJ tg nm l ++ l.flatMap vB ++ le4 s).length - 4 = (headJ tg nm l ++ l.flatMap vB).length := by rw [hl4, hlen]; omega
  have etake : (headJ tg nm l ++ l.flatMap vB ++ le4 s).take (headJ tg nm l ++ l.flatMap vB).length = headJ tg nm l ++ l.flatMap vB := List.take_left
  have enum : num4 (headJ tg nm l ++ l.flatMap vB ++ le4 s) (headJ tg nm l ++ l.flatMap vB).length = s := by
    have := num4_app (headJ tg nm l ++ l.flatMap vB) (le4 s) 0
    rw [Nat.add_zero] at this
    rw [this]
    have := num4_le4 hsr.1 hsr.2 []
    rwa [List.append_nil] at this
  -- the parts
  have hB : headJ tg nm l ++ l.flatMap vB ++ le4 s = [83, 66, 74, 49] ++ (le4 tg ++ ([(nm.size : Int) % 256, (nm.size : Int) / 256 % 256] ++ (bytesOf nm ++ ([(l.length : Int) % 256] ++ (l.flatMap vB ++ le4 s))))) := by
    unfold headJ
    rw [bN4 htg.1 (by omega), bN2]
    simp only [List.append_assoc]
  have e4 : (headJ tg nm l ++ l.flatMap vB ++ le4 s).take 4 = [83, 66, 74, 49] := by rw [hB]; rfl
  have etg : num4 (headJ tg nm l ++ l.flatMap vB ++ le4 s) 4 = tg := by
    rw [hB]
    exact (num4_app [83, 66, 74, 49] _ 0).trans (num4_le4 htg.1 (by omega) _)
  have enm : num2 (headJ tg nm l ++ l.flatMap vB ++ le4 s) 8 = (nm.size : Int) := by
    rw [hB, ← List.append_assoc]
    refine (num2_app ([83, 66, 74, 49] ++ le4 tg) _ 0).trans ?_
    show (nm.size : Int) % 256 + 256 * ((nm.size : Int) / 256 % 256) = (nm.size : Int)
    omega
  have hx : ([83, 66, 74, 49] ++ le4 tg ++ [(nm.size : Int) % 256, (nm.size : Int) / 256 % 256] : List Int).length = 10 := rfl
  have hy : ([83, 66, 74, 49] ++ le4 tg ++ [(nm.size : Int) % 256, (nm.size : Int) / 256 % 256] ++ bytesOf nm : List Int).length = 10 + nm.size := by rw [List.length_append, hx, bytesOf_length]
  have hz : ([83, 66, 74, 49] ++ le4 tg ++ [(nm.size : Int) % 256, (nm.size : Int) / 256 % 256] ++ bytesOf nm ++ [(l.length : Int) % 256] : List Int).length = 11 + nm.size := by rw [List.length_append, hy]; simp only [List.length_singleton]; omega
  have hB2 : headJ tg nm l ++ l.flatMap vB ++ le4 s = ([83, 66, 74, 49] ++ le4 tg ++ [(nm.size : Int) % 256, (nm.size : Int) / 256 % 256] ++ bytesOf nm) ++ ([(l.length : Int) % 256] ++ (l.flatMap vB ++ le4 s)) := by
    rw [hB]; simp only [List.append_assoc]
  have hB3 : headJ tg nm l ++ l.flatMap vB ++ le4 s = ([83, 66, 74, 49] ++ le4 tg ++ [(nm.size : Int) % 256, (nm.size : Int) / 256 % 256] ++ bytesOf nm ++ [(l.length : Int) % 256]) ++ (l.flatMap vB ++ le4 s) := by
    rw [hB]; simp only [List.append_assoc]
  have ecnt : rd (headJ tg nm l ++ l.flatMap vB ++ le4 s) ((10 + nm.size : Nat) : Int) = (l.length : Int) := by
    have := rd_app ([83, 66, 74, 49] ++ le4 tg ++ [(nm.size : Int) % 256, (nm.size : Int) / 256 % 256] ++ bytesOf nm) ([(l.length : Int) % 256] ++ (l.flatMap vB ++ le4 s)) 0
    rw [← hB2, hy, Nat.add_zero] at this
    rw [this]
    show (l.length : Int) % 256 = _
    omega
  have hv := versAt_flat l ([83, 66, 74, 49] ++ le4 tg ++ [(nm.size : Int) % 256, (nm.size : Int) / 256 % 256] ++ bytesOf nm ++ [(l.length : Int) % 256]) (le4 s) hok
  rw [← hB3, hz] at hv
  have ename : nameAt (headJ tg nm l ++ l.flatMap vB ++ le4 s) nm.size = nm := by
    unfold nameAt
    rw [hB2, ← hy, List.take_left, ← hx, List.drop_left, str_bytes]
  rw [← hs]
  unfold decR
  rw [esub, etake, enum, if_neg (by rw [hl4]; omega), if_neg (by rw [hl4]; omega), if_pos hs, enm, Int.toNat_natCast, ecnt, Int.toNat_natCast, if_pos ⟨by rw [e4, ByteArray.toList_eq]; rfl, by rw [hlen]; omega, by rw [hlen]⟩]
  unfold decT
  rw [if_pos hv.2, etg, ename, hv.1, if_pos hm]
theorem cut_at (x : List Int) (a c : Nat) : x.drop a = (x.drop a).take c ++ x.drop (a + c) := by
  rw [← List.drop_drop, List.take_append_drop]
theorem four_at {x : List Int} (h : Bytes x) (a : Nat) (h1 : a + 4 ≤ x.length) : (x.drop a).take 4 = le4 (num4 x a) := by
  have hb : Bytes ((x.drop a).take 4) := h.sub fun y hy => List.mem_of_mem_drop (List.mem_of_mem_take hy)
  have hl : ((x.drop a).take 4).length = 4 := by rw [List.length_take, List.length_drop]; omega
  have := le4_rd4 hb hl
  rw [← this]
  congr 1
  rw [take_four x a h1]
  rfl
theorem one_at (x : List Int) (a : Nat) (h1 : a + 1 ≤ x.length) : (x.drop a).take 1 = [rd x (a : Int)] := by
  rw [List.drop_eq_getElem_cons (by omega : a < x.length)]
  show [x[a]] = _
  unfold rd
  rw [Int.toNat_natCast, List.getD_eq_getElem?_getD, List.getElem?_eq_getElem (by omega : a < x.length)]
  rfl
theorem thirteen_at {x : List Int} (h : Bytes x) (a : Nat) (h1 : a + 13 ≤ x.length) (hm : rd x ((a + 4 : Nat) : Int) ≤ 1) : (x.drop a).take 13 = vB (verAt x a) := by
  have r0 := num4_range h a (by omega)
  have r5 := num4_range h (a + 5) (by omega)
  have r9 := num4_range h (a + 9) (by omega)
  have em : num4 x (a + 9) % 4294967296 = num4 x (a + 9) := Int.emod_eq_of_lt r9.1 r9.2
  have rm := rd_range h (a + 4) (by omega)
  have e1 : (verAt x a).f0 = num4 x a := rfl
  have e2 : (verAt x a).f2 = num4 x (a + 5) := rfl
  have e3 : (verAt x a).f3 = num4 x (a + 9) := em
  have e4 : (if (verAt x a).f1 = true then (1 : Int) else 0) = rd x ((a + 4 : Nat) : Int) := by
    show (if (rd x ((a + 4 : Nat) : Int) == 1) = true then (1 : Int) else 0) = _
    by_cases hc : rd x ((a + 4 : Nat) : Int) = 1
    · rw [hc]; rfl
    · rw [if_neg (by simpa using hc)]; omega
  rw [vB_le4 (by rw [e1]; exact r0) (by rw [e2]; exact r5) (by rw [e3]; exact r9), e1, e2, e3, e4]
  have c1 := cut_at x a 4
  have c2 := cut_at x (a + 4) 1
  have c3 := cut_at x (a + 4 + 1) 4
  have c4 := cut_at x (a + 4 + 1 + 4) 4
  rw [four_at h a (by omega)] at c1
  rw [one_at x (a + 4) (by omega)] at c2
  rw [four_at h (a + 4 + 1) (by omega)] at c3
  rw [four_at h (a + 4 + 1 + 4) (by omega)] at c4
  rw [c1, c2, c3, c4]
  rfl
theorem flat_versAt {x : List Int} (h : Bytes x) (m : Nat) : ∀ o, o + 13 * m ≤ x.length → okMark x o m = true → (x.drop o).take (13 * m) = (versAt x o m).flatMap vB := by
  induction m with
  | zero => intro o _ _; rfl
  | succ m ih =>
    intro o ho hk
    rw [okMark_cons, Bool.and_eq_true] at hk
    have hm := of_decide_eq_true hk.1
    rw [versAt_cons, List.flatMap_cons, ← ih (o + 13) (by omega) hk.2, ← thirteen_at h o (by omega) hm]
    rw [show 13 * (m + 1) = 13 + 13 * m by omega, List.take_add, List.drop_drop]
theorem two_at {x : List Int} (h : Bytes x) (a : Nat) (h1 : a + 2 ≤ x.length) : (x.drop a).take 2 = [num2 x a % 256, num2 x a / 256 % 256] := by
  have r0 := rd_range h a (by omega)
  have r1 := rd_range h (a + 1) (by omega)
  have e := List.take_add (l := x.drop a) (i := 1) (j := 1)
  rw [show 1 + 1 = 2 from rfl] at e
  rw [e, List.drop_drop, one_at x a (by omega), one_at x (a + 1) (by omega)]
  unfold num2
  show [_, _] = [_, _]
  congr 1
  · omega
  · congr 1
    omega
theorem errJ_ne {e : Int} {tg : Int} {nm : ByteArray} {l : List S72} (he : e ≠ 0) : errJ e ≠ (tg, nm, l, 0) := fun h => by
  unfold errJ at h
  simp only [Prod.mk.injEq] at h
  exact he h.2.2.2
/-- What is read, written again, is the bytes. -/
theorem enc_dec {b : List Int} (h : Bytes b) {tg : Int} {nm : ByteArray} {l : List S72} (hd : decR b = (tg, nm, l, 0)) : encR tg nm l = (b, 0) := by
  unfold decR at hd
  by_cases h1 : b.length > 262144
  · rw [if_pos h1] at hd; exact absurd hd (errJ_ne (by decide))
  rw [if_neg h1] at hd
  by_cases h2 : b.length < 15
  · rw [if_pos h2] at hd; exact absurd hd (errJ_ne (by decide))
  rw [if_neg h2] at hd
  obtain ⟨n, hn⟩ : ∃ n, n = b.length - 4 := ⟨_, rfl⟩
  rw [← hn] at hd
  by_cases hs : num4 b n = toI (sumW (b.take n))
  case neg => rw [if_neg hs] at hd; exact absurd hd (errJ_ne (by decide))
  rw [if_pos hs] at hd
  have hq := num2_range h 8 (by omega)
  obtain ⟨q, eq⟩ := Int.eq_ofNat_of_zero_le hq.1
  rw [eq, Int.toNat_natCast] at hd
  by_cases hf : formJ b n q (rd b ((10 + q : Nat) : Int)).toNat
  case neg => rw [if_neg hf] at hd; exact absurd hd (errJ_ne (by decide))
  rw [if_pos hf] at hd
  obtain ⟨f1, f2, f3⟩ := hf
  have hr := rd_range h (10 + q) (by omega)
  obtain ⟨m, em⟩ := Int.eq_ofNat_of_zero_le hr.1
  rw [em, Int.toNat_natCast] at hd f3
  have hm2 : m < 256 := by rw [em] at hr; omega
  unfold decT at hd
  by_cases hok : okMark b (11 + q) m = true
  case neg => rw [if_neg hok] at hd; exact absurd hd (errJ_ne (by decide))
  rw [if_pos hok] at hd
  by_cases hmay : mayJ (num4 b 4) (nameAt b q) (versAt b (11 + q) m) = true
  case neg => rw [if_neg hmay] at hd; exact absurd hd (errJ_ne (by decide))
  rw [if_pos hmay] at hd
  simp only [Prod.mk.injEq] at hd
  obtain ⟨rfl, rfl, rfl, _⟩ := hd
  unfold encR
  rw [if_pos hmay, encB_eq]
  have r4 := num4_range h 4 (by omega)
  have hbn : ((b.take (10 + q)).drop 10).length = q := by rw [List.length_drop, List.length_take]; omega
  have hbb : Bytes ((b.take (10 + q)).drop 10) := h.sub fun y hy => List.mem_of_mem_take (List.mem_of_mem_drop hy)
  have esz : (nameAt b q).size = q := by unfold nameAt; rw [str_size, hbn]
  have e1 : b.take 4 = [83, 66, 74, 49] := str_told (h.sub fun y hy => List.mem_of_mem_take hy) f1 rfl
  have hbody : headJ (num4 b 4) (nameAt b q) (versAt b (11 + q) m) ++ (versAt b (11 + q) m).flatMap vB = b.take n := by
    unfold headJ
    rw [bN4 r4.1 r4.2, esz, bN2, versAt_length, ← flat_versAt h m (11 + q) (by omega) hok]
    have e3 : bytesOf (nameAt b q) = (b.drop 10).take q := by
      unfold nameAt
      rw [bytes_str hbb, List.drop_take]
      congr 1
      omega
    have e5 : ((m : Nat) : Int) % 256 = rd b ((10 + q : Nat) : Int) := by rw [em]; omega
    rw [e3, e5, ← four_at h 4 (by omega), ← eq, ← two_at h 8 (by omega), ← one_at b (10 + q) (by omega), ← e1]
    have c0 : b.take n = b.take (4 + (4 + (2 + (q + (1 + 13 * m))))) := by congr 1; omega
    rw [c0, List.take_add, List.take_add (l := b.drop 4), List.drop_drop, List.take_add (l := b.drop (4 + 4)), List.drop_drop, List.take_add (l := b.drop (4 + 4 + 2)), List.drop_drop, List.take_add (l := b.drop (4 + 4 + 2 + q)), List.drop_drop]
    simp only [List.append_assoc]
    rw [show 4 + 4 + 2 + q + 1 = 11 + q by omega]
  rw [hbody, ← hs]
  have ed : b.drop n = le4 (num4 b n) := by
    have := four_at h n (by omega)
    rwa [List.take_of_length_le (by rw [List.length_drop]; omega)] at this
  rw [← ed, List.take_append_drop]
theorem encJ_bytes (tg : Int) (nm : ByteArray) (l : List S72) : Bytes (encB (headJ tg nm l) l) := by
  rw [encB_eq]
  exact bytes_app (bytes_app (headJ_bytes _ _ _) (flat_bytes _)) (le4_bytes _)

theorem awake7_at : strongboxlaw7_awake.f 200 = some true := by decide +kernel
theorem awake7_ev : Ev (fun k => strongboxlaw7_awake.f k) true := by
  refine ⟨200, fun k hk => ?_⟩
  obtain ⟨j, rfl⟩ : ∃ j, k = 200 + j := ⟨k - 200, by omega⟩
  clear hk
  induction j with
  | zero => exact awake7_at
  | succ j ih => exact strongboxlaw7_awake.mono (200 + j) true ih

/-- What Add answers. -/
def addR (tg : Int) (nm : ByteArray) (l : List S72) (v : S72) : Int × ByteArray × List S72 × Int :=
  if l.length ≥ 64 then errJ 18 else if mayJ tg nm (l ++ [v]) = true then (tg, nm, l ++ [v], 0) else errJ 1
theorem add_ev (tg : Int) (nm : ByteArray) (l : List S72) (v : S72) : Ev (fun k => journal_Add.f k tg nm l v.f0 v.f1 v.f2 v.f3) (addR tg nm l v) := by
  unfold addR
  by_cases h1 : l.length ≥ 64
  · rw [if_pos h1]
    refine Ev.congr (f := fun _ => some (errJ 18)) (fun k => ?_) (Ev.now _)
    rw [journal_Add.f, if_pos (by omega)]
    rfl
  rw [if_neg h1]
  obtain ⟨K, g⟩ := jmay_ev tg nm (l ++ [v]) (by rw [List.length_append, List.length_singleton]; omega)
  refine ⟨K, fun k hk => ?_⟩
  have g := g k hk
  simp only at g
  have hc : api_Version_65.f l = some l := by rw [api_Version_65.f, if_pos (by omega)]
  have hl : l.length + [(⟨v.f0, v.f1, v.f2, v.f3⟩ : S72)].length < 4398046511104 := by rw [List.length_singleton]; omega
  have hv : (⟨v.f0, v.f1, v.f2, v.f3⟩ : S72) = v := rfl
  show journal_Add.f k tg nm l v.f0 v.f1 v.f2 v.f3 = _
  rw [journal_Add.f, if_neg (by omega), hc, Option.bind_some, Option.bind_some, if_pos hl, Option.bind_some, hv, g, Option.bind_some]
  split <;> rfl
theorem eqvers_l0 (l : List S72) (hl : l.length < 1000000) (d : Nat) : ∀ i : Nat, i + d = l.length → Ev (fun k => api_Version_66.l0 k l l (l.length : Int) (i : Int)) true := by
  induction d with
  | zero =>
    intro i hi
    refine Ev.step (f := fun _ => some true) (fun k => ?_) (Ev.now _)
    rw [api_Version_66.l0, if_neg (by omega)]
  | succ d ih =>
    intro i hi
    have ew := nextw i (by omega)
    refine Ev.step (f := fun k => api_Version_66.l0 k l l (l.length : Int) ((i + 1 : Nat) : Int)) (fun k => ?_) (ih (i + 1) (by omega))
    have c1 : (i : Int) < (l.length : Int) := by clear ew; omega
    rw [api_Version_66.l0, if_pos c1, if_pos (Int.natCast_nonneg _), if_pos c1, if_pos c1, if_neg (by simp), ew]
theorem jsame_self_ev (tg : Int) (nm : ByteArray) (l : List S72) (hl : l.length < 1000000) : Ev (fun k => journal_Same.f k tg nm l tg nm l) true := by
  obtain ⟨K, g⟩ := eqvers_l0 l hl l.length 0 (by omega)
  refine ⟨K, fun k hk => ?_⟩
  have g := g k hk
  simp only at g
  have g' : api_Version_66.f k l l = some true := by rw [api_Version_66.f, if_pos rfl]; exact g
  show journal_Same.f k tg nm l tg nm l = _
  rw [journal_Same.f, if_pos rfl, if_pos rfl, g', Option.bind_some]

/-- The first so many of the versions that are added. -/
def fullV (i : Nat) : S72 := ⟨2147483584 + (i : Int), false, 65536, 4294967295⟩
def fullL (n : Nat) : List S72 := (List.range n).map fullV
theorem fullL_length (n : Nat) : (fullL n).length = n := by unfold fullL; rw [List.length_map, List.length_range]
theorem fullL_succ (n : Nat) : fullL (n + 1) = fullL n ++ [fullV n] := by unfold fullL; rw [List.range_succ, List.map_append]; rfl
theorem full_ok (n : Nat) : ∀ c last, c + n ≤ 64 → last < 2147483584 + (c : Int) → okFrom last ((List.range' c n).map fullV) = true := by
  induction n with
  | zero => intro c last _ _; rfl
  | succ n ih =>
    intro c last hc hl
    rw [List.range'_succ, List.map_cons, okFrom]
    have h1 : verB (fullV c) = true := by
      have := version_some (fullV c)
      have h2 : journal_version.f (fullV c).f0 (fullV c).f1 (fullV c).f2 (fullV c).f3 = some true := by
        show journal_version.f (2147483584 + (c : Int)) false 65536 4294967295 = some true
        unfold journal_version.f
        rw [if_neg (by omega), if_neg (by omega), if_neg (by decide), if_neg (by decide)]
        rfl
      rw [h2] at this
      exact (Option.some.inj this).symm
    have h3 : decide (last < (fullV c).f0) = true := decide_eq_true hl
    have h4 := ih (c + 1) (fullV c).f0 (by omega) (by show 2147483584 + (c : Int) < _; omega)
    rw [h1, h3, h4]
    rfl
theorem full_may (n : Nat) (hn : n ≤ 64) : mayJ 2147483647 (⟨#[120]⟩ : ByteArray) (fullL n) = true := by
  unfold mayJ
  rw [fullL_length]
  have h := full_ok n 0 (-1) (by omega) (by decide)
  rw [← List.range_eq_range'] at h
  have h2 : okFrom (-1) (fullL n) = true := h
  rw [h2, Bool.and_true]
  exact decide_eq_true ⟨by decide, by decide, by decide, hn⟩
theorem full_end : Ev (fun k => strongboxlaw7_JournalFull.l0 k ((64 : Nat) : Int) 2147483647 (⟨#[120]⟩ : ByteArray) (fullL 64)) true := by
  have hm := full_may 64 (by decide)
  obtain ⟨K1, g1⟩ := add_ev 2147483647 (⟨#[120]⟩ : ByteArray) (fullL 64) ⟨2147483647, false, 0, 0⟩
  obtain ⟨K2, g2⟩ := xenc_ev 2147483647 (⟨#[120]⟩ : ByteArray) (fullL 64) (by rw [fullL_length]; decide)
  have hbytes : Bytes (encB (headJ 2147483647 (⟨#[120]⟩ : ByteArray) (fullL 64)) (fullL 64)) := by
    rw [encB_eq]
    exact bytes_app (bytes_app (headJ_bytes _ _ _) (flat_bytes _)) (le4_bytes _)
  have hlen : (encB (headJ 2147483647 (⟨#[120]⟩ : ByteArray) (fullL 64)) (fullL 64)).length = 848 := by
    rw [encB_eq, List.length_append, List.length_append, headJ_length, flat_length, fullL_length, le4_length]
    rfl
  obtain ⟨K3, g3⟩ := jdec_ev hbytes
  rw [dec_enc hm (fun v hv => by
    obtain ⟨i, _, rfl⟩ := List.mem_map.1 hv
    exact ⟨(by decide : (0 : Int) ≤ 4294967295), (by decide : (4294967295 : Int) < 4294967296)⟩)] at g3
  obtain ⟨K4, g4⟩ := jsame_self_ev 2147483647 (⟨#[120]⟩ : ByteArray) (fullL 64) (by rw [fullL_length]; decide)
  refine ⟨max (max K1 K2) (max K3 K4) + 1, fun k hk => ?_⟩
  obtain ⟨k, rfl⟩ : ∃ j, k = j + 1 := ⟨k - 1, by omega⟩
  have g1 := g1 k (by omega)
  have g2 := g2 k (by omega)
  have g3 := g3 k (by omega)
  have g4 := g4 k (by omega)
  unfold addR at g1
  rw [if_pos (by rw [fullL_length]; decide)] at g1
  unfold encR at g2
  rw [if_pos hm] at g2
  simp only at g1 g2 g3 g4
  show strongboxlaw7_JournalFull.l0 (k + 1) ((64 : Nat) : Int) 2147483647 (⟨#[120]⟩ : ByteArray) (fullL 64) = _
  have hl2 : ((encB (headJ 2147483647 (⟨#[120]⟩ : ByteArray) (fullL 64)) (fullL 64)).length : Int) = 848 := by rw [hlen]; rfl
  rw [strongboxlaw7_JournalFull.l0, if_neg (by decide), g1, Option.bind_some, g2, Option.bind_some, g3, Option.bind_some]
  rw [if_pos (show (errJ 18).2.2.2 = 18 from rfl), if_pos rfl, if_pos rfl, if_pos hl2, g4, Option.bind_some]
theorem full_l0 (d : Nat) : ∀ i : Nat, i + d = 64 → Ev (fun k => strongboxlaw7_JournalFull.l0 k (i : Int) 2147483647 (⟨#[120]⟩ : ByteArray) (fullL i)) true := by
  induction d with
  | zero =>
    intro i hi
    obtain rfl : i = 64 := by omega
    exact full_end
  | succ d ih =>
    intro i hi
    have ew := nextw i (by omega)
    have e2 : wrap64 (2147483584 + (i : Int)) = 2147483584 + (i : Int) := w64_lt (by clear ew; omega) (by clear ew; omega)
    obtain ⟨K1, g1⟩ := add_ev 2147483647 (⟨#[120]⟩ : ByteArray) (fullL i) (fullV i)
    obtain ⟨K2, g2⟩ := ih (i + 1) (by clear ew e2; omega)
    have hm := full_may (i + 1) (by clear ew e2; omega)
    rw [fullL_succ] at hm g2
    unfold addR at g1
    rw [if_neg (by rw [fullL_length]; clear ew e2; omega), if_pos hm] at g1
    have c1 : (i : Int) < 64 := by clear ew e2; omega
    refine ⟨max K1 K2 + 1, fun k hk => ?_⟩
    obtain ⟨k, rfl⟩ : ∃ j, k = j + 1 := ⟨k - 1, by clear ew e2; omega⟩
    have g1 := g1 k (by clear ew e2; omega)
    have g2 := g2 k (by clear ew e2; omega)
    simp only at g1 g2
    have g1' : journal_Add.f k 2147483647 (⟨#[120]⟩ : ByteArray) (fullL i) (2147483584 + (i : Int)) false 65536 4294967295 = some (2147483647, (⟨#[120]⟩ : ByteArray), fullL i ++ [fullV i], 0) := g1
    show strongboxlaw7_JournalFull.l0 (k + 1) (i : Int) 2147483647 (⟨#[120]⟩ : ByteArray) (fullL i) = _
    rw [strongboxlaw7_JournalFull.l0, if_pos c1, e2, g1', Option.bind_some, if_pos rfl, ew]
    exact g2
theorem JournalFull : strongboxlaw7_JournalFull.Pure := by
  refine Ev.rounds (g := fun k => strongboxlaw7_JournalFull.f k) ?_
  obtain ⟨K0, g0⟩ := awake7_ev
  obtain ⟨K1, g1⟩ := full_l0 64 0 (by decide)
  refine ⟨max K0 K1, fun k hk => ?_⟩
  have g0 := g0 k (by omega)
  have g1 := g1 k (by omega)
  simp only at g0 g1
  show strongboxlaw7_JournalFull.f k = _
  rw [strongboxlaw7_JournalFull.f, g0, Option.bind_some, if_pos rfl]
  exact g1

end Go.Proofs.Ytnlpipjdpmaggaa.Pure
