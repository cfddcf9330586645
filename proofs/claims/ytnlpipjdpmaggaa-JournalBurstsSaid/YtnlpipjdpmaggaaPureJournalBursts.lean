/- whatever is changed within 32 bits of a journal's bytes: no journal is read from them. For each journal that may be, each place and each mask but nought. -/
import Derived.Test.YtnlpipjdpmaggaaPJournalBurstsx10
import Derived.Test.YtnlpipjdpmaggaaMath
set_option linter.unusedVariables false
set_option linter.unusedSimpArgs false
namespace Go.Proofs.Ytnlpipjdpmaggaa.Pure
open Go.RowKit Go.Proofs.Ytnlpipjdpmaggaa.PJournalBursts Go.Proofs.YtnlpipjdpmaggaaW.PrintWords Go.Proofs.YtnlpipjdpmaggaaW.PrintLast Go.Proofs.YtnlpipjdpmaggaaW.PrintMore CrcMath

theorem w64_lt {n : Int} (h0 : 0 ≤ n) (h : n < 9223372036854775807) : wrap64 n = n := by unfold wrap64; omega

theorem more_l1 (l : List Int) (n i : Int) (r : Int) (d : Nat) : ∀ (S : W) (j : Int), j + d = 8 → 0 ≤ j →
    Ev (fun k => crc_More.l0 k (toI (steps d S)) l n (wrap64 (i + 1))) r → Ev (fun k => crc_More.l1 k (toI S) l n i j) r := by
  induction d with
  | zero =>
    intro S j hj h0 h
    refine Ev.step (f := fun k => crc_More.l0 k (toI S) l n (wrap64 (i + 1))) (fun k => ?_) h
    simp only [crc_More.l1]
    rw [if_neg (by omega)]
  | succ d ih =>
    intro S j hj h0 h
    refine Ev.step (f := fun k => crc_More.l1 k (toI (CrcMath.step S)) l n i (j + 1)) (fun k => ?_) (ih (CrcMath.step S) (j + 1) (by omega) (by omega) h)
    simp only [crc_More.l1]
    rw [if_pos (by omega), w64_lt (by omega) (by omega), low]
    cases hs : S.getLsbD 0 with
    | true => simp only [if_true]; rw [step_on hs]
    | false => rw [if_neg (by simp), step_off hs]

theorem more_l0 (l : List Int) (hl : l.length < 4611686018427387904) (rest : List Int) : ∀ (pre : List Int) (S : W), l = pre ++ rest → Bytes rest →
    Ev (fun k => crc_More.l0 k (toI S) l (l.length : Int) (pre.length : Int)) (toI (~~~ (CrcMath.run S rest))) := by
  induction rest with
  | nil =>
    intro pre S e _
    refine Ev.step (f := fun _ => some (toI (~~~ S))) (fun k => ?_) (Ev.now _)
    simp only [crc_More.l0]
    have : l.length = pre.length := by rw [e]; simp
    rw [if_neg (by omega), not_toI]
  | cons x rest ih =>
    intro pre S e hb
    have hx := hb x (by simp)
    have hlen : l.length = pre.length + (rest.length + 1) := by rw [e]; simp
    have hrd : rd l (pre.length : Int) = x := by
      unfold rd
      rw [Int.toNat_natCast, e]
      simp [List.getD_eq_getElem?_getD]
    refine Ev.step (f := fun k => crc_More.l1 k (toI (S ^^^ BitVec.ofInt 32 x)) l (l.length : Int) (pre.length : Int) 0) (fun k => ?_) ?_
    · simp only [crc_More.l0]
      rw [if_pos (by omega), if_pos (by omega), if_pos (by omega), hrd, Int.emod_eq_of_lt hx.1 (by omega)]
      rw [← toI_of hx.1 (by omega : x < 4294967296), xor_toI, toI_of hx.1 (by omega)]
    · refine more_l1 l _ _ _ 8 _ 0 (by omega) (by omega) ?_
      have h := ih (pre ++ [x]) (byteStep S x) (by rw [e]; simp) (fun y hy => hb y (by simp [hy]))
      have e2 : ((pre ++ [x]).length : Int) = wrap64 ((pre.length : Int) + 1) := by
        rw [w64_lt (by omega) (by omega)]; simp
      rw [e2] at h
      exact h

theorem more_ev (S : W) (l : List Int) (hl : l.length < 4611686018427387904) (hb : Bytes l) : Ev (fun k => crc_More.f k (toI S) l) (toI (moreW S l)) := by
  have h := more_l0 l hl l [] (~~~ S) rfl hb
  refine Ev.congr (fun k => ?_) h
  unfold crc_More.f
  rw [not_toI]; rfl

theorem sum_ev (l : List Int) (hl : l.length < 4611686018427387904) (hb : Bytes l) : Ev (fun k => crc_Sum.f k l) (toI (sumW l)) := by
  have h := more_ev 0 l hl hb
  unfold crc_Sum.f
  exact Ev.bind (g := fun k => crc_More.f k 0 l) (f := fun _ t => some t) h (Ev.now _)

theorem or_step (s x : Nat) (i : Nat) (hi : i < 4) (hs : s < 2 ^ (8 * i)) (hx : x < 256) :
    Go.bits .or .u32 (s : Int) (shl .u32 ((x : Int) % 4294967296) (wrap64 (8 * (i : Int)))) = ((s + x * 2 ^ (8 * i) : Nat) : Int) := by
  have e0 : wrap64 (8 * (i : Int)) = ((8 * i : Nat) : Int) := by rw [w64_lt (by omega) (by omega)]; omega
  have hp : x * 2 ^ (8 * i) < 4294967296 := by
    have h2 : (2 : Nat) ^ (8 * i) ≤ 2 ^ 24 := Nat.pow_le_pow_right (by omega) (by omega)
    have h3 : x * 2 ^ (8 * i) ≤ 255 * 2 ^ 24 := Nat.mul_le_mul (by omega) h2
    omega
  have e1 : shl .u32 ((x : Int) % 4294967296) (wrap64 (8 * (i : Int))) = ((x * 2 ^ (8 * i) : Nat) : Int) := by
    rw [e0]
    unfold shl
    rw [Int.toNat_natCast, Nat.min_eq_left (by show 8 * i ≤ 32; omega), IntKind.wrap_u32', Int.emod_eq_of_lt (by omega : (0 : Int) ≤ (x : Int)) (by omega)]
    have h4 : (x : Int) * 2 ^ (8 * i) = ((x * 2 ^ (8 * i) : Nat) : Int) := by simp
    rw [h4]
    generalize x * 2 ^ (8 * i) = q at hp ⊢
    omega
  have hs2 : s < 4294967296 := by
    have h2 : (2 : Nat) ^ (8 * i) ≤ 2 ^ 24 := Nat.pow_le_pow_right (by omega) (by omega)
    omega
  rw [e1, u32_or_nat _ _ hs2 hp, Nat.or_comm, ← Nat.shiftLeft_eq, ← Nat.shiftLeft_add_eq_or_of_lt hs, Nat.add_comm]

theorem read_step (t : List Int) (h4 : t.length = 4) (s : Nat) (i : Nat) (r : Int × Bool) (x : Nat) (hx : rd t (i : Int) = (x : Int)) (hxb : x < 256) (hi : i < 4) (hs : s < 2 ^ (8 * i))
    (h : Ev (fun k => crc_Read.l0 k ((s + x * 2 ^ (8 * i) : Nat) : Int) t 4 ((i + 1 : Nat) : Int)) r) : Ev (fun k => crc_Read.l0 k (s : Int) t 4 (i : Int)) r := by
  refine Ev.step (f := fun k => crc_Read.l0 k ((s + x * 2 ^ (8 * i) : Nat) : Int) t 4 ((i + 1 : Nat) : Int)) (fun k => ?_) h
  simp only [crc_Read.l0]
  have ew : wrap64 ((i : Int) + 1) = ((i + 1 : Nat) : Int) := by rw [w64_lt (by omega) (by omega)]; omega
  have e1 : (i : Int) < 4 := by omega
  have e2 : (i : Int) < (t.length : Int) := by omega
  have e3 : (0 : Int) ≤ wrap64 (8 * (i : Int)) := by rw [w64_lt (by omega) (by omega)]; omega
  rw [if_pos e1, if_pos (Int.natCast_nonneg i), if_pos e2, if_pos e3, hx, or_step s x i hi hs hxb, ew]

theorem read_end (t : List Int) (v : Int) : Ev (fun k => crc_Read.l0 k v t 4 ((4 : Nat) : Int)) (v, true) := by
  refine Ev.step (f := fun _ => some (v, true)) (fun k => ?_) (Ev.now _)
  simp only [crc_Read.l0]
  rw [if_neg (by omega)]

theorem read_nat (a b c d : Nat) (ha : a < 256) (hb : b < 256) (hc : c < 256) (hd : d < 256) :
    Ev (fun k => crc_Read.l0 k ((0 : Nat) : Int) [(a : Int), b, c, d] 4 ((0 : Nat) : Int)) (((0 + a * 2 ^ (8 * 0) + b * 2 ^ (8 * 1) + c * 2 ^ (8 * 2) + d * 2 ^ (8 * 3) : Nat) : Int), true) := by
  have l4 : [(a : Int), b, c, d].length = 4 := rfl
  refine read_step _ l4 0 0 _ a rfl ha (by decide) (by decide) ?_
  refine read_step _ l4 _ 1 _ b rfl hb (by decide) (by clear l4; omega) ?_
  refine read_step _ l4 _ 2 _ c rfl hc (by decide) (by clear l4; omega) ?_
  refine read_step _ l4 _ 3 _ d rfl hd (by decide) (by clear l4; omega) ?_
  exact read_end _ _

theorem read_ev (t : List Int) (hb : Bytes t) (h : t.length = 4) : Ev (fun k => crc_Read.f k t) (rd4 t, true) := by
  obtain ⟨a, b, c, d, rfl⟩ := four h
  have h0 := hb a (by simp); have h1 := hb b (by simp); have h2 := hb c (by simp); have h3 := hb d (by simp)
  obtain ⟨a, rfl⟩ := Int.eq_ofNat_of_zero_le h0.1
  obtain ⟨b, rfl⟩ := Int.eq_ofNat_of_zero_le h1.1
  obtain ⟨c, rfl⟩ := Int.eq_ofNat_of_zero_le h2.1
  obtain ⟨d, rfl⟩ := Int.eq_ofNat_of_zero_le h3.1
  clear hb
  have e : ((0 + a * 2 ^ (8 * 0) + b * 2 ^ (8 * 1) + c * 2 ^ (8 * 2) + d * 2 ^ (8 * 3) : Nat) : Int) = rd4 [(a : Int), b, c, d] := by simp only [rd4]; omega
  have hr := read_nat a b c d (by omega) (by omega) (by omega) (by omega)
  rw [e] at hr
  refine Ev.congr (fun k => ?_) hr
  unfold crc_Read.f
  rw [if_pos (by rw [h]; rfl)]
  rfl
theorem bytes_some (v : Int) : crc_Bytes.f v = some (le4 v) := rfl

theorem mask_bit (M i : Nat) (hM : M < 4294967296) (hi : i < 32) : (Go.bits .and .u32 (shr .u32 (M : Int) (IntKind.u64.wrap (i : Int))) 1 = 1) ↔ M.testBit i = true := by
  have e1 : IntKind.u64.wrap (i : Int) = (i : Int) := by rw [IntKind.wrap_u64]; omega
  have e2 : shr .u32 (M : Int) (i : Int) = ((M / 2 ^ i : Nat) : Int) := by
    unfold shr
    rw [Int.toNat_natCast, Nat.min_eq_left (by show i ≤ 32; omega)]
    simp
  have hlt : M / 2 ^ i < 4294967296 := Nat.lt_of_le_of_lt (Nat.div_le_self _ _) hM
  have e3 := u32_and_nat (M / 2 ^ i) 1 hlt (by omega)
  rw [e1, e2]
  show Go.bits .and .u32 ((M / 2 ^ i : Nat) : Int) ((1 : Nat) : Int) = 1 ↔ _
  rw [e3, Nat.and_one_is_mod, Nat.testBit_eq_decide_div_mod_eq, decide_eq_true_iff]
  omega
theorem place (f i : Nat) (h : f + i < 9223372036854775807) : wrap64 (Int.tdiv (wrap64 ((f : Int) + (i : Int))) 8) = (((f + i) / 8 : Nat) : Int) ∧ IntKind.u64.wrap (Int.tmod (wrap64 ((f : Int) + (i : Int))) 8) = (((f + i) % 8 : Nat) : Int) := by
  have e : wrap64 ((f : Int) + (i : Int)) = ((f + i : Nat) : Int) := by rw [w64_lt (by omega) (by omega)]; omega
  rw [e]
  have e1 : Int.tdiv ((f + i : Nat) : Int) 8 = (((f + i) / 8 : Nat) : Int) := rfl
  have e2 : Int.tmod ((f + i : Nat) : Int) 8 = (((f + i) % 8 : Nat) : Int) := rfl
  rw [e1, e2, w64_lt (by omega) (by omega), IntKind.wrap_u64]
  omega
theorem turned (l : List Int) (hb : Bytes l) (p r : Nat) (hp : p < l.length) (hr : r < 8) :
    Go.bits .xor .u8 (rd l (p : Int)) (shl .u8 1 (r : Int)) = ((((l.getD p 0).toNat ^^^ 2 ^ r : Nat)) : Int) := by
  have hx := hb l[p] (List.getElem_mem hp)
  have hg : l.getD p 0 = l[p] := by rw [List.getD_eq_getElem?_getD, List.getElem?_eq_getElem hp]; rfl
  have h2 : (2 : Nat) ^ r < 2 ^ 8 := Nat.pow_lt_pow_right (by omega) hr
  have e1 : shl .u8 1 (r : Int) = ((2 ^ r : Nat) : Int) := by
    unfold shl
    rw [Int.toNat_natCast, Nat.min_eq_left (by show r ≤ 8; omega), Int.one_mul, IntKind.wrap_u8']
    have : ((2 : Int) ^ r) = ((2 ^ r : Nat) : Int) := by simp
    rw [this]
    have h3 : (2 : Nat) ^ r < 256 := h2
    generalize (2 : Nat) ^ r = q at h3 ⊢
    omega
  have e2 : rd l (p : Int) = ((l.getD p 0).toNat : Int) := by
    unfold rd
    rw [Int.toNat_natCast, hg]
    omega
  rw [e1, e2, u8_xor_nat _ _ (by rw [hg]; omega) (by omega)]

def verB (v : S72) : Bool := (journal_version.f v.f0 v.f1 v.f2 v.f3).getD false
theorem version_some (v : S72) : journal_version.f v.f0 v.f1 v.f2 v.f3 = some (verB v) := by
  have h : ∃ b, journal_version.f v.f0 v.f1 v.f2 v.f3 = some b := by
    unfold journal_version.f
    repeat' split
    all_goals exact ⟨_, rfl⟩
  obtain ⟨b, h⟩ := h
  unfold verB
  rw [h]; rfl
theorem mayVersion_some (v : S72) : strongboxref4_MayVersion.f v.f0 v.f1 v.f2 v.f3 = some (verB v) := by
  rw [← version_some]
  unfold strongboxref4_MayVersion.f journal_version.f
  by_cases h1 : v.f0 < 0
  · rw [if_neg (by omega), if_pos h1]
  rw [if_pos (by omega), if_neg h1]
  by_cases h2 : v.f0 > 2147483647
  · rw [if_neg (by omega), if_pos h2]
  rw [if_pos (by omega), if_neg h2]
  by_cases h3 : v.f2 < 0
  · rw [if_neg (by omega), if_pos h3]
  rw [if_pos (by omega), if_neg h3]
  by_cases h4 : v.f2 > 65536
  · rw [if_neg (by omega), if_pos h4]
  rw [if_pos (by omega), if_neg h4]
theorem verB_id {v : S72} (h : verB v = true) : 0 ≤ v.f0 ∧ v.f0 ≤ 2147483647 := by
  have := version_some v
  rw [h] at this
  unfold journal_version.f at this
  by_cases h1 : v.f0 < 0
  · rw [if_pos h1] at this; cases this
  by_cases h2 : v.f0 > 2147483647
  · rw [if_neg h1, if_pos h2] at this; cases this
  omega
/-- Versions that may be, with rising ids. -/
def okFrom (last : Int) : List S72 → Bool
  | [] => true
  | v :: t => verB v && decide (last < v.f0) && okFrom v.f0 t
theorem rd_at (l : List S72) (i : Nat) (v : S72) (t : List S72) (h : l.drop i = v :: t) : rd_T72 l (i : Int) = v ∧ i < l.length ∧ l.drop (i + 1) = t := by
  have hi : i < l.length := by
    rcases Nat.lt_or_ge i l.length with h1 | h1
    · exact h1
    · rw [List.drop_eq_nil_of_le h1] at h; cases h
  rw [List.drop_eq_getElem_cons hi] at h
  injection h with h1 h2
  refine ⟨?_, hi, h2⟩
  unfold rd_T72
  rw [Int.toNat_natCast, List.getD_eq_getElem?_getD, List.getElem?_eq_getElem hi, ← h1]; rfl
theorem jmay_l0 (l : List S72) (hl : l.length < 4611686018427387904) (d : Nat) : ∀ (i : Nat) (last : Int), i + d = l.length →
    Ev (fun k => journal_May.l0 k last l (l.length : Int) (i : Int)) (okFrom last (l.drop i)) := by
  induction d with
  | zero =>
    intro i last hi
    refine Ev.step (f := fun _ => some true) (fun k => ?_) ?_
    · rw [journal_May.l0, if_neg (by omega)]
    · rw [List.drop_eq_nil_of_le (by omega)]; exact Ev.now _
  | succ d ih =>
    intro i last hi
    obtain ⟨v, t, hd⟩ : ∃ v t, l.drop i = v :: t := by
      rw [List.drop_eq_getElem_cons (by omega)]; exact ⟨_, _, rfl⟩
    obtain ⟨h1, h2, h3⟩ := rd_at l i v t hd
    have ew : wrap64 ((i : Int) + 1) = ((i + 1 : Nat) : Int) := by rw [w64_lt (by omega) (by omega)]; omega
    rw [hd, okFrom]
    cases hv : verB v with
    | false =>
      refine Ev.step (f := fun _ => some false) (fun k => ?_) (Ev.now _)
      rw [journal_May.l0, if_pos (by omega), if_pos (by omega), if_pos (by omega), h1, version_some, hv, Option.bind_some, if_neg (by decide)]
    | true =>
      by_cases hlt : last < v.f0
      · rw [decide_eq_true hlt]
        refine Ev.step (f := fun k => journal_May.l0 k v.f0 l (l.length : Int) ((i + 1 : Nat) : Int)) (fun k => ?_) ?_
        · rw [journal_May.l0, if_pos (by omega), if_pos (by omega), if_pos (by omega), h1, version_some, hv, Option.bind_some, if_pos rfl, if_neg (by omega), ew]
        · have := ih (i + 1) v.f0 (by omega)
          rw [h3] at this
          exact this
      · rw [decide_eq_false hlt]
        refine Ev.step (f := fun _ => some false) (fun k => ?_) (Ev.now _)
        rw [journal_May.l0, if_pos (by omega), if_pos (by omega), if_pos (by omega), h1, version_some, hv, Option.bind_some, if_pos rfl, if_pos (by omega)]
theorem rmay_l0 (l : List S72) (hl : l.length < 4611686018427387904) (tg : Int) (nm : ByteArray) (d : Nat) : ∀ (i : Nat), i + d = l.length →
    Ev (fun k => strongboxref4_May.l0 k (i : Int) tg nm l) (okFrom (if i = 0 then -1 else (rd_T72 l ((i - 1 : Nat) : Int)).f0) (l.drop i)) := by
  induction d with
  | zero =>
    intro i hi
    refine Ev.step (f := fun _ => some true) (fun k => ?_) ?_
    · rw [strongboxref4_May.l0, if_neg (by omega)]
    · rw [List.drop_eq_nil_of_le (by omega)]; exact Ev.now _
  | succ d ih =>
    intro i hi
    obtain ⟨v, t, hd⟩ : ∃ v t, l.drop i = v :: t := by
      rw [List.drop_eq_getElem_cons (by omega)]; exact ⟨_, _, rfl⟩
    obtain ⟨h1, h2, h3⟩ := rd_at l i v t hd
    have ew : wrap64 ((i : Int) + 1) = ((i + 1 : Nat) : Int) := by rw [w64_lt (by omega) (by omega)]; omega
    have nx := ih (i + 1) (by omega)
    rw [if_neg (by omega), Nat.add_sub_cancel, h1, h3] at nx
    rw [hd, okFrom]
    cases hv : verB v with
    | false =>
      refine Ev.step (f := fun _ => some false) (fun k => ?_) (Ev.now _)
      rw [strongboxref4_May.l0, if_pos (by omega), if_pos (by omega), h1, mayVersion_some, hv, Option.bind_some, if_neg (by decide)]
    | true =>
      by_cases h0 : i = 0
      · subst h0
        rw [if_pos rfl, decide_eq_true (show (-1 : Int) < v.f0 by have := verB_id hv; omega)]
        refine Ev.step (f := fun k => strongboxref4_May.l0 k ((0 + 1 : Nat) : Int) tg nm l) (fun k => ?_) nx
        rw [strongboxref4_May.l0, if_pos (by omega), if_pos (by omega), h1, mayVersion_some, hv, Option.bind_some, if_pos rfl, if_neg (by omega), ew]
      · rw [if_neg h0]
        have em : wrap64 ((i : Int) - 1) = ((i - 1 : Nat) : Int) := by rw [w64_lt (by omega) (by omega)]; omega
        by_cases hlt : (rd_T72 l ((i - 1 : Nat) : Int)).f0 < v.f0
        · rw [decide_eq_true hlt]
          refine Ev.step (f := fun k => strongboxref4_May.l0 k ((i + 1 : Nat) : Int) tg nm l) (fun k => ?_) nx
          rw [strongboxref4_May.l0, if_pos (by omega), if_pos (by omega), h1, mayVersion_some, hv, Option.bind_some, if_pos rfl, if_pos (by omega), em, if_pos (by omega), if_pos (by omega), if_neg (by omega), ew]
        · rw [decide_eq_false hlt]
          refine Ev.step (f := fun _ => some false) (fun k => ?_) (Ev.now _)
          rw [strongboxref4_May.l0, if_pos (by omega), if_pos (by omega), h1, mayVersion_some, hv, Option.bind_some, if_pos rfl, if_pos (by omega), em, if_pos (by omega), if_pos (by omega), if_pos (by omega)]
/-- A journal that may be. -/
def mayJ (tg : Int) (nm : ByteArray) (l : List S72) : Bool := decide (0 ≤ tg ∧ tg ≤ 2147483647 ∧ nm.size ≤ 600 ∧ l.length ≤ 64) && okFrom (-1) l
theorem jmay_ev (tg : Int) (nm : ByteArray) (l : List S72) (hl : l.length < 4611686018427387904) : Ev (fun k => journal_May.f k tg nm l) (mayJ tg nm l) := by
  have nt : ∀ b, b = true → ¬ (0 ≤ tg ∧ tg ≤ 2147483647 ∧ nm.size ≤ 600 ∧ l.length ≤ 64) → Ev (fun k => journal_May.j0 k b tg nm l) (mayJ tg nm l) := fun b hb hn => by
    unfold mayJ
    rw [decide_eq_false hn, hb]
    exact Ev.step (f := fun _ => some false) (fun k => by rw [journal_May.j0, if_pos rfl]) (Ev.now _)
  unfold journal_May.f
  by_cases h1 : tg < 0
  · simp only [if_pos h1]; exact nt _ rfl (by omega)
  simp only [if_neg h1]
  by_cases h2 : tg > 2147483647
  · simp only [if_pos h2]; exact nt _ rfl (by omega)
  simp only [if_neg h2]
  by_cases h3 : (nm.size : Int) > 600
  · simp only [if_pos h3]; exact nt _ rfl (by omega)
  simp only [if_neg h3]
  by_cases h4 : (l.length : Int) > 64
  · exact nt _ (decide_eq_true h4) (by omega)
  · rw [decide_eq_false h4]
    have := jmay_l0 l hl l.length 0 (-1) (by omega)
    unfold mayJ
    rw [decide_eq_true (by omega)]
    refine Ev.step (f := fun k => journal_May.l0 k (-1) l (l.length : Int) ((0 : Nat) : Int)) (fun k => ?_) this
    rw [journal_May.j0, if_neg (by decide)]; rfl
theorem rmay_ev (tg : Int) (nm : ByteArray) (l : List S72) (hl : l.length < 4611686018427387904) : Ev (fun k => strongboxref4_May.f k tg nm l) (mayJ tg nm l) := by
  have nt : ∀ b, b = true → ¬ (0 ≤ tg ∧ tg ≤ 2147483647 ∧ nm.size ≤ 600 ∧ l.length ≤ 64) → Ev (fun k => strongboxref4_May.j0 k b tg nm l) (mayJ tg nm l) := fun b hb hn => by
    unfold mayJ
    rw [decide_eq_false hn, hb]
    exact Ev.step (f := fun _ => some false) (fun k => by rw [strongboxref4_May.j0, if_pos rfl]) (Ev.now _)
  unfold strongboxref4_May.f
  by_cases h1 : tg < 0
  · simp only [if_pos h1]; exact nt _ rfl (by omega)
  simp only [if_neg h1]
  by_cases h2 : tg > 2147483647
  · simp only [if_pos h2]; exact nt _ rfl (by omega)
  simp only [if_neg h2]
  by_cases h3 : (nm.size : Int) > 600
  · simp only [if_pos h3]; exact nt _ rfl (by omega)
  simp only [if_neg h3]
  by_cases h4 : (l.length : Int) > 64
  · exact nt _ (decide_eq_true h4) (by omega)
  · rw [decide_eq_false h4]
    have := rmay_l0 l hl tg nm l.length 0 (by omega)
    unfold mayJ
    rw [decide_eq_true (by omega)]
    refine Ev.step (f := fun k => strongboxref4_May.l0 k ((0 : Nat) : Int) tg nm l) (fun k => ?_) this
    rw [strongboxref4_May.j0, if_neg (by decide)]; rfl

theorem jput_l0 (a : Int) (w : Nat) (hw : w ≤ 4) (d : Nat) : ∀ (i : Nat) (b : List Int), i + d = w → Bytes b → b.length + d < 140737488355328 →
    ∃ t, Ev (fun k => journal_put.l0 k b a (w : Int) (i : Int)) (b ++ t) ∧ t.length = d ∧ Bytes t := by
  induction d with
  | zero =>
    intro i b hi _ _
    refine ⟨[], ?_, rfl, fun x hx => by cases hx⟩
    refine Ev.step (f := fun _ => some (b ++ [])) (fun k => ?_) (Ev.now _)
    rw [journal_put.l0, if_neg (by omega), List.append_nil]
  | succ d ih =>
    intro i b hi hb hl
    have hx : ∀ x : Int, Bytes [x % 256] := fun x y hy => by
      have : y = x % 256 := by simpa using hy
      omega
    obtain ⟨s, hs⟩ : ∃ s : Int, s = wrap64 (8 * (i : Int)) := ⟨_, rfl⟩
    have hs0 : 0 ≤ s := by rw [hs, w64_lt (by omega) (by omega)]; omega
    have ew : wrap64 ((i : Int) + 1) = ((i + 1 : Nat) : Int) := by rw [w64_lt (by omega) (by omega)]; omega
    obtain ⟨t, ht, hl2, hb2⟩ := ih (i + 1) (b ++ [(shr .i64 a s) % 256]) (by clear hs ew; omega) (fun y hy => (List.mem_append.1 hy).elim (fun h => hb y h) (fun h => hx _ y h)) (by clear hs ew; rw [List.length_append]; simp; omega)
    refine ⟨(shr .i64 a s) % 256 :: t, ?_, by simp [hl2], fun y hy => (List.mem_cons.1 hy).elim (fun h => hx (shr .i64 a s) y (by rw [h]; simp)) (fun h => hb2 y h)⟩
    refine Ev.step (f := fun k => journal_put.l0 k (b ++ [(shr .i64 a s) % 256]) a (w : Int) ((i + 1 : Nat) : Int)) (fun k => ?_) ?_
    · rw [journal_put.l0, if_pos (by clear hs ew; omega), ← hs, if_pos hs0, if_pos (by clear hs ew; omega), ew]
    · rw [List.append_assoc] at ht
      exact ht
theorem jput_ev (a : Int) (w : Nat) (hw : w ≤ 4) (b : List Int) (hb : Bytes b) (hl : b.length < 70368744177664) : ∃ t, Ev (fun k => journal_put.f k b a (w : Int)) (b ++ t) ∧ t.length = w ∧ Bytes t := by
  obtain ⟨t, h1, h2, h3⟩ := jput_l0 a w hw w 0 b (by omega) hb (by omega)
  exact ⟨t, h1, h2, h3⟩
theorem bytes_app {a b : List Int} (ha : Bytes a) (hb : Bytes b) : Bytes (a ++ b) := fun x hx => (List.mem_append.1 hx).elim (fun h => ha x h) (fun h => hb x h)
theorem jenc_l0 (l : List S72) (hl : l.length ≤ 1000) (d : Nat) : ∀ (i : Nat) (x4 : List Int), i + d = l.length → Bytes x4 → x4.length + 13 * d < 1000000 →
    ∃ c, Ev (fun k => journal_Encode.l0 k x4 l (l.length : Int) (i : Int)) (c ++ le4 (toI (sumW c)), 0) ∧ Bytes c ∧ c.length = x4.length + 13 * d := by
  induction d with
  | zero =>
    intro i x4 hi hb hx
    refine ⟨x4, ?_, hb, by omega⟩
    refine Ev.step (f := fun k => (crc_Sum.f k x4).bind fun t131 => ((crc_Bytes.f t131).bind fun t132 => (if x4.length + t132.length < 140737488355328 then (some ((x4 ++ t132), 0)) else (none)))) (fun k => ?_) ?_
    · rw [journal_Encode.l0, if_neg (by omega)]
    · refine Ev.bind (f := fun _ t131 => ((crc_Bytes.f t131).bind fun t132 => (if x4.length + t132.length < 140737488355328 then (some ((x4 ++ t132), (0 : Int))) else (none)))) (sum_ev x4 (by omega) hb) ?_
      refine Ev.congr (f := fun _ => some (x4 ++ le4 (toI (sumW x4)), 0)) (fun k => ?_) (Ev.now _)
      show (some (le4 (toI (sumW x4)))).bind _ = _
      rw [Option.bind_some, if_pos (by rw [le4_length]; omega)]
  | succ d ih =>
    intro i x4 hi hb hx
    obtain ⟨v, hv⟩ : ∃ v, v = rd_T72 l (i : Int) := ⟨_, rfl⟩
    have ew : wrap64 ((i : Int) + 1) = ((i + 1 : Nat) : Int) := by rw [w64_lt (by omega) (by omega)]; omega
    have go : ∀ m : Int, ∃ c, Ev (fun k => journal_Encode.j1 k x4 m l (l.length : Int) (i : Int) v.f0 v.f1 v.f2 v.f3) (c ++ le4 (toI (sumW c)), 0) ∧ Bytes c ∧ c.length = x4.length + 13 * (d + 1) := fun m => by
      obtain ⟨t1, p1, q1, r1⟩ := jput_ev v.f0 4 (by decide) x4 hb (by clear ew; omega)
      have b1 := bytes_app hb r1
      obtain ⟨t2, p2, q2, r2⟩ := jput_ev m 1 (by decide) _ b1 (by clear ew; rw [List.length_append]; omega)
      have b2 := bytes_app b1 r2
      obtain ⟨t3, p3, q3, r3⟩ := jput_ev v.f2 4 (by decide) _ b2 (by clear ew; rw [List.length_append, List.length_append]; omega)
      have b3 := bytes_app b2 r3
      obtain ⟨t4, p4, q4, r4⟩ := jput_ev (wrap64 v.f3) 4 (by decide) _ b3 (by clear ew; rw [List.length_append, List.length_append, List.length_append]; omega)
      have b4 := bytes_app b3 r4
      have hlen : (x4 ++ t1 ++ t2 ++ t3 ++ t4).length = x4.length + 13 := by clear ew; simp only [List.length_append]; omega
      obtain ⟨c, p5, q5, r5⟩ := ih (i + 1) (x4 ++ t1 ++ t2 ++ t3 ++ t4) (by clear ew; omega) b4 (by clear ew; rw [hlen]; omega)
      refine ⟨c, ?_, q5, by rw [r5, hlen]; clear ew; omega⟩
      obtain ⟨K1, g1⟩ := p1
      obtain ⟨K2, g2⟩ := p2
      obtain ⟨K3, g3⟩ := p3
      obtain ⟨K4, g4⟩ := p4
      obtain ⟨K5, g5⟩ := p5
      refine ⟨max (max K1 K2) (max (max K3 K4) K5) + 1, fun k hk => ?_⟩
      obtain ⟨k, rfl⟩ : ∃ j, k = j + 1 := ⟨k - 1, by clear ew; omega⟩
      have g1 := g1 k (by clear ew; omega)
      have g2 := g2 k (by clear ew; omega)
      have g3 := g3 k (by clear ew; omega)
      have g4 := g4 k (by clear ew; omega)
      have g5 := g5 k (by clear ew; omega)
      simp only at g1 g2 g3 g4 g5
      have g1' : journal_put.f k x4 v.f0 4 = some (x4 ++ t1) := g1
      have g2' : journal_put.f k (x4 ++ t1) m 1 = some (x4 ++ t1 ++ t2) := g2
      have g3' : journal_put.f k (x4 ++ t1 ++ t2) v.f2 4 = some (x4 ++ t1 ++ t2 ++ t3) := g3
      have g4' : journal_put.f k (x4 ++ t1 ++ t2 ++ t3) (wrap64 v.f3) 4 = some (x4 ++ t1 ++ t2 ++ t3 ++ t4) := g4
      show journal_Encode.j1 (k + 1) x4 m l (l.length : Int) (i : Int) v.f0 v.f1 v.f2 v.f3 = _
      rw [journal_Encode.j1, g1', Option.bind_some, g2', Option.bind_some, g3', Option.bind_some, g4', Option.bind_some, ew, g5]
    cases hm : v.f1 with
    | true =>
      obtain ⟨c, p, q, r⟩ := go 1
      refine ⟨c, Ev.step (f := fun k => journal_Encode.j1 k x4 1 l (l.length : Int) (i : Int) v.f0 v.f1 v.f2 v.f3) (fun k => ?_) p, q, r⟩
      clear ew
      rw [journal_Encode.l0, if_pos (by omega), if_pos (by omega), if_pos (by omega), ← hv, if_pos hm]
    | false =>
      obtain ⟨c, p, q, r⟩ := go 0
      refine ⟨c, Ev.step (f := fun k => journal_Encode.j1 k x4 0 l (l.length : Int) (i : Int) v.f0 v.f1 v.f2 v.f3) (fun k => ?_) p, q, r⟩
      clear ew
      rw [journal_Encode.l0, if_pos (by omega), if_pos (by omega), if_pos (by omega), ← hv, if_neg (by rw [hm]; decide)]
theorem bytesOf_bytes (s : ByteArray) : Bytes (bytesOf s) := by
  intro x hx
  unfold bytesOf at hx
  obtain ⟨u, _, rfl⟩ := List.mem_map.1 hx
  have := u.toNat_lt
  omega
/-- The bytes of a journal that may be: some, and their sum behind them. -/
theorem jenc_ev (tg : Int) (nm : ByteArray) (l : List S72) (hm : mayJ tg nm l = true) :
    ∃ c, Ev (fun k => journal_Encode.f k tg nm l) (c ++ le4 (toI (sumW c)), 0) ∧ Bytes c ∧ 11 ≤ c.length ∧ c.length ≤ 4000 := by
  have hb : 0 ≤ tg ∧ tg ≤ 2147483647 ∧ nm.size ≤ 600 ∧ l.length ≤ 64 := by
    unfold mayJ at hm
    rw [Bool.and_eq_true] at hm
    exact of_decide_eq_true hm.1
  have b0 : Bytes ([83, 66, 74, 49] : List Int) := by unfold Bytes; decide
  obtain ⟨t1, p1, q1, r1⟩ := jput_ev tg 4 (by decide) [83, 66, 74, 49] b0 (by decide)
  have b1 := bytes_app b0 r1
  have l1 : ([83, 66, 74, 49] ++ t1 : List Int).length = 8 := by rw [List.length_append, q1]; rfl
  obtain ⟨t2, p2, q2, r2⟩ := jput_ev (nm.size : Int) 2 (by decide) _ b1 (by omega)
  have b2 := bytes_app b1 r2
  have l2 : ([83, 66, 74, 49] ++ t1 ++ t2 : List Int).length = 10 := by rw [List.length_append, l1, q2]
  have b3 := bytes_app b2 (bytesOf_bytes nm)
  have l3 : ([83, 66, 74, 49] ++ t1 ++ t2 ++ bytesOf nm : List Int).length = 10 + nm.size := by rw [List.length_append, l2, bytesOf_length]
  have b4 : Bytes (([83, 66, 74, 49] ++ t1 ++ t2 ++ bytesOf nm) ++ [(l.length : Int) % 256]) := bytes_app b3 (fun y hy => by
    have : y = (l.length : Int) % 256 := by simpa using hy
    omega)
  have l4 : (([83, 66, 74, 49] ++ t1 ++ t2 ++ bytesOf nm) ++ [(l.length : Int) % 256]).length = 11 + nm.size := by rw [List.length_append, l3]; simp; omega
  obtain ⟨c, p5, q5, r5⟩ := jenc_l0 l (by omega) l.length 0 _ (by omega) b4 (by rw [l4]; omega)
  rw [l4] at r5
  refine ⟨c, ?_, q5, by omega, by omega⟩
  obtain ⟨K0, g0⟩ := jmay_ev tg nm l (by omega)
  obtain ⟨K1, g1⟩ := p1
  obtain ⟨K2, g2⟩ := p2
  obtain ⟨K5, g5⟩ := p5
  refine ⟨max (max K0 K1) (max K2 K5), fun k hk => ?_⟩
  have g0 := g0 k (by omega)
  have g1 := g1 k (by omega)
  have g2 := g2 k (by omega)
  have g5 := g5 k (by omega)
  simp only at g0 g1 g2 g5
  have g1' : journal_put.f k [83, 66, 74, 49] tg 4 = some ([83, 66, 74, 49] ++ t1) := g1
  have g2' : journal_put.f k ([83, 66, 74, 49] ++ t1) (nm.size : Int) 2 = some ([83, 66, 74, 49] ++ t1 ++ t2) := g2
  show journal_Encode.f k tg nm l = _
  rw [journal_Encode.f, g0, hm, Option.bind_some, if_pos rfl, g1', Option.bind_some, g2', Option.bind_some, if_pos (by rw [l2]; omega), Option.bind_some, if_pos (by rw [l3]; omega)]
  exact g5
/-- Bytes whose sum is wrong. -/
theorem jdec_bad_ev (e : List Int) (hb : Bytes e) (h1 : 15 ≤ e.length) (h2 : e.length ≤ 262144) (hne : rd4 (e.drop (e.length - 4)) ≠ toI (sumW (e.take (e.length - 4)))) :
    Ev (fun k => journal_Decode.f k e) (0, (⟨#[]⟩ : ByteArray), ([] : List S72), 5) := by
  obtain ⟨K1, g1⟩ := read_ev (e.drop (e.length - 4)) (hb.sub fun x hx => List.mem_of_mem_drop hx) (by rw [List.length_drop]; omega)
  obtain ⟨K2, g2⟩ := sum_ev (e.take (e.length - 4)) (by rw [List.length_take]; omega) (hb.sub fun x hx => List.mem_of_mem_take hx)
  have en : wrap64 ((e.length : Int) - 4) = ((e.length - 4 : Nat) : Int) := by rw [w64_lt (by omega) (by omega)]; omega
  refine ⟨max K1 K2, fun k hk => ?_⟩
  have g1 := g1 k (by clear en; omega)
  have g2 := g2 k (by clear en; omega)
  simp only at g1 g2
  have c1 : ¬ (e.length : Int) > 262144 := by clear en; omega
  have c2 : ¬ (e.length : Int) < 15 := by clear en; omega
  have c3 : (0 : Int) ≤ ((e.length - 4 : Nat) : Int) := by clear en; omega
  have c4 : ((e.length - 4 : Nat) : Int) ≤ (e.length : Int) := by clear en; omega
  show journal_Decode.f k e = _
  rw [journal_Decode.f, if_neg c1, if_neg c2, en, if_pos c3, if_pos c4, Int.toNat_natCast, g1, Option.bind_some, g2, Option.bind_some, if_neg hne]
theorem awake7_at : strongboxlaw7_awake.f 200 = some true := by decide +kernel
theorem awake7_ev : Ev (fun k => strongboxlaw7_awake.f k) true := by
  refine ⟨200, fun k hk => ?_⟩
  obtain ⟨j, rfl⟩ : ∃ j, k = 200 + j := ⟨k - 200, by omega⟩
  clear hk
  induction j with
  | zero => exact awake7_at
  | succ j ih => exact strongboxlaw7_awake.mono (200 + j) true ih

theorem bursts7_l0 (b : List Int) (hl : b.length ≤ 60000) (M f : Nat) (hM : M < 4294967296) (hf : f + 32 ≤ 8 * b.length)
    (fin : ∀ e, Burst b e f M 32 → Ev (fun k => journal_Decode.f k e) (0, (⟨#[]⟩ : ByteArray), ([] : List S72), 5)) (d : Nat) :
    ∀ (i : Nat) (e : List Int), i + d = 32 → Burst b e f M i →
      Ev (fun k => strongboxlaw7_JournalBursts.l0 k (M : Int) e (f : Int) (i : Int)) true := by
  induction d with
  | zero =>
    intro i e hi hB
    obtain rfl : i = 32 := by omega
    obtain ⟨K, g⟩ := fin e hB
    refine ⟨K + 1, fun k hk => ?_⟩
    obtain ⟨k, rfl⟩ : ∃ j, k = j + 1 := ⟨k - 1, by omega⟩
    have g := g k (by omega)
    simp only at g
    show strongboxlaw7_JournalBursts.l0 (k + 1) (M : Int) e (f : Int) ((32 : Nat) : Int) = _
    rw [strongboxlaw7_JournalBursts.l0, if_neg (by omega), g, Option.bind_some, if_pos rfl, if_pos rfl, if_pos (by rfl)]
    exact congrArg some (show ((⟨#[]⟩ : ByteArray).toList == ([] : List UInt8)) = true by decide +kernel)
  | succ d ih =>
    intro i e hi hB
    have hp := place f i (by omega)
    have ew : wrap64 ((i : Int) + 1) = ((i + 1 : Nat) : Int) := by rw [w64_lt (by omega) (by omega)]; omega
    have eu : (0 : Int) ≤ IntKind.u64.wrap (i : Int) := by rw [IntKind.wrap_u64]; omega
    cases hbit : M.testBit i with
    | true =>
      have hB2 := hB.turn hbit (by omega) _ rfl
      refine Ev.step (f := fun k => strongboxlaw7_JournalBursts.l0 k (M : Int) _ (f : Int) ((i + 1 : Nat) : Int)) (fun k => ?_) (ih (i + 1) _ (by omega) hB2)
      simp only [strongboxlaw7_JournalBursts.l0]
      have le : (f + i) / 8 < e.length := by rw [hB.len]; omega
      rw [if_pos (by omega), if_pos eu, if_pos ((mask_bit M i hM (by omega)).2 hbit), hp.1, hp.2, if_pos (by omega), if_pos (by omega), if_pos (by omega),
        turned e hB.bytes _ _ le (by omega), Int.toNat_natCast, ew]
    | false =>
      refine Ev.step (f := fun k => strongboxlaw7_JournalBursts.l0 k (M : Int) e (f : Int) ((i + 1 : Nat) : Int)) (fun k => ?_) (ih (i + 1) _ (by omega) (hB.skip hbit))
      simp only [strongboxlaw7_JournalBursts.l0]
      rw [if_pos (by omega), if_pos eu, if_neg (fun h => by have := (mask_bit M i hM (by omega)).1 h; rw [hbit] at this; cases this), ew]
def JournalBurstsPure : Prop := ∀ (tg : Int) (nm : ByteArray) (l : List S72) (a1 a2 : Int), (Lit.int .u32 a1).wf = true → (Lit.int .u32 a2).wf = true → ∃ k, strongboxlaw7_JournalBursts.f k tg nm l a1 a2 = some true
theorem JournalBursts : JournalBurstsPure := by
  intro tg nm l n0 n1 hn0 hn1
  have b0 := bounds_u32 hn0
  have b1 := bounds_u32 hn1
  obtain ⟨A, rfl⟩ := Int.eq_ofNat_of_zero_le b0.1
  obtain ⟨M, rfl⟩ := Int.eq_ofNat_of_zero_le b1.1
  refine Ev.rounds (g := fun k => strongboxlaw7_JournalBursts.f k tg nm l (A : Int) (M : Int)) ?_
  obtain ⟨K0, g0⟩ := awake7_ev
  have asl : ∀ k, strongboxlaw7_JournalBursts.j0 (k + 1) (A : Int) (M : Int) true tg nm l = some true := fun k => by rw [strongboxlaw7_JournalBursts.j0, if_pos rfl]
  by_cases hr : (nm.size : Int) ≤ 1000 ∧ (l.length : Int) ≤ 100
  · have hroom : strongboxlaw7_Room.f tg nm l = some true := by rw [strongboxlaw7_Room.f, if_pos hr.1, decide_eq_true hr.2]
    obtain ⟨K1, g1⟩ := rmay_ev tg nm l (by omega)
    by_cases hm : mayJ tg nm l = true
    · by_cases hM0 : (M : Int) = 0
      · refine ⟨max K0 K1 + 1, fun k hk => ?_⟩
        obtain ⟨k, rfl⟩ : ∃ j, k = j + 1 := ⟨k - 1, by omega⟩
        have g0 := g0 (k + 1) (by omega)
        have g1 := g1 (k + 1) (by omega)
        simp only at g0 g1
        show strongboxlaw7_JournalBursts.f (k + 1) tg nm l A M = _
        rw [strongboxlaw7_JournalBursts.f, g0, Option.bind_some, if_pos rfl, hroom, Option.bind_some, if_pos rfl, g1, hm, Option.bind_some, if_pos rfl, beq_iff_eq.2 hM0, asl]
      · obtain ⟨c, ⟨K2, g2⟩, hcb, hc1, hc2⟩ := jenc_ev tg nm l hm
        obtain ⟨b, hbe⟩ : ∃ b, b = c ++ le4 (toI (sumW c)) := ⟨_, rfl⟩
        rw [← hbe] at g2
        have hbl : b.length = c.length + 4 := by rw [hbe, List.length_append, le4_length]
        have hbb : Bytes b := by rw [hbe]; exact bytes_app hcb (le4_bytes _)
        obtain ⟨n, hn⟩ : ∃ n : Nat, n + 31 = 8 * b.length := ⟨8 * b.length - 31, by omega⟩
        have e1 : wrap64 ((wrap64 (8 * (b.length : Int))) - 31) = (n : Int) := by
          rw [w64_lt (n := 8 * (b.length : Int)) (by omega) (by omega), w64_lt (by omega) (by omega)]; omega
        have hmod := Nat.mod_lt A (show 0 < n by clear e1; omega)
        have e2 : Int.tmod (wrap64 (A : Int)) (n : Int) = ((A % n : Nat) : Int) := by
          clear e1; rw [w64_lt (by omega) (by omega)]; rfl
        have e4 : ¬ (n : Int) = 0 := by clear e1 e2; omega
        have c6 : decide ((b.length : Int) < 15) = false := decide_eq_false (by clear e1 e2; omega)
        obtain ⟨K3, g3⟩ : Ev (fun k => strongboxlaw7_JournalBursts.l0 k (M : Int) b ((A % n : Nat) : Int) ((0 : Nat) : Int)) true := by
          clear e1 e2
          refine bursts7_l0 b (by omega) M _ (by omega) (by omega) (fun e hBu => ?_) 32 0 _ (by omega) (Burst.start hbb _ _)
          have hel : e.length = c.length + 4 := by rw [hBu.len, hbl]
          have hct : e.take c.length ++ e.drop c.length = e := List.take_append_drop _ _
          have hne := sealed_told c (e.take c.length) (e.drop c.length) hcb (hBu.bytes.sub fun x hx => List.mem_of_mem_take hx) (hBu.bytes.sub fun x hx => List.mem_of_mem_drop hx) (by rw [List.length_take]; omega) (by rw [List.length_drop]; omega) (A % n)
            (by rw [hct, ← hbe, ← hbl]; exact hBu.window) (by rw [hct, ← hbe, ← hbl]; exact hBu.some (by omega) (by omega) (by omega))
          refine jdec_bad_ev e hBu.bytes (by omega) (by omega) ?_
          rw [show e.length - 4 = c.length by omega]
          exact hne
        have hjl : ([] : List S72).length + l.length < 4398046511104 := by clear e1 e2; simp only [List.length_nil]; omega
        refine ⟨max (max K0 K1) (max K2 K3) + 2, fun k hk => ?_⟩
        obtain ⟨k, rfl⟩ : ∃ j, k = j + 2 := ⟨k - 2, by clear e1 e2; omega⟩
        have g0 := g0 (k + 2) (by clear e1 e2; omega)
        have g1 := g1 (k + 2) (by clear e1 e2; omega)
        have g2 := g2 (k + 1) (by clear e1 e2; omega)
        have g3 := g3 k (by clear e1 e2; omega)
        simp only at g0 g1 g2 g3
        show strongboxlaw7_JournalBursts.f (k + 2) tg nm l A M = _
        rw [strongboxlaw7_JournalBursts.f, g0, Option.bind_some, if_pos rfl, hroom, Option.bind_some, if_pos rfl, g1, hm, Option.bind_some, if_pos rfl, beq_eq_false_iff_ne.2 hM0]
        show strongboxlaw7_JournalBursts.j0 (k + 1 + 1) A M false tg nm l = some true
        rw [strongboxlaw7_JournalBursts.j0, if_neg (by decide), strongboxlaw7_Journal.f, if_pos hjl, Option.bind_some, List.nil_append, g2, Option.bind_some, if_pos rfl, c6, strongboxlaw7_JournalBursts.j1, if_neg (by decide), e1, if_neg e4, e2]
        exact g3
    · refine ⟨max K0 K1 + 1, fun k hk => ?_⟩
      obtain ⟨k, rfl⟩ : ∃ j, k = j + 1 := ⟨k - 1, by omega⟩
      have g0 := g0 (k + 1) (by omega)
      have g1 := g1 (k + 1) (by omega)
      simp only at g0 g1
      show strongboxlaw7_JournalBursts.f (k + 1) tg nm l A M = _
      rw [strongboxlaw7_JournalBursts.f, g0, Option.bind_some, if_pos rfl, hroom, Option.bind_some, if_pos rfl, g1, Option.bind_some, if_neg hm, asl]
  · have hroom : strongboxlaw7_Room.f tg nm l = some false := by
      rw [strongboxlaw7_Room.f]
      by_cases h1 : (nm.size : Int) ≤ 1000
      · rw [if_pos h1, decide_eq_false (fun h2 => hr ⟨h1, h2⟩)]
      · rw [if_neg h1]
    refine ⟨K0 + 1, fun k hk => ?_⟩
    obtain ⟨k, rfl⟩ : ∃ j, k = j + 1 := ⟨k - 1, by omega⟩
    have g0 := g0 (k + 1) (by omega)
    simp only at g0
    show strongboxlaw7_JournalBursts.f (k + 1) tg nm l A M = _
    rw [strongboxlaw7_JournalBursts.f, g0, Option.bind_some, if_pos rfl, hroom, Option.bind_some, if_neg (by decide), asl]

end Go.Proofs.Ytnlpipjdpmaggaa.Pure
