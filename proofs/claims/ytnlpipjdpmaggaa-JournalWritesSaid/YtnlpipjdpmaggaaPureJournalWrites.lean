/- any journal: whether it may be, and its bytes, are told as the reference tells them; for each journal whose name has at most 1000 bytes and that has at most 100 versions (of the others the statement asks nothing). -/
import Derived.Test.YtnlpipjdpmaggaaPJournalWritesx11
import Derived.Test.YtnlpipjdpmaggaaMath
set_option linter.unusedVariables false
set_option linter.unusedSimpArgs false
namespace Go.Proofs.Ytnlpipjdpmaggaa.Pure
open Go.RowKit Go.Proofs.Ytnlpipjdpmaggaa.PJournalBursts Go.Proofs.YtnlpipjdpmaggaaW.PrintWords Go.Proofs.YtnlpipjdpmaggaaW.PrintLast Go.Proofs.YtnlpipjdpmaggaaW.PrintMore CrcMath

theorem w64_lt {n : Int} (h0 : 0 ≤ n) (h : n < 9223372036854775807) : wrap64 n = n := by unfold wrap64; omega

theorem more_l1 (l : List Int) (n i : Int) (r : Int) (d : Nat) : ∀ (S : W) (j : Int), j + d = 8 → 0 ≤ j →
    Ev (fun k => crc_More.l0 k (toI (steps d S)) l n (wrap64 (i + 1))) r → Ev (fun k => crc_More.l1 k (toI S) l n i j) r := by
  induction d with
  | zero =>
    intro S j hj h0 h
    refine Ev.step (f := fun k => crc_More.l0 k (toI S) l n (wrap64 (i + 1))) (fun k => ?_) h
    simp only [crc_More.l1]
    rw [if_neg (by omega)]
  | succ d ih =>
    intro S j hj h0 h
    refine Ev.step (f := fun k => crc_More.l1 k (toI (CrcMath.step S)) l n i (j + 1)) (fun k => ?_) (ih (CrcMath.step S) (j + 1) (by omega) (by omega) h)
    simp only [crc_More.l1]
    rw [if_pos (by omega), w64_lt (by omega) (by omega), low]
    cases hs : S.getLsbD 0 with
    | true => simp only [if_true]; rw [step_on hs]
    | false => rw [if_neg (by simp), step_off hs]

theorem more_l0 (l : List Int) (hl : l.length < 4611686018427387904) (rest : List Int) : ∀ (pre : List Int) (S : W), l = pre ++ rest → Bytes rest →
    Ev (fun k => crc_More.l0 k (toI S) l (l.length : Int) (pre.length : Int)) (toI (~~~ (CrcMath.run S rest))) := by
  induction rest with
  | nil =>
    intro pre S e _
    refine Ev.step (f := fun _ => some (toI (~~~ S))) (fun k => ?_) (Ev.now _)
    simp only [crc_More.l0]
    have : l.length = pre.length := by rw [e]; simp
    rw [if_neg (by omega), not_toI]
  | cons x rest ih =>
    intro pre S e hb
    have hx := hb x (by simp)
    have hlen : l.length = pre.length + (rest.length + 1) := by rw [e]; simp
    have hrd : rd l (pre.length : Int) = x := by
      unfold rd
      rw [Int.toNat_natCast, e]
      simp [List.getD_eq_getElem?_getD]
    refine Ev.step (f := fun k => crc_More.l1 k (toI (S ^^^ BitVec.ofInt 32 x)) l (l.length : Int) (pre.length : Int) 0) (fun k => ?_) ?_
    · simp only [crc_More.l0]
      rw [if_pos (by omega), if_pos (by omega), if_pos (by omega), hrd, Int.emod_eq_of_lt hx.1 (by omega)]
      rw [← toI_of hx.1 (by omega : x < 4294967296), xor_toI, toI_of hx.1 (by omega)]
    · refine more_l1 l _ _ _ 8 _ 0 (by omega) (by omega) ?_
      have h := ih (pre ++ [x]) (byteStep S x) (by rw [e]; simp) (fun y hy => hb y (by simp [hy]))
      have e2 : ((pre ++ [x]).length : Int) = wrap64 ((pre.length : Int) + 1) := by
        rw [w64_lt (by omega) (by omega)]; simp
      rw [e2] at h
      exact h

theorem more_ev (S : W) (l : List Int) (hl : l.length < 4611686018427387904) (hb : Bytes l) : Ev (fun k => crc_More.f k (toI S) l) (toI (moreW S l)) := by
  have h := more_l0 l hl l [] (~~~ S) rfl hb
  refine Ev.congr (fun k => ?_) h
  unfold crc_More.f
  rw [not_toI]; rfl

theorem sum_ev (l : List Int) (hl : l.length < 4611686018427387904) (hb : Bytes l) : Ev (fun k => crc_Sum.f k l) (toI (sumW l)) := by
  have h := more_ev 0 l hl hb
  unfold crc_Sum.f
  exact Ev.bind (g := fun k => crc_More.f k 0 l) (f := fun _ t => some t) h (Ev.now _)

def verB (v : S72) : Bool := (journal_version.f v.f0 v.f1 v.f2 v.f3).getD false
theorem version_some (v : S72) : journal_version.f v.f0 v.f1 v.f2 v.f3 = some (verB v) := by
  have h : ∃ b, journal_version.f v.f0 v.f1 v.f2 v.f3 = some b := by
    unfold journal_version.f
    repeat' split
    all_goals exact ⟨_, rfl⟩
  obtain ⟨b, h⟩ := h
  unfold verB
  rw [h]; rfl
theorem mayVersion_some (v : S72) : strongboxref4_MayVersion.f v.f0 v.f1 v.f2 v.f3 = some (verB v) := by
  rw [← version_some]
  unfold strongboxref4_MayVersion.f journal_version.f
  by_cases h1 : v.f0 < 0
  · rw [if_neg (by omega), if_pos h1]
  rw [if_pos (by omega), if_neg h1]
  by_cases h2 : v.f0 > 2147483647
  · rw [if_neg (by omega), if_pos h2]
  rw [if_pos (by omega), if_neg h2]
  by_cases h3 : v.f2 < 0
  · rw [if_neg (by omega), if_pos h3]
  rw [if_pos (by omega), if_neg h3]
  by_cases h4 : v.f2 > 65536
  · rw [if_neg (by omega), if_pos h4]
  rw [if_pos (by omega), if_neg h4]
theorem verB_id {v : S72} (h : verB v = true) : 0 ≤ v.f0 ∧ v.f0 ≤ 2147483647 := by
  have := version_some v
  rw [h] at this
  unfold journal_version.f at this
  by_cases h1 : v.f0 < 0
  · rw [if_pos h1] at this; cases this
  by_cases h2 : v.f0 > 2147483647
  · rw [if_neg h1, if_pos h2] at this; cases this
  omega
/-- Versions that may be, with rising ids. -/
def okFrom (last : Int) : List S72 → Bool
  | [] => true
  | v :: t => verB v && decide (last < v.f0) && okFrom v.f0 t
theorem rd_at (l : List S72) (i : Nat) (v : S72) (t : List S72) (h : l.drop i = v :: t) : rd_T72 l (i : Int) = v ∧ i < l.length ∧ l.drop (i + 1) = t := by
  have hi : i < l.length := by
    rcases Nat.lt_or_ge i l.length with h1 | h1
    · exact h1
    · rw [List.drop_eq_nil_of_le h1] at h; cases h
  rw [List.drop_eq_getElem_cons hi] at h
  injection h with h1 h2
  refine ⟨?_, hi, h2⟩
  unfold rd_T72
  rw [Int.toNat_natCast, List.getD_eq_getElem?_getD, List.getElem?_eq_getElem hi, ← h1]; rfl
theorem jmay_l0 (l : List S72) (hl : l.length < 4611686018427387904) (d : Nat) : ∀ (i : Nat) (last : Int), i + d = l.length →
    Ev (fun k => journal_May.l0 k last l (l.length : Int) (i : Int)) (okFrom last (l.drop i)) := by
  induction d with
  | zero =>
    intro i last hi
    refine Ev.step (f := fun _ => some true) (fun k => ?_) ?_
    · rw [journal_May.l0, if_neg (by omega)]
    · rw [List.drop_eq_nil_of_le (by omega)]; exact Ev.now _
  | succ d ih =>
    intro i last hi
    obtain ⟨v, t, hd⟩ : ∃ v t, l.drop i = v :: t := by
      rw [List.drop_eq_getElem_cons (by omega)]; exact ⟨_, _, rfl⟩
    obtain ⟨h1, h2, h3⟩ := rd_at l i v t hd
    have ew : wrap64 ((i : Int) + 1) = ((i + 1 : Nat) : Int) := by rw [w64_lt (by omega) (by omega)]; omega
    rw [hd, okFrom]
    cases hv : verB v with
    | false =>
      refine Ev.step (f := fun _ => some false) (fun k => ?_) (Ev.now _)
      rw [journal_May.l0, if_pos (by omega), if_pos (by omega), if_pos (by omega), h1, version_some, hv, Option.bind_some, if_neg (by decide)]
    | true =>
      by_cases hlt : last < v.f0
      · rw [decide_eq_true hlt]
        refine Ev.step (f := fun k => journal_May.l0 k v.f0 l (l.length : Int) ((i + 1 : Nat) : Int)) (fun k => ?_) ?_
        · rw [journal_May.l0, if_pos (by omega), if_pos (by omega), if_pos (by omega), h1, version_some, hv, Option.bind_some, if_pos rfl, if_neg (by omega), ew]
        · have := ih (i + 1) v.f0 (by omega)
          rw [h3] at this
          exact this
      · rw [decide_eq_false hlt]
        refine Ev.step (f := fun _ => some false) (fun k => ?_) (Ev.now _)
        rw [journal_May.l0, if_pos (by omega), if_pos (by omega), if_pos (by omega), h1, version_some, hv, Option.bind_some, if_pos rfl, if_pos (by omega)]
theorem rmay_l0 (l : List S72) (hl : l.length < 4611686018427387904) (tg : Int) (nm : ByteArray) (d : Nat) : ∀ (i : Nat), i + d = l.length →
    Ev (fun k => strongboxref4_May.l0 k (i : Int) tg nm l) (okFrom (if i = 0 then -1 else (rd_T72 l ((i - 1 : Nat) : Int)).f0) (l.drop i)) := by
  induction d with
  | zero =>
    intro i hi
    refine Ev.step (f := fun _ => some true) (fun k => ?_) ?_
    · rw [strongboxref4_May.l0, if_neg (by omega)]
    · rw [List.drop_eq_nil_of_le (by omega)]; exact Ev.now _
  | succ d ih =>
    intro i hi
    obtain ⟨v, t, hd⟩ : ∃ v t, l.drop i = v :: t := by
      rw [List.drop_eq_getElem_cons (by omega)]; exact ⟨_, _, rfl⟩
    obtain ⟨h1, h2, h3⟩ := rd_at l i v t hd
    have ew : wrap64 ((i : Int) + 1) = ((i + 1 : Nat) : Int) := by rw [w64_lt (by omega) (by omega)]; omega
    have nx := ih (i + 1) (by omega)
    rw [if_neg (by omega), Nat.add_sub_cancel, h1, h3] at nx
    rw [hd, okFrom]
    cases hv : verB v with
    | false =>
      refine Ev.step (f := fun _ => some false) (fun k => ?_) (Ev.now _)
      rw [strongboxref4_May.l0, if_pos (by omega), if_pos (by omega), h1, mayVersion_some, hv, Option.bind_some, if_neg (by decide)]
    | true =>
      by_cases h0 : i = 0
      · subst h0
        rw [if_pos rfl, decide_eq_true (show (-1 : Int) < v.f0 by have := verB_id hv; omega)]
        refine Ev.step (f := fun k => strongboxref4_May.l0 k ((0 + 1 : Nat) : Int) tg nm l) (fun k => ?_) nx
        rw [strongboxref4_May.l0, if_pos (by omega), if_pos (by omega), h1, mayVersion_some, hv, Option.bind_some, if_pos rfl, if_neg (by omega), ew]
      · rw [if_neg h0]
        have em : wrap64 ((i : Int) - 1) = ((i - 1 : Nat) : Int) := by rw [w64_lt (by omega) (by omega)]; omega
        by_cases hlt : (rd_T72 l ((i - 1 : Nat) : Int)).f0 < v.f0
        · rw [decide_eq_true hlt]
          refine Ev.step (f := fun k => strongboxref4_May.l0 k ((i + 1 : Nat) : Int) tg nm l) (fun k => ?_) nx
          rw [strongboxref4_May.l0, if_pos (by omega), if_pos (by omega), h1, mayVersion_some, hv, Option.bind_some, if_pos rfl, if_pos (by omega), em, if_pos (by omega), if_pos (by omega), if_neg (by omega), ew]
        · rw [decide_eq_false hlt]
          refine Ev.step (f := fun _ => some false) (fun k => ?_) (Ev.now _)
          rw [strongboxref4_May.l0, if_pos (by omega), if_pos (by omega), h1, mayVersion_some, hv, Option.bind_some, if_pos rfl, if_pos (by omega), em, if_pos (by omega), if_pos (by omega), if_pos (by omega)]
/-- A journal that may be. -/
def mayJ (tg : Int) (nm : ByteArray) (l : List S72) : Bool := decide (0 ≤ tg ∧ tg ≤ 2147483647 ∧ nm.size ≤ 600 ∧ l.length ≤ 64) && okFrom (-1) l
theorem jmay_ev (tg : Int) (nm : ByteArray) (l : List S72) (hl : l.length < 4611686018427387904) : Ev (fun k => journal_May.f k tg nm l) (mayJ tg nm l) := by
  have nt : ∀ b, b = true → ¬ (0 ≤ tg ∧ tg ≤ 2147483647 ∧ nm.size ≤ 600 ∧ l.length ≤ 64) → Ev (fun k => journal_May.j0 k b tg nm l) (mayJ tg nm l) := fun b hb hn => by
    unfold mayJ
    rw [decide_eq_false hn, hb]
    exact Ev.step (f := fun _ => some false) (fun k => by rw [journal_May.j0, if_pos rfl]) (Ev.now _)
  unfold journal_May.f
  by_cases h1 : tg < 0
  · simp only [if_pos h1]; exact nt _ rfl (by omega)
  simp only [if_neg h1]
  by_cases h2 : tg > 2147483647
  · simp only [if_pos h2]; exact nt _ rfl (by omega)
  simp only [if_neg h2]
  by_cases h3 : (nm.size : Int) > 600
  · simp only [if_pos h3]; exact nt _ rfl (by omega)
  simp only [if_neg h3]
  by_cases h4 : (l.length : Int) > 64
  · exact nt _ (decide_eq_true h4) (by omega)
  · rw [decide_eq_false h4]
    have := jmay_l0 l hl l.length 0 (-1) (by omega)
    unfold mayJ
    rw [decide_eq_true (by omega)]
    refine Ev.step (f := fun k => journal_May.l0 k (-1) l (l.length : Int) ((0 : Nat) : Int)) (fun k => ?_) this
    rw [journal_May.j0, if_neg (by decide)]; rfl
theorem rmay_ev (tg : Int) (nm : ByteArray) (l : List S72) (hl : l.length < 4611686018427387904) : Ev (fun k => strongboxref4_May.f k tg nm l) (mayJ tg nm l) := by
  have nt : ∀ b, b = true → ¬ (0 ≤ tg ∧ tg ≤ 2147483647 ∧ nm.size ≤ 600 ∧ l.length ≤ 64) → Ev (fun k => strongboxref4_May.j0 k b tg nm l) (mayJ tg nm l) := fun b hb hn => by
    unfold mayJ
    rw [decide_eq_false hn, hb]
    exact Ev.step (f := fun _ => some false) (fun k => by rw [strongboxref4_May.j0, if_pos rfl]) (Ev.now _)
  unfold strongboxref4_May.f
  by_cases h1 : tg < 0
  · simp only [if_pos h1]; exact nt _ rfl (by omega)
  simp only [if_neg h1]
  by_cases h2 : tg > 2147483647
  · simp only [if_pos h2]; exact nt _ rfl (by omega)
  simp only [if_neg h2]
  by_cases h3 : (nm.size : Int) > 600
  · simp only [if_pos h3]; exact nt _ rfl (by omega)
  simp only [if_neg h3]
  by_cases h4 : (l.length : Int) > 64
  · exact nt _ (decide_eq_true h4) (by omega)
  · rw [decide_eq_false h4]
    have := rmay_l0 l hl tg nm l.length 0 (by omega)
    unfold mayJ
    rw [decide_eq_true (by omega)]
    refine Ev.step (f := fun k => strongboxref4_May.l0 k ((0 : Nat) : Int) tg nm l) (fun k => ?_) this
    rw [strongboxref4_May.j0, if_neg (by decide)]; rfl

theorem rmore_l1 (l : List Int) (i : Int) (r : Int) (d : Nat) : ∀ (S : W) (j : Int), j + d = 8 → 0 ≤ j →
    Ev (fun k => strongboxref4_More.l0 k (toI (steps d S)) l (wrap64 (i + 1))) r → Ev (fun k => strongboxref4_More.l1 k (toI S) l i j) r := by
  induction d with
  | zero =>
    intro S j hj h0 h
    refine Ev.step (f := fun k => strongboxref4_More.l0 k (toI S) l (wrap64 (i + 1))) (fun k => ?_) h
    simp only [strongboxref4_More.l1]
    rw [if_neg (by omega)]
  | succ d ih =>
    intro S j hj h0 h
    refine Ev.step (f := fun k => strongboxref4_More.l1 k (toI (CrcMath.step S)) l i (j + 1)) (fun k => ?_) (ih (CrcMath.step S) (j + 1) (by omega) (by omega) h)
    simp only [strongboxref4_More.l1]
    rw [if_pos (by omega), w64_lt (by omega) (by omega), low]
    cases hs : S.getLsbD 0 with
    | true => simp only [if_true]; rw [step_on hs]
    | false => rw [if_neg (by simp), step_off hs]
theorem rmore_l0 (l : List Int) (hl : l.length < 4611686018427387904) (rest : List Int) : ∀ (pre : List Int) (S : W), l = pre ++ rest → Bytes rest →
    Ev (fun k => strongboxref4_More.l0 k (toI S) l (pre.length : Int)) (toI (~~~ (CrcMath.run S rest))) := by
  induction rest with
  | nil =>
    intro pre S e _
    refine Ev.step (f := fun _ => some (toI (~~~ S))) (fun k => ?_) (Ev.now _)
    simp only [strongboxref4_More.l0]
    have : l.length = pre.length := by rw [e]; simp
    rw [if_neg (by omega), not_toI]
  | cons x rest ih =>
    intro pre S e hb
    have hx := hb x (by simp)
    have hlen : l.length = pre.length + (rest.length + 1) := by rw [e]; simp
    have hrd : rd l (pre.length : Int) = x := by
      unfold rd
      rw [Int.toNat_natCast, e]
      simp [List.getD_eq_getElem?_getD]
    refine Ev.step (f := fun k => strongboxref4_More.l1 k (toI (S ^^^ BitVec.ofInt 32 x)) l (pre.length : Int) 0) (fun k => ?_) ?_
    · simp only [strongboxref4_More.l0]
      rw [if_pos (by omega), if_pos (by omega), hrd, Int.emod_eq_of_lt hx.1 (by omega)]
      rw [← toI_of hx.1 (by omega : x < 4294967296), xor_toI, toI_of hx.1 (by omega)]
    · refine rmore_l1 l _ _ 8 _ 0 (by omega) (by omega) ?_
      have h := ih (pre ++ [x]) (byteStep S x) (by rw [e]; simp) (fun y hy => hb y (by simp [hy]))
      have e2 : ((pre ++ [x]).length : Int) = wrap64 ((pre.length : Int) + 1) := by
        rw [w64_lt (by omega) (by omega)]; simp
      rw [e2] at h
      exact h
theorem rsum_ev (l : List Int) (hl : l.length < 4611686018427387904) (hb : Bytes l) : Ev (fun k => strongboxref4_Sum.f k l) (toI (sumW l)) := by
  have h := rmore_l0 l hl l [] (~~~ 0) rfl hb
  unfold strongboxref4_Sum.f
  refine Ev.bind (g := fun k => strongboxref4_More.f k 0 l) (f := fun _ t => some t) ?_ (Ev.now _)
  refine Ev.congr (fun k => ?_) h
  unfold strongboxref4_More.f
  have := not_toI 0
  have e0 : toI 0 = 0 := rfl
  rw [e0] at this
  rw [this]
  rfl

theorem bytes_app {a b : List Int} (ha : Bytes a) (hb : Bytes b) : Bytes (a ++ b) := fun x hx => (List.mem_append.1 hx).elim (fun h => ha x h) (fun h => hb x h)
theorem bytesOf_bytes (s : ByteArray) : Bytes (bytesOf s) := by
  intro x hx
  unfold bytesOf at hx
  obtain ⟨u, _, rfl⟩ := List.mem_map.1 hx
  have := u.toNat_lt
  omega
/-- A number's bytes, from the i-th on, d of them. -/
def bN (a : Int) : Nat → Nat → List Int
  | _, 0 => []
  | i, d + 1 => (shr .i64 a ((8 * i : Nat) : Int)) % 256 :: bN a (i + 1) d
theorem bN_length (a : Int) (d : Nat) : ∀ i, (bN a i d).length = d := by
  induction d with
  | zero => intro i; rfl
  | succ d ih => intro i; rw [bN, List.length_cons, ih]
theorem bN_bytes (a : Int) (d : Nat) : ∀ i, Bytes (bN a i d) := by
  induction d with
  | zero => intro i x hx; cases hx
  | succ d ih =>
    intro i x hx
    rw [bN] at hx
    rcases List.mem_cons.1 hx with h | h
    · omega
    · exact ih _ x h
theorem eight (i : Nat) (h : i < 100) : wrap64 (8 * (i : Int)) = ((8 * i : Nat) : Int) := by rw [w64_lt (by omega) (by omega)]; omega
theorem eightu (i : Nat) (h : i < 100) : IntKind.u64.wrap (wrap64 (8 * (i : Int))) = ((8 * i : Nat) : Int) := by rw [eight i h, IntKind.wrap_u64]; omega
theorem nextw (i : Nat) (h : i < 1000000) : wrap64 ((i : Int) + 1) = ((i + 1 : Nat) : Int) := by rw [w64_lt (by omega) (by omega)]; omega
theorem xput_l0 (a : Int) (w : Nat) (hw : w ≤ 4) (d : Nat) : ∀ (i : Nat) (b : List Int), i + d = w → b.length + d < 140737488355328 →
    Ev (fun k => journal_put.l0 k b a (w : Int) (i : Int)) (b ++ bN a i d) := by
  induction d with
  | zero =>
    intro i b hi _
    refine Ev.step (f := fun _ => some (b ++ [])) (fun k => ?_) (Ev.now _)
    rw [journal_put.l0, if_neg (by omega), List.append_nil]
  | succ d ih =>
    intro i b hi hl
    have e8 := eight i (by omega)
    have ew := nextw i (by omega)
    have h := ih (i + 1) (b ++ [(shr .i64 a ((8 * i : Nat) : Int)) % 256]) (by omega) (by rw [List.length_append]; simp; omega)
    rw [List.append_assoc] at h
    refine Ev.step (f := fun k => journal_put.l0 k (b ++ [(shr .i64 a ((8 * i : Nat) : Int)) % 256]) a (w : Int) ((i + 1 : Nat) : Int)) (fun k => ?_) h
    have c1 : (i : Int) < (w : Int) := by clear e8 ew; omega
    have c2 : (0 : Int) ≤ ((8 * i : Nat) : Int) := by clear e8 ew; omega
    have c3 : b.length < 140737488355328 := by clear e8 ew; omega
    rw [journal_put.l0, if_pos c1, e8, if_pos c2, if_pos c3, ew]
theorem xput_ev (a : Int) (w : Nat) (hw : w ≤ 4) (b : List Int) (hl : b.length < 70368744177664) : Ev (fun k => journal_put.f k b a (w : Int)) (b ++ bN a 0 w) := xput_l0 a w hw w 0 b (by omega) (by omega)
theorem xlittle_l0 (a : Int) (w : Nat) (hw : w ≤ 4) (d : Nat) : ∀ (i : Nat) (b : List Int), i + d = w → b.length = i →
    Ev (fun k => strongboxref4_little.l0 k a (w : Int) b (i : Int)) (b ++ bN a i d) := by
  induction d with
  | zero =>
    intro i b hi _
    refine Ev.step (f := fun _ => some (b ++ [])) (fun k => ?_) (Ev.now _)
    rw [strongboxref4_little.l0, if_neg (by omega), List.append_nil]
  | succ d ih =>
    intro i b hi hl
    have e8 := eightu i (by omega)
    have ew := nextw i (by omega)
    have h := ih (i + 1) (b ++ [(shr .i64 a ((8 * i : Nat) : Int)) % 256]) (by omega) (by rw [List.length_append]; simp; omega)
    rw [List.append_assoc] at h
    refine Ev.step (f := fun k => strongboxref4_little.l0 k a (w : Int) (b ++ [(shr .i64 a ((8 * i : Nat) : Int)) % 256]) ((i + 1 : Nat) : Int)) (fun k => ?_) h
    have c1 : (i : Int) < (w : Int) := by clear e8 ew; omega
    have c2 : (0 : Int) ≤ ((8 * i : Nat) : Int) := by clear e8 ew; omega
    have c3 : b.length < 140737488355328 := by clear e8 ew; omega
    rw [strongboxref4_little.l0, if_pos c1, e8, if_pos c2, if_pos c3, ew]
theorem xlittle_ev (a : Int) (w : Nat) (hw : w ≤ 4) : Ev (fun k => strongboxref4_little.f k a (w : Int)) (bN a 0 w) := xlittle_l0 a w hw w 0 [] (by omega) rfl
theorem xbytes_ev (a : Int) : Ev (fun k => strongboxref4_Bytes.f k a) (bN (wrap64 a) 0 4) := by
  obtain ⟨K, g⟩ := xlittle_ev (wrap64 a) 4 (by decide)
  refine ⟨K, fun k hk => ?_⟩
  have g := g k hk
  simp only at g
  have g' : strongboxref4_little.f k (wrap64 a) 4 = some (bN (wrap64 a) 0 4) := g
  show strongboxref4_Bytes.f k a = _
  rw [strongboxref4_Bytes.f, g', Option.bind_some]
/-- A version's bytes. -/
def vB (v : S72) : List Int := bN v.f0 0 4 ++ [if v.f1 then 1 else 0] ++ bN v.f2 0 4 ++ bN (wrap64 v.f3) 0 4
theorem vB_length (v : S72) : (vB v).length = 13 := by unfold vB; simp only [List.length_append, bN_length, List.length_singleton]
theorem vB_bytes (v : S72) : Bytes (vB v) := by
  unfold vB
  refine bytes_app (bytes_app (bytes_app (bN_bytes _ _ _) ?_) (bN_bytes _ _ _)) (bN_bytes _ _ _)
  intro x hx
  have : x = if v.f1 then 1 else 0 := by simpa using hx
  rw [this]
  split <;> decide
/-- All bytes: what stands ahead, the versions, the sum. -/
def encB (x4 : List Int) : List S72 → List Int
  | [] => x4 ++ le4 (toI (sumW x4))
  | v :: t => encB (x4 ++ vB v) t
theorem le4_bN (n : Int) (h0 : 0 ≤ n) (h1 : n < 4294967296) : bN (wrap64 n) 0 4 = le4 n := by
  obtain ⟨m, rfl⟩ := Int.eq_ofNat_of_zero_le h0
  rw [w64_lt (by omega) (by omega)]
  simp only [bN, le4]
  have q : ∀ s : Nat, s ≤ 64 → shr .i64 ((m : Nat) : Int) (s : Int) = ((m / 2 ^ s : Nat) : Int) := fun s hs => by
    unfold shr
    rw [Int.toNat_natCast, Nat.min_eq_left (by show s ≤ 64; omega)]
    simp
  rw [q (8 * 0) (by omega), q (8 * (0 + 1)) (by omega), q (8 * (0 + 1 + 1)) (by omega), q (8 * (0 + 1 + 1 + 1)) (by omega)]
  have p0 : (2 : Nat) ^ (8 * 0) = 1 := rfl
  have p8 : (2 : Nat) ^ (8 * (0 + 1)) = 256 := rfl
  have p16 : (2 : Nat) ^ (8 * (0 + 1 + 1)) = 65536 := rfl
  have p24 : (2 : Nat) ^ (8 * (0 + 1 + 1 + 1)) = 16777216 := rfl
  rw [p0, p8, p16, p24, Nat.div_one]
  rfl
theorem xenc_l0 (l : List S72) (hl : l.length ≤ 1000) (d : Nat) : ∀ (i : Nat) (x4 : List Int), i + d = l.length → Bytes x4 → x4.length + 13 * d < 1000000 →
    Ev (fun k => journal_Encode.l0 k x4 l (l.length : Int) (i : Int)) (encB x4 (l.drop i), 0) := by
  induction d with
  | zero =>
    intro i x4 hi hb hx
    rw [List.drop_eq_nil_of_le (by omega), encB]
    refine Ev.step (f := fun k => (crc_Sum.f k x4).bind fun t131 => ((crc_Bytes.f t131).bind fun t132 => (if x4.length + t132.length < 140737488355328 then (some ((x4 ++ t132), 0)) else (none)))) (fun k => ?_) ?_
    · rw [journal_Encode.l0, if_neg (by omega)]
    · refine Ev.bind (f := fun _ t131 => ((crc_Bytes.f t131).bind fun t132 => (if x4.length + t132.length < 140737488355328 then (some ((x4 ++ t132), (0 : Int))) else (none)))) (sum_ev x4 (by omega) hb) ?_
      refine Ev.congr (f := fun _ => some (x4 ++ le4 (toI (sumW x4)), 0)) (fun k => ?_) (Ev.now _)
      show (some (le4 (toI (sumW x4)))).bind _ = _
      rw [Option.bind_some, if_pos (by rw [le4_length]; omega)]
  | succ d ih =>
    intro i x4 hi hb hx
    obtain ⟨v, t, hd⟩ : ∃ v t, l.drop i = v :: t := by
      rw [List.drop_eq_getElem_cons (by omega)]; exact ⟨_, _, rfl⟩
    obtain ⟨h1, h2, h3⟩ := rd_at l i v t hd
    rw [hd, encB]
    have ew := nextw i (by omega)
    obtain ⟨K5, g5⟩ := ih (i + 1) (x4 ++ vB v) (by clear ew; omega) (bytes_app hb (vB_bytes v)) (by clear ew; rw [List.length_append, vB_length]; omega)
    rw [h3] at g5
    have go : ∀ m : Int, bN m 0 1 = [if v.f1 then 1 else 0] → Ev (fun k => journal_Encode.j1 k x4 m l (l.length : Int) (i : Int) v.f0 v.f1 v.f2 v.f3) (encB (x4 ++ vB v) t, 0) := fun m hm => by
      obtain ⟨K1, g1⟩ := xput_ev v.f0 4 (by decide) x4 (by clear ew; omega)
      obtain ⟨K2, g2⟩ := xput_ev m 1 (by decide) (x4 ++ bN v.f0 0 4) (by clear ew; rw [List.length_append, bN_length]; omega)
      obtain ⟨K3, g3⟩ := xput_ev v.f2 4 (by decide) (x4 ++ bN v.f0 0 4 ++ bN m 0 1) (by clear ew; rw [List.length_append, List.length_append, bN_length, bN_length]; omega)
      obtain ⟨K4, g4⟩ := xput_ev (wrap64 v.f3) 4 (by decide) (x4 ++ bN v.f0 0 4 ++ bN m 0 1 ++ bN v.f2 0 4) (by clear ew; rw [List.length_append, List.length_append, List.length_append, bN_length, bN_length, bN_length]; omega)
      have e : x4 ++ bN v.f0 0 4 ++ bN m 0 1 ++ bN v.f2 0 4 ++ bN (wrap64 v.f3) 0 4 = x4 ++ vB v := by rw [hm]; unfold vB; simp only [List.append_assoc]
      refine ⟨max (max K1 K2) (max (max K3 K4) K5) + 1, fun k hk => ?_⟩
      obtain ⟨k, rfl⟩ : ∃ j, k = j + 1 := ⟨k - 1, by clear ew; omega⟩
      have g1 := g1 k (by clear ew; omega)
      have g2 := g2 k (by clear ew; omega)
      have g3 := g3 k (by clear ew; omega)
      have g4 := g4 k (by clear ew; omega)
      have g5 := g5 k (by clear ew; omega)
      simp only at g1 g2 g3 g4 g5
      have g1' : journal_put.f k x4 v.f0 4 = some (x4 ++ bN v.f0 0 4) := g1
      have g2' : journal_put.f k (x4 ++ bN v.f0 0 4) m 1 = some (x4 ++ bN v.f0 0 4 ++ bN m 0 1) := g2
      have g3' : journal_put.f k (x4 ++ bN v.f0 0 4 ++ bN m 0 1) v.f2 4 = some (x4 ++ bN v.f0 0 4 ++ bN m 0 1 ++ bN v.f2 0 4) := g3
      have g4' : journal_put.f k (x4 ++ bN v.f0 0 4 ++ bN m 0 1 ++ bN v.f2 0 4) (wrap64 v.f3) 4 = some (x4 ++ vB v) := by rw [← e]; exact g4
      show journal_Encode.j1 (k + 1) x4 m l (l.length : Int) (i : Int) v.f0 v.f1 v.f2 v.f3 = _
      rw [journal_Encode.j1, g1', Option.bind_some, g2', Option.bind_some, g3', Option.bind_some, g4', Option.bind_some, ew, g5]
    cases hm : v.f1 with
    | true =>
      refine Ev.step (f := fun k => journal_Encode.j1 k x4 1 l (l.length : Int) (i : Int) v.f0 v.f1 v.f2 v.f3) (fun k => ?_) (go 1 (by rw [hm]; decide))
      clear ew
      rw [journal_Encode.l0, if_pos (by omega), if_pos (by omega), if_pos (by omega), h1, if_pos hm]
    | false =>
      refine Ev.step (f := fun k => journal_Encode.j1 k x4 0 l (l.length : Int) (i : Int) v.f0 v.f1 v.f2 v.f3) (fun k => ?_) (go 0 (by rw [hm]; decide))
      clear ew
      rw [journal_Encode.l0, if_pos (by omega), if_pos (by omega), if_pos (by omega), h1, if_neg (by rw [hm]; decide)]
theorem renc_l0 (l : List S72) (hl : l.length ≤ 1000) (tg : Int) (nm : ByteArray) (d : Nat) : ∀ (i : Nat) (x4 : List Int), i + d = l.length → Bytes x4 → x4.length + 13 * d < 1000000 →
    Ev (fun k => strongboxref4_Encode.l0 k x4 (i : Int) tg nm l) (encB x4 (l.drop i), 0) := by
  induction d with
  | zero =>
    intro i x4 hi hb hx
    rw [List.drop_eq_nil_of_le (by omega), encB]
    obtain ⟨K1, g1⟩ := rsum_ev x4 (by omega) hb
    obtain ⟨K2, g2⟩ := xbytes_ev (toI (sumW x4))
    rw [le4_bN _ (toI_range _).1 (toI_range _).2] at g2
    refine ⟨max K1 K2 + 1, fun k hk => ?_⟩
    obtain ⟨k, rfl⟩ : ∃ j, k = j + 1 := ⟨k - 1, by omega⟩
    have g1 := g1 k (by omega)
    have g2 := g2 k (by omega)
    simp only at g1 g2
    show strongboxref4_Encode.l0 (k + 1) x4 (i : Int) tg nm l = _
    rw [strongboxref4_Encode.l0, if_neg (by omega), g1, Option.bind_some, g2, Option.bind_some, if_pos (by rw [le4_length]; omega)]
  | succ d ih =>
    intro i x4 hi hb hx
    obtain ⟨v, t, hd⟩ : ∃ v t, l.drop i = v :: t := by
      rw [List.drop_eq_getElem_cons (by omega)]; exact ⟨_, _, rfl⟩
    obtain ⟨h1, h2, h3⟩ := rd_at l i v t hd
    rw [hd, encB]
    have ew := nextw i (by omega)
    obtain ⟨K5, g5⟩ := ih (i + 1) (x4 ++ vB v) (by clear ew; omega) (bytes_app hb (vB_bytes v)) (by clear ew; rw [List.length_append, vB_length]; omega)
    rw [h3] at g5
    obtain ⟨K1, g1⟩ := xlittle_ev v.f0 4 (by decide)
    obtain ⟨K3, g3⟩ := xlittle_ev v.f2 4 (by decide)
    obtain ⟨K4, g4⟩ := xbytes_ev v.f3
    refine ⟨max K1 (max (max K3 K4) K5) + 1, fun k hk => ?_⟩
    obtain ⟨k, rfl⟩ : ∃ j, k = j + 1 := ⟨k - 1, by clear ew; omega⟩
    have g1 := g1 k (by clear ew; omega)
    have g3 := g3 k (by clear ew; omega)
    have g4 := g4 k (by clear ew; omega)
    have g5 := g5 k (by clear ew; omega)
    simp only at g1 g3 g4 g5
    have g1' : strongboxref4_little.f k v.f0 4 = some (bN v.f0 0 4) := g1
    have g3' : strongboxref4_little.f k v.f2 4 = some (bN v.f2 0 4) := g3
    have e : x4 ++ bN v.f0 0 4 ++ [if v.f1 then 1 else 0] ++ bN v.f2 0 4 ++ bN (wrap64 v.f3) 0 4 = x4 ++ vB v := by unfold vB; simp only [List.append_assoc]
    have c1 : (i : Int) < (l.length : Int) := by clear ew; omega
    have c2 : (0 : Int) ≤ (i : Int) := by clear ew; omega
    have d1 : x4.length + (bN v.f0 0 4).length < 140737488355328 := by clear ew; rw [bN_length]; omega
    have d2 : ∀ z : Int, (x4 ++ bN v.f0 0 4).length + [z].length < 140737488355328 := fun z => by clear ew; rw [List.length_append, bN_length, List.length_singleton]; omega
    have d3 : ∀ z : Int, (x4 ++ bN v.f0 0 4 ++ [z]).length + (bN v.f2 0 4).length < 140737488355328 := fun z => by clear ew; simp only [List.length_append, bN_length, List.length_singleton]; omega
    have d4 : ∀ z : Int, (x4 ++ bN v.f0 0 4 ++ [z] ++ bN v.f2 0 4).length + (bN (wrap64 v.f3) 0 4).length < 140737488355328 := fun z => by clear ew; simp only [List.length_append, bN_length, List.length_singleton]; omega
    show strongboxref4_Encode.l0 (k + 1) x4 (i : Int) tg nm l = _
    rw [strongboxref4_Encode.l0, if_pos c1, if_pos c2, h1]
    cases hm : v.f1 with
    | true =>
      rw [hm] at e
      have e' : x4 ++ bN v.f0 0 4 ++ [1] ++ bN v.f2 0 4 ++ bN (wrap64 v.f3) 0 4 = x4 ++ vB v := e
      rw [if_pos rfl, g1', Option.bind_some, if_pos d1, Option.bind_some, Option.bind_some, if_pos (d2 1), Option.bind_some, g3', Option.bind_some, if_pos (d3 1), Option.bind_some, g4, Option.bind_some, if_pos (d4 1), e', ew, g5]
    | false =>
      rw [hm] at e
      have e' : x4 ++ bN v.f0 0 4 ++ [0] ++ bN v.f2 0 4 ++ bN (wrap64 v.f3) 0 4 = x4 ++ vB v := e
      rw [if_neg (by decide), g1', Option.bind_some, if_pos d1, Option.bind_some, Option.bind_some, if_pos (d2 0), Option.bind_some, g3', Option.bind_some, if_pos (d3 0), Option.bind_some, g4, Option.bind_some, if_pos (d4 0), e', ew, g5]
/-- What stands ahead of the versions. -/
def headJ (tg : Int) (nm : ByteArray) (l : List S72) : List Int := [83, 66, 74, 49] ++ bN tg 0 4 ++ bN (nm.size : Int) 0 2 ++ bytesOf nm ++ [(l.length : Int) % 256]
theorem headJ_length (tg : Int) (nm : ByteArray) (l : List S72) : (headJ tg nm l).length = 11 + nm.size := by
  unfold headJ
  simp only [List.length_append, bN_length, bytesOf_length, List.length_singleton, List.length_cons, List.length_nil]
  omega
theorem headJ_bytes (tg : Int) (nm : ByteArray) (l : List S72) : Bytes (headJ tg nm l) := by
  unfold headJ
  refine bytes_app (bytes_app (bytes_app (bytes_app ?_ (bN_bytes _ _ _)) (bN_bytes _ _ _)) (bytesOf_bytes nm)) ?_
  · unfold Bytes; decide
  · intro x hx
    have : x = (l.length : Int) % 256 := by simpa using hx
    omega
/-- What Encode answers. -/
def encR (tg : Int) (nm : ByteArray) (l : List S72) : List Int × Int := if mayJ tg nm l = true then (encB (headJ tg nm l) l, 0) else ([], 1)
theorem mayJ_bounds {tg : Int} {nm : ByteArray} {l : List S72} (hm : mayJ tg nm l = true) : nm.size ≤ 600 ∧ l.length ≤ 64 := by
  unfold mayJ at hm
  rw [Bool.and_eq_true] at hm
  have := of_decide_eq_true hm.1
  omega
theorem xenc_ev (tg : Int) (nm : ByteArray) (l : List S72) (hl : l.length < 1000000) : Ev (fun k => journal_Encode.f k tg nm l) (encR tg nm l) := by
  obtain ⟨K0, g0⟩ := jmay_ev tg nm l (by omega)
  unfold encR
  by_cases hm : mayJ tg nm l = true
  · have hb := mayJ_bounds hm
    rw [if_pos hm]
    obtain ⟨K1, g1⟩ := xput_ev tg 4 (by decide) [83, 66, 74, 49] (by decide)
    obtain ⟨K2, g2⟩ := xput_ev (nm.size : Int) 2 (by decide) ([83, 66, 74, 49] ++ bN tg 0 4) (by rw [List.length_append, bN_length]; decide)
    obtain ⟨K5, g5⟩ := xenc_l0 l (by omega) l.length 0 (headJ tg nm l) (by omega) (headJ_bytes _ _ _) (by rw [headJ_length]; omega)
    refine ⟨max (max K0 K1) (max K2 K5), fun k hk => ?_⟩
    have g0 := g0 k (by omega)
    have g1 := g1 k (by omega)
    have g2 := g2 k (by omega)
    have g5 := g5 k (by omega)
    simp only at g0 g1 g2 g5
    have g1' : journal_put.f k [83, 66, 74, 49] tg 4 = some ([83, 66, 74, 49] ++ bN tg 0 4) := g1
    have g2' : journal_put.f k ([83, 66, 74, 49] ++ bN tg 0 4) (nm.size : Int) 2 = some ([83, 66, 74, 49] ++ bN tg 0 4 ++ bN (nm.size : Int) 0 2) := g2
    have c1 : ([83, 66, 74, 49] ++ bN tg 0 4 ++ bN (nm.size : Int) 0 2 : List Int).length + nm.size < 140737488355328 := by
      simp only [List.length_append, bN_length, List.length_cons, List.length_nil]; omega
    have c2 : ([83, 66, 74, 49] ++ bN tg 0 4 ++ bN (nm.size : Int) 0 2 ++ bytesOf nm : List Int).length < 140737488355328 := by
      simp only [List.length_append, bN_length, bytesOf_length, List.length_cons, List.length_nil]; omega
    show journal_Encode.f k tg nm l = _
    rw [journal_Encode.f, g0, hm, Option.bind_some, if_pos rfl, g1', Option.bind_some, g2', Option.bind_some, if_pos c1, Option.bind_some, if_pos c2]
    exact g5
  · rw [if_neg hm]
    refine ⟨K0, fun k hk => ?_⟩
    have g0 := g0 k hk
    simp only at g0
    show journal_Encode.f k tg nm l = _
    rw [journal_Encode.f, g0, Option.bind_some, if_neg hm]
theorem renc_ev (tg : Int) (nm : ByteArray) (l : List S72) (hl : l.length < 1000000) : Ev (fun k => strongboxref4_Encode.f k tg nm l) (encR tg nm l) := by
  obtain ⟨K0, g0⟩ := rmay_ev tg nm l (by omega)
  unfold encR
  by_cases hm : mayJ tg nm l = true
  · have hb := mayJ_bounds hm
    rw [if_pos hm]
    obtain ⟨K1, g1⟩ := xlittle_ev tg 4 (by decide)
    obtain ⟨K2, g2⟩ := xlittle_ev (nm.size : Int) 2 (by decide)
    obtain ⟨K5, g5⟩ := renc_l0 l (by omega) tg nm l.length 0 (headJ tg nm l) (by omega) (headJ_bytes _ _ _) (by rw [headJ_length]; omega)
    refine ⟨max (max K0 K1) (max K2 K5), fun k hk => ?_⟩
    have g0 := g0 k (by omega)
    have g1 := g1 k (by omega)
    have g2 := g2 k (by omega)
    have g5 := g5 k (by omega)
    simp only at g0 g1 g2 g5
    have g1' : strongboxref4_little.f k tg 4 = some (bN tg 0 4) := g1
    have g2' : strongboxref4_little.f k (nm.size : Int) 2 = some (bN (nm.size : Int) 0 2) := g2
    have c0 : ([83, 66, 74, 49] : List Int).length + (bN tg 0 4).length < 140737488355328 := by rw [bN_length]; decide
    have c1 : ([83, 66, 74, 49] ++ bN tg 0 4 : List Int).length + (bN (nm.size : Int) 0 2).length < 140737488355328 := by rw [List.length_append, bN_length, bN_length]; decide
    have c2 : ([83, 66, 74, 49] ++ bN tg 0 4 ++ bN (nm.size : Int) 0 2 : List Int).length + nm.size < 140737488355328 := by
      simp only [List.length_append, bN_length, List.length_cons, List.length_nil]; omega
    have c3 : ([83, 66, 74, 49] ++ bN tg 0 4 ++ bN (nm.size : Int) 0 2 ++ bytesOf nm : List Int).length + [(l.length : Int) % 256].length < 140737488355328 := by
      simp only [List.length_append, bN_length, bytesOf_length, List.length_cons, List.length_nil]; omega
    show strongboxref4_Encode.f k tg nm l = _
    rw [strongboxref4_Encode.f, g0, hm, Option.bind_some, if_pos rfl, Option.bind_some, g1', Option.bind_some, if_pos c0, Option.bind_some, g2', Option.bind_some, if_pos c1, Option.bind_some, if_pos c2, Option.bind_some, Option.bind_some, if_pos c3]
    exact g5
  · rw [if_neg hm]
    refine ⟨K0, fun k hk => ?_⟩
    have g0 := g0 k hk
    simp only at g0
    show strongboxref4_Encode.f k tg nm l = _
    rw [strongboxref4_Encode.f, g0, Option.bind_some, if_neg hm]

theorem awake7_at : strongboxlaw7_awake.f 200 = some true := by decide +kernel
theorem awake7_ev : Ev (fun k => strongboxlaw7_awake.f k) true := by
  refine ⟨200, fun k hk => ?_⟩
  obtain ⟨j, rfl⟩ : ∃ j, k = 200 + j := ⟨k - 200, by omega⟩
  clear hk
  induction j with
  | zero => exact awake7_at
  | succ j ih => exact strongboxlaw7_awake.mono (200 + j) true ih

def JournalWritesPure : Prop := ∀ (tg : Int) (nm : ByteArray) (l : List S72), ∃ k, strongboxlaw7_JournalWrites.f k tg nm l = some true
theorem JournalWrites : JournalWritesPure := by
  intro tg nm l
  refine Ev.rounds (g := fun k => strongboxlaw7_JournalWrites.f k tg nm l) ?_
  obtain ⟨K0, g0⟩ := awake7_ev
  by_cases hr : (nm.size : Int) ≤ 1000 ∧ (l.length : Int) ≤ 100
  · have hroom : strongboxlaw7_Room.f tg nm l = some true := by rw [strongboxlaw7_Room.f, if_pos hr.1, decide_eq_true hr.2]
    obtain ⟨K1, g1⟩ := jmay_ev tg nm l (by omega)
    obtain ⟨K2, g2⟩ := rmay_ev tg nm l (by omega)
    obtain ⟨K3, g3⟩ := xenc_ev tg nm l (by omega)
    obtain ⟨K4, g4⟩ := renc_ev tg nm l (by omega)
    have hjl : ([] : List S72).length + l.length < 4398046511104 := by simp only [List.length_nil]; omega
    have hj : strongboxlaw7_Journal.f tg nm l = some (tg, nm, l) := by rw [strongboxlaw7_Journal.f, if_pos hjl, List.nil_append]
    refine ⟨max (max K0 K1) (max (max K2 K3) K4), fun k hk => ?_⟩
    have g0 := g0 k (by omega)
    have g1 := g1 k (by omega)
    have g2 := g2 k (by omega)
    have g3 := g3 k (by omega)
    have g4 := g4 k (by omega)
    simp only at g0 g1 g2 g3 g4
    show strongboxlaw7_JournalWrites.f k tg nm l = _
    rw [strongboxlaw7_JournalWrites.f, g0, Option.bind_some, if_pos rfl, hroom, Option.bind_some, if_pos rfl, hj, Option.bind_some, g3, Option.bind_some, g4, Option.bind_some, if_pos rfl, if_pos rfl, Option.bind_some, g1, Option.bind_some, g2, Option.bind_some, beq_self_eq_true]
  · have hroom : strongboxlaw7_Room.f tg nm l = some false := by
      rw [strongboxlaw7_Room.f]
      by_cases h1 : (nm.size : Int) ≤ 1000
      · rw [if_pos h1, decide_eq_false (fun h2 => hr ⟨h1, h2⟩)]
      · rw [if_neg h1]
    refine ⟨K0, fun k hk => ?_⟩
    have g0 := g0 k hk
    simp only at g0
    show strongboxlaw7_JournalWrites.f k tg nm l = _
    rw [strongboxlaw7_JournalWrites.f, g0, Option.bind_some, if_pos rfl, hroom, Option.bind_some, if_neg (by decide)]

end Go.Proofs.Ytnlpipjdpmaggaa.Pure
