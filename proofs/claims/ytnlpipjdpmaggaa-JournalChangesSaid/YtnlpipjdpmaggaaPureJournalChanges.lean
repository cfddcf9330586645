/- P7.2: any journal that may be: what is found, the latest, one more, one less; what was handed in stays -/
import Derived.Test.YtnlpipjdpmaggaaPJournalChangesx15
import Derived.Test.YtnlpipjdpmaggaaMath
set_option linter.unusedVariables false
set_option linter.unusedSimpArgs false
namespace Go.Proofs.Ytnlpipjdpmaggaa.Pure
open Go.RowKit Go.Proofs.Ytnlpipjdpmaggaa.PJournalReads Go.Proofs.YtnlpipjdpmaggaaW.PrintWords Go.Proofs.YtnlpipjdpmaggaaW.PrintLast Go.Proofs.YtnlpipjdpmaggaaW.PrintMore CrcMath

theorem w64_lt {n : Int} (h0 : 0 ≤ n) (h : n < 9223372036854775807) : wrap64 n = n := by unfold wrap64; omega

theorem rd_byte {l : List Int} (h : Bytes l) (i : Nat) (h1 : i < l.length) : ∃ x : Nat, rd l (i : Int) = (x : Int) ∧ x < 256 := by
  have : 0 ≤ rd l i ∧ rd l i < 256 := by
    unfold rd
    rw [Int.toNat_natCast, List.getD_eq_getElem?_getD, List.getElem?_eq_getElem h1]
    exact h _ (List.getElem_mem _)
  obtain ⟨x, hx⟩ := Int.eq_ofNat_of_zero_le this.1
  exact ⟨x, hx, by omega⟩

theorem nextw (i : Nat) (h : i < 1000000) : wrap64 ((i : Int) + 1) = ((i + 1 : Nat) : Int) := by rw [w64_lt (by omega) (by omega)]; omega

def verB (v : S72) : Bool := (journal_version.f v.f0 v.f1 v.f2 v.f3).getD false
theorem version_some (v : S72) : journal_version.f v.f0 v.f1 v.f2 v.f3 = some (verB v) := by
  have h : ∃ b, journal_version.f v.f0 v.f1 v.f2 v.f3 = some b := by
    unfold journal_version.f
    repeat' split
    all_goals exact ⟨_, rfl⟩
  obtain ⟨b, h⟩ := h
  unfold verB
  rw [h]; rfl
theorem mayVersion_some (v : S72) : strongboxref4_MayVersion.f v.f0 v.f1 v.f2 v.f3 = some (verB v) := by
  rw [← version_some]
  unfold strongboxref4_MayVersion.f journal_version.f
  by_cases h1 : v.f0 < 0
  · rw [if_neg (by omega), if_pos h1]
  rw [if_pos (by omega), if_neg h1]
  by_cases h2 : v.f0 > 2147483647
  · rw [if_neg (by omega), if_pos h2]
  rw [if_pos (by omega), if_neg h2]
  by_cases h3 : v.f2 < 0
  · rw [if_neg (by omega), if_pos h3]
  rw [if_pos (by omega), if_neg h3]
  by_cases h4 : v.f2 > 65536
  · rw [if_neg (by omega), if_pos h4]
  rw [if_pos (by omega), if_neg h4]
theorem verB_id {v : S72} (h : verB v = true) : 0 ≤ v.f0 ∧ v.f0 ≤ 2147483647 := by
  have := version_some v
  rw [h] at this
  unfold journal_version.f at this
  by_cases h1 : v.f0 < 0
  · rw [if_pos h1] at this; cases this
  by_cases h2 : v.f0 > 2147483647
  · rw [if_neg h1, if_pos h2] at this; cases this
  omega
/-- Versions that may be, with rising ids. -/
def okFrom (last : Int) : List S72 → Bool
  | [] => true
  | v :: t => verB v && decide (last < v.f0) && okFrom v.f0 t
theorem rd_at (l : List S72) (i : Nat) (v : S72) (t : List S72) (h : l.drop i = v :: t) : rd_T72 l (i : Int) = v ∧ i < l.length ∧ l.drop (i + 1) = t := by
  have hi : i < l.length := by
    rcases Nat.lt_or_ge i l.length with h1 | h1
    · exact h1
    · rw [List.drop_eq_nil_of_le h1] at h; cases h
  rw [List.drop_eq_getElem_cons hi] at h
  injection h with h1 h2
  refine ⟨?_, hi, h2⟩
  unfold rd_T72
  rw [Int.toNat_natCast, List.getD_eq_getElem?_getD, List.getElem?_eq_getElem hi, ← h1]; rfl
theorem jmay_l0 (l : List S72) (hl : l.length < 4611686018427387904) (d : Nat) : ∀ (i : Nat) (last : Int), i + d = l.length →
    Ev (fun k => journal_May.l0 k last l (l.length : Int) (i : Int)) (okFrom last (l.drop i)) := by
  induction d with
  | zero =>
    intro i last hi
    refine Ev.step (f := fun _ => some true) (fun k => ?_) ?_
    · rw [journal_May.l0, if_neg (by omega)]
    · rw [List.drop_eq_nil_of_le (by omega)]; exact Ev.now _
  | succ d ih =>
    intro i last hi
    obtain ⟨v, t, hd⟩ : ∃ v t, l.drop i = v :: t := by
      rw [List.drop_eq_getElem_cons (by omega)]; exact ⟨_, _, rfl⟩
    obtain ⟨h1, h2, h3⟩ := rd_at l i v t hd
    have ew : wrap64 ((i : Int) + 1) = ((i + 1 : Nat) : Int) := by rw [w64_lt (by omega) (by omega)]; omega
    rw [hd, okFrom]
    cases hv : verB v with
    | false =>
      refine Ev.step (f := fun _ => some false) (fun k => ?_) (Ev.now _)
      rw [journal_May.l0, if_pos (by omega), if_pos (by omega), if_pos (by omega), h1, version_some, hv, Option.bind_some, if_neg (by decide)]
    | true =>
      by_cases hlt : last < v.f0
      · rw [decide_eq_true hlt]
        refine Ev.step (f := fun k => journal_May.l0 k v.f0 l (l.length : Int) ((i + 1 : Nat) : Int)) (fun k => ?_) ?_
        · rw [journal_May.l0, if_pos (by omega), if_pos (by omega), if_pos (by omega), h1, version_some, hv, Option.bind_some, if_pos rfl, if_neg (by omega), ew]
        · have := ih (i + 1) v.f0 (by omega)
          rw [h3] at this
          exact this
      · rw [decide_eq_false hlt]
        refine Ev.step (f := fun _ => some false) (fun k => ?_) (Ev.now _)
        rw [journal_May.l0, if_pos (by omega), if_pos (by omega), if_pos (by omega), h1, version_some, hv, Option.bind_some, if_pos rfl, if_pos (by omega)]
theorem rmay_l0 (l : List S72) (hl : l.length < 4611686018427387904) (tg : Int) (nm : ByteArray) (d : Nat) : ∀ (i : Nat), i + d = l.length →
    Ev (fun k => strongboxref4_May.l0 k (i : Int) tg nm l) (okFrom (if i = 0 then -1 else (rd_T72 l ((i - 1 : Nat) : Int)).f0) (l.drop i)) := by
  induction d with
  | zero =>
    intro i hi
    refine Ev.step (f := fun _ => some true) (fun k => ?_) ?_
    · rw [strongboxref4_May.l0, if_neg (by omega)]
    · rw [List.drop_eq_nil_of_le (by omega)]; exact Ev.now _
  | succ d ih =>
    intro i hi
    obtain ⟨v, t, hd⟩ : ∃ v t, l.drop i = v :: t := by
      rw [List.drop_eq_getElem_cons (by omega)]; exact ⟨_, _, rfl⟩
    obtain ⟨h1, h2, h3⟩ := rd_at l i v t hd
    have ew : wrap64 ((i : Int) + 1) = ((i + 1 : Nat) : Int) := by rw [w64_lt (by omega) (by omega)]; omega
    have nx := ih (i + 1) (by omega)
    rw [if_neg (by omega), Nat.add_sub_cancel, h1, h3] at nx
    rw [hd, okFrom]
    cases hv : verB v with
    | false =>
      refine Ev.step (f := fun _ => some false) (fun k => ?_) (Ev.now _)
      rw [strongboxref4_May.l0, if_pos (by omega), if_pos (by omega), h1, mayVersion_some, hv, Option.bind_some, if_neg (by decide)]
    | true =>
      by_cases h0 : i = 0
      · subst h0
        rw [if_pos rfl, decide_eq_true (show (-1 : Int) < v.f0 by have := verB_id hv; omega)]
        refine Ev.step (f := fun k => strongboxref4_May.l0 k ((0 + 1 : Nat) : Int) tg nm l) (fun k => ?_) nx
        rw [strongboxref4_May.l0, if_pos (by omega), if_pos (by omega), h1, mayVersion_some, hv, Option.bind_some, if_pos rfl, if_neg (by omega), ew]
      · rw [if_neg h0]
        have em : wrap64 ((i : Int) - 1) = ((i - 1 : Nat) : Int) := by rw [w64_lt (by omega) (by omega)]; omega
        by_cases hlt : (rd_T72 l ((i - 1 : Nat) : Int)).f0 < v.f0
        · rw [decide_eq_true hlt]
          refine Ev.step (f := fun k => strongboxref4_May.l0 k ((i + 1 : Nat) : Int) tg nm l) (fun k => ?_) nx
          rw [strongboxref4_May.l0, if_pos (by omega), if_pos (by omega), h1, mayVersion_some, hv, Option.bind_some, if_pos rfl, if_pos (by omega), em, if_pos (by omega), if_pos (by omega), if_neg (by omega), ew]
        · rw [decide_eq_false hlt]
          refine Ev.step (f := fun _ => some false) (fun k => ?_) (Ev.now _)
          rw [strongboxref4_May.l0, if_pos (by omega), if_pos (by omega), h1, mayVersion_some, hv, Option.bind_some, if_pos rfl, if_pos (by omega), em, if_pos (by omega), if_pos (by omega), if_pos (by omega)]
/-- A journal that may be. -/
def mayJ (tg : Int) (nm : ByteArray) (l : List S72) : Bool := decide (0 ≤ tg ∧ tg ≤ 2147483647 ∧ nm.size ≤ 600 ∧ l.length ≤ 64) && okFrom (-1) l
theorem jmay_ev (tg : Int) (nm : ByteArray) (l : List S72) (hl : l.length < 4611686018427387904) : Ev (fun k => journal_May.f k tg nm l) (mayJ tg nm l) := by
  have nt : ∀ b, b = true → ¬ (0 ≤ tg ∧ tg ≤ 2147483647 ∧ nm.size ≤ 600 ∧ l.length ≤ 64) → Ev (fun k => journal_May.j0 k b tg nm l) (mayJ tg nm l) := fun b hb hn => by
    unfold mayJ
    rw [decide_eq_false hn, hb]
    exact Ev.step (f := fun _ => some false) (fun k => by rw [journal_May.j0, if_pos rfl]) (Ev.now _)
  unfold journal_May.f
  by_cases h1 : tg < 0
  · simp only [if_pos h1]; exact nt _ rfl (by omega)
  simp only [if_neg h1]
  by_cases h2 : tg > 2147483647
  · simp only [if_pos h2]; exact nt _ rfl (by omega)
  simp only [if_neg h2]
  by_cases h3 : (nm.size : Int) > 600
  · simp only [if_pos h3]; exact nt _ rfl (by omega)
  simp only [if_neg h3]
  by_cases h4 : (l.length : Int) > 64
  · exact nt _ (decide_eq_true h4) (by omega)
  · rw [decide_eq_false h4]
    have := jmay_l0 l hl l.length 0 (-1) (by omega)
    unfold mayJ
    rw [decide_eq_true (by omega)]
    refine Ev.step (f := fun k => journal_May.l0 k (-1) l (l.length : Int) ((0 : Nat) : Int)) (fun k => ?_) this
    rw [journal_May.j0, if_neg (by decide)]; rfl
theorem rmay_ev (tg : Int) (nm : ByteArray) (l : List S72) (hl : l.length < 4611686018427387904) : Ev (fun k => strongboxref4_May.f k tg nm l) (mayJ tg nm l) := by
  have nt : ∀ b, b = true → ¬ (0 ≤ tg ∧ tg ≤ 2147483647 ∧ nm.size ≤ 600 ∧ l.length ≤ 64) → Ev (fun k => strongboxref4_May.j0 k b tg nm l) (mayJ tg nm l) := fun b hb hn => by
    unfold mayJ
    rw [decide_eq_false hn, hb]
    exact Ev.step (f := fun _ => some false) (fun k => by rw [strongboxref4_May.j0, if_pos rfl]) (Ev.now _)
  unfold strongboxref4_May.f
  by_cases h1 : tg < 0
  · simp only [if_pos h1]; exact nt _ rfl (by omega)
  simp only [if_neg h1]
  by_cases h2 : tg > 2147483647
  · simp only [if_pos h2]; exact nt _ rfl (by omega)
  simp only [if_neg h2]
  by_cases h3 : (nm.size : Int) > 600
  · simp only [if_pos h3]; exact nt _ rfl (by omega)
  simp only [if_neg h3]
  by_cases h4 : (l.length : Int) > 64
  · exact nt _ (decide_eq_true h4) (by omega)
  · rw [decide_eq_false h4]
    have := rmay_l0 l hl tg nm l.length 0 (by omega)
    unfold mayJ
    rw [decide_eq_true (by omega)]
    refine Ev.step (f := fun k => strongboxref4_May.l0 k ((0 : Nat) : Int) tg nm l) (fun k => ?_) this
    rw [strongboxref4_May.j0, if_neg (by decide)]; rfl

/-- What is answered with an error. -/
def errJ (e : Int) : Int × ByteArray × List S72 × Int := (0, (⟨#[]⟩ : ByteArray), ([] : List S72), e)

theorem same_l0 (l : List S72) (hl : l.length < 1000000) (tg : Int) (nm : ByteArray) (d : Nat) : ∀ i : Nat, i + d = l.length → Ev (fun k => strongboxref4_Same.l0 k (i : Int) tg nm l tg nm l) true := by
  induction d with
  | zero =>
    intro i hi
    refine Ev.step (f := fun _ => some true) (fun k => ?_) (Ev.now _)
    rw [strongboxref4_Same.l0, if_neg (by omega)]
  | succ d ih =>
    intro i hi
    have ew := nextw i (by omega)
    refine Ev.step (f := fun k => strongboxref4_Same.l0 k ((i + 1 : Nat) : Int) tg nm l tg nm l) (fun k => ?_) (ih (i + 1) (by omega))
    have c1 : (i : Int) < (l.length : Int) := by clear ew; omega
    rw [strongboxref4_Same.l0, if_pos c1, if_pos (Int.natCast_nonneg _), if_pos c1, if_neg (by simp), ew]
theorem same_ev (tg : Int) (nm : ByteArray) (l : List S72) (hl : l.length < 1000000) : Ev (fun k => strongboxref4_Same.f k tg nm l tg nm l) true := by
  obtain ⟨K, g⟩ := same_l0 l hl tg nm l.length 0 (by omega)
  refine ⟨K + 1, fun k hk => ?_⟩
  obtain ⟨k, rfl⟩ : ∃ j, k = j + 1 := ⟨k - 1, by omega⟩
  have g := g k (by omega)
  simp only at g
  show strongboxref4_Same.f (k + 1) tg nm l tg nm l = _
  rw [strongboxref4_Same.f, if_pos rfl, if_pos rfl, show ((l.length : Int) != (l.length : Int)) = false from bne_eq_false_iff_eq.2 rfl, strongboxref4_Same.j0, if_neg (by decide)]
  exact g

theorem awake7_at : strongboxlaw7_awake.f 200 = some true := by decide +kernel
theorem awake7_ev : Ev (fun k => strongboxlaw7_awake.f k) true := by
  refine ⟨200, fun k hk => ?_⟩
  obtain ⟨j, rfl⟩ : ∃ j, k = 200 + j := ⟨k - 200, by omega⟩
  clear hk
  induction j with
  | zero => exact awake7_at
  | succ j ih => exact strongboxlaw7_awake.mono (200 + j) true ih

/-- What Add answers. -/
def addR (tg : Int) (nm : ByteArray) (l : List S72) (v : S72) : Int × ByteArray × List S72 × Int :=
  if l.length ≥ 64 then errJ 18 else if mayJ tg nm (l ++ [v]) = true then (tg, nm, l ++ [v], 0) else errJ 1
theorem add_ev (tg : Int) (nm : ByteArray) (l : List S72) (v : S72) : Ev (fun k => journal_Add.f k tg nm l v.f0 v.f1 v.f2 v.f3) (addR tg nm l v) := by
  unfold addR
  by_cases h1 : l.length ≥ 64
  · rw [if_pos h1]
    refine Ev.congr (f := fun _ => some (errJ 18)) (fun k => ?_) (Ev.now _)
    rw [journal_Add.f, if_pos (by omega)]
    rfl
  rw [if_neg h1]
  obtain ⟨K, g⟩ := jmay_ev tg nm (l ++ [v]) (by rw [List.length_append, List.length_singleton]; omega)
  refine ⟨K, fun k hk => ?_⟩
  have g := g k hk
  simp only at g
  have hc : api_Version_65.f l = some l := by rw [api_Version_65.f, if_pos (by omega)]
  have hl : l.length + [(⟨v.f0, v.f1, v.f2, v.f3⟩ : S72)].length < 4398046511104 := by rw [List.length_singleton]; omega
  have hv : (⟨v.f0, v.f1, v.f2, v.f3⟩ : S72) = v := rfl
  show journal_Add.f k tg nm l v.f0 v.f1 v.f2 v.f3 = _
  rw [journal_Add.f, if_neg (by omega), hc, Option.bind_some, Option.bind_some, if_pos hl, Option.bind_some, hv, g, Option.bind_some]
  split <;> rfl
theorem eqvers_l0 (l : List S72) (hl : l.length < 1000000) (d : Nat) : ∀ i : Nat, i + d = l.length → Ev (fun k => api_Version_66.l0 k l l (l.length : Int) (i : Int)) true := by
  induction d with
  | zero =>
    intro i hi
    refine Ev.step (f := fun _ => some true) (fun k => ?_) (Ev.now _)
    rw [api_Version_66.l0, if_neg (by omega)]
  | succ d ih =>
    intro i hi
    have ew := nextw i (by omega)
    refine Ev.step (f := fun k => api_Version_66.l0 k l l (l.length : Int) ((i + 1 : Nat) : Int)) (fun k => ?_) (ih (i + 1) (by omega))
    have c1 : (i : Int) < (l.length : Int) := by clear ew; omega
    rw [api_Version_66.l0, if_pos c1, if_pos (Int.natCast_nonneg _), if_pos c1, if_pos c1, if_neg (by simp), ew]
theorem jsame_self_ev (tg : Int) (nm : ByteArray) (l : List S72) (hl : l.length < 1000000) : Ev (fun k => journal_Same.f k tg nm l tg nm l) true := by
  obtain ⟨K, g⟩ := eqvers_l0 l hl l.length 0 (by omega)
  refine ⟨K, fun k hk => ?_⟩
  have g := g k hk
  simp only at g
  have g' : api_Version_66.f k l l = some true := by rw [api_Version_66.f, if_pos rfl]; exact g
  show journal_Same.f k tg nm l tg nm l = _
  rw [journal_Same.f, if_pos rfl, if_pos rfl, g', Option.bind_some]

def findL (id : Int) : List S72 → Int × Bool × Int × Int × Bool
  | [] => (0, false, 0, 0, false)
  | v :: t => if v.f0 = id then (v.f0, v.f1, v.f2, v.f3, true) else findL id t
theorem rd_mid (pre : List S72) (v : S72) (t : List S72) : rd_T72 (pre ++ v :: t) (pre.length : Int) = v := by
  unfold rd_T72
  rw [Int.toNat_natCast, List.getD_eq_getElem?_getD, List.getElem?_append_right (Nat.le_refl _), Nat.sub_self]
  rfl
theorem find_j (id : Int) (l : List S72) (rest : List S72) : ∀ pre : List S72, l = pre ++ rest →
    (if idxV id rest (pre.length : Int) < 0 then (some (0, false, 0, 0, false) : Option (Int × Bool × Int × Int × Bool)) else (if 0 ≤ idxV id rest (pre.length : Int) then (if idxV id rest (pre.length : Int) < (l.length : Int) then (some ((rd_T72 l (idxV id rest (pre.length : Int))).f0, (rd_T72 l (idxV id rest (pre.length : Int))).f1, (rd_T72 l (idxV id rest (pre.length : Int))).f2, (rd_T72 l (idxV id rest (pre.length : Int))).f3, true)) else none) else none)) = some (findL id rest) := by
  induction rest with
  | nil => intro pre _; rfl
  | cons v t ih =>
    intro pre e
    unfold idxV findL
    by_cases h : v.f0 = id
    · simp only [if_pos h]
      have hlen : l.length = pre.length + (t.length + 1) := by rw [e, List.length_append, List.length_cons]
      rw [if_neg (by omega), if_pos (by omega), if_pos (by omega), e, rd_mid]
    · simp only [if_neg h]
      have := ih (pre ++ [v]) (by rw [e, List.append_assoc]; rfl)
      have e2 : ((pre ++ [v]).length : Int) = (pre.length : Int) + 1 := by rw [List.length_append, List.length_singleton]; omega
      rw [e2] at this
      exact this
theorem jfind_some (tg : Int) (nm : ByteArray) (l : List S72) (id : Int) : journal_Find.f tg nm l id = some (findL id l) := by
  unfold journal_Find.f journal_Journal_at.f
  exact find_j id l l [] rfl
theorem rfind_l0 (tg : Int) (nm : ByteArray) (id : Int) (l : List S72) (hl : l.length < 1000000) (d : Nat) : ∀ i : Nat, i + d = l.length → Ev (fun k => strongboxref4_Find.l0 k id (i : Int) tg nm l) (findL id (l.drop i)) := by
  induction d with
  | zero =>
    intro i hi
    rw [List.drop_eq_nil_of_le (by omega)]
    refine Ev.step (f := fun _ => some (0, false, 0, 0, false)) (fun k => ?_) (Ev.now _)
    rw [strongboxref4_Find.l0, if_neg (by omega)]
  | succ d ih =>
    intro i hi
    obtain ⟨v, t, hd⟩ : ∃ v t, l.drop i = v :: t := by
      rw [List.drop_eq_getElem_cons (by omega)]; exact ⟨_, _, rfl⟩
    obtain ⟨h1, h2, h3⟩ := rd_at l i v t hd
    have ew := nextw i (by omega)
    have c1 : (i : Int) < (l.length : Int) := by clear ew; omega
    rw [hd, findL]
    by_cases h : v.f0 = id
    · rw [if_pos h]
      refine Ev.step (f := fun _ => some (v.f0, v.f1, v.f2, v.f3, true)) (fun k => ?_) (Ev.now _)
      rw [strongboxref4_Find.l0, if_pos c1, if_pos (Int.natCast_nonneg _), h1, if_pos h]
    · rw [if_neg h]
      have nx := ih (i + 1) (by clear ew; omega)
      rw [h3] at nx
      refine Ev.step (f := fun k => strongboxref4_Find.l0 k id ((i + 1 : Nat) : Int) tg nm l) (fun k => ?_) nx
      rw [strongboxref4_Find.l0, if_pos c1, if_pos (Int.natCast_nonneg _), h1, if_neg h, ew]
theorem rfind_ev (tg : Int) (nm : ByteArray) (l : List S72) (hl : l.length < 1000000) (id : Int) : Ev (fun k => strongboxref4_Find.f k tg nm l id) (findL id l) :=
  rfind_l0 tg nm id l hl l.length 0 (by omega)
theorem latest_some (tg : Int) (nm : ByteArray) (l : List S72) (hl : l.length < 1000000) : ∃ r, journal_Latest.f tg nm l = some r ∧ strongboxref4_Latest.f tg nm l = some r := by
  unfold journal_Latest.f strongboxref4_Latest.f
  by_cases h0 : (l.length : Int) = 0
  · rw [if_pos h0]; exact ⟨_, rfl, rfl⟩
  · rw [if_neg h0]
    have ew : wrap64 ((l.length : Int) - 1) = (l.length : Int) - 1 := w64_lt (by omega) (by omega)
    rw [ew, if_pos (by clear ew; omega), if_pos (by clear ew; omega)]
    exact ⟨_, rfl, rfl⟩
def dropR (tg : Int) (nm : ByteArray) (l : List S72) (j : Int) : Int × ByteArray × List S72 × Bool :=
  if j < 0 then (0, (⟨#[]⟩ : ByteArray), [], false) else (tg, nm, l.take j.toNat ++ l.drop (j.toNat + 1), true)
theorem jdrop_some (tg : Int) (nm : ByteArray) (l : List S72) (hl : l.length < 1000000) (id : Int) : journal_Drop.f tg nm l id = some (dropR tg nm l (idxV id l 0)) := by
  unfold journal_Drop.f dropR
  by_cases h : idxV id l 0 < 0
  · rw [if_pos h, if_pos h]
  · rw [if_neg h, if_neg h, if_pos (by omega)]
theorem rdrop_on (tg : Int) (nm : ByteArray) (id : Int) (l : List S72) (hl : l.length < 1000000) (d : Nat) : ∀ (i : Nat) (acc : List S72), i + d = l.length → acc.length ≤ i → Ev (fun k => strongboxref4_Drop.l0 k id true (i : Int) tg nm l tg nm acc) (tg, nm, acc ++ l.drop i, true) := by
  induction d with
  | zero =>
    intro i acc hi ha
    rw [List.drop_eq_nil_of_le (by omega), List.append_nil]
    refine Ev.step (f := fun _ => some (tg, nm, acc, true)) (fun k => ?_) (Ev.now _)
    rw [strongboxref4_Drop.l0, if_neg (by omega), if_pos rfl]
  | succ d ih =>
    intro i acc hi ha
    obtain ⟨v, t, hd⟩ : ∃ v t, l.drop i = v :: t := by
      rw [List.drop_eq_getElem_cons (by omega)]; exact ⟨_, _, rfl⟩
    obtain ⟨h1, h2, h3⟩ := rd_at l i v t hd
    have ew := nextw i (by omega)
    have c1 : (i : Int) < (l.length : Int) := by clear ew; omega
    have c2 : acc.length < 4398046511104 := by clear ew; omega
    have nx := ih (i + 1) (acc ++ [v]) (by clear ew; omega) (by rw [List.length_append, List.length_singleton]; clear ew; omega)
    rw [h3] at nx
    have hv : (⟨v.f0, v.f1, v.f2, v.f3⟩ : S72) = v := rfl
    rw [hd]
    have e : acc ++ v :: t = acc ++ [v] ++ t := by rw [List.append_assoc]; rfl
    rw [e]
    refine Ev.step (f := fun k => strongboxref4_Drop.l0 k id true ((i + 1 : Nat) : Int) tg nm l tg nm (acc ++ [v])) (fun k => ?_) nx
    rw [strongboxref4_Drop.l0, if_pos c1, if_pos (Int.natCast_nonneg _), h1, hv, ew]
    by_cases h : v.f0 = id
    · rw [if_pos h, if_pos rfl, if_pos c2]
    · rw [if_neg h, if_pos c2]
theorem rdrop_off (tg : Int) (nm : ByteArray) (id : Int) (l : List S72) (hl : l.length < 1000000) (d : Nat) : ∀ (i : Nat), i + d = l.length → Ev (fun k => strongboxref4_Drop.l0 k id false (i : Int) tg nm l tg nm (l.take i)) (dropR tg nm l (idxV id (l.drop i) (i : Int))) := by
  induction d with
  | zero =>
    intro i hi
    rw [List.drop_eq_nil_of_le (by omega)]
    refine Ev.step (f := fun _ => some (0, (⟨#[]⟩ : ByteArray), [], false)) (fun k => ?_) (Ev.now _)
    rw [strongboxref4_Drop.l0, if_neg (by omega), if_neg (by decide)]
  | succ d ih =>
    intro i hi
    obtain ⟨v, t, hd⟩ : ∃ v t, l.drop i = v :: t := by
      rw [List.drop_eq_getElem_cons (by omega)]; exact ⟨_, _, rfl⟩
    obtain ⟨h1, h2, h3⟩ := rd_at l i v t hd
    have ew := nextw i (by omega)
    have c1 : (i : Int) < (l.length : Int) := by clear ew; omega
    have c2 : (l.take i).length < 4398046511104 := by rw [List.length_take]; clear ew; omega
    have hv : (⟨v.f0, v.f1, v.f2, v.f3⟩ : S72) = v := rfl
    rw [hd, idxV]
    by_cases h : v.f0 = id
    · rw [if_pos h]
      have nx := rdrop_on tg nm id l hl d (i + 1) (l.take i) (by clear ew; omega) (by rw [List.length_take]; clear ew; omega)
      have e : dropR tg nm l (i : Int) = (tg, nm, l.take i ++ l.drop (i + 1), true) := by
        unfold dropR
        rw [if_neg (by clear ew; omega), Int.toNat_natCast]
      rw [e]
      refine Ev.step (f := fun k => strongboxref4_Drop.l0 k id true ((i + 1 : Nat) : Int) tg nm l tg nm (l.take i)) (fun k => ?_) nx
      rw [strongboxref4_Drop.l0, if_pos c1, if_pos (Int.natCast_nonneg _), h1, if_pos h, if_neg (by decide), ew]
    · rw [if_neg h]
      have nx := ih (i + 1) (by clear ew; omega)
      have e1 : l.take (i + 1) = l.take i ++ [v] := by
        have hi2 : i < l.length := by clear ew; omega
        have hg : l[i] = v := by
          rw [List.drop_eq_getElem_cons hi2] at hd
          injection hd
        rw [List.take_add_one, List.getElem?_eq_getElem hi2, hg]
        rfl
      rw [h3, e1] at nx
      refine Ev.step (f := fun k => strongboxref4_Drop.l0 k id false ((i + 1 : Nat) : Int) tg nm l tg nm (l.take i ++ [v])) (fun k => ?_) nx
      rw [strongboxref4_Drop.l0, if_pos c1, if_pos (Int.natCast_nonneg _), h1, hv, ew, if_neg h, if_pos c2]
theorem rdrop_ev (tg : Int) (nm : ByteArray) (l : List S72) (hl : l.length < 1000000) (id : Int) : Ev (fun k => strongboxref4_Drop.f k tg nm l id) (dropR tg nm l (idxV id l 0)) :=
  rdrop_off tg nm id l hl l.length 0 (by omega)
theorem radd_ev (tg : Int) (nm : ByteArray) (l : List S72) (v : S72) : Ev (fun k => strongboxref4_Add.f k tg nm l v.f0 v.f1 v.f2 v.f3) (addR tg nm l v) := by
  unfold addR
  by_cases h1 : l.length ≥ 64
  · rw [if_pos h1]
    refine Ev.congr (f := fun _ => some (errJ 18)) (fun k => ?_) (Ev.now _)
    rw [strongboxref4_Add.f, if_pos (by omega)]
    rfl
  rw [if_neg h1]
  obtain ⟨K, g⟩ := rmay_ev tg nm (l ++ [v]) (by rw [List.length_append, List.length_singleton]; omega)
  refine ⟨K, fun k hk => ?_⟩
  have g := g k hk
  simp only at g
  have hl0 : ([] : List S72).length + l.length < 4398046511104 := by rw [List.length_nil]; omega
  have hl : l.length + [(⟨v.f0, v.f1, v.f2, v.f3⟩ : S72)].length < 4398046511104 := by rw [List.length_singleton]; omega
  have hv : (⟨v.f0, v.f1, v.f2, v.f3⟩ : S72) = v := rfl
  show strongboxref4_Add.f k tg nm l v.f0 v.f1 v.f2 v.f3 = _
  rw [strongboxref4_Add.f, if_neg (by omega), if_pos hl0, Option.bind_some, Option.bind_some, List.nil_append, if_pos hl, Option.bind_some, hv, g, Option.bind_some]
  split <;> rfl
/-- Both Sames of a journal and what Add answered. -/
theorem sames (tg : Int) (nm : ByteArray) (l : List S72) (v : S72) (hl : l.length < 1000000) : ∃ b : Bool, Ev (fun k => journal_Same.f k tg nm l (addR tg nm l v).1 (addR tg nm l v).2.1 (addR tg nm l v).2.2.1) b ∧ Ev (fun k => strongboxref4_Same.f k tg nm l (addR tg nm l v).1 (addR tg nm l v).2.1 (addR tg nm l v).2.2.1) b := by
  have off : ∀ tg' nm' l', l.length ≠ l'.length → Ev (fun k => journal_Same.f k tg nm l tg' nm' l') false ∧ Ev (fun k => strongboxref4_Same.f k tg nm l tg' nm' l') false := fun tg' nm' l' hne => by
    have hne' : ¬ (l.length : Int) = (l'.length : Int) := by omega
    constructor
    · refine Ev.congr (f := fun _ => some false) (fun k => ?_) (Ev.now _)
      rw [journal_Same.f, api_Version_66.f, if_neg hne', Option.bind_some]
      repeat' split
      all_goals rfl
    · refine ⟨1, fun k hk => ?_⟩
      obtain ⟨k, rfl⟩ : ∃ j, k = j + 1 := ⟨k - 1, by omega⟩
      show strongboxref4_Same.f (k + 1) tg nm l tg' nm' l' = _
      have hb : ((l.length : Int) != (l'.length : Int)) = true := bne_iff_ne.2 hne'
      rw [strongboxref4_Same.f, hb, strongboxref4_Same.j0, if_pos rfl]
      repeat' split
      all_goals rfl
  have err : ∀ e, ∃ b : Bool, Ev (fun k => journal_Same.f k tg nm l (errJ e).1 (errJ e).2.1 (errJ e).2.2.1) b ∧ Ev (fun k => strongboxref4_Same.f k tg nm l (errJ e).1 (errJ e).2.1 (errJ e).2.2.1) b := fun e => by
    show ∃ b : Bool, Ev (fun k => journal_Same.f k tg nm l 0 (⟨#[]⟩ : ByteArray) []) b ∧ Ev (fun k => strongboxref4_Same.f k tg nm l 0 (⟨#[]⟩ : ByteArray) []) b
    by_cases h0 : l.length = 0
    · obtain rfl : l = [] := List.eq_nil_of_length_eq_zero h0
      by_cases h1 : tg = 0
      · subst h1
        by_cases h2 : nm.toList = (⟨#[]⟩ : ByteArray).toList
        · refine ⟨true, ⟨1, fun k hk => ?_⟩, ⟨2, fun k hk => ?_⟩⟩
          · obtain ⟨k, rfl⟩ : ∃ j, k = j + 1 := ⟨k - 1, by omega⟩
            show journal_Same.f (k + 1) 0 nm [] 0 (⟨#[]⟩ : ByteArray) [] = _
            rw [journal_Same.f, if_pos rfl, if_pos h2, api_Version_66.f, if_pos rfl, api_Version_66.l0, if_neg (by decide), Option.bind_some]
          · obtain ⟨k, rfl⟩ : ∃ j, k = j + 1 + 1 := ⟨k - 2, by omega⟩
            show strongboxref4_Same.f (k + 1 + 1) 0 nm [] 0 (⟨#[]⟩ : ByteArray) [] = _
            rw [strongboxref4_Same.f, if_pos rfl, if_pos h2, show (((([] : List S72).length : Int) != (([] : List S72).length : Int))) = false from rfl, strongboxref4_Same.j0, if_neg (by decide), strongboxref4_Same.l0, if_neg (by decide)]
        · refine ⟨false, ⟨1, fun k hk => ?_⟩, ⟨1, fun k hk => ?_⟩⟩
          · show journal_Same.f k 0 nm [] 0 (⟨#[]⟩ : ByteArray) [] = _
            rw [journal_Same.f, if_pos rfl, if_neg h2]
          · obtain ⟨k, rfl⟩ : ∃ j, k = j + 1 := ⟨k - 1, by omega⟩
            show strongboxref4_Same.f (k + 1) 0 nm [] 0 (⟨#[]⟩ : ByteArray) [] = _
            rw [strongboxref4_Same.f, if_pos rfl, if_neg h2, strongboxref4_Same.j0, if_pos rfl]
      · refine ⟨false, ⟨1, fun k hk => ?_⟩, ⟨1, fun k hk => ?_⟩⟩
        · show journal_Same.f k tg nm [] 0 (⟨#[]⟩ : ByteArray) [] = _
          rw [journal_Same.f, if_neg h1]
        · obtain ⟨k, rfl⟩ : ∃ j, k = j + 1 := ⟨k - 1, by omega⟩
          show strongboxref4_Same.f (k + 1) tg nm [] 0 (⟨#[]⟩ : ByteArray) [] = _
          rw [strongboxref4_Same.f, if_neg h1, strongboxref4_Same.j0, if_pos rfl]
    · exact ⟨false, off 0 _ [] h0⟩
  unfold addR
  by_cases h1 : l.length ≥ 64
  · simp only [if_pos h1]; exact err 18
  · simp only [if_neg h1]
    by_cases h2 : mayJ tg nm (l ++ [v]) = true
    · simp only [if_pos h2]
      exact ⟨false, off tg nm (l ++ [v]) (by rw [List.length_append, List.length_singleton]; omega)⟩
    · simp only [if_neg h2]; exact err 1
theorem eq4 (r : Int × Bool × Int × Int × Bool) : (r.1 == r.1 && (r.2.1 == r.2.1 && (r.2.2.1 == r.2.2.1 && (r.2.2.2.1 == r.2.2.2.1)))) = true := by simp
theorem addR_len (tg : Int) (nm : ByteArray) (l : List S72) (v : S72) : (addR tg nm l v).2.2.1.length ≤ l.length + 1 := by
  unfold addR
  repeat' split
  all_goals first | (rw [List.length_append, List.length_singleton]; omega) | (show 0 ≤ l.length + 1; omega)
theorem dropR_len (tg : Int) (nm : ByteArray) (l : List S72) (j : Int) : (dropR tg nm l j).2.2.1.length ≤ l.length := by
  unfold dropR
  split
  · exact Nat.zero_le _
  · show (l.take j.toNat ++ l.drop (j.toNat + 1)).length ≤ _
    rw [List.length_append, List.length_take, List.length_drop]; omega
theorem back_some (tg : Int) (nm : ByteArray) (l : List S72) (hl : l.length < 1000000) : strongboxlaw7_Back.f tg nm l = some (tg, nm, l) := by
  rw [strongboxlaw7_Back.f, if_pos (by rw [List.length_nil]; omega), List.nil_append]
theorem journal_some (tg : Int) (nm : ByteArray) (l : List S72) (hl : l.length < 1000000) : strongboxlaw7_Journal.f tg nm l = some (tg, nm, l) := by
  rw [strongboxlaw7_Journal.f, if_pos (by rw [List.length_nil]; omega), List.nil_append]
theorem changes_main (tg : Int) (nm : ByteArray) (l : List S72) (hl : l.length ≤ 100) (v : S72) (id : Int) : Ev (fun k => strongboxlaw7_JournalChanges.j0 k id false tg nm l v.f0 v.f1 v.f2 v.f3) true := by
  have h6 : l.length < 1000000 := by omega
  have hj := journal_some tg nm l h6
  have hb := back_some tg nm l h6
  have hf := jfind_some tg nm l id
  obtain ⟨r, hlt, hrl⟩ := latest_some tg nm l h6
  have hd := jdrop_some tg nm l h6 id
  obtain ⟨K1, g1⟩ := rfind_ev tg nm l h6 id
  obtain ⟨K2, g2⟩ := add_ev tg nm l v
  obtain ⟨K3, g3⟩ := radd_ev tg nm l v
  obtain ⟨K4, g4⟩ := rdrop_ev tg nm l h6 id
  obtain ⟨b, ⟨K5, g5⟩, ⟨K6, g6⟩⟩ := sames tg nm l v h6
  have la := addR_len tg nm l v
  have ld := dropR_len tg nm l (idxV id l 0)
  generalize addR tg nm l v = a at g2 g3 g5 g6 la
  generalize dropR tg nm l (idxV id l 0) = dr at hd g4 ld
  generalize findL id l = fi at hf g1
  obtain ⟨K7, g7⟩ := same_ev a.1 a.2.1 a.2.2.1 (by omega)
  obtain ⟨K8, g8⟩ := same_ev dr.1 dr.2.1 dr.2.2.1 (by omega)
  obtain ⟨K9, g9⟩ := same_ev tg nm l h6
  obtain ⟨K10, g10⟩ := jsame_self_ev tg nm l h6
  have ba := back_some a.1 a.2.1 a.2.2.1 (by omega)
  have bd := back_some dr.1 dr.2.1 dr.2.2.1 (by omega)
  refine ⟨max (max (max K1 K2) (max K3 K4)) (max (max K5 K6) (max (max K7 K8) (max K9 K10))) + 1, fun k hk => ?_⟩
  obtain ⟨k, rfl⟩ : ∃ j, k = j + 1 := ⟨k - 1, by omega⟩
  have g1 := g1 k (by omega)
  have g2 := g2 k (by omega)
  have g3 := g3 k (by omega)
  have g4 := g4 k (by omega)
  have g5 := g5 k (by omega)
  have g6 := g6 k (by omega)
  have g7 := g7 k (by omega)
  have g8 := g8 k (by omega)
  have g9 := g9 k (by omega)
  have g10 := g10 k (by omega)
  simp only at g1 g2 g3 g4 g5 g6 g7 g8 g9 g10
  show strongboxlaw7_JournalChanges.j0 (k + 1) id false tg nm l v.f0 v.f1 v.f2 v.f3 = _
  rw [strongboxlaw7_JournalChanges.j0, if_neg (by decide), hj, Option.bind_some, hf, Option.bind_some, g1, Option.bind_some, hlt, Option.bind_some, hrl, Option.bind_some, g2, Option.bind_some, g3, Option.bind_some, hd, Option.bind_some, g4, Option.bind_some,
    if_pos (eq4 fi), if_pos (beq_self_eq_true _), if_pos (eq4 r), if_pos (beq_self_eq_true _), if_pos rfl, ba, Option.bind_some, g7, Option.bind_some, if_pos rfl, if_pos (beq_self_eq_true _), bd, Option.bind_some, g8, Option.bind_some, if_pos rfl, hb, Option.bind_some, g9, Option.bind_some, if_pos rfl, Option.bind_some, g10, Option.bind_some, if_pos rfl, g5, Option.bind_some, g6, Option.bind_some, beq_self_eq_true]
theorem JournalChanges : ∀ (tg : Int) (nm : ByteArray) (l : List S72) (v : S72) (id : Int), ∃ k, strongboxlaw7_JournalChanges.f k tg nm l v.f0 v.f1 v.f2 v.f3 id = some true := by
  intro tg nm l v id
  refine Ev.rounds (g := fun k => strongboxlaw7_JournalChanges.f k tg nm l v.f0 v.f1 v.f2 v.f3 id) ?_
  obtain ⟨K0, g0⟩ := awake7_ev
  have jt : Ev (fun k => strongboxlaw7_JournalChanges.j0 k id true tg nm l v.f0 v.f1 v.f2 v.f3) true := Ev.step (f := fun _ => some true) (fun k => by rw [strongboxlaw7_JournalChanges.j0, if_pos rfl]) (Ev.now _)
  by_cases hr : (nm.size : Int) ≤ 1000 ∧ (l.length : Int) ≤ 100
  · have hroom : strongboxlaw7_Room.f tg nm l = some true := by
      rw [strongboxlaw7_Room.f, if_pos hr.1, decide_eq_true hr.2]
    obtain ⟨K1, g1⟩ := rmay_ev tg nm l (by omega)
    have main : Ev (fun k => strongboxlaw7_JournalChanges.j0 k id (!(mayJ tg nm l)) tg nm l v.f0 v.f1 v.f2 v.f3) true := by
      cases mayJ tg nm l with
      | false => exact jt
      | true => exact changes_main tg nm l (by omega) v id
    obtain ⟨K5, g5⟩ := main
    refine ⟨max K0 (max K1 K5), fun k hk => ?_⟩
    have g0 := g0 k (by omega)
    have g1 := g1 k (by omega)
    have g5 := g5 k (by omega)
    simp only at g0 g1 g5
    show strongboxlaw7_JournalChanges.f k tg nm l v.f0 v.f1 v.f2 v.f3 id = _
    rw [strongboxlaw7_JournalChanges.f, g0, Option.bind_some, if_pos rfl, hroom, Option.bind_some, if_pos rfl, g1, Option.bind_some]
    exact g5
  · have hroom : strongboxlaw7_Room.f tg nm l = some false := by
      rw [strongboxlaw7_Room.f]
      by_cases h1 : (nm.size : Int) ≤ 1000
      · rw [if_pos h1, decide_eq_false (fun h2 => hr ⟨h1, h2⟩)]
      · rw [if_neg h1]
    obtain ⟨K5, g5⟩ := jt
    refine ⟨max K0 K5, fun k hk => ?_⟩
    have g0 := g0 k (by omega)
    have g5 := g5 k (by omega)
    simp only at g0 g5
    show strongboxlaw7_JournalChanges.f k tg nm l v.f0 v.f1 v.f2 v.f3 id = _
    rw [strongboxlaw7_JournalChanges.f, g0, Option.bind_some, if_pos rfl, hroom, Option.bind_some, if_neg (by decide)]
    exact g5

end Go.Proofs.Ytnlpipjdpmaggaa.Pure
