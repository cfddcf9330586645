/- Versions added with rising ids, some dropped again: what is left is found, in order, and the last one is the latest: over the printed functions alone. Conditions: the steps are bytes. -/
import Derived.Test.YtnlpipjdpmaggaaPJournalAddsx12
import Derived.Test.YtnlpipjdpmaggaaMath
set_option linter.unusedVariables false
set_option linter.unusedSimpArgs false
namespace Go.Proofs.Ytnlpipjdpmaggaa.Pure
open Go.RowKit Go.Proofs.Ytnlpipjdpmaggaa.PJournalReads Go.Proofs.YtnlpipjdpmaggaaW.PrintWords Go.Proofs.YtnlpipjdpmaggaaW.PrintLast Go.Proofs.YtnlpipjdpmaggaaW.PrintMore CrcMath

theorem w64_lt {n : Int} (h0 : 0 ≤ n) (h : n < 9223372036854775807) : wrap64 n = n := by unfold wrap64; omega

theorem rd_byte {l : List Int} (h : Bytes l) (i : Nat) (h1 : i < l.length) : ∃ x : Nat, rd l (i : Int) = (x : Int) ∧ x < 256 := by
  have : 0 ≤ rd l i ∧ rd l i < 256 := by
    unfold rd
    rw [Int.toNat_natCast, List.getD_eq_getElem?_getD, List.getElem?_eq_getElem h1]
    exact h _ (List.getElem_mem _)
  obtain ⟨x, hx⟩ := Int.eq_ofNat_of_zero_le this.1
  exact ⟨x, hx, by omega⟩

theorem nextw (i : Nat) (h : i < 1000000) : wrap64 ((i : Int) + 1) = ((i + 1 : Nat) : Int) := by rw [w64_lt (by omega) (by omega)]; omega

def verB (v : S72) : Bool := (journal_version.f v.f0 v.f1 v.f2 v.f3).getD false
theorem version_some (v : S72) : journal_version.f v.f0 v.f1 v.f2 v.f3 = some (verB v) := by
  have h : ∃ b, journal_version.f v.f0 v.f1 v.f2 v.f3 = some b := by
    unfold journal_version.f
    repeat' split
    all_goals exact ⟨_, rfl⟩
  obtain ⟨b, h⟩ := h
  unfold verB
  rw [h]; rfl
theorem verB_id {v : S72} (h : verB v = true) : 0 ≤ v.f0 ∧ v.f0 ≤ 2147483647 := by
  have := version_some v
  rw [h] at this
  unfold journal_version.f at this
  by_cases h1 : v.f0 < 0
  · rw [if_pos h1] at this; cases this
  by_cases h2 : v.f0 > 2147483647
  · rw [if_neg h1, if_pos h2] at this; cases this
  omega
/-- Versions that may be, with rising ids. -/
def okFrom (last : Int) : List S72 → Bool
  | [] => true
  | v :: t => verB v && decide (last < v.f0) && okFrom v.f0 t
theorem rd_at (l : List S72) (i : Nat) (v : S72) (t : List S72) (h : l.drop i = v :: t) : rd_T72 l (i : Int) = v ∧ i < l.length ∧ l.drop (i + 1) = t := by
  have hi : i < l.length := by
    rcases Nat.lt_or_ge i l.length with h1 | h1
    · exact h1
    · rw [List.drop_eq_nil_of_le h1] at h; cases h
  rw [List.drop_eq_getElem_cons hi] at h
  injection h with h1 h2
  refine ⟨?_, hi, h2⟩
  unfold rd_T72
  rw [Int.toNat_natCast, List.getD_eq_getElem?_getD, List.getElem?_eq_getElem hi, ← h1]; rfl
theorem jmay_l0 (l : List S72) (hl : l.length < 4611686018427387904) (d : Nat) : ∀ (i : Nat) (last : Int), i + d = l.length →
    Ev (fun k => journal_May.l0 k last l (l.length : Int) (i : Int)) (okFrom last (l.drop i)) := by
  induction d with
  | zero =>
    intro i last hi
    refine Ev.step (f := fun _ => some true) (fun k => ?_) ?_
    · rw [journal_May.l0, if_neg (by omega)]
    · rw [List.drop_eq_nil_of_le (by omega)]; exact Ev.now _
  | succ d ih =>
    intro i last hi
    obtain ⟨v, t, hd⟩ : ∃ v t, l.drop i = v :: t := by
      rw [List.drop_eq_getElem_cons (by omega)]; exact ⟨_, _, rfl⟩
    obtain ⟨h1, h2, h3⟩ := rd_at l i v t hd
    have ew : wrap64 ((i : Int) + 1) = ((i + 1 : Nat) : Int) := by rw [w64_lt (by omega) (by omega)]; omega
    rw [hd, okFrom]
    cases hv : verB v with
    | false =>
      refine Ev.step (f := fun _ => some false) (fun k => ?_) (Ev.now _)
      rw [journal_May.l0, if_pos (by omega), if_pos (by omega), if_pos (by omega), h1, version_some, hv, Option.bind_some, if_neg (by decide)]
    | true =>
      by_cases hlt : last < v.f0
      · rw [decide_eq_true hlt]
        refine Ev.step (f := fun k => journal_May.l0 k v.f0 l (l.length : Int) ((i + 1 : Nat) : Int)) (fun k => ?_) ?_
        · rw [journal_May.l0, if_pos (by omega), if_pos (by omega), if_pos (by omega), h1, version_some, hv, Option.bind_some, if_pos rfl, if_neg (by omega), ew]
        · have := ih (i + 1) v.f0 (by omega)
          rw [h3] at this
          exact this
      · rw [decide_eq_false hlt]
        refine Ev.step (f := fun _ => some false) (fun k => ?_) (Ev.now _)
        rw [journal_May.l0, if_pos (by omega), if_pos (by omega), if_pos (by omega), h1, version_some, hv, Option.bind_some, if_pos rfl, if_pos (by omega)]
/-- A journal that may be. -/
def mayJ (tg : Int) (nm : ByteArray) (l : List S72) : Bool := decide (0 ≤ tg ∧ tg ≤ 2147483647 ∧ nm.size ≤ 600 ∧ l.length ≤ 64) && okFrom (-1) l
theorem jmay_ev (tg : Int) (nm : ByteArray) (l : List S72) (hl : l.length < 4611686018427387904) : Ev (fun k => journal_May.f k tg nm l) (mayJ tg nm l) := by
  have nt : ∀ b, b = true → ¬ (0 ≤ tg ∧ tg ≤ 2147483647 ∧ nm.size ≤ 600 ∧ l.length ≤ 64) → Ev (fun k => journal_May.j0 k b tg nm l) (mayJ tg nm l) := fun b hb hn => by
    unfold mayJ
    rw [decide_eq_false hn, hb]
    exact Ev.step (f := fun _ => some false) (fun k => by rw [journal_May.j0, if_pos rfl]) (Ev.now _)
  unfold journal_May.f
  by_cases h1 : tg < 0
  · simp only [if_pos h1]; exact nt _ rfl (by omega)
  simp only [if_neg h1]
  by_cases h2 : tg > 2147483647
  · simp only [if_pos h2]; exact nt _ rfl (by omega)
  simp only [if_neg h2]
  by_cases h3 : (nm.size : Int) > 600
  · simp only [if_pos h3]; exact nt _ rfl (by omega)
  simp only [if_neg h3]
  by_cases h4 : (l.length : Int) > 64
  · exact nt _ (decide_eq_true h4) (by omega)
  · rw [decide_eq_false h4]
    have := jmay_l0 l hl l.length 0 (-1) (by omega)
    unfold mayJ
    rw [decide_eq_true (by omega)]
    refine Ev.step (f := fun k => journal_May.l0 k (-1) l (l.length : Int) ((0 : Nat) : Int)) (fun k => ?_) this
    rw [journal_May.j0, if_neg (by decide)]; rfl

/-- What is answered with an error. -/
def errJ (e : Int) : Int × ByteArray × List S72 × Int := (0, (⟨#[]⟩ : ByteArray), ([] : List S72), e)

theorem awake7_at : strongboxlaw7_awake.f 200 = some true := by decide +kernel
theorem awake7_ev : Ev (fun k => strongboxlaw7_awake.f k) true := by
  refine ⟨200, fun k hk => ?_⟩
  obtain ⟨j, rfl⟩ : ∃ j, k = 200 + j := ⟨k - 200, by omega⟩
  clear hk
  induction j with
  | zero => exact awake7_at
  | succ j ih => exact strongboxlaw7_awake.mono (200 + j) true ih

/-- What Add answers. -/
def addR (tg : Int) (nm : ByteArray) (l : List S72) (v : S72) : Int × ByteArray × List S72 × Int :=
  if l.length ≥ 64 then errJ 18 else if mayJ tg nm (l ++ [v]) = true then (tg, nm, l ++ [v], 0) else errJ 1
theorem add_ev (tg : Int) (nm : ByteArray) (l : List S72) (v : S72) : Ev (fun k => journal_Add.f k tg nm l v.f0 v.f1 v.f2 v.f3) (addR tg nm l v) := by
  unfold addR
  by_cases h1 : l.length ≥ 64
  · rw [if_pos h1]
    refine Ev.congr (f := fun _ => some (errJ 18)) (fun k => ?_) (Ev.now _)
    rw [journal_Add.f, if_pos (by omega)]
    rfl
  rw [if_neg h1]
  obtain ⟨K, g⟩ := jmay_ev tg nm (l ++ [v]) (by rw [List.length_append, List.length_singleton]; omega)
  refine ⟨K, fun k hk => ?_⟩
  have g := g k hk
  simp only at g
  have hc : api_Version_65.f l = some l := by rw [api_Version_65.f, if_pos (by omega)]
  have hl : l.length + [(⟨v.f0, v.f1, v.f2, v.f3⟩ : S72)].length < 4398046511104 := by rw [List.length_singleton]; omega
  have hv : (⟨v.f0, v.f1, v.f2, v.f3⟩ : S72) = v := rfl
  show journal_Add.f k tg nm l v.f0 v.f1 v.f2 v.f3 = _
  rw [journal_Add.f, if_neg (by omega), hc, Option.bind_some, Option.bind_some, if_pos hl, Option.bind_some, hv, g, Option.bind_some]
  split <;> rfl

def mkV (x : Int) : S72 := ⟨x, false, 0, 0⟩
theorem verB_mk {x : Int} (h0 : 0 ≤ x) (h1 : x ≤ 2147483647) : verB (mkV x) = true := by
  have := version_some (mkV x)
  have h2 : journal_version.f (mkV x).f0 (mkV x).f1 (mkV x).f2 (mkV x).f3 = some true := by
    show journal_version.f x false 0 0 = some true
    unfold journal_version.f
    rw [if_neg (by omega), if_neg (by omega), if_neg (by decide), if_neg (by decide)]
    rfl
  rw [h2] at this
  exact (Option.some.inj this).symm
theorem okFrom_ids (ids : List Int) : ∀ last : Int, (∀ x ∈ ids, last < x ∧ 0 ≤ x ∧ x ≤ 2147483647) → ids.Pairwise (· < ·) → okFrom last (ids.map mkV) = true := by
  induction ids with
  | nil => intro _ _ _; rfl
  | cons a t ih =>
    intro last h hp
    obtain ⟨h1, h2⟩ := List.pairwise_cons.1 hp
    have ha := h a (by simp)
    rw [List.map_cons, okFrom, verB_mk ha.2.1 ha.2.2]
    have e1 : decide (last < (mkV a).f0) = true := decide_eq_true ha.1
    have e2 : okFrom (mkV a).f0 (t.map mkV) = true := ih a (fun x hx => ⟨h1 x hx, (h x (by simp [hx])).2⟩) h2
    rw [e1, e2]
    rfl
theorem okFrom_gt (l : List S72) : ∀ last, okFrom last l = true → ∀ u ∈ l, last < u.f0 := by
  induction l with
  | nil => intro _ _ u hu; cases hu
  | cons v t ih =>
    intro last h u hu
    unfold okFrom at h
    simp only [Bool.and_eq_true] at h
    have h1 := of_decide_eq_true h.1.2
    rcases List.mem_cons.1 hu with rfl | hu
    · exact h1
    · exact Int.lt_trans h1 (ih _ h.2 u hu)
theorem okFrom_last (l : List S72) (v : S72) : ∀ last, okFrom last (l ++ [v]) = true → ∀ u ∈ l, u.f0 < v.f0 := by
  induction l with
  | nil => intro _ _ u hu; cases hu
  | cons a t ih =>
    intro last h u hu
    rw [List.cons_append] at h
    unfold okFrom at h
    simp only [Bool.and_eq_true] at h
    rcases List.mem_cons.1 hu with rfl | hu
    · exact okFrom_gt _ _ h.2 v (by simp)
    · exact ih _ h.2 u hu
/-- What the journal's ids are. -/
structure Ids (ids : List Int) : Prop where
  up : ids.Pairwise (· < ·)
  lo : ∀ x ∈ ids, 0 ≤ x ∧ x ≤ 1000
  len : ids.length ≤ 60
theorem Ids.may {ids : List Int} (h : Ids ids) : mayJ 0 (⟨#[120]⟩ : ByteArray) (ids.map mkV) = true := by
  unfold mayJ
  rw [okFrom_ids ids (-1) (fun x hx => by have := h.lo x hx; omega) h.up, Bool.and_true, List.length_map]
  exact decide_eq_true ⟨by decide, by decide, by decide, by have := h.len; omega⟩
theorem rd_int (l : List Int) (i : Nat) (h : i < l.length) : rd l (i : Int) = l[i] := by
  unfold rd
  rw [Int.toNat_natCast, List.getD_eq_getElem?_getD, List.getElem?_eq_getElem h]
  rfl
theorem rdT_map (ids : List Int) (i : Nat) (h : i < ids.length) : rd_T72 (ids.map mkV) (i : Int) = mkV ids[i] := by
  unfold rd_T72
  rw [Int.toNat_natCast, List.getD_eq_getElem?_getD, List.getElem?_map, List.getElem?_eq_getElem h]
  rfl
theorem idxV_none (id : Int) (ids : List Int) : ∀ k : Int, (∀ x ∈ ids, x ≠ id) → idxV id (ids.map mkV) k = -1 := by
  induction ids with
  | nil => intro _ _; rfl
  | cons a t ih =>
    intro k h
    rw [List.map_cons, idxV, if_neg (show ¬ (mkV a).f0 = id from h a (by simp)), ih _ (fun x hx => h x (by simp [hx]))]
theorem idxV_at (ids : List Int) (hp : ids.Pairwise (· < ·)) : ∀ (a : Nat) (k : Int) (ha : a < ids.length), idxV ids[a] (ids.map mkV) k = k + a := by
  induction ids with
  | nil => intro a _ ha; exact absurd ha (Nat.not_lt_zero _)
  | cons b t ih =>
    intro a k ha
    obtain ⟨h1, h2⟩ := List.pairwise_cons.1 hp
    cases a with
    | zero => rw [List.map_cons, idxV, if_pos (show (mkV b).f0 = (b :: t)[0] from rfl)]; omega
    | succ a =>
      have ha' : a < t.length := by simpa using ha
      have hlt := h1 t[a] (List.getElem_mem _)
      rw [List.map_cons, List.getElem_cons_succ, idxV, if_neg (show ¬ (mkV b).f0 = t[a] from fun e => by have e' : b = t[a] := e; omega), ih h2 a (k + 1) ha']
      omega
def cutI (ids : List Int) (a : Nat) : List Int := ids.take a ++ ids.drop (a + 1)
theorem cutI_sub (ids : List Int) (a : Nat) : (cutI ids a).Sublist ids := by
  have h1 : (ids.drop (a + 1)).Sublist (ids.drop a) := by rw [← List.drop_drop]; exact List.drop_sublist _ _
  have h2 := List.Sublist.append (List.Sublist.refl (ids.take a)) h1
  rwa [List.take_append_drop] at h2
theorem Ids.cut {ids : List Int} (h : Ids ids) (a : Nat) : Ids (cutI ids a) :=
  ⟨h.up.sublist (cutI_sub ids a), fun x hx => h.lo x ((cutI_sub ids a).subset hx), Nat.le_trans (cutI_sub ids a).length_le h.len⟩
theorem cutI_ne {ids : List Int} (h : ids.Pairwise (· < ·)) (a : Nat) (ha : a < ids.length) : ∀ x ∈ cutI ids a, x ≠ ids[a] := by
  have e : ids = ids.take a ++ ids[a] :: ids.drop (a + 1) := by
    rw [← List.drop_eq_getElem_cons ha, List.take_append_drop]
  obtain ⟨v, hv⟩ : ∃ v, v = ids[a] := ⟨_, rfl⟩
  rw [← hv] at e ⊢
  rw [e] at h
  obtain ⟨_, h2, h3⟩ := List.pairwise_append.1 h
  obtain ⟨h4, _⟩ := List.pairwise_cons.1 h2
  intro x hx
  rcases List.mem_append.1 hx with hx | hx
  · have := h3 x hx v (by simp)
    omega
  · have := h4 x hx
    omega
theorem tmod_nat (m n : Nat) : Int.tmod (m : Int) (n : Int) = ((m % n : Nat) : Int) := rfl
/-- Dropped once, and not twice. -/
theorem drop_ids {ids : List Int} (h : Ids ids) (a : Nat) (ha : a < ids.length) :
    journal_Drop.f 0 (⟨#[120]⟩ : ByteArray) (ids.map mkV) ids[a] = some (0, (⟨#[120]⟩ : ByteArray), (cutI ids a).map mkV, true) ∧ journal_Drop.f 0 (⟨#[120]⟩ : ByteArray) ((cutI ids a).map mkV) ids[a] = some (0, (⟨#[]⟩ : ByteArray), [], false) := by
  have i1 := idxV_at ids h.up a 0 ha
  rw [Int.zero_add] at i1
  have i2 := idxV_none ids[a] (cutI ids a) 0 (cutI_ne h.up a ha)
  have hl := h.len
  constructor
  · unfold journal_Drop.f
    rw [i1, if_neg (by omega), if_pos (by rw [List.length_map]; omega), Int.toNat_natCast]
    unfold cutI
    rw [List.map_append, List.map_take, List.map_drop]
  · unfold journal_Drop.f
    rw [i2, if_pos (by decide)]
theorem find_ids {ids : List Int} (h : Ids ids) (a : Nat) (ha : a < ids.length) : journal_Find.f 0 (⟨#[120]⟩ : ByteArray) (ids.map mkV) ids[a] = some (ids[a], false, 0, 0, true) := by
  have i1 := idxV_at ids h.up a 0 ha
  rw [Int.zero_add] at i1
  have h0 : journal_Journal_at.f 0 (⟨#[120]⟩ : ByteArray) (ids.map mkV) ids[a] = some (a : Int) := by rw [journal_Journal_at.f, i1]
  rw [journal_Find.f, h0, Option.bind_some, if_neg (by omega), if_pos (by omega), if_pos (by rw [List.length_map]; omega), rdT_map ids a ha]
  rfl
theorem latest_ids (ids : List Int) (hl : ids.length ≤ 60) : journal_Latest.f 0 (⟨#[120]⟩ : ByteArray) (ids.map mkV) = some (if h : 0 < ids.length then (ids[ids.length - 1], false, 0, 0, true) else (0, false, 0, 0, false)) := by
  unfold journal_Latest.f
  rw [List.length_map]
  by_cases h : 0 < ids.length
  · have ew : wrap64 ((ids.length : Int) - 1) = ((ids.length - 1 : Nat) : Int) := by rw [w64_lt (by omega) (by omega)]; omega
    have c1 : ¬ (ids.length : Int) = 0 := by clear ew; omega
    have c2 : (0 : Int) ≤ ((ids.length - 1 : Nat) : Int) := Int.natCast_nonneg _
    have c3 : ((ids.length - 1 : Nat) : Int) < (ids.length : Int) := by clear ew; omega
    rw [dif_pos h, if_neg c1, ew, if_pos c2, if_pos c3, rdT_map ids _ (by clear ew; omega)]
    rfl
  · rw [dif_neg h, if_pos (by omega)]
theorem adds_l2 {ids : List Int} (h : Ids ids) (d : Nat) : ∀ i : Nat, i + d = ids.length → Ev (fun k => law7Adds.l2 k ids (i : Int) 0 (⟨#[120]⟩ : ByteArray) (ids.map mkV)) true := by
  have hl := h.len
  induction d with
  | zero =>
    intro i hi
    obtain ⟨K, g⟩ := jmay_ev 0 (⟨#[120]⟩ : ByteArray) (ids.map mkV) (by rw [List.length_map]; omega)
    rw [h.may] at g
    have hlat := latest_ids ids hl
    refine ⟨K + 1, fun k hk => ?_⟩
    obtain ⟨k, rfl⟩ : ∃ j, k = j + 1 := ⟨k - 1, by omega⟩
    have g := g k (by omega)
    simp only at g
    have elen : ((ids.map mkV).length : Int) = (ids.length : Int) := by rw [List.length_map]
    show law7Adds.l2 (k + 1) ids (i : Int) 0 (⟨#[120]⟩ : ByteArray) (ids.map mkV) = _
    rw [law7Adds.l2, if_neg (by omega), hlat, Option.bind_some, if_pos elen]
    by_cases hp : 0 < ids.length
    · have ew : wrap64 ((ids.length : Int) - 1) = ((ids.length - 1 : Nat) : Int) := by rw [w64_lt (by omega) (by omega)]; omega
      have c2 : (0 : Int) ≤ ((ids.length - 1 : Nat) : Int) := Int.natCast_nonneg _
      have c3 : ((ids.length - 1 : Nat) : Int) < (ids.length : Int) := by clear ew; omega
      have c4 : (true == decide ((ids.length : Int) > 0)) = true := by rw [decide_eq_true (by clear ew; omega)]; rfl
      rw [dif_pos hp]
      rw [if_pos c4, if_pos rfl, ew, if_pos c2, if_pos c3, rd_int ids (ids.length - 1) (by clear ew; omega), if_pos rfl, g, Option.bind_some]
    · have c4 : (false == decide ((ids.length : Int) > 0)) = true := by rw [decide_eq_false (by omega)]; rfl
      rw [dif_neg hp]
      rw [if_pos c4, if_neg (by decide), g, Option.bind_some]
  | succ d ih =>
    intro i hi
    have ew := nextw i (by omega)
    have hi2 : i < ids.length := by clear ew; omega
    have c1 : (i : Int) < (ids.length : Int) := by clear ew; omega
    have c3 : ¬ (i : Int) ≥ ((ids.map mkV).length : Int) := by rw [List.length_map]; clear ew; omega
    have c4 : (i : Int) < ((ids.map mkV).length : Int) := by rw [List.length_map]; exact c1
    refine Ev.step (f := fun k => law7Adds.l2 k ids ((i + 1 : Nat) : Int) 0 (⟨#[120]⟩ : ByteArray) (ids.map mkV)) (fun k => ?_) (ih (i + 1) (by clear ew; omega))
    rw [law7Adds.l2, if_pos c1, if_pos (Int.natCast_nonneg _), rd_int ids i hi2, find_ids h i hi2, Option.bind_some, if_pos rfl, if_pos rfl, if_neg c3, if_pos c4, rdT_map ids i hi2, if_pos (show (mkV ids[i]).f0 = ids[i] from rfl), ew]
theorem adds_end {ids : List Int} (h : Ids ids) (l1 : List Int) (i : Int) : Ev (fun k => law7Adds.j3 k l1 ids i false 0 (⟨#[120]⟩ : ByteArray) (ids.map mkV)) true :=
  Ev.step (f := fun k => law7Adds.l2 k ids ((0 : Nat) : Int) 0 (⟨#[120]⟩ : ByteArray) (ids.map mkV)) (fun k => by rw [law7Adds.j3, if_neg (by decide)]; rfl) (adds_l2 h ids.length 0 (by omega))
theorem adds_l1 (l1 : List Int) (hb : Bytes l1) (hl : l1.length ≤ 60) (d : Nat) : ∀ (i : Nat) (ids : List Int), Ids ids → i + d = l1.length → Ev (fun k => law7Adds.l1 k l1 ids (i : Int) 0 (⟨#[120]⟩ : ByteArray) (ids.map mkV)) true := by
  induction d with
  | zero =>
    intro i ids h hi
    refine Ev.step (f := fun k => law7Adds.j3 k l1 ids (i : Int) false 0 (⟨#[120]⟩ : ByteArray) (ids.map mkV)) (fun k => ?_) (adds_end h l1 i)
    rw [law7Adds.l1, if_neg (by omega)]
  | succ d ih =>
    intro i ids h hi
    have c1 : (i : Int) < (l1.length : Int) := by omega
    by_cases hp : 0 < ids.length
    · have hlen := h.len
      obtain ⟨x, ex, hx⟩ := rd_byte hb i (by omega)
      obtain ⟨a, ea⟩ : ∃ a, a = x % ids.length := ⟨_, rfl⟩
      have ha : a < ids.length := by rw [ea]; exact Nat.mod_lt _ hp
      obtain ⟨d1, d2⟩ := drop_ids h a ha
      have et : Int.tmod (wrap64 (rd l1 (i : Int))) (ids.length : Int) = (a : Int) := by
        rw [ex, w64_lt (by omega) (by omega : (x : Int) < _), tmod_nat, ← ea]
      have ew := nextw i (by omega)
      have ewa := nextw a (by clear ew et ex; omega)
      have nx := ih (i + 1) (cutI ids a) (h.cut a) (by clear ew ewa et ex; omega)
      refine Ev.step (f := fun k => law7Adds.j3 k l1 ids (i : Int) true 0 (⟨#[120]⟩ : ByteArray) (ids.map mkV)) (fun k => ?_) ?_
      · rw [law7Adds.l1, if_pos c1, decide_eq_true (by clear ew ewa et ex; omega)]
      refine Ev.step (f := fun k => law7Adds.l1 k l1 (cutI ids a) ((i + 1 : Nat) : Int) 0 (⟨#[120]⟩ : ByteArray) ((cutI ids a).map mkV)) (fun k => ?_) nx
      have k1 : ¬ (ids.length : Int) = 0 := by clear ew ewa et ex; omega
      have k2 : (0 : Int) ≤ (a : Int) := Int.natCast_nonneg _
      have k3 : (a : Int) < (ids.length : Int) := by clear ew ewa et ex; omega
      have k4 : (a : Int) ≤ (ids.length : Int) := by clear ew ewa et ex; omega
      have k5 : (0 : Int) ≤ ((a + 1 : Nat) : Int) := Int.natCast_nonneg _
      have k6 : ((a + 1 : Nat) : Int) ≤ (ids.length : Int) := by clear ew ewa et ex; omega
      have k7 : ([] : List Int).length + (ids.take a).length < 17592186044416 := by rw [List.length_nil, List.length_take]; clear ew ewa et ex; omega
      have k8 : (([] : List Int) ++ ids.take a).length + (ids.drop (a + 1)).length < 17592186044416 := by rw [List.nil_append, List.length_take, List.length_drop]; clear ew ewa et ex; omega
      rw [law7Adds.j3, if_pos rfl, if_pos (Int.natCast_nonneg _), if_pos c1, if_neg k1, et, if_pos k2, if_pos k3, rd_int ids a ha, d1, Option.bind_some, d2, Option.bind_some, if_pos rfl, if_neg (by decide), Option.bind_some, if_pos k4, Option.bind_some, Int.toNat_natCast, if_pos k7, Option.bind_some, ewa, if_pos k5, if_pos k6, Option.bind_some, Int.toNat_natCast, if_pos k8, ew, List.nil_append]
      rfl
    · refine Ev.step (f := fun k => law7Adds.j3 k l1 ids (i : Int) false 0 (⟨#[120]⟩ : ByteArray) (ids.map mkV)) (fun k => ?_) (adds_end h l1 i)
      rw [law7Adds.l1, if_pos c1, decide_eq_false (by omega)]
theorem adds_nums (id x : Nat) (hid : id ≤ 1000) (hx : x < 256) : wrap64 ((id : Int) + 1) = ((id + 1 : Nat) : Int) ∧ Int.tmod (wrap64 (x : Int)) 9 = ((x % 9 : Nat) : Int) ∧ wrap64 (((id + 1 : Nat) : Int) + ((x % 9 : Nat) : Int)) = ((id + 1 + x % 9 : Nat) : Int) ∧ wrap64 (((id + 1 + x % 9 : Nat) : Int) - 1) = ((id + 1 + x % 9 : Nat) : Int) - 1 := by
  have hm : x % 9 < 9 := Nat.mod_lt _ (by decide)
  refine ⟨?_, ?_, ?_, ?_⟩
  · rw [w64_lt (by omega) (by omega)]; omega
  · rw [w64_lt (by omega) (by omega : (x : Int) < _)]
    exact tmod_nat x 9
  · generalize x % 9 = m at hm ⊢
    rw [w64_lt (by omega) (by omega)]; omega
  · generalize x % 9 = m at hm ⊢
    exact w64_lt (by omega) (by omega)
theorem adds_l0 (l0 l1 : List Int) (h0 : Bytes l0) (h1 : Bytes l1) (hl0 : l0.length ≤ 60) (hl1 : l1.length ≤ 60) (d : Nat) : ∀ (i : Nat) (id : Nat) (ids : List Int), Ids ids → ids.length = i → id ≤ 9 * i → (∀ x ∈ ids, x ≤ (id : Int)) → i + d = l0.length →
    Ev (fun k => law7Adds.l0 k l0 l1 (id : Int) ids (i : Int) 0 (⟨#[120]⟩ : ByteArray) (ids.map mkV)) true := by
  induction d with
  | zero =>
    intro i id ids h _ _ _ hi
    refine Ev.step (f := fun k => law7Adds.l1 k l1 ids ((0 : Nat) : Int) 0 (⟨#[120]⟩ : ByteArray) (ids.map mkV)) (fun k => ?_) (adds_l1 l1 h1 hl1 l1.length 0 ids h (by omega))
    rw [law7Adds.l0, if_neg (by omega)]
    rfl
  | succ d ih =>
    intro i id ids h hlen hid hle hi
    obtain ⟨x, ex, hx⟩ := rd_byte h0 i (by omega)
    obtain ⟨nid, en⟩ : ∃ nid, nid = id + 1 + x % 9 := ⟨_, rfl⟩
    have hm : x % 9 < 9 := Nat.mod_lt _ (by decide)
    have h' : Ids (ids ++ [(nid : Int)]) := by
      refine ⟨List.pairwise_append.2 ⟨h.up, List.pairwise_singleton _ _, fun a ha b hb => ?_⟩, fun y hy => ?_, by rw [List.length_append, List.length_singleton]; omega⟩
      · rw [List.mem_singleton.1 hb]
        have := hle a ha
        omega
      · rcases List.mem_append.1 hy with hy | hy
        · exact h.lo y hy
        · rw [List.mem_singleton.1 hy]
          omega
    have hmap : (ids ++ [(nid : Int)]).map mkV = ids.map mkV ++ [mkV nid] := by rw [List.map_append]; rfl
    have hmay := h'.may
    rw [hmap] at hmay
    obtain ⟨K1, g1⟩ := add_ev 0 (⟨#[120]⟩ : ByteArray) (ids.map mkV) (mkV nid)
    obtain ⟨K2, g2⟩ := add_ev 0 (⟨#[120]⟩ : ByteArray) (ids.map mkV ++ [mkV nid]) (mkV ((nid : Int) - 1))
    have a1 : addR 0 (⟨#[120]⟩ : ByteArray) (ids.map mkV) (mkV nid) = (0, (⟨#[120]⟩ : ByteArray), ids.map mkV ++ [mkV nid], 0) := by
      unfold addR
      rw [if_neg (by rw [List.length_map]; have := h.len; omega), if_pos hmay]
    have a2 : addR 0 (⟨#[120]⟩ : ByteArray) (ids.map mkV ++ [mkV nid]) (mkV ((nid : Int) - 1)) = errJ 1 := by
      unfold addR
      rw [if_neg (by rw [List.length_append, List.length_map, List.length_singleton]; have := h.len; omega), if_neg]
      intro hc
      unfold mayJ at hc
      rw [Bool.and_eq_true] at hc
      have := okFrom_last _ _ _ hc.2 (mkV nid) (by simp)
      have this : (nid : Int) < (nid : Int) - 1 := this
      omega
    rw [a1] at g1
    rw [a2] at g2
    obtain ⟨K3, g3⟩ := ih (i + 1) nid (ids ++ [(nid : Int)]) h' (by rw [List.length_append, List.length_singleton, hlen]) (by omega) (fun y hy => by
      rcases List.mem_append.1 hy with hy | hy
      · have := hle y hy; omega
      · rw [List.mem_singleton.1 hy]; omega) (by omega)
    rw [hmap] at g3
    have c1 : (i : Int) < (l0.length : Int) := by omega
    have c2 : ids.length < 17592186044416 := by omega
    refine ⟨max K1 (max K2 K3) + 1, fun k hk => ?_⟩
    obtain ⟨k, rfl⟩ : ∃ j, k = j + 1 := ⟨k - 1, by omega⟩
    have g1 := g1 k (by omega)
    have g2 := g2 k (by omega)
    have g3 := g3 k (by omega)
    simp only at g1 g2 g3
    have g1' : journal_Add.f k 0 (⟨#[120]⟩ : ByteArray) (ids.map mkV) (nid : Int) false 0 0 = some (0, (⟨#[120]⟩ : ByteArray), ids.map mkV ++ [mkV nid], 0) := g1
    have g2' : journal_Add.f k 0 (⟨#[120]⟩ : ByteArray) (ids.map mkV ++ [mkV nid]) ((nid : Int) - 1) false 0 0 = some (errJ 1) := g2
    show law7Adds.l0 (k + 1) l0 l1 (id : Int) ids (i : Int) 0 (⟨#[120]⟩ : ByteArray) (ids.map mkV) = _
    have en4 := adds_nums id x (by omega) hx
    rw [← en] at en4
    rw [law7Adds.l0, if_pos c1, if_pos (Int.natCast_nonneg _), en4.1, ex, en4.2.1, en4.2.2.1, g1', Option.bind_some, en4.2.2.2, g2', Option.bind_some, if_pos rfl, if_pos (show (errJ 1).2.2.2 = 1 from rfl), if_pos c2, nextw i (by omega)]
    exact g3
theorem JournalAdds : law7Adds.Pure := by
  intro l0 l1 _ _ w0 _ _ w1
  have h0 : Bytes l0 := bytes_of w0
  have h1 : Bytes l1 := bytes_of w1
  refine Ev.rounds (g := fun k => law7Adds.f k l0 l1) ?_
  obtain ⟨K0, g0⟩ := awake7_ev
  have jt : Ev (fun k => law7Adds.j0 k l0 l1 true) true := Ev.step (f := fun _ => some true) (fun k => by rw [law7Adds.j0, if_pos rfl]) (Ev.now _)
  have main : Ev (fun k => if (l0.length : Int) > 60 then (law7Adds.j0 k l0 l1 true) else (law7Adds.j0 k l0 l1 (decide ((l1.length : Int) > 60)))) true := by
    by_cases c0 : (l0.length : Int) > 60
    · simp only [if_pos c0]; exact jt
    · simp only [if_neg c0]
      by_cases c1 : (l1.length : Int) > 60
      · rw [decide_eq_true c1]; exact jt
      · rw [decide_eq_false c1]
        refine Ev.step (f := fun k => law7Adds.l0 k l0 l1 ((0 : Nat) : Int) [] ((0 : Nat) : Int) 0 (⟨#[120]⟩ : ByteArray) (([] : List Int).map mkV)) (fun k => by rw [law7Adds.j0, if_neg (by decide)]; rfl)
          (adds_l0 l0 l1 h0 h1 (by omega) (by omega) l0.length 0 0 [] ⟨List.Pairwise.nil, fun x hx => (by cases hx), by decide⟩ rfl (by decide) (fun x hx => by cases hx) (by omega))
  obtain ⟨K1, g1⟩ := main
  refine ⟨max K0 K1, fun k hk => ?_⟩
  have g0 := g0 k (by omega)
  have g1 := g1 k (by omega)
  simp only at g0 g1
  show law7Adds.f k l0 l1 = _
  rw [law7Adds.f, g0, Option.bind_some, if_pos rfl]
  exact g1

end Go.Proofs.Ytnlpipjdpmaggaa.Pure
