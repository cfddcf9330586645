/- The pure half of CrcParts: a sum goes on piece by piece, however it is cut, for every row of at most 4000 bytes and at most 100 cuts; longer ones are let by as the statement lets them by. -/
import Derived.Test.YtjibdkbfjjeheaaPCrcPartsx1
import Derived.Test.YtjibdkbfjjeheaaMath
set_option linter.unusedVariables false
set_option linter.unusedSimpArgs false
namespace Go.Proofs.Ytjibdkbfjjeheaa.Pure
open Go.RowKit Go.Proofs.Ytjibdkbfjjeheaa.PCrcParts Go.Proofs.YtjibdkbfjjeheaaW.PrintWords Go.Proofs.YtjibdkbfjjeheaaW.PrintLast Go.Proofs.YtjibdkbfjjeheaaW.PrintMore CrcMath

theorem w64_lt {n : Int} (h0 : 0 ≤ n) (h : n < 9223372036854775807) : wrap64 n = n := by unfold wrap64; omega

theorem more_l1 (l : List Int) (n i : Int) (r : Int) (d : Nat) : ∀ (S : W) (j : Int), j + d = 8 → 0 ≤ j →
    Ev (fun k => crc_More.l0 k (toI (steps d S)) l n (wrap64 (i + 1))) r → Ev (fun k => crc_More.l1 k (toI S) l n i j) r := by
  induction d with
  | zero =>
    intro S j hj h0 h
    refine Ev.step (f := fun k => crc_More.l0 k (toI S) l n (wrap64 (i + 1))) (fun k => ?_) h
    simp only [crc_More.l1]
    rw [if_neg (by omega)]
  | succ d ih =>
    intro S j hj h0 h
    refine Ev.step (f := fun k => crc_More.l1 k (toI (CrcMath.step S)) l n i (j + 1)) (fun k => ?_) (ih (CrcMath.step S) (j + 1) (by omega) (by omega) h)
    simp only [crc_More.l1]
    rw [if_pos (by omega), w64_lt (by omega) (by omega), low]
    cases hs : S.getLsbD 0 with
    | true => simp only [if_true]; rw [step_on hs]
    | false => rw [if_neg (by simp), step_off hs]

theorem more_l0 (l : List Int) (hl : l.length < 4611686018427387904) (rest : List Int) : ∀ (pre : List Int) (S : W), l = pre ++ rest → Bytes rest →
    Ev (fun k => crc_More.l0 k (toI S) l (l.length : Int) (pre.length : Int)) (toI (~~~ (CrcMath.run S rest))) := by
  induction rest with
  | nil =>
    intro pre S e _
    refine Ev.step (f := fun _ => some (toI (~~~ S))) (fun k => ?_) (Ev.now _)
    simp only [crc_More.l0]
    have : l.length = pre.length := by rw [e]; simp
    rw [if_neg (by omega), not_toI]
  | cons x rest ih =>
    intro pre S e hb
    have hx := hb x (by simp)
    have hlen : l.length = pre.length + (rest.length + 1) := by rw [e]; simp
    have hrd : rd l (pre.length : Int) = x := by
      unfold rd
      rw [Int.toNat_natCast, e]
      simp [List.getD_eq_getElem?_getD]
    refine Ev.step (f := fun k => crc_More.l1 k (toI (S ^^^ BitVec.ofInt 32 x)) l (l.length : Int) (pre.length : Int) 0) (fun k => ?_) ?_
    · simp only [crc_More.l0]
      rw [if_pos (by omega), if_pos (by omega), if_pos (by omega), hrd, Int.emod_eq_of_lt hx.1 (by omega)]
      rw [← toI_of hx.1 (by omega : x < 4294967296), xor_toI, toI_of hx.1 (by omega)]
    · refine more_l1 l _ _ _ 8 _ 0 (by omega) (by omega) ?_
      have h := ih (pre ++ [x]) (byteStep S x) (by rw [e]; simp) (fun y hy => hb y (by simp [hy]))
      have e2 : ((pre ++ [x]).length : Int) = wrap64 ((pre.length : Int) + 1) := by
        rw [w64_lt (by omega) (by omega)]; simp
      rw [e2] at h
      exact h

theorem more_ev (S : W) (l : List Int) (hl : l.length < 4611686018427387904) (hb : Bytes l) : Ev (fun k => crc_More.f k (toI S) l) (toI (moreW S l)) := by
  have h := more_l0 l hl l [] (~~~ S) rfl hb
  refine Ev.congr (fun k => ?_) h
  unfold crc_More.f
  rw [not_toI]; rfl

theorem sum_ev (l : List Int) (hl : l.length < 4611686018427387904) (hb : Bytes l) : Ev (fun k => crc_Sum.f k l) (toI (sumW l)) := by
  have h := more_ev 0 l hl hb
  unfold crc_Sum.f
  exact Ev.bind (g := fun k => crc_More.f k 0 l) (f := fun _ t => some t) h (Ev.now _)

theorem awake_ev : Ev (fun k => strongboxlaw4_awake.f k) true := by
  have h1 := sum_ev [49, 50, 51, 52, 53, 54, 55, 56, 57] (by decide) (by unfold Bytes; decide)
  have h2 := sum_ev [] (by decide) (by unfold Bytes; decide)
  have e1 : toI (sumW [49, 50, 51, 52, 53, 54, 55, 56, 57]) = 3808858755 := by decide +kernel
  have e2 : toI (sumW []) = 0 := by decide +kernel
  rw [e1] at h1
  rw [e2] at h2
  unfold strongboxlaw4_awake.f
  refine Ev.bind (g := fun k => crc_Sum.f k [49, 50, 51, 52, 53, 54, 55, 56, 57]) h1 ?_
  simp only [if_true]
  refine Ev.bind (g := fun k => crc_Sum.f k []) (f := fun _ t => some (t == 0)) h2 ?_
  exact Ev.now _

theorem rd_bytes {l : List Int} (h : Bytes l) (i : Int) (h0 : 0 ≤ i) (h1 : i < l.length) : 0 ≤ rd l i ∧ rd l i < 256 := by
  unfold rd
  rw [List.getD_eq_getElem?_getD, List.getElem?_eq_getElem (by omega)]
  exact h _ (List.getElem_mem _)

theorem parts_l0 (b cuts : List Int) (hb : Bytes b) (hc : Bytes cuts) (hl : b.length ≤ 4000) (hm : cuts.length ≤ 100) (d : Nat) : ∀ (i : Int) (a : Nat), 0 ≤ i → i + d = cuts.length → a ≤ b.length →
    Ev (fun k => strongboxlaw4_CrcParts.l0 k b cuts (toI (sumW (b.take a))) (a : Int) i) true := by
  induction d with
  | zero =>
    intro i a h0 hi ha
    refine Ev.step (f := fun k => (crc_More.f k (toI (sumW (b.take a))) (b.drop a)).bind fun t114 => ((crc_Sum.f k b).bind fun t115 => (if t114 = t115 then ((crc_More.f k t114 ([] : List Int)).bind fun t116 => (some (t116 == t114))) else (some false)))) (fun k => ?_) ?_
    · simp only [strongboxlaw4_CrcParts.l0]
      rw [if_neg (by omega), if_pos (by omega), if_pos (by omega), Int.toNat_natCast]
    · have h1 := more_ev (sumW (b.take a)) (b.drop a) (by rw [List.length_drop]; omega) (hb.sub fun x hx => List.mem_of_mem_drop hx)
      have e1 : moreW (sumW (b.take a)) (b.drop a) = sumW b := by
        unfold sumW
        rw [← moreW_append, List.take_append_drop]
      rw [e1] at h1
      refine Ev.bind h1 ?_
      refine Ev.bind (sum_ev b (by omega) hb) ?_
      simp only [if_true]
      have h2 := more_ev (sumW b) [] (by simp) (fun x hx => by simp at hx)
      rw [moreW_nil] at h2
      refine Ev.bind (f := fun _ t => some (t == toI (sumW b))) h2 ?_
      rw [beq_self_eq_true]
      exact Ev.now _
  | succ d ih =>
    intro i a h0 hi ha
    have hr := rd_bytes hc i h0 (by omega)
    obtain ⟨m, hm'⟩ : ∃ m : Nat, mn (wrap64 (rd cuts i)) (wrap64 ((b.length : Int) - (a : Int))) = (m : Int) ∧ a + m ≤ b.length := by
      refine ⟨(mn (wrap64 (rd cuts i)) (wrap64 ((b.length : Int) - (a : Int)))).toNat, ?_⟩
      rw [w64_lt hr.1 (by omega), w64_lt (by omega) (by omega)]
      unfold mn
      split <;> omega
    obtain ⟨hm1, hm2⟩ := hm'
    refine Ev.step (f := fun k => (crc_More.f k (toI (sumW (b.take a))) ((b.take (a + m)).drop a)).bind fun t112 => (strongboxlaw4_CrcParts.l0 k b cuts t112 ((a + m : Nat) : Int) (i + 1))) (fun k => ?_) ?_
    · simp only [strongboxlaw4_CrcParts.l0]
      have e : wrap64 ((a : Int) + (m : Int)) = ((a + m : Nat) : Int) := by rw [w64_lt (by omega) (by omega)]; omega
      rw [hm1, e, if_pos (by omega), if_pos h0, if_pos (by omega), if_pos (by omega), if_pos (by omega), Int.toNat_natCast, Int.toNat_natCast, w64_lt (by omega) (by omega)]
    · have h1 := more_ev (sumW (b.take a)) ((b.take (a + m)).drop a) (by simp; omega) (hb.sub fun x hx => List.mem_of_mem_take (List.mem_of_mem_drop hx))
      have e1 : moreW (sumW (b.take a)) ((b.take (a + m)).drop a) = sumW (b.take (a + m)) := by
        unfold sumW
        rw [← moreW_append]
        congr 1
        have := List.take_append_drop a (b.take (a + m))
        rw [List.take_take, Nat.min_eq_left (by omega)] at this
        exact this
      rw [e1] at h1
      exact Ev.bind h1 (ih (i + 1) (a + m) (by omega) (by omega) hm2)

theorem CrcParts : strongboxlaw4_CrcParts.Pure := by
  intro b cuts _ _ hb0 _ _ hc0
  have hb := bytes_of hb0
  have hc := bytes_of hc0
  refine Ev.rounds ?_
  have ht : Ev (fun k => strongboxlaw4_CrcParts.j0 k b cuts true) true :=
    Ev.step (f := fun _ => some true) (fun k => by simp only [strongboxlaw4_CrcParts.j0, if_true]) (Ev.now _)
  unfold strongboxlaw4_CrcParts.f
  refine Ev.bind (g := fun k => strongboxlaw4_awake.f k) awake_ev ?_
  simp only [if_true]
  by_cases h1 : (b.length : Int) > 4000
  · simp only [if_pos h1]; exact ht
  · simp only [if_neg h1]
    by_cases h2 : (cuts.length : Int) > 100
    · rw [decide_eq_true h2]; exact ht
    · rw [decide_eq_false h2]
      refine Ev.step (f := fun k => (crc_Sum.f k ([] : List Int)).bind fun t109 => (strongboxlaw4_CrcParts.l0 k b cuts t109 0 0)) (fun k => by simp only [strongboxlaw4_CrcParts.j0, Bool.false_eq_true, if_false]) ?_
      refine Ev.bind (sum_ev [] (by decide) (fun x hx => by simp at hx)) ?_
      have := parts_l0 b cuts hb hc (by omega) (by omega) cuts.length 0 0 (by omega) (by omega) (by omega)
      exact this

end Go.Proofs.Ytjibdkbfjjeheaa.Pure
