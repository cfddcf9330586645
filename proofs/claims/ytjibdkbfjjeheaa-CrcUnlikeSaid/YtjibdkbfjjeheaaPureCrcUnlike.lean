/- The pure half of CrcUnlike: of two rows of 4 to 4000 bytes that are unlike only within 32 bits in a row the sums are unlike, and the sum of what is put together by exclusive or goes the same way; other rows are let by as the statement lets them by. -/
import Derived.Test.YtjibdkbfjjeheaaPCrcUnlikex1
import Derived.Test.YtjibdkbfjjeheaaMath
set_option linter.unusedVariables false
set_option linter.unusedSimpArgs false
namespace Go.Proofs.Ytjibdkbfjjeheaa.Pure
open Go.RowKit Go.Proofs.Ytjibdkbfjjeheaa.PCrcUnlike Go.Proofs.YtjibdkbfjjeheaaW.PrintWords Go.Proofs.YtjibdkbfjjeheaaW.PrintLast Go.Proofs.YtjibdkbfjjeheaaW.PrintMore CrcMath

theorem w64_lt {n : Int} (h0 : 0 ≤ n) (h : n < 9223372036854775807) : wrap64 n = n := by unfold wrap64; omega

theorem more_l1 (l : List Int) (n i : Int) (r : Int) (d : Nat) : ∀ (S : W) (j : Int), j + d = 8 → 0 ≤ j →
    Ev (fun k => crc_More.l0 k (toI (steps d S)) l n (wrap64 (i + 1))) r → Ev (fun k => crc_More.l1 k (toI S) l n i j) r := by
  induction d with
  | zero =>
    intro S j hj h0 h
    refine Ev.step (f := fun k => crc_More.l0 k (toI S) l n (wrap64 (i + 1))) (fun k => ?_) h
    simp only [crc_More.l1]
    rw [if_neg (by omega)]
  | succ d ih =>
    intro S j hj h0 h
    refine Ev.step (f := fun k => crc_More.l1 k (toI (CrcMath.step S)) l n i (j + 1)) (fun k => ?_) (ih (CrcMath.step S) (j + 1) (by omega) (by omega) h)
    simp only [crc_More.l1]
    rw [if_pos (by omega), w64_lt (by omega) (by omega), low]
    cases hs : S.getLsbD 0 with
    | true => simp only [if_true]; rw [step_on hs]
    | false => rw [if_neg (by simp), step_off hs]

theorem more_l0 (l : List Int) (hl : l.length < 4611686018427387904) (rest : List Int) : ∀ (pre : List Int) (S : W), l = pre ++ rest → Bytes rest →
    Ev (fun k => crc_More.l0 k (toI S) l (l.length : Int) (pre.length : Int)) (toI (~~~ (CrcMath.run S rest))) := by
  induction rest with
  | nil =>
    intro pre S e _
    refine Ev.step (f := fun _ => some (toI (~~~ S))) (fun k => ?_) (Ev.now _)
    simp only [crc_More.l0]
    have : l.length = pre.length := by rw [e]; simp
    rw [if_neg (by omega), not_toI]
  | cons x rest ih =>
    intro pre S e hb
    have hx := hb x (by simp)
    have hlen : l.length = pre.length + (rest.length + 1) := by rw [e]; simp
    have hrd : rd l (pre.length : Int) = x := by
      unfold rd
      rw [Int.toNat_natCast, e]
      simp [List.getD_eq_getElem?_getD]
    refine Ev.step (f := fun k => crc_More.l1 k (toI (S ^^^ BitVec.ofInt 32 x)) l (l.length : Int) (pre.length : Int) 0) (fun k => ?_) ?_
    · simp only [crc_More.l0]
      rw [if_pos (by omega), if_pos (by omega), if_pos (by omega), hrd, Int.emod_eq_of_lt hx.1 (by omega)]
      rw [← toI_of hx.1 (by omega : x < 4294967296), xor_toI, toI_of hx.1 (by omega)]
    · refine more_l1 l _ _ _ 8 _ 0 (by omega) (by omega) ?_
      have h := ih (pre ++ [x]) (byteStep S x) (by rw [e]; simp) (fun y hy => hb y (by simp [hy]))
      have e2 : ((pre ++ [x]).length : Int) = wrap64 ((pre.length : Int) + 1) := by
        rw [w64_lt (by omega) (by omega)]; simp
      rw [e2] at h
      exact h

theorem more_ev (S : W) (l : List Int) (hl : l.length < 4611686018427387904) (hb : Bytes l) : Ev (fun k => crc_More.f k (toI S) l) (toI (moreW S l)) := by
  have h := more_l0 l hl l [] (~~~ S) rfl hb
  refine Ev.congr (fun k => ?_) h
  unfold crc_More.f
  rw [not_toI]; rfl

theorem sum_ev (l : List Int) (hl : l.length < 4611686018427387904) (hb : Bytes l) : Ev (fun k => crc_Sum.f k l) (toI (sumW l)) := by
  have h := more_ev 0 l hl hb
  unfold crc_Sum.f
  exact Ev.bind (g := fun k => crc_More.f k 0 l) (f := fun _ t => some t) h (Ev.now _)

theorem awake_ev : Ev (fun k => strongboxlaw4_awake.f k) true := by
  have h1 := sum_ev [49, 50, 51, 52, 53, 54, 55, 56, 57] (by decide) (by unfold Bytes; decide)
  have h2 := sum_ev [] (by decide) (by unfold Bytes; decide)
  have e1 : toI (sumW [49, 50, 51, 52, 53, 54, 55, 56, 57]) = 3808858755 := by decide +kernel
  have e2 : toI (sumW []) = 0 := by decide +kernel
  rw [e1] at h1
  rw [e2] at h2
  unfold strongboxlaw4_awake.f
  refine Ev.bind (g := fun k => crc_Sum.f k [49, 50, 51, 52, 53, 54, 55, 56, 57]) h1 ?_
  simp only [if_true]
  refine Ev.bind (g := fun k => crc_Sum.f k []) (f := fun _ t => some (t == 0)) h2 ?_
  exact Ev.now _

theorem mask_bit (M i : Nat) (hM : M < 4294967296) (hi : i < 32) : (Go.bits .and .u32 (shr .u32 (M : Int) (IntKind.u64.wrap (i : Int))) 1 = 1) ↔ M.testBit i = true := by
  have e1 : IntKind.u64.wrap (i : Int) = (i : Int) := by rw [IntKind.wrap_u64]; omega
  have e2 : shr .u32 (M : Int) (i : Int) = ((M / 2 ^ i : Nat) : Int) := by
    unfold shr
    rw [Int.toNat_natCast, Nat.min_eq_left (by show i ≤ 32; omega)]
    simp
  have hlt : M / 2 ^ i < 4294967296 := Nat.lt_of_le_of_lt (Nat.div_le_self _ _) hM
  have e3 := u32_and_nat (M / 2 ^ i) 1 hlt (by omega)
  rw [e1, e2]
  show Go.bits .and .u32 ((M / 2 ^ i : Nat) : Int) ((1 : Nat) : Int) = 1 ↔ _
  rw [e3, Nat.and_one_is_mod, Nat.testBit_eq_decide_div_mod_eq, decide_eq_true_iff]
  omega
theorem place (f i : Nat) (h : f + i < 9223372036854775807) : wrap64 (Int.tdiv (wrap64 ((f : Int) + (i : Int))) 8) = (((f + i) / 8 : Nat) : Int) ∧ IntKind.u64.wrap (Int.tmod (wrap64 ((f : Int) + (i : Int))) 8) = (((f + i) % 8 : Nat) : Int) := by
  have e : wrap64 ((f : Int) + (i : Int)) = ((f + i : Nat) : Int) := by rw [w64_lt (by omega) (by omega)]; omega
  rw [e]
  have e1 : Int.tdiv ((f + i : Nat) : Int) 8 = (((f + i) / 8 : Nat) : Int) := rfl
  have e2 : Int.tmod ((f + i : Nat) : Int) 8 = (((f + i) % 8 : Nat) : Int) := rfl
  rw [e1, e2, w64_lt (by omega) (by omega), IntKind.wrap_u64]
  omega
theorem turned (l : List Int) (hb : Bytes l) (p r : Nat) (hp : p < l.length) (hr : r < 8) :
    Go.bits .xor .u8 (rd l (p : Int)) (shl .u8 1 (r : Int)) = ((((l.getD p 0).toNat ^^^ 2 ^ r : Nat)) : Int) := by
  have hx := hb l[p] (List.getElem_mem hp)
  have hg : l.getD p 0 = l[p] := by rw [List.getD_eq_getElem?_getD, List.getElem?_eq_getElem hp]; rfl
  have h2 : (2 : Nat) ^ r < 2 ^ 8 := Nat.pow_lt_pow_right (by omega) hr
  have e1 : shl .u8 1 (r : Int) = ((2 ^ r : Nat) : Int) := by
    unfold shl
    rw [Int.toNat_natCast, Nat.min_eq_left (by show r ≤ 8; omega), Int.one_mul, IntKind.wrap_u8']
    have : ((2 : Int) ^ r) = ((2 ^ r : Nat) : Int) := by simp
    rw [this]
    have h3 : (2 : Nat) ^ r < 256 := h2
    generalize (2 : Nat) ^ r = q at h3 ⊢
    omega
  have e2 : rd l (p : Int) = ((l.getD p 0).toNat : Int) := by
    unfold rd
    rw [Int.toNat_natCast, hg]
    omega
  rw [e1, e2, u8_xor_nat _ _ (by rw [hg]; omega) (by omega)]

theorem noughts (n : Nat) : Bytes (List.replicate n 0) := fun x hx => by
  rw [List.eq_of_mem_replicate hx]; omega
theorem nought_bit (n j : Nat) : bitAt (List.replicate n 0) j = false := by
  unfold bitAt
  have : (List.replicate n (0 : Int)).getD (j / 8) 0 = 0 := by
    rw [List.getD_eq_getElem?_getD, List.getElem?_replicate]
    split <;> rfl
  rw [this]
  exact Nat.zero_testBit _

theorem unlike_l0 (a : List Int) (ha : Bytes a) (h4 : 4 ≤ a.length) (hl : a.length ≤ 4000) (M f : Nat) (hM0 : M ≠ 0) (hM : M < 4294967296) (hf : f + 32 ≤ 8 * a.length) (d : Nat) :
    ∀ (i : Nat) (b e : List Int), i + d = 32 → Burst a b f M i → Burst (List.replicate a.length 0) e f M i →
      Ev (fun k => strongboxlaw4_CrcUnlike.l0 k a (M : Int) b e (f : Int) (i : Int)) true := by
  induction d with
  | zero =>
    intro i b e hi hB hE
    obtain rfl : i = 32 := by omega
    have hne : sumW a ≠ sumW b := sum_unlike a b ha hB.bytes hB.len.symm f hB.window (hB.some hM0 hM hf)
    have hxor := sum_xor a b e (List.replicate a.length 0) ha hB.bytes hE.bytes (noughts _) hB.len.symm (by rw [hE.len]; simp) (by simp)
      (fun j hj => by rw [hE.bits j (by simpa using hj), hB.bits j hj, nought_bit, Bool.false_xor, ← Bool.xor_assoc, Bool.xor_self, Bool.false_xor]) (fun j _ => nought_bit _ j)
    have sz := sum_ev (List.replicate a.length 0) (by simp; omega) (noughts _)
    have sa := sum_ev a (by omega) ha
    have sb := sum_ev b (by rw [hB.len]; omega) hB.bytes
    have se := sum_ev e (by rw [hE.len]; simp; omega) hE.bytes
    refine Ev.step (f := fun k => (crc_Sum.f k (List.replicate a.length 0)).bind fun t125 => ((crc_Sum.f k a).bind fun t126 => ((crc_Sum.f k b).bind fun t127 => (if t126 = t127 then (some false) else ((crc_Sum.f k a).bind fun t128 => ((crc_Sum.f k b).bind fun t129 => ((crc_Sum.f k e).bind fun t130 => (some ((Go.bits .xor .u32 t128 t129) == (Go.bits .xor .u32 t130 t125)))))))))) (fun k => ?_) ?_
    · simp only [strongboxlaw4_CrcUnlike.l0]
      rw [if_neg (by omega), if_pos (by omega), if_pos (by omega)]
      rfl
    · refine Ev.bind sz (Ev.bind sa (Ev.bind sb ?_))
      simp only [if_neg (fun h => hne (toI_inj h))]
      refine Ev.bind sa (Ev.bind sb (Ev.bind (f := fun _ t => some (Go.bits .xor .u32 (toI (sumW a)) (toI (sumW b)) == Go.bits .xor .u32 t (toI (sumW (List.replicate a.length 0))))) se ?_))
      rw [xor_toI, xor_toI, hxor, beq_self_eq_true]
      exact Ev.now _
  | succ d ih =>
    intro i b e hi hB hE
    have hp := place f i (by omega)
    have ew : wrap64 ((i : Int) + 1) = ((i + 1 : Nat) : Int) := by rw [w64_lt (by omega) (by omega)]; omega
    have eu : (0 : Int) ≤ IntKind.u64.wrap (i : Int) := by rw [IntKind.wrap_u64]; omega
    cases hbit : M.testBit i with
    | true =>
      have hB2 := hB.turn hbit (by omega) _ rfl
      have hE2 := hE.turn hbit (by simp; omega) _ rfl
      refine Ev.step (f := fun k => strongboxlaw4_CrcUnlike.l0 k a (M : Int) _ _ (f : Int) ((i + 1 : Nat) : Int)) (fun k => ?_) (ih (i + 1) _ _ (by omega) hB2 hE2)
      simp only [strongboxlaw4_CrcUnlike.l0]
      have lb : (f + i) / 8 < b.length := by rw [hB.len]; omega
      have le : (f + i) / 8 < e.length := by rw [hE.len]; simp; omega
      rw [if_pos (by omega), if_pos eu, if_pos ((mask_bit M i hM (by omega)).2 hbit), hp.1, hp.2, if_pos (by omega), if_pos (by omega), if_pos (by omega), if_pos (by omega),
        turned b hB.bytes _ _ lb (by omega), turned e hE.bytes _ _ le (by omega), Int.toNat_natCast, ew]
    | false =>
      refine Ev.step (f := fun k => strongboxlaw4_CrcUnlike.l0 k a (M : Int) b e (f : Int) ((i + 1 : Nat) : Int)) (fun k => ?_) (ih (i + 1) _ _ (by omega) (hB.skip hbit) (hE.skip hbit))
      simp only [strongboxlaw4_CrcUnlike.l0]
      rw [if_pos (by omega), if_pos eu, if_neg (fun h => by have := (mask_bit M i hM (by omega)).1 h; rw [hbit] at this; cases this), ew]

theorem CrcUnlike : strongboxlaw4_CrcUnlike.Pure := by
  intro a at0 mask _ _ ha0 hat hmask
  have ha := bytes_of ha0
  refine Ev.rounds ?_
  have ht : Ev (fun k => strongboxlaw4_CrcUnlike.j0 k a at0 mask true) true :=
    Ev.step (f := fun _ => some true) (fun k => by simp only [strongboxlaw4_CrcUnlike.j0, if_true]) (Ev.now _)
  unfold strongboxlaw4_CrcUnlike.f
  refine Ev.bind (g := fun k => strongboxlaw4_awake.f k) awake_ev ?_
  simp only [if_true]
  by_cases h1 : (a.length : Int) < 4
  · simp only [if_pos h1]; exact ht
  simp only [if_neg h1]
  by_cases h2 : (a.length : Int) > 4000
  · simp only [if_pos h2]; exact ht
  simp only [if_neg h2]
  by_cases h3 : mask = 0
  · rw [beq_iff_eq.2 h3]; exact ht
  rw [beq_eq_false_iff_ne.2 h3]
  have ba := bounds_u32 hat
  have bm := bounds_u32 hmask
  obtain ⟨A, rfl⟩ := Int.eq_ofNat_of_zero_le ba.1
  obtain ⟨M, rfl⟩ := Int.eq_ofNat_of_zero_le bm.1
  have e1 : wrap64 ((wrap64 (8 * (a.length : Int))) - 31) = ((8 * a.length - 31 : Nat) : Int) := by
    rw [w64_lt (n := 8 * (a.length : Int)) (by omega) (by omega), w64_lt (by omega) (by omega)]; omega
  have e2 : Int.tmod (wrap64 (A : Int)) ((8 * a.length - 31 : Nat) : Int) = ((A % (8 * a.length - 31) : Nat) : Int) := by
    rw [w64_lt (by omega) (by omega)]; rfl
  have hm := Nat.mod_lt A (show 0 < 8 * a.length - 31 by omega)
  refine Ev.step (f := fun k => strongboxlaw4_CrcUnlike.l0 k a (M : Int) a (List.replicate a.length 0) ((A % (8 * a.length - 31) : Nat) : Int) 0) (fun k => ?_) ?_
  · simp only [strongboxlaw4_CrcUnlike.j0, Bool.false_eq_true, if_false, Option.bind_some]
    rw [if_pos (by simp only [List.length_nil]; omega), if_pos (by omega), if_pos (by omega), e1, if_neg (by omega), e2]
    rfl
  · exact unlike_l0 a ha (by omega) (by omega) M _ (by omega) (by omega) (by omega) 32 0 a (List.replicate a.length 0) (by omega) (Burst.start ha _ _) (Burst.start (noughts _) _ _)

end Go.Proofs.Ytjibdkbfjjeheaa.Pure
