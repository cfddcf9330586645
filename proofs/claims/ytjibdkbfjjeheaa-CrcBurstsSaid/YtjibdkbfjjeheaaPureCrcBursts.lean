/- The pure half of CrcBursts: whatever is changed within 32 bits in a row, of at most 4000 bytes or of their sum behind them, is told; longer rows and a change of nothing are let by as the statement lets them by. -/
import Derived.Test.YtjibdkbfjjeheaaPCrcBurstsx2
import Derived.Test.YtjibdkbfjjeheaaMath
set_option linter.unusedVariables false
set_option linter.unusedSimpArgs false
namespace Go.Proofs.Ytjibdkbfjjeheaa.Pure
open Go.RowKit Go.Proofs.Ytjibdkbfjjeheaa.PCrcBursts Go.Proofs.YtjibdkbfjjeheaaW.PrintWords Go.Proofs.YtjibdkbfjjeheaaW.PrintLast Go.Proofs.YtjibdkbfjjeheaaW.PrintMore CrcMath

theorem w64_lt {n : Int} (h0 : 0 ≤ n) (h : n < 9223372036854775807) : wrap64 n = n := by unfold wrap64; omega

theorem more_l1 (l : List Int) (n i : Int) (r : Int) (d : Nat) : ∀ (S : W) (j : Int), j + d = 8 → 0 ≤ j →
    Ev (fun k => crc_More.l0 k (toI (steps d S)) l n (wrap64 (i + 1))) r → Ev (fun k => crc_More.l1 k (toI S) l n i j) r := by
  induction d with
  | zero =>
    intro S j hj h0 h
    refine Ev.step (f := fun k => crc_More.l0 k (toI S) l n (wrap64 (i + 1))) (fun k => ?_) h
    simp only [crc_More.l1]
    rw [if_neg (by omega)]
  | succ d ih =>
    intro S j hj h0 h
    refine Ev.step (f := fun k => crc_More.l1 k (toI (CrcMath.step S)) l n i (j + 1)) (fun k => ?_) (ih (CrcMath.step S) (j + 1) (by omega) (by omega) h)
    simp only [crc_More.l1]
    rw [if_pos (by omega), w64_lt (by omega) (by omega), low]
    cases hs : S.getLsbD 0 with
    | true => simp only [if_true]; rw [step_on hs]
    | false => rw [if_neg (by simp), step_off hs]

theorem more_l0 (l : List Int) (hl : l.length < 4611686018427387904) (rest : List Int) : ∀ (pre : List Int) (S : W), l = pre ++ rest → Bytes rest →
    Ev (fun k => crc_More.l0 k (toI S) l (l.length : Int) (pre.length : Int)) (toI (~~~ (CrcMath.run S rest))) := by
  induction rest with
  | nil =>
    intro pre S e _
    refine Ev.step (f := fun _ => some (toI (~~~ S))) (fun k => ?_) (Ev.now _)
    simp only [crc_More.l0]
    have : l.length = pre.length := by rw [e]; simp
    rw [if_neg (by omega), not_toI]
  | cons x rest ih =>
    intro pre S e hb
    have hx := hb x (by simp)
    have hlen : l.length = pre.length + (rest.length + 1) := by rw [e]; simp
    have hrd : rd l (pre.length : Int) = x := by
      unfold rd
      rw [Int.toNat_natCast, e]
      simp [List.getD_eq_getElem?_getD]
    refine Ev.step (f := fun k => crc_More.l1 k (toI (S ^^^ BitVec.ofInt 32 x)) l (l.length : Int) (pre.length : Int) 0) (fun k => ?_) ?_
    · simp only [crc_More.l0]
      rw [if_pos (by omega), if_pos (by omega), if_pos (by omega), hrd, Int.emod_eq_of_lt hx.1 (by omega)]
      rw [← toI_of hx.1 (by omega : x < 4294967296), xor_toI, toI_of hx.1 (by omega)]
    · refine more_l1 l _ _ _ 8 _ 0 (by omega) (by omega) ?_
      have h := ih (pre ++ [x]) (byteStep S x) (by rw [e]; simp) (fun y hy => hb y (by simp [hy]))
      have e2 : ((pre ++ [x]).length : Int) = wrap64 ((pre.length : Int) + 1) := by
        rw [w64_lt (by omega) (by omega)]; simp
      rw [e2] at h
      exact h

theorem more_ev (S : W) (l : List Int) (hl : l.length < 4611686018427387904) (hb : Bytes l) : Ev (fun k => crc_More.f k (toI S) l) (toI (moreW S l)) := by
  have h := more_l0 l hl l [] (~~~ S) rfl hb
  refine Ev.congr (fun k => ?_) h
  unfold crc_More.f
  rw [not_toI]; rfl

theorem sum_ev (l : List Int) (hl : l.length < 4611686018427387904) (hb : Bytes l) : Ev (fun k => crc_Sum.f k l) (toI (sumW l)) := by
  have h := more_ev 0 l hl hb
  unfold crc_Sum.f
  exact Ev.bind (g := fun k => crc_More.f k 0 l) (f := fun _ t => some t) h (Ev.now _)

theorem awake_ev : Ev (fun k => strongboxlaw4_awake.f k) true := by
  have h1 := sum_ev [49, 50, 51, 52, 53, 54, 55, 56, 57] (by decide) (by unfold Bytes; decide)
  have h2 := sum_ev [] (by decide) (by unfold Bytes; decide)
  have e1 : toI (sumW [49, 50, 51, 52, 53, 54, 55, 56, 57]) = 3808858755 := by decide +kernel
  have e2 : toI (sumW []) = 0 := by decide +kernel
  rw [e1] at h1
  rw [e2] at h2
  unfold strongboxlaw4_awake.f
  refine Ev.bind (g := fun k => crc_Sum.f k [49, 50, 51, 52, 53, 54, 55, 56, 57]) h1 ?_
  simp only [if_true]
  refine Ev.bind (g := fun k => crc_Sum.f k []) (f := fun _ t => some (t == 0)) h2 ?_
  exact Ev.now _

theorem mask_bit (M i : Nat) (hM : M < 4294967296) (hi : i < 32) : (Go.bits .and .u32 (shr .u32 (M : Int) (IntKind.u64.wrap (i : Int))) 1 = 1) ↔ M.testBit i = true := by
  have e1 : IntKind.u64.wrap (i : Int) = (i : Int) := by rw [IntKind.wrap_u64]; omega
  have e2 : shr .u32 (M : Int) (i : Int) = ((M / 2 ^ i : Nat) : Int) := by
    unfold shr
    rw [Int.toNat_natCast, Nat.min_eq_left (by show i ≤ 32; omega)]
    simp
  have hlt : M / 2 ^ i < 4294967296 := Nat.lt_of_le_of_lt (Nat.div_le_self _ _) hM
  have e3 := u32_and_nat (M / 2 ^ i) 1 hlt (by omega)
  rw [e1, e2]
  show Go.bits .and .u32 ((M / 2 ^ i : Nat) : Int) ((1 : Nat) : Int) = 1 ↔ _
  rw [e3, Nat.and_one_is_mod, Nat.testBit_eq_decide_div_mod_eq, decide_eq_true_iff]
  omega
theorem place (f i : Nat) (h : f + i < 9223372036854775807) : wrap64 (Int.tdiv (wrap64 ((f : Int) + (i : Int))) 8) = (((f + i) / 8 : Nat) : Int) ∧ IntKind.u64.wrap (Int.tmod (wrap64 ((f : Int) + (i : Int))) 8) = (((f + i) % 8 : Nat) : Int) := by
  have e : wrap64 ((f : Int) + (i : Int)) = ((f + i : Nat) : Int) := by rw [w64_lt (by omega) (by omega)]; omega
  rw [e]
  have e1 : Int.tdiv ((f + i : Nat) : Int) 8 = (((f + i) / 8 : Nat) : Int) := rfl
  have e2 : Int.tmod ((f + i : Nat) : Int) 8 = (((f + i) % 8 : Nat) : Int) := rfl
  rw [e1, e2, w64_lt (by omega) (by omega), IntKind.wrap_u64]
  omega
theorem turned (l : List Int) (hb : Bytes l) (p r : Nat) (hp : p < l.length) (hr : r < 8) :
    Go.bits .xor .u8 (rd l (p : Int)) (shl .u8 1 (r : Int)) = ((((l.getD p 0).toNat ^^^ 2 ^ r : Nat)) : Int) := by
  have hx := hb l[p] (List.getElem_mem hp)
  have hg : l.getD p 0 = l[p] := by rw [List.getD_eq_getElem?_getD, List.getElem?_eq_getElem hp]; rfl
  have h2 : (2 : Nat) ^ r < 2 ^ 8 := Nat.pow_lt_pow_right (by omega) hr
  have e1 : shl .u8 1 (r : Int) = ((2 ^ r : Nat) : Int) := by
    unfold shl
    rw [Int.toNat_natCast, Nat.min_eq_left (by show r ≤ 8; omega), Int.one_mul, IntKind.wrap_u8']
    have : ((2 : Int) ^ r) = ((2 ^ r : Nat) : Int) := by simp
    rw [this]
    have h3 : (2 : Nat) ^ r < 256 := h2
    generalize (2 : Nat) ^ r = q at h3 ⊢
    omega
  have e2 : rd l (p : Int) = ((l.getD p 0).toNat : Int) := by
    unfold rd
    rw [Int.toNat_natCast, hg]
    omega
  rw [e1, e2, u8_xor_nat _ _ (by rw [hg]; omega) (by omega)]

theorem or_step (s x : Nat) (i : Nat) (hi : i < 4) (hs : s < 2 ^ (8 * i)) (hx : x < 256) :
    Go.bits .or .u32 (s : Int) (shl .u32 ((x : Int) % 4294967296) (wrap64 (8 * (i : Int)))) = ((s + x * 2 ^ (8 * i) : Nat) : Int) := by
  have e0 : wrap64 (8 * (i : Int)) = ((8 * i : Nat) : Int) := by rw [w64_lt (by omega) (by omega)]; omega
  have hp : x * 2 ^ (8 * i) < 4294967296 := by
    have h2 : (2 : Nat) ^ (8 * i) ≤ 2 ^ 24 := Nat.pow_le_pow_right (by omega) (by omega)
    have h3 : x * 2 ^ (8 * i) ≤ 255 * 2 ^ 24 := Nat.mul_le_mul (by omega) h2
    omega
  have e1 : shl .u32 ((x : Int) % 4294967296) (wrap64 (8 * (i : Int))) = ((x * 2 ^ (8 * i) : Nat) : Int) := by
    rw [e0]
    unfold shl
    rw [Int.toNat_natCast, Nat.min_eq_left (by show 8 * i ≤ 32; omega), IntKind.wrap_u32', Int.emod_eq_of_lt (by omega : (0 : Int) ≤ (x : Int)) (by omega)]
    have h4 : (x : Int) * 2 ^ (8 * i) = ((x * 2 ^ (8 * i) : Nat) : Int) := by simp
    rw [h4]
    generalize x * 2 ^ (8 * i) = q at hp ⊢
    omega
  have hs2 : s < 4294967296 := by
    have h2 : (2 : Nat) ^ (8 * i) ≤ 2 ^ 24 := Nat.pow_le_pow_right (by omega) (by omega)
    omega
  rw [e1, u32_or_nat _ _ hs2 hp, Nat.or_comm, ← Nat.shiftLeft_eq, ← Nat.shiftLeft_add_eq_or_of_lt hs, Nat.add_comm]

theorem read_step (t : List Int) (h4 : t.length = 4) (s : Nat) (i : Nat) (r : Int × Bool) (x : Nat) (hx : rd t (i : Int) = (x : Int)) (hxb : x < 256) (hi : i < 4) (hs : s < 2 ^ (8 * i))
    (h : Ev (fun k => crc_Read.l0 k ((s + x * 2 ^ (8 * i) : Nat) : Int) t 4 ((i + 1 : Nat) : Int)) r) : Ev (fun k => crc_Read.l0 k (s : Int) t 4 (i : Int)) r := by
  refine Ev.step (f := fun k => crc_Read.l0 k ((s + x * 2 ^ (8 * i) : Nat) : Int) t 4 ((i + 1 : Nat) : Int)) (fun k => ?_) h
  simp only [crc_Read.l0]
  have ew : wrap64 ((i : Int) + 1) = ((i + 1 : Nat) : Int) := by rw [w64_lt (by omega) (by omega)]; omega
  have e1 : (i : Int) < 4 := by omega
  have e2 : (i : Int) < (t.length : Int) := by omega
  have e3 : (0 : Int) ≤ wrap64 (8 * (i : Int)) := by rw [w64_lt (by omega) (by omega)]; omega
  rw [if_pos e1, if_pos (Int.natCast_nonneg i), if_pos e2, if_pos e3, hx, or_step s x i hi hs hxb, ew]

theorem read_end (t : List Int) (v : Int) : Ev (fun k => crc_Read.l0 k v t 4 ((4 : Nat) : Int)) (v, true) := by
  refine Ev.step (f := fun _ => some (v, true)) (fun k => ?_) (Ev.now _)
  simp only [crc_Read.l0]
  rw [if_neg (by omega)]

theorem read_nat (a b c d : Nat) (ha : a < 256) (hb : b < 256) (hc : c < 256) (hd : d < 256) :
    Ev (fun k => crc_Read.l0 k ((0 : Nat) : Int) [(a : Int), b, c, d] 4 ((0 : Nat) : Int)) (((0 + a * 2 ^ (8 * 0) + b * 2 ^ (8 * 1) + c * 2 ^ (8 * 2) + d * 2 ^ (8 * 3) : Nat) : Int), true) := by
  have l4 : [(a : Int), b, c, d].length = 4 := rfl
  refine read_step _ l4 0 0 _ a rfl ha (by decide) (by decide) ?_
  refine read_step _ l4 _ 1 _ b rfl hb (by decide) (by clear l4; omega) ?_
  refine read_step _ l4 _ 2 _ c rfl hc (by decide) (by clear l4; omega) ?_
  refine read_step _ l4 _ 3 _ d rfl hd (by decide) (by clear l4; omega) ?_
  exact read_end _ _

theorem read_ev (t : List Int) (hb : Bytes t) (h : t.length = 4) : Ev (fun k => crc_Read.f k t) (rd4 t, true) := by
  obtain ⟨a, b, c, d, rfl⟩ := four h
  have h0 := hb a (by simp); have h1 := hb b (by simp); have h2 := hb c (by simp); have h3 := hb d (by simp)
  obtain ⟨a, rfl⟩ := Int.eq_ofNat_of_zero_le h0.1
  obtain ⟨b, rfl⟩ := Int.eq_ofNat_of_zero_le h1.1
  obtain ⟨c, rfl⟩ := Int.eq_ofNat_of_zero_le h2.1
  obtain ⟨d, rfl⟩ := Int.eq_ofNat_of_zero_le h3.1
  clear hb
  have e : ((0 + a * 2 ^ (8 * 0) + b * 2 ^ (8 * 1) + c * 2 ^ (8 * 2) + d * 2 ^ (8 * 3) : Nat) : Int) = rd4 [(a : Int), b, c, d] := by simp only [rd4]; omega
  have hr := read_nat a b c d (by omega) (by omega) (by omega) (by omega)
  rw [e] at hr
  refine Ev.congr (fun k => ?_) hr
  unfold crc_Read.f
  rw [if_pos (by rw [h]; rfl)]
  rfl
theorem bytes_some (v : Int) : crc_Bytes.f v = some (le4 v) := rfl

theorem bursts_l0 (b : List Int) (hb : Bytes b) (hl : b.length ≤ 4000) (M f : Nat) (hM0 : M ≠ 0) (hM : M < 4294967296) (hf : f + 32 ≤ 8 * (b.length + 4)) (d : Nat) :
    ∀ (i : Nat) (e : List Int), i + d = 32 → Burst (b ++ le4 (toI (sumW b))) e f M i →
      Ev (fun k => strongboxlaw4_CrcBursts.l0 k b (M : Int) e (f : Int) (i : Int)) true := by
  have hlen : (b ++ le4 (toI (sumW b))).length = b.length + 4 := by rw [List.length_append, le4_length]
  induction d with
  | zero =>
    intro i e hi hB
    obtain rfl : i = 32 := by omega
    have hel : e.length = b.length + 4 := by rw [hB.len, hlen]
    have hct : e.take b.length ++ e.drop b.length = e := List.take_append_drop _ _
    have hbt : Bytes (e.drop b.length) := hB.bytes.sub fun x hx => List.mem_of_mem_drop hx
    have hbc : Bytes (e.take b.length) := hB.bytes.sub fun x hx => List.mem_of_mem_take hx
    have hne : rd4 (e.drop b.length) ≠ toI (sumW (e.take b.length)) :=
      sealed_told b (e.take b.length) (e.drop b.length) hb hbc hbt (by rw [List.length_take]; omega) (by rw [List.length_drop]; omega) f
        (by rw [hct, ← hlen]; exact hB.window) (by rw [hct, ← hlen]; exact hB.some hM0 hM (by rw [hlen]; exact hf))
    refine Ev.step (f := fun k => (crc_Read.f k (e.drop b.length)).bind fun bt132 => (if bt132.2 = true then ((crc_Sum.f k (e.take b.length)).bind fun t138 => (some (bt132.1 != t138))) else (some false))) (fun k => ?_) ?_
    · simp only [strongboxlaw4_CrcBursts.l0]
      rw [if_neg (by omega), if_pos (by omega), if_pos (by omega), Int.toNat_natCast]
    · refine Ev.bind (read_ev _ hbt (by rw [List.length_drop]; omega)) ?_
      simp only [if_true]
      refine Ev.bind (f := fun _ t => some (rd4 (e.drop b.length) != t)) (sum_ev _ (by rw [List.length_take]; omega) hbc) ?_
      rw [bne_iff_ne.2 hne]
      exact Ev.now _
  | succ d ih =>
    intro i e hi hB
    have hp := place f i (by omega)
    have ew : wrap64 ((i : Int) + 1) = ((i + 1 : Nat) : Int) := by rw [w64_lt (by omega) (by omega)]; omega
    have eu : (0 : Int) ≤ IntKind.u64.wrap (i : Int) := by rw [IntKind.wrap_u64]; omega
    cases hbit : M.testBit i with
    | true =>
      have hB2 := hB.turn hbit (by rw [hlen]; omega) _ rfl
      refine Ev.step (f := fun k => strongboxlaw4_CrcBursts.l0 k b (M : Int) _ (f : Int) ((i + 1 : Nat) : Int)) (fun k => ?_) (ih (i + 1) _ (by omega) hB2)
      simp only [strongboxlaw4_CrcBursts.l0]
      have le : (f + i) / 8 < e.length := by rw [hB.len, hlen]; omega
      rw [if_pos (by omega), if_pos eu, if_pos ((mask_bit M i hM (by omega)).2 hbit), hp.1, hp.2, if_pos (by omega), if_pos (by omega), if_pos (by omega),
        turned e hB.bytes _ _ le (by omega), Int.toNat_natCast, ew]
    | false =>
      refine Ev.step (f := fun k => strongboxlaw4_CrcBursts.l0 k b (M : Int) e (f : Int) ((i + 1 : Nat) : Int)) (fun k => ?_) (ih (i + 1) _ (by omega) (hB.skip hbit))
      simp only [strongboxlaw4_CrcBursts.l0]
      rw [if_pos (by omega), if_pos eu, if_neg (fun h => by have := (mask_bit M i hM (by omega)).1 h; rw [hbit] at this; cases this), ew]

theorem CrcBursts : strongboxlaw4_CrcBursts.Pure := by
  intro b at0 mask _ _ hb0 hat hmask
  have hb := bytes_of hb0
  refine Ev.rounds ?_
  have ht : Ev (fun k => strongboxlaw4_CrcBursts.j0 k b at0 mask true) true :=
    Ev.step (f := fun _ => some true) (fun k => by simp only [strongboxlaw4_CrcBursts.j0, if_true]) (Ev.now _)
  unfold strongboxlaw4_CrcBursts.f
  refine Ev.bind (g := fun k => strongboxlaw4_awake.f k) awake_ev ?_
  simp only [if_true]
  by_cases h2 : (b.length : Int) > 4000
  · simp only [if_pos h2]; exact ht
  simp only [if_neg h2]
  by_cases h3 : mask = 0
  · rw [beq_iff_eq.2 h3]; exact ht
  rw [beq_eq_false_iff_ne.2 h3]
  have ba := bounds_u32 hat
  have bm := bounds_u32 hmask
  obtain ⟨A, rfl⟩ := Int.eq_ofNat_of_zero_le ba.1
  obtain ⟨M, rfl⟩ := Int.eq_ofNat_of_zero_le bm.1
  have hlen : (b ++ le4 (toI (sumW b))).length = b.length + 4 := by rw [List.length_append, le4_length]
  have hball : Bytes (b ++ le4 (toI (sumW b))) := fun x hx => by
    rcases List.mem_append.1 hx with h | h
    · exact hb x h
    · exact le4_bytes _ x h
  obtain ⟨n, hn⟩ : ∃ n : Nat, n + 31 = 8 * (b.length + 4) := ⟨8 * (b.length + 4) - 31, by omega⟩
  have e1 : wrap64 ((wrap64 (8 * ((b ++ le4 (toI (sumW b))).length : Int))) - 31) = (n : Int) := by
    rw [hlen, w64_lt (n := 8 * ((b.length + 4 : Nat) : Int)) (by omega) (by omega), w64_lt (by omega) (by omega)]; omega
  have hm := Nat.mod_lt A (show 0 < n by clear e1; omega)
  have e2 : Int.tmod (wrap64 (A : Int)) (n : Int) = ((A % n : Nat) : Int) := by
    clear e1; rw [w64_lt (by omega) (by omega)]; rfl
  have e3 : ((b ++ le4 (toI (sumW b))).length : Int) = wrap64 ((b.length : Int) + 4) := by clear e1 e2; rw [hlen, w64_lt (by omega) (by omega)]; omega
  have e4 : ¬ (n : Int) = 0 := by clear e1 e2 e3; omega
  have z1 : ([] : List Int).length + b.length < 140737488355328 := by clear e1 e2 e3; simp only [List.length_nil]; omega
  have z2 : (([] : List Int) ++ b).length + (le4 (toI (sumW b))).length < 140737488355328 := by clear e1 e2 e3; rw [List.nil_append, le4_length]; omega
  have fin : Ev (fun k => strongboxlaw4_CrcBursts.l0 k b (M : Int) (b ++ le4 (toI (sumW b))) ((A % n : Nat) : Int) ((0 : Nat) : Int)) true := by
    clear e1 e2 e3
    exact bursts_l0 b hb (by omega) M _ (by omega) (by omega) (by omega) 32 0 _ (by omega) (Burst.start hball _ _)
  refine Ev.step (f := fun k => ((some (([] : List Int) : List Int)).bind fun y113 => (if y113.length + b.length < 140737488355328 then ((some (y113 ++ b : List Int)).bind fun y116 => ((crc_Sum.f k b).bind fun t119 => ((crc_Bytes.f t119).bind fun t120 => (if y116.length + t120.length < 140737488355328 then ((some (y116 ++ t120 : List Int)).bind fun y123 => (if (y123.length : Int) = (wrap64 ((b.length : Int) + 4)) then (if (wrap64 ((wrap64 (8 * (y123.length : Int))) - 31)) = 0 then (none) else (strongboxlaw4_CrcBursts.l0 k b (M : Int) y123 (Int.tmod (wrap64 ((A : Int))) (wrap64 ((wrap64 (8 * (y123.length : Int))) - 31))) 0)) else (some false))) else (none))))) else (none)))) (fun k => by rw [strongboxlaw4_CrcBursts.j0]; exact if_neg (by decide)) ?_
  refine Ev.bind (Ev.now _) ?_
  refine Ev.congr (fun k => if_pos z1) ?_
  refine Ev.bind (Ev.now _) ?_
  refine Ev.bind (sum_ev b (by clear e1 e2 e3; omega) hb) ?_
  refine Ev.bind (g := fun _ => crc_Bytes.f (toI (sumW b))) (a := le4 (toI (sumW b))) (Ev.now _) ?_
  refine Ev.congr (fun k => if_pos z2) ?_
  refine Ev.bind (Ev.now _) ?_
  refine Ev.congr (fun k => if_pos e3) ?_
  refine Ev.congr (fun k => if_neg (by show ¬ _; rw [List.nil_append, e1]; exact e4)) ?_
  rw [List.nil_append, e1, e2]
  exact fin

end Go.Proofs.Ytjibdkbfjjeheaa.Pure
