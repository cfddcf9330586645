/- The pure half of CrcSums: the sum of any row of at most 4000 bytes is the reference's, cut anywhere it goes on part by part, and as four bytes it is the reference's four bytes and reads back; longer rows are let by as the statement lets them by. -/
import Derived.Test.YtjibdkbfjjeheaaPCrcSumsx2
import Derived.Test.YtjibdkbfjjeheaaMath
set_option linter.unusedVariables false
set_option linter.unusedSimpArgs false
namespace Go.Proofs.Ytjibdkbfjjeheaa.Pure
open Go.RowKit Go.Proofs.Ytjibdkbfjjeheaa.PCrcSums Go.Proofs.YtjibdkbfjjeheaaW.PrintWords Go.Proofs.YtjibdkbfjjeheaaW.PrintLast Go.Proofs.YtjibdkbfjjeheaaW.PrintMore CrcMath

theorem w64_lt {n : Int} (h0 : 0 ≤ n) (h : n < 9223372036854775807) : wrap64 n = n := by unfold wrap64; omega

theorem more_l1 (l : List Int) (n i : Int) (r : Int) (d : Nat) : ∀ (S : W) (j : Int), j + d = 8 → 0 ≤ j →
    Ev (fun k => crc_More.l0 k (toI (steps d S)) l n (wrap64 (i + 1))) r → Ev (fun k => crc_More.l1 k (toI S) l n i j) r := by
  induction d with
  | zero =>
    intro S j hj h0 h
    refine Ev.step (f := fun k => crc_More.l0 k (toI S) l n (wrap64 (i + 1))) (fun k => ?_) h
    simp only [crc_More.l1]
    rw [if_neg (by omega)]
  | succ d ih =>
    intro S j hj h0 h
    refine Ev.step (f := fun k => crc_More.l1 k (toI (CrcMath.step S)) l n i (j + 1)) (fun k => ?_) (ih (CrcMath.step S) (j + 1) (by omega) (by omega) h)
    simp only [crc_More.l1]
    rw [if_pos (by omega), w64_lt (by omega) (by omega), low]
    cases hs : S.getLsbD 0 with
    | true => simp only [if_true]; rw [step_on hs]
    | false => rw [if_neg (by simp), step_off hs]

theorem more_l0 (l : List Int) (hl : l.length < 4611686018427387904) (rest : List Int) : ∀ (pre : List Int) (S : W), l = pre ++ rest → Bytes rest →
    Ev (fun k => crc_More.l0 k (toI S) l (l.length : Int) (pre.length : Int)) (toI (~~~ (CrcMath.run S rest))) := by
  induction rest with
  | nil =>
    intro pre S e _
    refine Ev.step (f := fun _ => some (toI (~~~ S))) (fun k => ?_) (Ev.now _)
    simp only [crc_More.l0]
    have : l.length = pre.length := by rw [e]; simp
    rw [if_neg (by omega), not_toI]
  | cons x rest ih =>
    intro pre S e hb
    have hx := hb x (by simp)
    have hlen : l.length = pre.length + (rest.length + 1) := by rw [e]; simp
    have hrd : rd l (pre.length : Int) = x := by
      unfold rd
      rw [Int.toNat_natCast, e]
      simp [List.getD_eq_getElem?_getD]
    refine Ev.step (f := fun k => crc_More.l1 k (toI (S ^^^ BitVec.ofInt 32 x)) l (l.length : Int) (pre.length : Int) 0) (fun k => ?_) ?_
    · simp only [crc_More.l0]
      rw [if_pos (by omega), if_pos (by omega), if_pos (by omega), hrd, Int.emod_eq_of_lt hx.1 (by omega)]
      rw [← toI_of hx.1 (by omega : x < 4294967296), xor_toI, toI_of hx.1 (by omega)]
    · refine more_l1 l _ _ _ 8 _ 0 (by omega) (by omega) ?_
      have h := ih (pre ++ [x]) (byteStep S x) (by rw [e]; simp) (fun y hy => hb y (by simp [hy]))
      have e2 : ((pre ++ [x]).length : Int) = wrap64 ((pre.length : Int) + 1) := by
        rw [w64_lt (by omega) (by omega)]; simp
      rw [e2] at h
      exact h

theorem more_ev (S : W) (l : List Int) (hl : l.length < 4611686018427387904) (hb : Bytes l) : Ev (fun k => crc_More.f k (toI S) l) (toI (moreW S l)) := by
  have h := more_l0 l hl l [] (~~~ S) rfl hb
  refine Ev.congr (fun k => ?_) h
  unfold crc_More.f
  rw [not_toI]; rfl

theorem sum_ev (l : List Int) (hl : l.length < 4611686018427387904) (hb : Bytes l) : Ev (fun k => crc_Sum.f k l) (toI (sumW l)) := by
  have h := more_ev 0 l hl hb
  unfold crc_Sum.f
  exact Ev.bind (g := fun k => crc_More.f k 0 l) (f := fun _ t => some t) h (Ev.now _)

theorem awake_ev : Ev (fun k => strongboxlaw4_awake.f k) true := by
  have h1 := sum_ev [49, 50, 51, 52, 53, 54, 55, 56, 57] (by decide) (by unfold Bytes; decide)
  have h2 := sum_ev [] (by decide) (by unfold Bytes; decide)
  have e1 : toI (sumW [49, 50, 51, 52, 53, 54, 55, 56, 57]) = 3808858755 := by decide +kernel
  have e2 : toI (sumW []) = 0 := by decide +kernel
  rw [e1] at h1
  rw [e2] at h2
  unfold strongboxlaw4_awake.f
  refine Ev.bind (g := fun k => crc_Sum.f k [49, 50, 51, 52, 53, 54, 55, 56, 57]) h1 ?_
  simp only [if_true]
  refine Ev.bind (g := fun k => crc_Sum.f k []) (f := fun _ t => some (t == 0)) h2 ?_
  exact Ev.now _

theorem or_step (s x : Nat) (i : Nat) (hi : i < 4) (hs : s < 2 ^ (8 * i)) (hx : x < 256) :
    Go.bits .or .u32 (s : Int) (shl .u32 ((x : Int) % 4294967296) (wrap64 (8 * (i : Int)))) = ((s + x * 2 ^ (8 * i) : Nat) : Int) := by
  have e0 : wrap64 (8 * (i : Int)) = ((8 * i : Nat) : Int) := by rw [w64_lt (by omega) (by omega)]; omega
  have hp : x * 2 ^ (8 * i) < 4294967296 := by
    have h2 : (2 : Nat) ^ (8 * i) ≤ 2 ^ 24 := Nat.pow_le_pow_right (by omega) (by omega)
    have h3 : x * 2 ^ (8 * i) ≤ 255 * 2 ^ 24 := Nat.mul_le_mul (by omega) h2
    omega
  have e1 : shl .u32 ((x : Int) % 4294967296) (wrap64 (8 * (i : Int))) = ((x * 2 ^ (8 * i) : Nat) : Int) := by
    rw [e0]
    unfold shl
    rw [Int.toNat_natCast, Nat.min_eq_left (by show 8 * i ≤ 32; omega), IntKind.wrap_u32', Int.emod_eq_of_lt (by omega : (0 : Int) ≤ (x : Int)) (by omega)]
    have h4 : (x : Int) * 2 ^ (8 * i) = ((x * 2 ^ (8 * i) : Nat) : Int) := by simp
    rw [h4]
    generalize x * 2 ^ (8 * i) = q at hp ⊢
    omega
  have hs2 : s < 4294967296 := by
    have h2 : (2 : Nat) ^ (8 * i) ≤ 2 ^ 24 := Nat.pow_le_pow_right (by omega) (by omega)
    omega
  rw [e1, u32_or_nat _ _ hs2 hp, Nat.or_comm, ← Nat.shiftLeft_eq, ← Nat.shiftLeft_add_eq_or_of_lt hs, Nat.add_comm]

theorem read_step (t : List Int) (h4 : t.length = 4) (s : Nat) (i : Nat) (r : Int × Bool) (x : Nat) (hx : rd t (i : Int) = (x : Int)) (hxb : x < 256) (hi : i < 4) (hs : s < 2 ^ (8 * i))
    (h : Ev (fun k => crc_Read.l0 k ((s + x * 2 ^ (8 * i) : Nat) : Int) t 4 ((i + 1 : Nat) : Int)) r) : Ev (fun k => crc_Read.l0 k (s : Int) t 4 (i : Int)) r := by
  refine Ev.step (f := fun k => crc_Read.l0 k ((s + x * 2 ^ (8 * i) : Nat) : Int) t 4 ((i + 1 : Nat) : Int)) (fun k => ?_) h
  simp only [crc_Read.l0]
  have ew : wrap64 ((i : Int) + 1) = ((i + 1 : Nat) : Int) := by rw [w64_lt (by omega) (by omega)]; omega
  have e1 : (i : Int) < 4 := by omega
  have e2 : (i : Int) < (t.length : Int) := by omega
  have e3 : (0 : Int) ≤ wrap64 (8 * (i : Int)) := by rw [w64_lt (by omega) (by omega)]; omega
  rw [if_pos e1, if_pos (Int.natCast_nonneg i), if_pos e2, if_pos e3, hx, or_step s x i hi hs hxb, ew]

theorem read_end (t : List Int) (v : Int) : Ev (fun k => crc_Read.l0 k v t 4 ((4 : Nat) : Int)) (v, true) := by
  refine Ev.step (f := fun _ => some (v, true)) (fun k => ?_) (Ev.now _)
  simp only [crc_Read.l0]
  rw [if_neg (by omega)]

theorem read_nat (a b c d : Nat) (ha : a < 256) (hb : b < 256) (hc : c < 256) (hd : d < 256) :
    Ev (fun k => crc_Read.l0 k ((0 : Nat) : Int) [(a : Int), b, c, d] 4 ((0 : Nat) : Int)) (((0 + a * 2 ^ (8 * 0) + b * 2 ^ (8 * 1) + c * 2 ^ (8 * 2) + d * 2 ^ (8 * 3) : Nat) : Int), true) := by
  have l4 : [(a : Int), b, c, d].length = 4 := rfl
  refine read_step _ l4 0 0 _ a rfl ha (by decide) (by decide) ?_
  refine read_step _ l4 _ 1 _ b rfl hb (by decide) (by clear l4; omega) ?_
  refine read_step _ l4 _ 2 _ c rfl hc (by decide) (by clear l4; omega) ?_
  refine read_step _ l4 _ 3 _ d rfl hd (by decide) (by clear l4; omega) ?_
  exact read_end _ _

theorem read_ev (t : List Int) (hb : Bytes t) (h : t.length = 4) : Ev (fun k => crc_Read.f k t) (rd4 t, true) := by
  obtain ⟨a, b, c, d, rfl⟩ := four h
  have h0 := hb a (by simp); have h1 := hb b (by simp); have h2 := hb c (by simp); have h3 := hb d (by simp)
  obtain ⟨a, rfl⟩ := Int.eq_ofNat_of_zero_le h0.1
  obtain ⟨b, rfl⟩ := Int.eq_ofNat_of_zero_le h1.1
  obtain ⟨c, rfl⟩ := Int.eq_ofNat_of_zero_le h2.1
  obtain ⟨d, rfl⟩ := Int.eq_ofNat_of_zero_le h3.1
  clear hb
  have e : ((0 + a * 2 ^ (8 * 0) + b * 2 ^ (8 * 1) + c * 2 ^ (8 * 2) + d * 2 ^ (8 * 3) : Nat) : Int) = rd4 [(a : Int), b, c, d] := by simp only [rd4]; omega
  have hr := read_nat a b c d (by omega) (by omega) (by omega) (by omega)
  rw [e] at hr
  refine Ev.congr (fun k => ?_) hr
  unfold crc_Read.f
  rw [if_pos (by rw [h]; rfl)]
  rfl
theorem bytes_some (v : Int) : crc_Bytes.f v = some (le4 v) := rfl

theorem rmore_l1 (l : List Int) (i : Int) (r : Int) (d : Nat) : ∀ (S : W) (j : Int), j + d = 8 → 0 ≤ j →
    Ev (fun k => strongboxref4_More.l0 k (toI (steps d S)) l (wrap64 (i + 1))) r → Ev (fun k => strongboxref4_More.l1 k (toI S) l i j) r := by
  induction d with
  | zero =>
    intro S j hj h0 h
    refine Ev.step (f := fun k => strongboxref4_More.l0 k (toI S) l (wrap64 (i + 1))) (fun k => ?_) h
    simp only [strongboxref4_More.l1]
    rw [if_neg (by omega)]
  | succ d ih =>
    intro S j hj h0 h
    refine Ev.step (f := fun k => strongboxref4_More.l1 k (toI (CrcMath.step S)) l i (j + 1)) (fun k => ?_) (ih (CrcMath.step S) (j + 1) (by omega) (by omega) h)
    simp only [strongboxref4_More.l1]
    rw [if_pos (by omega), w64_lt (by omega) (by omega), low]
    cases hs : S.getLsbD 0 with
    | true => simp only [if_true]; rw [step_on hs]
    | false => rw [if_neg (by simp), step_off hs]

theorem rmore_l0 (l : List Int) (hl : l.length < 4611686018427387904) (rest : List Int) : ∀ (pre : List Int) (S : W), l = pre ++ rest → Bytes rest →
    Ev (fun k => strongboxref4_More.l0 k (toI S) l (pre.length : Int)) (toI (~~~ (CrcMath.run S rest))) := by
  induction rest with
  | nil =>
    intro pre S e _
    refine Ev.step (f := fun _ => some (toI (~~~ S))) (fun k => ?_) (Ev.now _)
    simp only [strongboxref4_More.l0]
    have : l.length = pre.length := by rw [e]; simp
    rw [if_neg (by omega), not_toI]
  | cons x rest ih =>
    intro pre S e hb
    have hx := hb x (by simp)
    have hlen : l.length = pre.length + (rest.length + 1) := by rw [e]; simp
    have hrd : rd l (pre.length : Int) = x := by
      unfold rd
      rw [Int.toNat_natCast, e]
      simp [List.getD_eq_getElem?_getD]
    refine Ev.step (f := fun k => strongboxref4_More.l1 k (toI (S ^^^ BitVec.ofInt 32 x)) l (pre.length : Int) 0) (fun k => ?_) ?_
    · simp only [strongboxref4_More.l0]
      rw [if_pos (by omega), if_pos (by omega), hrd, Int.emod_eq_of_lt hx.1 (by omega)]
      rw [← toI_of hx.1 (by omega : x < 4294967296), xor_toI, toI_of hx.1 (by omega)]
    · refine rmore_l1 l _ _ 8 _ 0 (by omega) (by omega) ?_
      have h := ih (pre ++ [x]) (byteStep S x) (by rw [e]; simp) (fun y hy => hb y (by simp [hy]))
      have e2 : ((pre ++ [x]).length : Int) = wrap64 ((pre.length : Int) + 1) := by
        rw [w64_lt (by omega) (by omega)]; simp
      rw [e2] at h
      exact h

theorem rsum_ev (l : List Int) (hl : l.length < 4611686018427387904) (hb : Bytes l) : Ev (fun k => strongboxref4_Sum.f k l) (toI (sumW l)) := by
  have h := rmore_l0 l hl l [] (~~~ 0) rfl hb
  refine Ev.congr (f := fun k => (strongboxref4_More.l0 k (toI (~~~ 0)) l (([] : List Int).length : Int)).bind fun t => some t) (fun k => ?_) ?_
  · unfold strongboxref4_Sum.f strongboxref4_More.f
    have : (0 : Int) = toI 0 := rfl
    rw [this, not_toI]
    rfl
  · exact Ev.bind h (Ev.now _)

theorem little_step (v : Nat) (out : List Int) (i : Nat) (hi : i < 4) (ho : out.length < 8) (r : List Int)
    (h : Ev (fun k => strongboxref4_little.l0 k (v : Int) 4 (out ++ [((v / 2 ^ (8 * i) : Nat) : Int) % 256]) ((i + 1 : Nat) : Int)) r) : Ev (fun k => strongboxref4_little.l0 k (v : Int) 4 out (i : Int)) r := by
  refine Ev.step (f := fun k => strongboxref4_little.l0 k (v : Int) 4 (out ++ [((v / 2 ^ (8 * i) : Nat) : Int) % 256]) ((i + 1 : Nat) : Int)) (fun k => ?_) h
  simp only [strongboxref4_little.l0]
  have ew : wrap64 ((i : Int) + 1) = ((i + 1 : Nat) : Int) := by rw [w64_lt (by omega) (by omega)]; omega
  have e0 : IntKind.u64.wrap (wrap64 (8 * (i : Int))) = ((8 * i : Nat) : Int) := by rw [w64_lt (by omega) (by omega), IntKind.wrap_u64]; omega
  have es : shr .i64 (v : Int) ((8 * i : Nat) : Int) = ((v / 2 ^ (8 * i) : Nat) : Int) := by
    unfold shr
    rw [Int.toNat_natCast, Nat.min_eq_left (by show 8 * i ≤ 64; omega)]
    simp
  have e1 : (i : Int) < 4 := by omega
  rw [if_pos e1, e0, if_pos (Int.natCast_nonneg _), if_pos (by omega), es, ew]

theorem rbytes_ev (v : Nat) (hv : v < 4294967296) : Ev (fun k => strongboxref4_Bytes.f k (v : Int)) (le4 (v : Int)) := by
  have e : wrap64 (v : Int) = (v : Int) := w64_lt (by omega) (by omega)
  have he : le4 (v : Int) = [((v / 2 ^ (8 * 0) : Nat) : Int) % 256, ((v / 2 ^ (8 * 1) : Nat) : Int) % 256, ((v / 2 ^ (8 * 2) : Nat) : Int) % 256, ((v / 2 ^ (8 * 3) : Nat) : Int) % 256] := by
    simp only [le4, List.cons.injEq, and_true]
    omega
  refine Ev.congr (f := fun k => (strongboxref4_little.l0 k (v : Int) 4 [] ((0 : Nat) : Int)).bind fun t => some t) (fun k => ?_) (Ev.bind (a := le4 (v : Int)) ?_ (Ev.now _))
  · unfold strongboxref4_Bytes.f strongboxref4_little.f
    rw [e]
    rfl
  · rw [he]
    refine little_step v _ 0 (by omega) (by simp) _ ?_
    refine little_step v _ 1 (by omega) (by simp) _ ?_
    refine little_step v _ 2 (by omega) (by simp) _ ?_
    refine little_step v _ 3 (by omega) (by simp) _ ?_
    refine Ev.step (f := fun _ => some _) (fun k => ?_) (Ev.now _)
    simp only [strongboxref4_little.l0]
    rw [if_neg (by omega)]
    rfl

theorem read_other (l : List Int) (h : ¬ l.length = 4) : Ev (fun k => crc_Read.f k l) (0, false) := by
  refine Ev.congr (fun k => ?_) (Ev.now _)
  unfold crc_Read.f
  exact if_neg (by omega)
theorem read_any (l : List Int) (hb : Bytes l) : ∃ n, Ev (fun k => crc_Read.f k l) (n, (l.length : Int) == 4) := by
  by_cases h : l.length = 4
  · have : ((l.length : Int) == 4) = true := by rw [h]; rfl
    rw [this]
    exact ⟨_, read_ev l hb h⟩
  · have : ((l.length : Int) == 4) = false := beq_eq_false_iff_ne.2 (by omega)
    rw [this]
    exact ⟨_, read_other l h⟩

theorem CrcSums : strongboxlaw4_CrcSums.Pure := by
  intro b cut _ _ hb0 hcut
  have hb := bytes_of hb0
  have bc := bounds_u16 hcut
  refine Ev.rounds ?_
  unfold strongboxlaw4_CrcSums.f
  refine Ev.bind (g := fun k => strongboxlaw4_awake.f k) awake_ev ?_
  refine Ev.congr (fun k => if_pos rfl) ?_
  by_cases h1 : (b.length : Int) > 4000
  · exact Ev.congr (fun k => if_pos h1) (Ev.now _)
  refine Ev.congr (fun k => if_neg h1) ?_
  obtain ⟨C, rfl⟩ := Int.eq_ofNat_of_zero_le bc.1
  obtain ⟨n, hn⟩ : ∃ n : Nat, n = b.length + 1 := ⟨_, rfl⟩
  have hm := Nat.mod_lt C (show 0 < n by omega)
  have e1 : wrap64 ((b.length : Int) + 1) = (n : Int) := by rw [w64_lt (by omega) (by omega)]; omega
  have e2 : Int.tmod (wrap64 (C : Int)) (n : Int) = ((C % n : Nat) : Int) := by clear e1; rw [w64_lt (by omega) (by omega)]; rfl
  rw [e1, e2]
  clear e1 e2
  obtain ⟨m, hm2⟩ : ∃ m : Nat, m = C % n := ⟨_, rfl⟩
  rw [← hm2]
  have hmb : m ≤ b.length := by omega
  clear hm hm2
  have sb := sum_ev b (by omega) hb
  obtain ⟨v, hv⟩ : ∃ v : Nat, toI (sumW b) = (v : Int) := ⟨_, rfl⟩
  have rv := toI_range (sumW b)
  refine Ev.congr (fun k => if_neg (by omega)) ?_
  refine Ev.bind sb ?_
  refine Ev.bind (g := fun _ => crc_Bytes.f (toI (sumW b))) (a := le4 (toI (sumW b))) (Ev.now _) ?_
  refine Ev.bind (read_ev (le4 (toI (sumW b))) (le4_bytes _) rfl) ?_
  obtain ⟨q, hq⟩ := read_any b hb
  refine Ev.bind hq ?_
  refine Ev.bind (rsum_ev b (by omega) hb) ?_
  refine Ev.congr (fun k => if_pos rfl) ?_
  refine Ev.congr (fun k => if_pos (Int.natCast_nonneg m)) ?_
  refine Ev.congr (fun k => if_pos (by omega)) ?_
  rw [Int.toNat_natCast]
  refine Ev.bind (sum_ev (b.take m) (by rw [List.length_take]; omega) (hb.sub fun x hx => List.mem_of_mem_take hx)) ?_
  have h3 := more_ev (sumW (b.take m)) (b.drop m) (by rw [List.length_drop]; omega) (hb.sub fun x hx => List.mem_of_mem_drop hx)
  have e3 : moreW (sumW (b.take m)) (b.drop m) = sumW b := by
    unfold sumW
    rw [← moreW_append, List.take_append_drop]
  rw [e3] at h3
  refine Ev.bind h3 ?_
  refine Ev.congr (fun k => if_pos rfl) ?_
  refine Ev.bind (g := fun _ => crc_Bytes.f (toI (sumW b))) (a := le4 (toI (sumW b))) (Ev.now _) ?_
  have h4 := rbytes_ev v (by omega)
  rw [← hv] at h4
  refine Ev.bind h4 ?_
  refine Ev.congr (fun k => if_pos rfl) ?_
  refine Ev.congr (fun k => if_pos rfl) ?_
  refine Ev.congr (fun k => if_pos (rd4_le4 rv.1 rv.2)) ?_
  simp only [beq_self_eq_true]
  exact Ev.now _

end Go.Proofs.Ytjibdkbfjjeheaa.Pure
