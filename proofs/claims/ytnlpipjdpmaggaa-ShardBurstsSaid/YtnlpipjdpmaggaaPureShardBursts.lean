/- whatever is changed within 32 bits of a file: no data is read from it. For each head that One makes, each data of at most 4000 bytes, each place and each mask but nought. -/
import Derived.Test.YtnlpipjdpmaggaaPShardBurstsx8
import Derived.Test.YtnlpipjdpmaggaaMath
set_option linter.unusedVariables false
set_option linter.unusedSimpArgs false
namespace Go.Proofs.Ytnlpipjdpmaggaa.Pure
open Go.RowKit Go.Proofs.Ytnlpipjdpmaggaa.PShardCuts Go.Proofs.YtnlpipjdpmaggaaW.PrintWords Go.Proofs.YtnlpipjdpmaggaaW.PrintLast Go.Proofs.YtnlpipjdpmaggaaW.PrintMore CrcMath

theorem w64_lt {n : Int} (h0 : 0 ≤ n) (h : n < 9223372036854775807) : wrap64 n = n := by unfold wrap64; omega

theorem more_l1 (l : List Int) (n i : Int) (r : Int) (d : Nat) : ∀ (S : W) (j : Int), j + d = 8 → 0 ≤ j →
    Ev (fun k => crc_More.l0 k (toI (steps d S)) l n (wrap64 (i + 1))) r → Ev (fun k => crc_More.l1 k (toI S) l n i j) r := by
  induction d with
  | zero =>
    intro S j hj h0 h
    refine Ev.step (f := fun k => crc_More.l0 k (toI S) l n (wrap64 (i + 1))) (fun k => ?_) h
    simp only [crc_More.l1]
    rw [if_neg (by omega)]
  | succ d ih =>
    intro S j hj h0 h
    refine Ev.step (f := fun k => crc_More.l1 k (toI (CrcMath.step S)) l n i (j + 1)) (fun k => ?_) (ih (CrcMath.step S) (j + 1) (by omega) (by omega) h)
    simp only [crc_More.l1]
    rw [if_pos (by omega), w64_lt (by omega) (by omega), low]
    cases hs : S.getLsbD 0 with
    | true => simp only [if_true]; rw [step_on hs]
    | false => rw [if_neg (by simp), step_off hs]

theorem more_l0 (l : List Int) (hl : l.length < 4611686018427387904) (rest : List Int) : ∀ (pre : List Int) (S : W), l = pre ++ rest → Bytes rest →
    Ev (fun k => crc_More.l0 k (toI S) l (l.length : Int) (pre.length : Int)) (toI (~~~ (CrcMath.run S rest))) := by
  induction rest with
  | nil =>
    intro pre S e _
    refine Ev.step (f := fun _ => some (toI (~~~ S))) (fun k => ?_) (Ev.now _)
    simp only [crc_More.l0]
    have : l.length = pre.length := by rw [e]; simp
    rw [if_neg (by omega), not_toI]
  | cons x rest ih =>
    intro pre S e hb
    have hx := hb x (by simp)
    have hlen : l.length = pre.length + (rest.length + 1) := by rw [e]; simp
    have hrd : rd l (pre.length : Int) = x := by
      unfold rd
      rw [Int.toNat_natCast, e]
      simp [List.getD_eq_getElem?_getD]
    refine Ev.step (f := fun k => crc_More.l1 k (toI (S ^^^ BitVec.ofInt 32 x)) l (l.length : Int) (pre.length : Int) 0) (fun k => ?_) ?_
    · simp only [crc_More.l0]
      rw [if_pos (by omega), if_pos (by omega), if_pos (by omega), hrd, Int.emod_eq_of_lt hx.1 (by omega)]
      rw [← toI_of hx.1 (by omega : x < 4294967296), xor_toI, toI_of hx.1 (by omega)]
    · refine more_l1 l _ _ _ 8 _ 0 (by omega) (by omega) ?_
      have h := ih (pre ++ [x]) (byteStep S x) (by rw [e]; simp) (fun y hy => hb y (by simp [hy]))
      have e2 : ((pre ++ [x]).length : Int) = wrap64 ((pre.length : Int) + 1) := by
        rw [w64_lt (by omega) (by omega)]; simp
      rw [e2] at h
      exact h

theorem more_ev (S : W) (l : List Int) (hl : l.length < 4611686018427387904) (hb : Bytes l) : Ev (fun k => crc_More.f k (toI S) l) (toI (moreW S l)) := by
  have h := more_l0 l hl l [] (~~~ S) rfl hb
  refine Ev.congr (fun k => ?_) h
  unfold crc_More.f
  rw [not_toI]; rfl

theorem sum_ev (l : List Int) (hl : l.length < 4611686018427387904) (hb : Bytes l) : Ev (fun k => crc_Sum.f k l) (toI (sumW l)) := by
  have h := more_ev 0 l hl hb
  unfold crc_Sum.f
  exact Ev.bind (g := fun k => crc_More.f k 0 l) (f := fun _ t => some t) h (Ev.now _)

theorem or_step (s x : Nat) (i : Nat) (hi : i < 4) (hs : s < 2 ^ (8 * i)) (hx : x < 256) :
    Go.bits .or .u32 (s : Int) (shl .u32 ((x : Int) % 4294967296) (wrap64 (8 * (i : Int)))) = ((s + x * 2 ^ (8 * i) : Nat) : Int) := by
  have e0 : wrap64 (8 * (i : Int)) = ((8 * i : Nat) : Int) := by rw [w64_lt (by omega) (by omega)]; omega
  have hp : x * 2 ^ (8 * i) < 4294967296 := by
    have h2 : (2 : Nat) ^ (8 * i) ≤ 2 ^ 24 := Nat.pow_le_pow_right (by omega) (by omega)
    have h3 : x * 2 ^ (8 * i) ≤ 255 * 2 ^ 24 := Nat.mul_le_mul (by omega) h2
    omega
  have e1 : shl .u32 ((x : Int) % 4294967296) (wrap64 (8 * (i : Int))) = ((x * 2 ^ (8 * i) : Nat) : Int) := by
    rw [e0]
    unfold shl
    rw [Int.toNat_natCast, Nat.min_eq_left (by show 8 * i ≤ 32; omega), IntKind.wrap_u32', Int.emod_eq_of_lt (by omega : (0 : Int) ≤ (x : Int)) (by omega)]
    have h4 : (x : Int) * 2 ^ (8 * i) = ((x * 2 ^ (8 * i) : Nat) : Int) := by simp
    rw [h4]
    generalize x * 2 ^ (8 * i) = q at hp ⊢
    omega
  have hs2 : s < 4294967296 := by
    have h2 : (2 : Nat) ^ (8 * i) ≤ 2 ^ 24 := Nat.pow_le_pow_right (by omega) (by omega)
    omega
  rw [e1, u32_or_nat _ _ hs2 hp, Nat.or_comm, ← Nat.shiftLeft_eq, ← Nat.shiftLeft_add_eq_or_of_lt hs, Nat.add_comm]

theorem read_step (t : List Int) (h4 : t.length = 4) (s : Nat) (i : Nat) (r : Int × Bool) (x : Nat) (hx : rd t (i : Int) = (x : Int)) (hxb : x < 256) (hi : i < 4) (hs : s < 2 ^ (8 * i))
    (h : Ev (fun k => crc_Read.l0 k ((s + x * 2 ^ (8 * i) : Nat) : Int) t 4 ((i + 1 : Nat) : Int)) r) : Ev (fun k => crc_Read.l0 k (s : Int) t 4 (i : Int)) r := by
  refine Ev.step (f := fun k => crc_Read.l0 k ((s + x * 2 ^ (8 * i) : Nat) : Int) t 4 ((i + 1 : Nat) : Int)) (fun k => ?_) h
  simp only [crc_Read.l0]
  have ew : wrap64 ((i : Int) + 1) = ((i + 1 : Nat) : Int) := by rw [w64_lt (by omega) (by omega)]; omega
  have e1 : (i : Int) < 4 := by omega
  have e2 : (i : Int) < (t.length : Int) := by omega
  have e3 : (0 : Int) ≤ wrap64 (8 * (i : Int)) := by rw [w64_lt (by omega) (by omega)]; omega
  rw [if_pos e1, if_pos (Int.natCast_nonneg i), if_pos e2, if_pos e3, hx, or_step s x i hi hs hxb, ew]

theorem read_end (t : List Int) (v : Int) : Ev (fun k => crc_Read.l0 k v t 4 ((4 : Nat) : Int)) (v, true) := by
  refine Ev.step (f := fun _ => some (v, true)) (fun k => ?_) (Ev.now _)
  simp only [crc_Read.l0]
  rw [if_neg (by omega)]

theorem read_nat (a b c d : Nat) (ha : a < 256) (hb : b < 256) (hc : c < 256) (hd : d < 256) :
    Ev (fun k => crc_Read.l0 k ((0 : Nat) : Int) [(a : Int), b, c, d] 4 ((0 : Nat) : Int)) (((0 + a * 2 ^ (8 * 0) + b * 2 ^ (8 * 1) + c * 2 ^ (8 * 2) + d * 2 ^ (8 * 3) : Nat) : Int), true) := by
  have l4 : [(a : Int), b, c, d].length = 4 := rfl
  refine read_step _ l4 0 0 _ a rfl ha (by decide) (by decide) ?_
  refine read_step _ l4 _ 1 _ b rfl hb (by decide) (by clear l4; omega) ?_
  refine read_step _ l4 _ 2 _ c rfl hc (by decide) (by clear l4; omega) ?_
  refine read_step _ l4 _ 3 _ d rfl hd (by decide) (by clear l4; omega) ?_
  exact read_end _ _

theorem read_ev (t : List Int) (hb : Bytes t) (h : t.length = 4) : Ev (fun k => crc_Read.f k t) (rd4 t, true) := by
  obtain ⟨a, b, c, d, rfl⟩ := four h
  have h0 := hb a (by simp); have h1 := hb b (by simp); have h2 := hb c (by simp); have h3 := hb d (by simp)
  obtain ⟨a, rfl⟩ := Int.eq_ofNat_of_zero_le h0.1
  obtain ⟨b, rfl⟩ := Int.eq_ofNat_of_zero_le h1.1
  obtain ⟨c, rfl⟩ := Int.eq_ofNat_of_zero_le h2.1
  obtain ⟨d, rfl⟩ := Int.eq_ofNat_of_zero_le h3.1
  clear hb
  have e : ((0 + a * 2 ^ (8 * 0) + b * 2 ^ (8 * 1) + c * 2 ^ (8 * 2) + d * 2 ^ (8 * 3) : Nat) : Int) = rd4 [(a : Int), b, c, d] := by simp only [rd4]; omega
  have hr := read_nat a b c d (by omega) (by omega) (by omega) (by omega)
  rw [e] at hr
  refine Ev.congr (fun k => ?_) hr
  unfold crc_Read.f
  rw [if_pos (by rw [h]; rfl)]
  rfl
theorem bytes_some (v : Int) : crc_Bytes.f v = some (le4 v) := rfl

/-- Bytes, and their sum behind them. -/
def sealB (l : List Int) : List Int := l ++ le4 (toI (sumW l))
theorem sealB_length (l : List Int) : (sealB l).length = l.length + 4 := by unfold sealB; rw [List.length_append, le4_length]
theorem sealB_bytes {l : List Int} (h : Bytes l) : Bytes (sealB l) := by
  intro x hx
  unfold sealB at hx
  rcases List.mem_append.1 hx with hx | hx
  · exact h x hx
  · exact le4_bytes _ x hx
/-- A head's bytes. -/
def headB (K M I B S D : Int) : List Int := [83, 66, 88, 49, K % 256, M % 256, I % 256, 0] ++ le4 B ++ le4 S ++ le4 D
theorem headB_length (K M I B S D : Int) : (headB K M I B S D).length = 20 := rfl
theorem headB_bytes (K M I B S D : Int) : Bytes (headB K M I B S D) := by
  intro x hx
  unfold headB at hx
  rcases List.mem_append.1 hx with hx | hx
  · rcases List.mem_append.1 hx with hx | hx
    · rcases List.mem_append.1 hx with hx | hx
      · simp at hx; omega
      · exact le4_bytes _ x hx
    · exact le4_bytes _ x hx
  · exact le4_bytes _ x hx
/-- The data, block by block, each with its sum. -/
def blocksB (n : Nat) : Nat → List Int → List Int
  | 0, _ => []
  | f + 1, l => if l = [] then [] else sealB (l.take n) ++ blocksB n f (l.drop n)
theorem blocksB_bytes (n : Nat) (f : Nat) : ∀ {l : List Int}, Bytes l → Bytes (blocksB n f l) := by
  induction f with
  | zero => intro l h x hx; cases hx
  | succ f ih =>
    intro l h x hx
    unfold blocksB at hx
    by_cases hl : l = []
    · rw [if_pos hl] at hx; cases hx
    · rw [if_neg hl] at hx
      rcases List.mem_append.1 hx with hx | hx
      · exact sealB_bytes (h.sub fun y hy => List.mem_of_mem_take hy) x hx
      · exact ih (h.sub fun y hy => List.mem_of_mem_drop hy) x hx
theorem blocksB_length_le (n : Nat) (hn : 0 < n) (f : Nat) : ∀ l : List Int, (blocksB n f l).length ≤ 5 * l.length := by
  induction f with
  | zero => intro l; simp [blocksB]
  | succ f ih =>
    intro l
    unfold blocksB
    by_cases hl : l = []
    · rw [if_pos hl]; simp
    · rw [if_neg hl]
      have h1 := ih (l.drop n)
      have h2 : 0 < l.length := List.length_pos_iff.2 hl
      rw [List.length_append, sealB_length, List.length_take]
      rw [List.length_drop] at h1
      omega
/-- A file. -/
def fileB (K M I B S D : Int) (l : List Int) : List Int := sealB (headB K M I B S D) ++ blocksB B.toNat l.length l

theorem seal_ev (a l : List Int) (hl : l.length < 4611686018427387904) (hb : Bytes l) (ha : a.length + 4 < 140737488355328) : Ev (fun k => shard_sum.f k a l) (a ++ le4 (toI (sumW l))) := by
  unfold shard_sum.f
  refine Ev.bind (g := fun k => crc_Sum.f k l) (sum_ev l hl hb) ?_
  refine Ev.congr (f := fun _ => some (a ++ le4 (toI (sumW l)))) (fun k => ?_) (Ev.now _)
  show (some (le4 (toI (sumW l)))).bind _ = _
  rw [Option.bind_some, if_pos (by rw [le4_length]; exact ha)]
theorem number_some (l : List Int) (a : Int) (hl : l.length + 4 < 140737488355328) : shard_number.f l a = some (l ++ le4 a) := by
  unfold shard_number.f
  show (some (le4 a)).bind _ = _
  rw [Option.bind_some, if_pos (by rw [le4_length]; exact hl)]
theorem head_ev (K M I B S D : Int) : Ev (fun k => shard_head.f k K M I B S D) (sealB (headB K M I B S D)) := by
  have h := seal_ev (headB K M I B S D) (headB K M I B S D) (by rw [headB_length]; decide) (headB_bytes _ _ _ _ _ _) (by rw [headB_length]; decide)
  refine Ev.congr (fun k => ?_) h
  unfold shard_head.f
  rw [number_some _ _ (by simp), Option.bind_some, number_some _ _ (by rw [List.length_append, le4_length]; simp), Option.bind_some, number_some _ _ (by rw [List.length_append, List.length_append, le4_length, le4_length]; simp), Option.bind_some]
  rfl
theorem write_l0 (n : Int) (hn : 0 < n) (f : Nat) : ∀ (l b : List Int), l.length ≤ f → Bytes l → b.length + 5 * l.length + 8 < 140737488355328 → Ev (fun k => shard_Write.l0 k n b l) (b ++ blocksB n.toNat f l, 0) := by
  induction f with
  | zero =>
    intro l b hf _ _
    obtain rfl : l = [] := List.eq_nil_of_length_eq_zero (by omega)
    refine Ev.step (f := fun _ => some (b ++ blocksB n.toNat 0 [], 0)) (fun k => ?_) (Ev.now _)
    simp only [shard_Write.l0, blocksB, List.append_nil]
    rw [if_pos trivial]
  | succ f ih =>
    intro l b hf hb hl
    by_cases h0 : l = []
    · refine Ev.step (f := fun _ => some (b ++ blocksB n.toNat (f + 1) l, 0)) (fun k => ?_) (Ev.now _)
      unfold blocksB
      simp only [shard_Write.l0]
      rw [if_pos h0, if_pos h0, List.append_nil]
    · have hp : 0 < l.length := List.length_pos_iff.2 h0
      have ht : (l.take n.toNat).length = min n.toNat l.length := List.length_take
      have hd : (l.drop n.toNat).length = l.length - n.toNat := List.length_drop
      have e : b ++ blocksB n.toNat (f + 1) l = ((b ++ l.take n.toNat) ++ le4 (toI (sumW (l.take n.toNat)))) ++ blocksB n.toNat f (l.drop n.toNat) := by
        rw [blocksB, if_neg h0]
        unfold sealB
        simp only [List.append_assoc]
      rw [e]
      refine Ev.step (f := fun k => (shard_sum.f k (b ++ l.take n.toNat) (l.take n.toNat)).bind fun b2 => shard_Write.l0 k n b2 (l.drop n.toNat)) (fun k => ?_) ?_
      · simp only [shard_Write.l0]
        rw [if_neg h0, if_pos (by omega)]
      · refine Ev.bind (g := fun k => shard_sum.f k (b ++ l.take n.toNat) (l.take n.toNat)) (f := fun k b2 => shard_Write.l0 k n b2 (l.drop n.toNat)) (seal_ev (b ++ l.take n.toNat) (l.take n.toNat) (by omega) (hb.sub fun y hy => List.mem_of_mem_take hy) (by rw [List.length_append]; omega)) ?_
        refine ih (l.drop n.toNat) _ (by omega) (hb.sub fun y hy => List.mem_of_mem_drop hy) ?_
        rw [List.length_append, List.length_append, le4_length]
        omega
theorem write_ev (K M I B S D : Int) (l : List Int) (hm : Ev (fun k => shard_May.f k K M I B S D) true) (hB : 0 < B) (hS : (l.length : Int) = S) (hl : l.length ≤ 65536) (hb : Bytes l) :
    Ev (fun k => shard_Write.f k K M I B S D l) (fileB K M I B S D l, 0) := by
  unfold shard_Write.f
  refine Ev.bind (g := fun k => shard_May.f k K M I B S D) hm ?_
  refine Ev.congr (f := fun k => (shard_head.f k K M I B S D).bind fun b => shard_Write.l0 k B b l) (fun k => ?_) ?_
  · rw [if_pos rfl, if_pos hS]
  · refine Ev.bind (g := fun k => shard_head.f k K M I B S D) (f := fun k b => shard_Write.l0 k B b l) (head_ev _ _ _ _ _ _) ?_
    refine write_l0 B hB l.length l _ (Nat.le_refl _) hb ?_
    rw [sealB_length, headB_length]
    omega
theorem within_some (n lo hi : Int) : shard_within.f n lo hi = some (decide (lo ≤ n ∧ n ≤ hi)) := by
  unfold shard_within.f
  by_cases h1 : n ≥ lo
  · rw [if_pos h1]
    congr 1
    by_cases h2 : n ≤ hi
    · rw [decide_eq_true h2, decide_eq_true ⟨h1, h2⟩]
    · rw [decide_eq_false h2, decide_eq_false (fun h => h2 h.2)]
  · rw [if_neg h1, decide_eq_false (fun h => h1 h.1)]
/-- A head that may be. -/
def mayB (K M I B S D : Int) : Bool := decide ((1 ≤ K ∧ K ≤ 255) ∧ (1 ≤ M ∧ M ≤ 255 - K) ∧ (0 ≤ I ∧ I ≤ K + M - 1) ∧ (16 ≤ B ∧ B ≤ 4096) ∧ (0 ≤ S ∧ S ≤ 65536) ∧ (0 ≤ D ∧ D ≤ 2147483647))
theorem may_one (B S : Int) (hB : 16 ≤ B ∧ B ≤ 4096) (hS : 0 ≤ S ∧ S ≤ 65536) : Ev (fun k => shard_May.f k 2 1 1 B S 65537) true := by
  refine Ev.step (f := fun _ => some true) (fun k => ?_) (Ev.now _)
  have w1 : wrap64 (255 - 2) = 253 := by unfold wrap64; omega
  have w2 : wrap64 ((wrap64 (2 + 1)) - 1) = 2 := by unfold wrap64; omega
  unfold shard_May.f
  rw [within_some, Option.bind_some, if_pos (by decide), w1, within_some, Option.bind_some]
  show shard_May.j0 (k + 1) false 2 1 1 B S 65537 = some true
  simp only [shard_May.j0]
  rw [if_neg (by decide), w2, within_some, Option.bind_some, if_pos (by decide), within_some, Option.bind_some, if_pos (decide_eq_true hB), within_some, Option.bind_some, if_pos (decide_eq_true hS), within_some, Option.bind_some]
  rfl

theorem i64_or_nat (a b : Nat) (ha : a < 9223372036854775808) (hb : b < 9223372036854775808) : Go.bits .or .i64 (a : Int) (b : Int) = ((a ||| b : Nat) : Int) := by
  have hx : a ||| b < 2 ^ 63 := Nat.or_lt_two_pow (by omega) (by omega)
  show IntKind.i64.wrap ((BitVec.ofInt 64 (a : Int) ||| BitVec.ofInt 64 (b : Int)).toNat : Int) = _
  rw [BitVec.toNat_or, ofInt_u64 a (by omega), ofInt_u64 b (by omega), IntKind.wrap_i64]
  omega
theorem or_add (s x i : Nat) (hs : s < 2 ^ i) : s ||| x * 2 ^ i = s + x * 2 ^ i := by
  rw [Nat.or_comm, ← Nat.shiftLeft_eq, ← Nat.shiftLeft_add_eq_or_of_lt hs, Nat.add_comm]
theorem or_four (a b c d : Nat) (ha : a < 256) (hb : b < 256) (hc : c < 256) (hd : d < 256) :
    Go.bits .or .i64 (Go.bits .or .i64 (Go.bits .or .i64 (wrap64 (a : Int)) (wrap64 ((wrap64 (b : Int)) * 256))) (wrap64 ((wrap64 (c : Int)) * 65536))) (wrap64 ((wrap64 (d : Int)) * 16777216)) = ((a + b * 256 + c * 65536 + d * 16777216 : Nat) : Int) := by
  rw [w64_lt (by omega) (by omega : (a : Int) < _), w64_lt (by omega) (by omega : (b : Int) < _), w64_lt (by omega) (by omega : (c : Int) < _), w64_lt (by omega) (by omega : (d : Int) < _)]
  rw [w64_lt (by omega) (by omega), w64_lt (by omega) (by omega), w64_lt (by omega) (by omega)]
  rw [show (b : Int) * 256 = ((b * 2 ^ 8 : Nat) : Int) by omega, show (c : Int) * 65536 = ((c * 2 ^ 16 : Nat) : Int) by omega, show (d : Int) * 16777216 = ((d * 2 ^ 24 : Nat) : Int) by omega]
  rw [i64_or_nat _ _ (by omega) (by omega), or_add a b 8 (by omega), i64_or_nat _ _ (by omega) (by omega), or_add _ c 16 (by omega), i64_or_nat _ _ (by omega) (by omega), or_add _ d 24 (by omega)]
theorem take_four (l : List Int) (n : Nat) (h : n + 4 ≤ l.length) : (l.drop n).take 4 = [rd l n, rd l ((n + 1 : Nat) : Int), rd l ((n + 2 : Nat) : Int), rd l ((n + 3 : Nat) : Int)] := by
  have g : ∀ i : Nat, (hi : i < l.length) → rd l (i : Int) = l[i] := fun i hi => by
    unfold rd
    rw [Int.toNat_natCast, List.getD_eq_getElem?_getD, List.getElem?_eq_getElem hi]
    rfl
  rw [g n (by omega), g (n + 1) (by omega), g (n + 2) (by omega), g (n + 3) (by omega)]
  rw [List.drop_eq_getElem_cons (by omega : n < l.length), List.drop_eq_getElem_cons (by omega : n + 1 < l.length), List.drop_eq_getElem_cons (by omega : n + 1 + 1 < l.length), List.drop_eq_getElem_cons (by omega : n + 1 + 1 + 1 < l.length)]
  rfl
theorem rd_byte {l : List Int} (h : Bytes l) (i : Nat) (h1 : i < l.length) : ∃ x : Nat, rd l (i : Int) = (x : Int) ∧ x < 256 := by
  have : 0 ≤ rd l i ∧ rd l i < 256 := by
    unfold rd
    rw [Int.toNat_natCast, List.getD_eq_getElem?_getD, List.getElem?_eq_getElem h1]
    exact h _ (List.getElem_mem _)
  obtain ⟨x, hx⟩ := Int.eq_ofNat_of_zero_le this.1
  exact ⟨x, hx, by omega⟩
theorem get_some (l : List Int) (hb : Bytes l) (n : Nat) (hn : n + 4 ≤ l.length) (hl : l.length < 4611686018427387904) : shard_get.f l (n : Int) = some (rd4 ((l.drop n).take 4)) := by
  have w1 : wrap64 ((n : Int) + 1) = ((n + 1 : Nat) : Int) := by rw [w64_lt (by omega) (by omega)]; omega
  have w2 : wrap64 ((n : Int) + 2) = ((n + 2 : Nat) : Int) := by rw [w64_lt (by omega) (by omega)]; omega
  have w3 : wrap64 ((n : Int) + 3) = ((n + 3 : Nat) : Int) := by rw [w64_lt (by omega) (by omega)]; omega
  have p0 : ∀ m : Nat, (0 : Int) ≤ (m : Int) := fun m => Int.natCast_nonneg m
  have p1 : (n : Int) < (l.length : Int) := by clear w1 w2 w3; omega
  have p2 : ((n + 1 : Nat) : Int) < (l.length : Int) := by clear w1 w2 w3; omega
  have p3 : ((n + 2 : Nat) : Int) < (l.length : Int) := by clear w1 w2 w3; omega
  have p4 : ((n + 3 : Nat) : Int) < (l.length : Int) := by clear w1 w2 w3; omega
  have t := take_four l n hn
  have b0 := rd_byte hb n (by clear w1 w2 w3; omega)
  have b1 := rd_byte hb (n + 1) (by clear w1 w2 w3; omega)
  have b2 := rd_byte hb (n + 2) (by clear w1 w2 w3; omega)
  have b3 := rd_byte hb (n + 3) (by clear w1 w2 w3; omega)
  clear hl hn
  obtain ⟨a, ea, ha⟩ := b0
  obtain ⟨b, eb, hb'⟩ := b1
  obtain ⟨c, ec, hc⟩ := b2
  obtain ⟨d, ed, hd⟩ := b3
  have e4 : ((a + b * 256 + c * 65536 + d * 16777216 : Nat) : Int) = rd4 [(a : Int), b, c, d] := by
    clear w1 w2 w3 ea eb ec ed p1 p2 p3 p4 t
    simp only [rd4]
    omega
  rw [ea, eb, ec, ed] at t
  rw [t, ← e4, ← or_four a b c d ha hb' hc hd]
  unfold shard_get.f
  rw [w1, w2, w3, ea, eb, ec, ed, if_pos (p0 _), if_pos p1, if_pos (p0 _), if_pos p2, if_pos (p0 _), if_pos p3, if_pos (p0 _), if_pos p4]
theorem sum_range (l : List Int) : 0 ≤ toI (sumW l) ∧ toI (sumW l) < 4294967296 := toI_range _
/-- What stands in a file behind its head. -/
theorem opened_ev (B S : Int) (rest : List Int) (hB : 16 ≤ B ∧ B ≤ 4096) (hS : 0 ≤ S ∧ S ≤ 65536) (hb : Bytes rest) (hl : rest.length + 24 ≤ 131072) :
    Ev (fun k => shard_opened.f k (sealB (headB 2 1 1 B S 65537) ++ rest)) (2, 1, 1, B, S, 65537, rest, 0, 0) := by
  generalize hs : toI (sumW (headB 2 1 1 B S 65537)) = s
  have hs0 : 0 ≤ s ∧ s < 4294967296 := hs ▸ sum_range _
  obtain ⟨K1, h1⟩ := read_ev (le4 s) (le4_bytes s) rfl
  obtain ⟨K2, h2⟩ := sum_ev (headB 2 1 1 B S 65537) (by rw [headB_length]; decide) (headB_bytes _ _ _ _ _ _)
  obtain ⟨K3, h3⟩ := may_one B S hB hS
  rw [hs] at h2
  rw [rd4_le4 hs0.1 hs0.2] at h1
  have hbl : Bytes (sealB (headB 2 1 1 B S 65537) ++ rest) := fun x hx => (List.mem_append.1 hx).elim (fun h => sealB_bytes (headB_bytes _ _ _ _ _ _) x h) (fun h => hb x h)
  have hlen : (sealB (headB 2 1 1 B S 65537) ++ rest).length = rest.length + 24 := by rw [List.length_append, sealB_length, headB_length]; omega
  have el : sealB (headB 2 1 1 B S 65537) ++ rest = headB 2 1 1 B S 65537 ++ (le4 s ++ rest) := by unfold sealB; rw [hs, List.append_assoc]
  have e20 : (sealB (headB 2 1 1 B S 65537) ++ rest).take 20 = headB 2 1 1 B S 65537 := by rw [el]; exact List.take_left' (headB_length _ _ _ _ _ _)
  have e24 : ((sealB (headB 2 1 1 B S 65537) ++ rest).take 24).drop 20 = le4 s := by
    rw [el, List.drop_take, List.drop_left' (headB_length _ _ _ _ _ _)]
    exact List.take_left' (le4_length s)
  have ed : (sealB (headB 2 1 1 B S 65537) ++ rest).drop 24 = rest := List.drop_left' (by rw [sealB_length, headB_length])
  have g1 := get_some _ hbl 8 (by omega) (by omega)
  have g2 := get_some _ hbl 12 (by omega) (by omega)
  have g3 := get_some _ hbl 16 (by omega) (by omega)
  have i1 : ((sealB (headB 2 1 1 B S 65537) ++ rest).drop 8).take 4 = le4 B := rfl
  have i2 : ((sealB (headB 2 1 1 B S 65537) ++ rest).drop 12).take 4 = le4 S := rfl
  have i3 : ((sealB (headB 2 1 1 B S 65537) ++ rest).drop 16).take 4 = le4 65537 := rfl
  rw [i1, rd4_le4 (by omega) (by omega)] at g1
  rw [i2, rd4_le4 (by omega) (by omega)] at g2
  rw [i3, rd4_le4 (by omega) (by omega)] at g3
  have r4 : rd (sealB (headB 2 1 1 B S 65537) ++ rest) 4 = 2 := rfl
  have r5 : rd (sealB (headB 2 1 1 B S 65537) ++ rest) 5 = 1 := rfl
  have r6 : rd (sealB (headB 2 1 1 B S 65537) ++ rest) 6 = 1 := rfl
  have r7 : rd (sealB (headB 2 1 1 B S 65537) ++ rest) 7 = 0 := rfl
  have t4 : (strOfNums ((sealB (headB 2 1 1 B S 65537) ++ rest).take 4)).toList = ([83, 66, 88, 49] : List UInt8) := by
    have : (sealB (headB 2 1 1 B S 65537) ++ rest).take 4 = [83, 66, 88, 49] := rfl
    rw [this]; decide +kernel
  have w2 : wrap64 2 = 2 := by unfold wrap64; omega
  have w1 : wrap64 1 = 1 := by unfold wrap64; omega
  refine ⟨max K1 (max K2 K3), fun k hk => ?_⟩
  have q1 := h1 k (by omega)
  have q2 := h2 k (by omega)
  have q3 := h3 k (by omega)
  simp only at q1 q2 q3
  show shard_opened.f k _ = _
  unfold shard_opened.f
  rw [if_neg (by omega), if_neg (by omega), if_pos (by omega), if_pos t4, if_pos (by decide), if_pos (by omega), e24, q1, Option.bind_some, if_pos (by omega), e20, q2, Option.bind_some, if_pos rfl, if_pos (by omega), if_pos (by omega), if_pos (by omega)]
  have g1' : shard_get.f (sealB (headB 2 1 1 B S 65537) ++ rest) 8 = some B := g1
  have g2' : shard_get.f (sealB (headB 2 1 1 B S 65537) ++ rest) 12 = some S := g2
  have g3' : shard_get.f (sealB (headB 2 1 1 B S 65537) ++ rest) 16 = some 65537 := g3
  rw [g1', Option.bind_some, g2', Option.bind_some, g3', Option.bind_some, r4, r5, r6, w2, w1, q3, Option.bind_some, if_pos rfl, if_pos (by omega), r7, if_pos rfl, ed]

/-- An error, and at which block. -/
def errT (blk e : Int) : Int × Int × Int × Int × Int × Int × List Int × Int × Int := (0, 0, 0, 0, 0, 0, [], blk, e)
/-- What is made of what stands behind a head: S the data's length, B a block's. -/
def parseS (B S : Nat) : Nat → List Int → List Int → Int → Int × Int × Int × Int × Int × Int × List Int × Int × Int
  | 0, rest, acc, _ => if rest.length > 0 then errT 0 4 else (2, 1, 1, B, S, 65537, acc, 0, 0)
  | f + 1, rest, acc, blk => if acc.length < S then (if rest.length < min B (S - acc.length) + 4 then errT 0 2 else if rd4 ((rest.take (min B (S - acc.length) + 4)).drop (min B (S - acc.length))) = toI (sumW (rest.take (min B (S - acc.length)))) then parseS B S f (rest.drop (min B (S - acc.length) + 4)) (acc ++ rest.take (min B (S - acc.length))) (wrap64 (blk + 1)) else errT blk 5) else if rest.length > 0 then errT 0 4 else (2, 1, 1, B, S, 65537, acc, 0, 0)
theorem parse_end (k : Nat) (B S : Nat) (rest acc : List Int) (blk : Int) (h : ¬ acc.length < S) : shard_parse.l0 (k + 1) rest acc blk 2 1 1 B S 65537 = some (if rest.length > 0 then errT 0 4 else (2, 1, 1, B, S, 65537, acc, 0, 0)) := by
  rw [shard_parse.l0, if_neg (by omega)]
  by_cases hr : rest.length > 0
  · rw [if_pos (by omega), if_pos hr]; rfl
  · rw [if_neg (by omega), if_neg hr]
theorem parse_l0 (B S : Nat) (hB : 0 < B ∧ B ≤ 4096) (hS : S ≤ 65536) (f : Nat) : ∀ (rest acc : List Int) (blk : Int), S - acc.length ≤ f → acc.length ≤ S → rest.length ≤ 131072 → Bytes rest →
    Ev (fun k => shard_parse.l0 k rest acc blk 2 1 1 B S 65537) (parseS B S f rest acc blk) := by
  induction f with
  | zero =>
    intro rest acc blk h1 h2 _ _
    refine Ev.step (f := fun _ => some (parseS B S 0 rest acc blk)) (fun k => ?_) (Ev.now _)
    exact parse_end k B S rest acc blk (by omega)
  | succ f ih =>
    intro rest acc blk h1 h2 hr hb
    by_cases ha : acc.length < S
    · obtain ⟨n, hn⟩ : ∃ n, n = min B (S - acc.length) := ⟨_, rfl⟩
      have hn1 : 0 < n ∧ n ≤ 4096 ∧ acc.length + n ≤ S := by omega
      have e1 : mn (B : Int) (wrap64 ((S : Int) - (acc.length : Int))) = (n : Int) := by
        rw [w64_lt (by omega) (by omega)]
        unfold mn
        split <;> omega
      have e2 : wrap64 ((n : Int) + 4) = ((n + 4 : Nat) : Int) := by rw [w64_lt (by omega) (by omega)]; omega
      by_cases hs : rest.length < n + 4
      · refine Ev.step (f := fun _ => some (parseS B S (f + 1) rest acc blk)) (fun k => ?_) (Ev.now _)
        rw [parseS, ← hn, if_pos ha, if_pos hs, shard_parse.l0, if_pos (by clear e1 e2; omega), e1, e2, if_pos (by clear e1 e2; omega)]
        rfl
      · have bt : Bytes ((rest.take (n + 4)).drop n) := hb.sub fun x hx => List.mem_of_mem_take (List.mem_of_mem_drop hx)
        have bs : Bytes (rest.take n) := hb.sub fun x hx => List.mem_of_mem_take hx
        have bd : Bytes (rest.drop (n + 4)) := hb.sub fun x hx => List.mem_of_mem_drop hx
        have lt : ((rest.take (n + 4)).drop n).length = 4 := by rw [List.length_drop, List.length_take]; clear e1 e2; omega
        have ls : (rest.take n).length = n := by rw [List.length_take]; clear e1 e2; omega
        have ld : (rest.drop (n + 4)).length = rest.length - (n + 4) := List.length_drop
        have q0 : (acc.length : Int) < (S : Int) := by clear e1 e2; omega
        have q1 : ¬ (rest.length : Int) < ((n + 4 : Nat) : Int) := by clear e1 e2; omega
        have q2 : (0 : Int) ≤ (n : Int) := by clear e1 e2; omega
        have q3 : (n : Int) ≤ ((n + 4 : Nat) : Int) := by clear e1 e2; omega
        have q4 : ((n + 4 : Nat) : Int) ≤ (rest.length : Int) := by clear e1 e2; omega
        have q5 : (n : Int) ≤ (rest.length : Int) := by clear e1 e2; omega
        have q6 : acc.length + (rest.take n).length < 140737488355328 := by rw [ls]; clear e1 e2; omega
        have q7 : (0 : Int) ≤ ((n + 4 : Nat) : Int) := by clear e1 e2; omega
        obtain ⟨K1, g1⟩ := read_ev _ bt lt
        obtain ⟨K2, g2⟩ := sum_ev _ (by rw [ls]; clear e1 e2; omega) bs
        obtain ⟨K3, g3⟩ := ih (rest.drop (n + 4)) (acc ++ rest.take n) (wrap64 (blk + 1)) (by rw [List.length_append, ls]; clear e1 e2; omega) (by rw [List.length_append, ls]; clear e1 e2; omega) (by rw [ld]; clear e1 e2; omega) bd
        refine ⟨max K1 (max K2 K3) + 1, fun k hk => ?_⟩
        obtain ⟨k, rfl⟩ : ∃ j, k = j + 1 := ⟨k - 1, by clear e1 e2; omega⟩
        have g1 := g1 k (by clear e1 e2; omega)
        have g2 := g2 k (by clear e1 e2; omega)
        have g3 := g3 k (by clear e1 e2; omega)
        simp only at g1 g2 g3
        show shard_parse.l0 (k + 1) rest acc blk 2 1 1 B S 65537 = _
        rw [parseS, ← hn, if_pos ha, if_neg hs, shard_parse.l0, if_pos q0, e1, e2, if_neg q1, if_pos q2, if_pos q3, if_pos q4, Int.toNat_natCast, Int.toNat_natCast, g1, Option.bind_some, if_pos q5, g2, Option.bind_some]
        by_cases he : rd4 ((rest.take (n + 4)).drop n) = toI (sumW (rest.take n))
        · rw [if_pos he, if_pos he, Option.bind_some, if_pos q6, if_pos q7, g3]
        · rw [if_neg he, if_neg he]
          rfl
    · refine Ev.step (f := fun _ => some (parseS B S (f + 1) rest acc blk)) (fun k => ?_) (Ev.now _)
      rw [parse_end k B S rest acc blk ha, parseS, if_neg ha]
/-- What Read hands back of parse. -/
def ofT (t : Int × Int × Int × Int × Int × Int × List Int × Int × Int) : Int × Int × Int × Int × Int × Int × List Int × Int := (t.1, t.2.1, t.2.2.1, t.2.2.2.1, t.2.2.2.2.1, t.2.2.2.2.2.1, t.2.2.2.2.2.2.1, t.2.2.2.2.2.2.2.2)
theorem read_file_ev (B S : Nat) (hB : 16 ≤ B ∧ B ≤ 4096) (hS : S ≤ 65536) (rest : List Int) (hb : Bytes rest) (hl : rest.length + 24 ≤ 131072) :
    Ev (fun k => shard_Read.f k (sealB (headB 2 1 1 B S 65537) ++ rest)) (ofT (parseS B S S rest [] 0)) := by
  obtain ⟨K1, h1⟩ := opened_ev (B : Int) (S : Int) rest (by omega) (by omega) hb hl
  obtain ⟨K2, h2⟩ := parse_l0 B S (by omega) hS S rest [] 0 (by simp) (by simp) (by omega) hb
  refine ⟨max K1 K2, fun k hk => ?_⟩
  have h1 := h1 k (by omega)
  have h2 := h2 k (by omega)
  simp only at h1 h2
  have q1 : (0 : Int) ≤ mn (S : Int) (rest.length : Int) := by unfold mn; split <;> omega
  have q2 : (mn (S : Int) (rest.length : Int)).toNat ≤ 281474976710656 := by unfold mn; split <;> omega
  show shard_Read.f k _ = _
  rw [shard_Read.f, shard_parse.f, h1, Option.bind_some, if_pos rfl, if_pos q1, if_pos q2]
  show (shard_parse.l0 k rest [] 0 2 1 1 B S 65537).bind _ = _
  rw [h2]
  rfl
theorem read_short_ev (l : List Int) (hl : l.length < 24) : Ev (fun k => shard_Read.f k l) (0, 0, 0, 0, 0, 0, [], 2) := by
  refine ⟨0, fun k _ => ?_⟩
  show shard_Read.f k l = _
  rw [shard_Read.f, shard_parse.f, shard_opened.f, if_neg (by omega), if_pos (by omega), Option.bind_some, if_neg (by show ¬ (2 : Int) = 0; decide)]
  rfl
theorem seal_parts (x y : List Int) (n : Nat) (hx : x.length = n) : (sealB x ++ y).take n = x ∧ ((sealB x ++ y).take (n + 4)).drop n = le4 (toI (sumW x)) ∧ (sealB x ++ y).drop (n + 4) = y := by
  have e : sealB x ++ y = x ++ (le4 (toI (sumW x)) ++ y) := by unfold sealB; rw [List.append_assoc]
  refine ⟨by rw [e]; exact List.take_left' hx, ?_, List.drop_left' (by rw [sealB_length, hx])⟩
  rw [e, List.drop_take, List.drop_left' hx, Nat.add_sub_cancel_left]
  exact List.take_left' (le4_length _)
/-- All blocks whole: the data, or that something stands behind. -/
theorem parse_full (B S : Nat) (hB : 0 < B) (rest : List Int) (f : Nat) : ∀ (g : Nat) (data acc : List Int) (blk : Int), data.length ≤ f → data.length ≤ g → acc.length + data.length = S →
    parseS B S g (blocksB B f data ++ rest) acc blk = if rest.length > 0 then errT 0 4 else (2, 1, 1, B, S, 65537, acc ++ data, 0, 0) := by
  induction f with
  | zero =>
    intro g data acc blk hf hg hs
    obtain rfl : data = [] := List.eq_nil_of_length_eq_zero (by omega)
    simp only [List.length_nil, Nat.add_zero] at hs
    rw [blocksB, List.nil_append, List.append_nil]
    cases g with
    | zero => rfl
    | succ g => rw [parseS, if_neg (by omega)]
  | succ f ih =>
    intro g data acc blk hf hg hs
    by_cases h0 : data = []
    · subst h0
      simp only [List.length_nil, Nat.add_zero] at hs
      rw [blocksB, if_pos rfl, List.nil_append, List.append_nil]
      cases g with
      | zero => rfl
      | succ g => rw [parseS, if_neg (by omega)]
    · have hp : 0 < data.length := List.length_pos_iff.2 h0
      cases g with
      | zero => omega
      | succ g =>
      have ht : (data.take B).length = min B (S - acc.length) := by rw [List.length_take]; omega
      have hd : (data.drop B).length = data.length - B := List.length_drop
      rw [blocksB, if_neg h0, List.append_assoc, parseS, if_pos (by omega), ← ht]
      obtain ⟨p1, p2, p3⟩ := seal_parts (data.take B) (blocksB B f (data.drop B) ++ rest) _ rfl
      have hlen : ¬ (sealB (data.take B) ++ (blocksB B f (data.drop B) ++ rest)).length < (data.take B).length + 4 := by rw [List.length_append, sealB_length]; omega
      rw [if_neg hlen, p1, p2, p3, if_pos (rd4_le4 (sum_range _).1 (sum_range _).2)]
      rw [ih g (data.drop B) (acc ++ data.take B) _ (by omega) (by omega) (by rw [List.length_append, ht]; omega), List.append_assoc, List.take_append_drop]
/-- Blocks cut off anywhere are too short. -/
theorem parse_cut (B S : Nat) (hB : 0 < B) (f : Nat) : ∀ (g : Nat) (data acc : List Int) (blk : Int) (q : Nat), data.length ≤ f → data.length ≤ g → acc.length + data.length = S → q < (blocksB B f data).length →
    parseS B S g ((blocksB B f data).take q) acc blk = errT 0 2 := by
  induction f with
  | zero =>
    intro g data acc blk q hf hg hs hq
    simp [blocksB] at hq
  | succ f ih =>
    intro g data acc blk q hf hg hs hq
    by_cases h0 : data = []
    · rw [blocksB, if_pos h0] at hq; simp at hq
    · have hp : 0 < data.length := List.length_pos_iff.2 h0
      cases g with
      | zero => omega
      | succ g =>
      have ht : (data.take B).length = min B (S - acc.length) := by rw [List.length_take]; omega
      have hd : (data.drop B).length = data.length - B := List.length_drop
      rw [blocksB, if_neg h0] at hq ⊢
      rw [List.length_append, sealB_length] at hq
      by_cases hc : q < (data.take B).length + 4
      · rw [parseS, if_pos (by omega), ← ht, if_pos (by rw [List.length_take]; omega)]
      · have e : (sealB (data.take B) ++ blocksB B f (data.drop B)).take q = sealB (data.take B) ++ (blocksB B f (data.drop B)).take (q - ((data.take B).length + 4)) := by
          rw [List.take_append, sealB_length, List.take_of_length_le (by rw [sealB_length]; omega)]
        obtain ⟨p1, p2, p3⟩ := seal_parts (data.take B) ((blocksB B f (data.drop B)).take (q - ((data.take B).length + 4))) _ rfl
        have hlen : ¬ (sealB (data.take B) ++ (blocksB B f (data.drop B)).take (q - ((data.take B).length + 4))).length < (data.take B).length + 4 := by rw [List.length_append, sealB_length]; omega
        rw [e, parseS, if_pos (by omega), ← ht, if_neg hlen, p1, p2, p3, if_pos (rd4_le4 (sum_range _).1 (sum_range _).2)]
        exact ih g (data.drop B) (acc ++ data.take B) _ _ (by omega) (by omega) (by rw [List.length_append, ht]; omega) (by omega)

theorem awake5_ev : Ev (fun k => strongboxlaw5_awake.f k) true := by
  generalize hd : ((List.replicate 17 (0 : Int)).set (16 : Int).toNat 9) = data
  have hl : data.length = 17 := by rw [← hd]; rfl
  have hb : Bytes data := by rw [← hd]; unfold Bytes; decide
  obtain ⟨K1, h1⟩ := write_ev 2 1 1 16 17 65537 data (may_one 16 17 (by decide) (by decide)) (by decide) (by rw [hl]; rfl) (by rw [hl]; decide) hb
  have hbb : Bytes (blocksB 16 17 data) := blocksB_bytes 16 17 hb
  have hbl : (blocksB 16 17 data).length ≤ 85 := by have := blocksB_length_le 16 (by decide) 17 data; omega
  obtain ⟨K2, h2⟩ := read_file_ev 16 17 (by decide) (by decide) (blocksB 16 17 data) hbb (by omega)
  have e1 : fileB 2 1 1 16 17 65537 data = sealB (headB 2 1 1 16 17 65537) ++ blocksB 16 17 data := by unfold fileB; rw [hl]; rfl
  have e2 : parseS 16 17 17 (blocksB 16 17 data) [] 0 = (2, 1, 1, 16, 17, 65537, data, 0, 0) := by
    have := parse_full 16 17 (by decide) [] 17 17 data [] 0 (by omega) (by omega) (by simp [hl])
    rw [List.append_nil, if_neg (by simp)] at this
    exact this
  have e3 : (fileB 2 1 1 16 17 65537 data).length = 49 := by rw [← hd]; rfl
  refine ⟨max K1 K2, fun k hk => ?_⟩
  have h1 := h1 k (by omega)
  have h2 := h2 k (by omega)
  simp only at h1 h2
  have h2' : shard_Read.f k (fileB 2 1 1 16 17 65537 data) = some (2, 1, 1, 16, 17, 65537, data, 0) := by
    rw [e1]
    refine (show _ = _ from h2).trans ?_
    rw [e2]; rfl
  show strongboxlaw5_awake.f k = some true
  have w0 : wrap64 (16 + wrap64 0) = 16 := by unfold wrap64; omega
  rw [strongboxlaw5_awake.f, strongboxlaw5_One.f, w0, Option.bind_some, if_pos (by decide), Option.bind_some, if_pos (by decide), Option.bind_some, hd, strongboxlaw5_Head.f, Option.bind_some, h1, Option.bind_some, h2', Option.bind_some, if_pos rfl, if_pos (by show ((fileB 2 1 1 16 17 65537 data).length : Int) = 49; rw [e3]; rfl), if_pos rfl, Option.bind_some, if_pos (by rfl)]
  congr 1
  exact beq_self_eq_true _

theorem mask_bit (M i : Nat) (hM : M < 4294967296) (hi : i < 32) : (Go.bits .and .u32 (shr .u32 (M : Int) (IntKind.u64.wrap (i : Int))) 1 = 1) ↔ M.testBit i = true := by
  have e1 : IntKind.u64.wrap (i : Int) = (i : Int) := by rw [IntKind.wrap_u64]; omega
  have e2 : shr .u32 (M : Int) (i : Int) = ((M / 2 ^ i : Nat) : Int) := by
    unfold shr
    rw [Int.toNat_natCast, Nat.min_eq_left (by show i ≤ 32; omega)]
    simp
  have hlt : M / 2 ^ i < 4294967296 := Nat.lt_of_le_of_lt (Nat.div_le_self _ _) hM
  have e3 := u32_and_nat (M / 2 ^ i) 1 hlt (by omega)
  rw [e1, e2]
  show Go.bits .and .u32 ((M / 2 ^ i : Nat) : Int) ((1 : Nat) : Int) = 1 ↔ _
  rw [e3, Nat.and_one_is_mod, Nat.testBit_eq_decide_div_mod_eq, decide_eq_true_iff]
  omega
theorem place (f i : Nat) (h : f + i < 9223372036854775807) : wrap64 (Int.tdiv (wrap64 ((f : Int) + (i : Int))) 8) = (((f + i) / 8 : Nat) : Int) ∧ IntKind.u64.wrap (Int.tmod (wrap64 ((f : Int) + (i : Int))) 8) = (((f + i) % 8 : Nat) : Int) := by
  have e : wrap64 ((f : Int) + (i : Int)) = ((f + i : Nat) : Int) := by rw [w64_lt (by omega) (by omega)]; omega
  rw [e]
  have e1 : Int.tdiv ((f + i : Nat) : Int) 8 = (((f + i) / 8 : Nat) : Int) := rfl
  have e2 : Int.tmod ((f + i : Nat) : Int) 8 = (((f + i) % 8 : Nat) : Int) := rfl
  rw [e1, e2, w64_lt (by omega) (by omega), IntKind.wrap_u64]
  omega
theorem turned (l : List Int) (hb : Bytes l) (p r : Nat) (hp : p < l.length) (hr : r < 8) :
    Go.bits .xor .u8 (rd l (p : Int)) (shl .u8 1 (r : Int)) = ((((l.getD p 0).toNat ^^^ 2 ^ r : Nat)) : Int) := by
  have hx := hb l[p] (List.getElem_mem hp)
  have hg : l.getD p 0 = l[p] := by rw [List.getD_eq_getElem?_getD, List.getElem?_eq_getElem hp]; rfl
  have h2 : (2 : Nat) ^ r < 2 ^ 8 := Nat.pow_lt_pow_right (by omega) hr
  have e1 : shl .u8 1 (r : Int) = ((2 ^ r : Nat) : Int) := by
    unfold shl
    rw [Int.toNat_natCast, Nat.min_eq_left (by show r ≤ 8; omega), Int.one_mul, IntKind.wrap_u8']
    have : ((2 : Int) ^ r) = ((2 ^ r : Nat) : Int) := by simp
    rw [this]
    have h3 : (2 : Nat) ^ r < 256 := h2
    generalize (2 : Nat) ^ r = q at h3 ⊢
    omega
  have e2 : rd l (p : Int) = ((l.getD p 0).toNat : Int) := by
    unfold rd
    rw [Int.toNat_natCast, hg]
    omega
  rw [e1, e2, u8_xor_nat _ _ (by rw [hg]; omega) (by omega)]

theorem bitAt_drop (l : List Int) (p j : Nat) : bitAt (l.drop p) j = bitAt l (j + 8 * p) := by
  unfold bitAt
  have e1 : (j + 8 * p) / 8 = p + j / 8 := by omega
  have e2 : (j + 8 * p) % 8 = j % 8 := by omega
  rw [e1, e2, List.getD_eq_getElem?_getD, List.getD_eq_getElem?_getD, List.getElem?_drop]
theorem bitAt_take (l : List Int) (n j : Nat) (h : j < 8 * n) : bitAt (l.take n) j = bitAt l j := by
  unfold bitAt
  rw [List.getD_eq_getElem?_getD, List.getD_eq_getElem?_getD, List.getElem?_take, if_pos (by omega)]
theorem bytes_ext {a b : List Int} (ha : Bytes a) (hb : Bytes b) (hl : a.length = b.length) (h : ∀ j, j < 8 * a.length → bitAt a j = bitAt b j) : a = b := by
  refine List.ext_getElem hl (fun i h1 h2 => ?_)
  have x1 := ha a[i] (List.getElem_mem h1)
  have x2 := hb b[i] (List.getElem_mem h2)
  have e : a[i].toNat = b[i].toNat := by
    refine Nat.eq_of_testBit_eq (fun r => ?_)
    by_cases hr : r < 8
    · have := h (8 * i + r) (by omega)
      unfold bitAt at this
      rw [show (8 * i + r) / 8 = i by omega, show (8 * i + r) % 8 = r by omega, List.getD_eq_getElem?_getD, List.getD_eq_getElem?_getD, List.getElem?_eq_getElem h1, List.getElem?_eq_getElem h2] at this
      exact this
    · have hp : (2 : Nat) ^ 8 ≤ 2 ^ r := Nat.pow_le_pow_right (by omega) (by omega)
      rw [Nat.testBit_lt_two_pow (Nat.lt_of_lt_of_le (by omega) hp), Nat.testBit_lt_two_pow (Nat.lt_of_lt_of_le (by omega) hp)]
  omega
/-- Unlike at most within 32 bits. -/
structure Win (a b : List Int) (f : Nat) : Prop where
  len : b.length = a.length
  bits : ∀ j, j < 8 * a.length → bitAt a j ≠ bitAt b j → f ≤ j ∧ j < f + 32
theorem Win.drop {a b : List Int} {f : Nat} (h : Win a b f) (p : Nat) : Win (a.drop p) (b.drop p) (f - 8 * p) := by
  refine ⟨by rw [List.length_drop, List.length_drop, h.len], fun j hj hne => ?_⟩
  rw [bitAt_drop, bitAt_drop] at hne
  rw [List.length_drop] at hj
  have := h.bits (j + 8 * p) (by omega) hne
  omega
/-- What is sealed and stands ahead: it is as it was, or its sum tells. -/
theorem Win.told {x a e : List Int} {f : Nat} (hx : Bytes x) (he : Bytes e) (h : Win (sealB x ++ a) e f) :
    e.take (x.length + 4) = sealB x ∨ rd4 ((e.take (x.length + 4)).drop x.length) ≠ toI (sumW (e.take x.length)) := by
  have hlen : e.length = x.length + 4 + a.length := by rw [h.len, List.length_append, sealB_length]
  have hc : e.take x.length ++ (e.take (x.length + 4)).drop x.length = e.take (x.length + 4) := by
    have := List.take_append_drop x.length (e.take (x.length + 4))
    rw [List.take_take, Nat.min_eq_left (by omega)] at this
    exact this
  have hlt : (e.take (x.length + 4)).length = x.length + 4 := by rw [List.length_take]; omega
  have hb1 : Bytes (e.take x.length) := he.sub fun y hy => List.mem_of_mem_take hy
  have hb2 : Bytes ((e.take (x.length + 4)).drop x.length) := he.sub fun y hy => List.mem_of_mem_take (List.mem_of_mem_drop hy)
  have es : ∀ j, j < 8 * (x.length + 4) → bitAt (sealB x) j = bitAt (sealB x ++ a) j := fun j hj => by
    have : (sealB x ++ a).take (x.length + 4) = sealB x := List.take_left' (by rw [sealB_length])
    rw [← this, bitAt_take _ _ _ hj]
    rw [this]
  have ee : ∀ j, j < 8 * (x.length + 4) → bitAt (e.take x.length ++ (e.take (x.length + 4)).drop x.length) j = bitAt e j := fun j hj => by rw [hc, bitAt_take _ _ _ hj]
  by_cases hd : ∃ j, j < 8 * (x.length + 4) ∧ bitAt (sealB x) j ≠ bitAt (e.take x.length ++ (e.take (x.length + 4)).drop x.length) j
  · refine .inr (sealed_told x (e.take x.length) ((e.take (x.length + 4)).drop x.length) hx hb1 hb2 (by rw [List.length_take]; omega) (by rw [List.length_drop, hlt]; omega) f ?_ hd)
    intro j hj hne
    have hne2 : bitAt (sealB x) j ≠ bitAt (e.take x.length ++ (e.take (x.length + 4)).drop x.length) j := hne
    rw [es j hj, ee j hj] at hne2
    exact h.bits j (by rw [← h.len]; omega) hne2
  · refine .inl (bytes_ext (he.sub fun y hy => List.mem_of_mem_take hy) (sealB_bytes hx) (by rw [hlt, sealB_length]) (fun j hj => ?_))
    rw [hlt] at hj
    rw [← hc]
    by_cases hh : bitAt (sealB x) j = bitAt (e.take x.length ++ (e.take (x.length + 4)).drop x.length) j
    · exact hh.symm
    · exact absurd ⟨j, hj, hh⟩ hd
/-- Blocks that were changed within 32 bits are told. -/
theorem parse_told (B S : Nat) (hB : 0 < B) (f : Nat) : ∀ (g : Nat) (data acc : List Int) (blk : Int) (e : List Int) (w : Nat), data.length ≤ f → data.length ≤ g → acc.length + data.length = S → Bytes data → Bytes e → Win (blocksB B f data) e w → e ≠ blocksB B f data →
    ∃ blk', parseS B S g e acc blk = errT blk' 5 := by
  induction f with
  | zero =>
    intro g data acc blk e w hf hg hs hbd he hw hne
    refine absurd ?_ hne
    have : e.length = 0 := by rw [hw.len]; rfl
    rw [List.eq_nil_of_length_eq_zero this]; rfl
  | succ f ih =>
    intro g data acc blk e w hf hg hs hbd he hw hne
    by_cases h0 : data = []
    · refine absurd ?_ hne
      rw [blocksB, if_pos h0] at hw ⊢
      exact List.eq_nil_of_length_eq_zero (by rw [hw.len]; rfl)
    · have hp : 0 < data.length := List.length_pos_iff.2 h0
      cases g with
      | zero => omega
      | succ g =>
      have ht : (data.take B).length = min B (S - acc.length) := by rw [List.length_take]; omega
      have hd : (data.drop B).length = data.length - B := List.length_drop
      rw [blocksB, if_neg h0] at hw hne
      have hlen : e.length = (data.take B).length + 4 + (blocksB B f (data.drop B)).length := by rw [hw.len, List.length_append, sealB_length]
      have hbx : Bytes (data.take B) := hbd.sub fun x hx => List.mem_of_mem_take hx
      rw [parseS, if_pos (by omega), ← ht, if_neg (by omega)]
      rcases hw.told hbx he with h1 | h1
      · have e2 : (e.take ((data.take B).length + 4)).drop (data.take B).length = le4 (toI (sumW (data.take B))) := by rw [h1]; unfold sealB; exact List.drop_left' rfl
        have e1 : e.take (data.take B).length = data.take B := by
          have : (e.take ((data.take B).length + 4)).take (data.take B).length = data.take B := by rw [h1]; unfold sealB; exact List.take_left' rfl
          rw [List.take_take, Nat.min_eq_left (by omega)] at this
          exact this
        rw [e2, e1, if_pos (rd4_le4 (sum_range _).1 (sum_range _).2)]
        have hw2 : Win (blocksB B f (data.drop B)) (e.drop ((data.take B).length + 4)) (w - 8 * ((data.take B).length + 4)) := by
          have := hw.drop ((data.take B).length + 4)
          rw [List.drop_left' (by rw [sealB_length])] at this
          exact this
        refine ih g (data.drop B) _ _ _ _ (by omega) (by omega) (by rw [List.length_append, ht]; omega) (hbd.sub fun x hx => List.mem_of_mem_drop hx) (he.sub fun x hx => List.mem_of_mem_drop hx) hw2 (fun h2 => hne ?_)
        rw [← List.take_append_drop ((data.take B).length + 4) e, h1, h2]
      · rw [if_neg h1]
        exact ⟨blk, rfl⟩
theorem opened_bad_ev (e : List Int) (hb : Bytes e) (h1 : 24 ≤ e.length) (h2 : e.length ≤ 131072) (hne : rd4 ((e.take 24).drop 20) ≠ toI (sumW (e.take 20))) :
    ∃ blk x, x ≠ 0 ∧ Ev (fun k => shard_opened.f k e) (0, 0, 0, 0, 0, 0, [], blk, x) := by
  by_cases ht : (strOfNums (e.take 4)).toList = ([83, 66, 88, 49] : List UInt8)
  · obtain ⟨K1, g1⟩ := read_ev ((e.take 24).drop 20) (hb.sub fun x hx => List.mem_of_mem_take (List.mem_of_mem_drop hx)) (by rw [List.length_drop, List.length_take]; omega)
    obtain ⟨K2, g2⟩ := sum_ev (e.take 20) (by rw [List.length_take]; omega) (hb.sub fun x hx => List.mem_of_mem_take hx)
    refine ⟨-1, 5, by decide, max K1 K2, fun k hk => ?_⟩
    have g1 := g1 k (by omega)
    have g2 := g2 k (by omega)
    simp only at g1 g2
    show shard_opened.f k e = _
    rw [shard_opened.f, if_neg (by omega), if_neg (by omega), if_pos (by omega), if_pos ht, if_pos (by decide), if_pos (by omega), g1, Option.bind_some, if_pos (by omega), g2, Option.bind_some, if_neg hne]
  · refine ⟨0, 4, by decide, 0, fun k _ => ?_⟩
    show shard_opened.f k e = _
    rw [shard_opened.f, if_neg (by omega), if_neg (by omega), if_pos (by omega), if_neg ht]
/-- A file that was changed within 32 bits: an error is told, and no data is read. -/
theorem read_told (B S : Nat) (hB : 16 ≤ B ∧ B ≤ 4096) (data e : List Int) (w : Nat) (hS : data.length = S) (hS2 : S ≤ 16384) (hbd : Bytes data) (he : Bytes e)
    (hw : Win (sealB (headB 2 1 1 B S 65537) ++ blocksB B S data) e w) (hne : e ≠ sealB (headB 2 1 1 B S 65537) ++ blocksB B S data) :
    ∃ t : Int × Int × Int × Int × Int × Int × List Int × Int, Ev (fun k => shard_Read.f k e) t ∧ t.2.2.2.2.2.2.2 ≠ 0 ∧ t.2.2.2.2.2.2.1 = [] := by
  have hbl : (blocksB B S data).length ≤ 5 * S := by have := blocksB_length_le B (by omega) S data; omega
  have hlen : e.length = 24 + (blocksB B S data).length := by rw [hw.len, List.length_append, sealB_length, headB_length]
  rcases hw.told (headB_bytes _ _ _ _ _ _) he with h1 | h1
  · have h1' : e.take 24 = sealB (headB 2 1 1 B S 65537) := h1
    have ee : e = sealB (headB 2 1 1 B S 65537) ++ e.drop 24 := by rw [← h1', List.take_append_drop]
    have hw2 : Win (blocksB B S data) (e.drop 24) (w - 8 * 24) := by
      have := hw.drop 24
      rw [List.drop_left' (by rw [sealB_length, headB_length])] at this
      exact this
    have hb2 : Bytes (e.drop 24) := he.sub fun x hx => List.mem_of_mem_drop hx
    obtain ⟨blk, hp⟩ := parse_told B S (by omega) S S data [] 0 (e.drop 24) _ (by omega) (by omega) (by simp [hS]) hbd hb2 hw2 (fun h2 => hne (by rw [← h2]; exact ee))
    refine ⟨_, by rw [ee]; exact read_file_ev B S hB (by omega) (e.drop 24) hb2 (by rw [List.length_drop]; omega), ?_⟩
    rw [hp]
    exact ⟨by show (5 : Int) ≠ 0; decide, rfl⟩
  · obtain ⟨blk, x, hx, K, g⟩ := opened_bad_ev e he (by omega) (by omega) h1
    refine ⟨(0, 0, 0, 0, 0, 0, [], x), ⟨K, fun k hk => ?_⟩, hx, rfl⟩
    have g := g k hk
    simp only at g
    show shard_Read.f k e = _
    rw [shard_Read.f, shard_parse.f, g, Option.bind_some, if_neg hx]
    rfl

theorem bursts5_l0 (b : List Int) (hl : b.length ≤ 60000) (A M f : Nat) (hM : M < 4294967296) (hf : f + 32 ≤ 8 * b.length)
    (fin : ∀ e, Burst b e f M 32 → ∃ t : Int × Int × Int × Int × Int × Int × List Int × Int, Ev (fun k => shard_Read.f k e) t ∧ t.2.2.2.2.2.2.2 ≠ 0 ∧ t.2.2.2.2.2.2.1 = []) (d : Nat) :
    ∀ (i : Nat) (e : List Int), i + d = 32 → Burst b e f M i →
      Ev (fun k => strongboxlaw5_ShardBursts.l0 k e (f : Int) (i : Int) (A : Int) (M : Int)) true := by
  induction d with
  | zero =>
    intro i e hi hB
    obtain rfl : i = 32 := by omega
    obtain ⟨t, ht, h1, h2⟩ := fin e hB
    refine Ev.step (f := fun k => (shard_Read.f k e).bind fun bt281 => (if bt281.2.2.2.2.2.2.2 = 0 then (some false) else (some ((bt281.2.2.2.2.2.2.1.length : Int) == 0)))) (fun k => ?_) ?_
    · simp only [strongboxlaw5_ShardBursts.l0]
      rw [if_neg (by omega)]
    · refine Ev.bind ht ?_
      rw [if_neg h1, h2]
      exact Ev.now _
  | succ d ih =>
    intro i e hi hB
    have hp := place f i (by omega)
    have ew : wrap64 ((i : Int) + 1) = ((i + 1 : Nat) : Int) := by rw [w64_lt (by omega) (by omega)]; omega
    have eu : (0 : Int) ≤ IntKind.u64.wrap (i : Int) := by rw [IntKind.wrap_u64]; omega
    cases hbit : M.testBit i with
    | true =>
      have hB2 := hB.turn hbit (by omega) _ rfl
      refine Ev.step (f := fun k => strongboxlaw5_ShardBursts.l0 k _ (f : Int) ((i + 1 : Nat) : Int) (A : Int) (M : Int)) (fun k => ?_) (ih (i + 1) _ (by omega) hB2)
      simp only [strongboxlaw5_ShardBursts.l0]
      have le : (f + i) / 8 < e.length := by rw [hB.len]; omega
      rw [if_pos (by omega), if_pos eu, if_pos ((mask_bit M i hM (by omega)).2 hbit), hp.1, hp.2, if_pos (by omega), if_pos (by omega), if_pos (by omega),
        turned e hB.bytes _ _ le (by omega), Int.toNat_natCast, ew]
    | false =>
      refine Ev.step (f := fun k => strongboxlaw5_ShardBursts.l0 k e (f : Int) ((i + 1 : Nat) : Int) (A : Int) (M : Int)) (fun k => ?_) (ih (i + 1) _ (by omega) (hB.skip hbit))
      simp only [strongboxlaw5_ShardBursts.l0]
      rw [if_pos (by omega), if_pos eu, if_neg (fun h => by have := (mask_bit M i hM (by omega)).1 h; rw [hbit] at this; cases this), ew]
def ShardBurstsPure : Prop := ∀ (l0 : List Int) (a1 a2_0 a2_1 : Int), l0.length ≤ maxLen → l0.length * 1 ≤ 140737488351232 → (∀ x ∈ l0, (Lit.int .u8 x).wf = true) → (Lit.int .u8 a1).wf = true → (Lit.int .u32 a2_0).wf = true → (Lit.int .u32 a2_1).wf = true → ∃ k, strongboxlaw5_ShardBursts.f k l0 a1 a2_0 a2_1 = some true
theorem ShardBursts : ShardBurstsPure := by
  intro l0 a1 n0 n1 _ _ hw ha hn0 hn1
  have hb := bytes_of hw
  have hba : 0 ≤ a1 ∧ a1 < 256 := by have := bytes_of (l := [a1]) (by intro x hx; simp at hx; subst hx; exact ha); exact this a1 (by simp)
  have b0 := bounds_u32 hn0
  have b1 := bounds_u32 hn1
  obtain ⟨A, rfl⟩ := Int.eq_ofNat_of_zero_le b0.1
  obtain ⟨M, rfl⟩ := Int.eq_ofNat_of_zero_le b1.1
  refine Ev.rounds (g := fun k => strongboxlaw5_ShardBursts.f k l0 a1 (A : Int) (M : Int)) ?_
  obtain ⟨K0, g0⟩ := awake5_ev
  by_cases hl : (l0.length : Int) > 4000
  · refine ⟨K0 + 1, fun k hk => ?_⟩
    obtain ⟨k, rfl⟩ : ∃ j, k = j + 1 := ⟨k - 1, by omega⟩
    have g0 := g0 (k + 1) (by omega)
    simp only at g0
    show strongboxlaw5_ShardBursts.f (k + 1) l0 a1 A M = _
    rw [strongboxlaw5_ShardBursts.f, g0, Option.bind_some, if_pos rfl, if_pos hl, strongboxlaw5_ShardBursts.j0, if_pos rfl]
  by_cases hM0 : (M : Int) = 0
  · refine ⟨K0 + 1, fun k hk => ?_⟩
    obtain ⟨k, rfl⟩ : ∃ j, k = j + 1 := ⟨k - 1, by omega⟩
    have g0 := g0 (k + 1) (by omega)
    simp only at g0
    show strongboxlaw5_ShardBursts.f (k + 1) l0 a1 A M = _
    rw [strongboxlaw5_ShardBursts.f, g0, Option.bind_some, if_pos rfl, if_neg hl, beq_iff_eq.2 hM0, strongboxlaw5_ShardBursts.j0, if_pos rfl]
  obtain ⟨B, hB⟩ : ∃ B : Nat, (B : Int) = 16 + a1 := ⟨(16 + a1).toNat, by omega⟩
  have wB : wrap64 (16 + wrap64 a1) = (B : Int) := by rw [hB]; unfold wrap64; omega
  have hB1 : 16 ≤ B ∧ B ≤ 4096 := by omega
  have hS : l0.length ≤ 65536 := by omega
  obtain ⟨K1, g1⟩ := write_ev 2 1 1 B l0.length 65537 l0 (may_one B l0.length (by omega) (by omega)) (by omega) rfl hS hb
  have hbb : Bytes (blocksB B l0.length l0) := blocksB_bytes B l0.length hb
  have hbl : (blocksB B l0.length l0).length ≤ 20000 := by have := blocksB_length_le B (by omega) l0.length l0; omega
  obtain ⟨b, hbe⟩ : ∃ b, b = fileB 2 1 1 B l0.length 65537 l0 := ⟨_, rfl⟩
  have eb : b = sealB (headB 2 1 1 B l0.length 65537) ++ blocksB B l0.length l0 := by rw [hbe]; unfold fileB; rw [Int.toNat_natCast]
  have lb : b.length = 24 + (blocksB B l0.length l0).length := by rw [eb, List.length_append, sealB_length, headB_length]
  rw [← hbe] at g1
  have hbby : Bytes b := by
    rw [eb]
    exact fun x hx => (List.mem_append.1 hx).elim (fun h => sealB_bytes (headB_bytes _ _ _ _ _ _) x h) (fun h => hbb x h)
  obtain ⟨n, hn⟩ : ∃ n : Nat, n + 31 = 8 * b.length := ⟨8 * b.length - 31, by omega⟩
  have e1 : wrap64 ((wrap64 (8 * (b.length : Int))) - 31) = (n : Int) := by
    rw [w64_lt (n := 8 * (b.length : Int)) (by omega) (by omega), w64_lt (by omega) (by omega)]; omega
  have hm := Nat.mod_lt A (show 0 < n by clear e1 wB; omega)
  have e2 : Int.tmod (wrap64 (A : Int)) (n : Int) = ((A % n : Nat) : Int) := by
    clear e1 wB; rw [w64_lt (by omega) (by omega)]; rfl
  have e4 : ¬ (n : Int) = 0 := by clear e1 e2 wB; omega
  have c6 : decide ((b.length : Int) < 24) = false := decide_eq_false (by clear e1 e2 wB; omega)
  obtain ⟨K2, g2⟩ : Ev (fun k => strongboxlaw5_ShardBursts.l0 k b ((A % n : Nat) : Int) ((0 : Nat) : Int) (A : Int) (M : Int)) true := by
    clear e1 e2 wB
    refine bursts5_l0 b (by omega) A M _ (by omega) (by omega) (fun e hBu => ?_) 32 0 _ (by omega) (Burst.start hbby _ _)
    obtain ⟨j, hj, hne⟩ := hBu.some (by omega) (by omega) (by omega)
    have hwin : Win (sealB (headB 2 1 1 B l0.length 65537) ++ blocksB B l0.length l0) e (A % n) := by
      rw [← eb]
      exact ⟨hBu.len, hBu.window⟩
    exact read_told B l0.length hB1 l0 e _ rfl (by omega) hb hBu.bytes hwin (fun h => hne (by rw [h, ← eb]))
  refine ⟨max (max K0 K1) K2 + 2, fun k hk => ?_⟩
  obtain ⟨k, rfl⟩ : ∃ j, k = j + 2 := ⟨k - 2, by clear e1 e2 wB; omega⟩
  have g0 := g0 (k + 2) (by clear e1 e2 wB; omega)
  have g1 := g1 (k + 1) (by clear e1 e2 wB; omega)
  have g2 := g2 k (by clear e1 e2 wB; omega)
  simp only at g0 g1 g2
  show strongboxlaw5_ShardBursts.f (k + 2) l0 a1 A M = _
  rw [strongboxlaw5_ShardBursts.f, g0, Option.bind_some, if_pos rfl, if_neg hl, beq_eq_false_iff_ne.2 hM0]
  show strongboxlaw5_ShardBursts.j0 (k + 1 + 1) l0 a1 false A M = some true
  rw [strongboxlaw5_ShardBursts.j0, if_neg (by decide), strongboxlaw5_One.f, wB, Option.bind_some, strongboxlaw5_Head.f, Option.bind_some, g1, Option.bind_some, if_pos rfl, c6, strongboxlaw5_ShardBursts.j1, if_neg (by decide), e1, if_neg e4, e2]
  exact g2

end Go.Proofs.Ytnlpipjdpmaggaa.Pure
