/- any head and any bytes: the shard file is the document's, byte by byte, or it is told that it may not be; written in pieces it is the same; for data of at most 5000 bytes and at most 50 cuts. -/
import Derived.Test.YtnlpipjdpmaggaaWriterK
import Derived.Test.YtnlpipjdpmaggaaMath
set_option linter.unusedVariables false
set_option linter.unusedSimpArgs false
namespace Go.Proofs.Ytnlpipjdpmaggaa.Pure
open Go.RowKit Go.Proofs.Ytnlpipjdpmaggaa.PShardWrites Go.Proofs.YtnlpipjdpmaggaaW.PrintWords Go.Proofs.YtnlpipjdpmaggaaW.PrintLast Go.Proofs.YtnlpipjdpmaggaaW.PrintMore CrcMath

theorem w64_lt {n : Int} (h0 : 0 ≤ n) (h : n < 9223372036854775807) : wrap64 n = n := by unfold wrap64; omega

theorem more_l1 (l : List Int) (n i : Int) (r : Int) (d : Nat) : ∀ (S : W) (j : Int), j + d = 8 → 0 ≤ j →
    Ev (fun k => crc_More.l0 k (toI (steps d S)) l n (wrap64 (i + 1))) r → Ev (fun k => crc_More.l1 k (toI S) l n i j) r := by
  induction d with
  | zero =>
    intro S j hj h0 h
    refine Ev.step (f := fun k => crc_More.l0 k (toI S) l n (wrap64 (i + 1))) (fun k => ?_) h
    simp only [crc_More.l1]
    rw [if_neg (by omega)]
  | succ d ih =>
    intro S j hj h0 h
    refine Ev.step (f := fun k => crc_More.l1 k (toI (CrcMath.step S)) l n i (j + 1)) (fun k => ?_) (ih (CrcMath.step S) (j + 1) (by omega) (by omega) h)
    simp only [crc_More.l1]
    rw [if_pos (by omega), w64_lt (by omega) (by omega), low]
    cases hs : S.getLsbD 0 with
    | true => simp only [if_true]; rw [step_on hs]
    | false => rw [if_neg (by simp), step_off hs]

theorem more_l0 (l : List Int) (hl : l.length < 4611686018427387904) (rest : List Int) : ∀ (pre : List Int) (S : W), l = pre ++ rest → Bytes rest →
    Ev (fun k => crc_More.l0 k (toI S) l (l.length : Int) (pre.length : Int)) (toI (~~~ (CrcMath.run S rest))) := by
  induction rest with
  | nil =>
    intro pre S e _
    refine Ev.step (f := fun _ => some (toI (~~~ S))) (fun k => ?_) (Ev.now _)
    simp only [crc_More.l0]
    have : l.length = pre.length := by rw [e]; simp
    rw [if_neg (by omega), not_toI]
  | cons x rest ih =>
    intro pre S e hb
    have hx := hb x (by simp)
    have hlen : l.length = pre.length + (rest.length + 1) := by rw [e]; simp
    have hrd : rd l (pre.length : Int) = x := by
      unfold rd
      rw [Int.toNat_natCast, e]
      simp [List.getD_eq_getElem?_getD]
    refine Ev.step (f := fun k => crc_More.l1 k (toI (S ^^^ BitVec.ofInt 32 x)) l (l.length : Int) (pre.length : Int) 0) (fun k => ?_) ?_
    · simp only [crc_More.l0]
      rw [if_pos (by omega), if_pos (by omega), if_pos (by omega), hrd, Int.emod_eq_of_lt hx.1 (by omega)]
      rw [← toI_of hx.1 (by omega : x < 4294967296), xor_toI, toI_of hx.1 (by omega)]
    · refine more_l1 l _ _ _ 8 _ 0 (by omega) (by omega) ?_
      have h := ih (pre ++ [x]) (byteStep S x) (by rw [e]; simp) (fun y hy => hb y (by simp [hy]))
      have e2 : ((pre ++ [x]).length : Int) = wrap64 ((pre.length : Int) + 1) := by
        rw [w64_lt (by omega) (by omega)]; simp
      rw [e2] at h
      exact h

theorem more_ev (S : W) (l : List Int) (hl : l.length < 4611686018427387904) (hb : Bytes l) : Ev (fun k => crc_More.f k (toI S) l) (toI (moreW S l)) := by
  have h := more_l0 l hl l [] (~~~ S) rfl hb
  refine Ev.congr (fun k => ?_) h
  unfold crc_More.f
  rw [not_toI]; rfl

theorem sum_ev (l : List Int) (hl : l.length < 4611686018427387904) (hb : Bytes l) : Ev (fun k => crc_Sum.f k l) (toI (sumW l)) := by
  have h := more_ev 0 l hl hb
  unfold crc_Sum.f
  exact Ev.bind (g := fun k => crc_More.f k 0 l) (f := fun _ t => some t) h (Ev.now _)

theorem or_step (s x : Nat) (i : Nat) (hi : i < 4) (hs : s < 2 ^ (8 * i)) (hx : x < 256) :
    Go.bits .or .u32 (s : Int) (shl .u32 ((x : Int) % 4294967296) (wrap64 (8 * (i : Int)))) = ((s + x * 2 ^ (8 * i) : Nat) : Int) := by
  have e0 : wrap64 (8 * (i : Int)) = ((8 * i : Nat) : Int) := by rw [w64_lt (by omega) (by omega)]; omega
  have hp : x * 2 ^ (8 * i) < 4294967296 := by
    have h2 : (2 : Nat) ^ (8 * i) ≤ 2 ^ 24 := Nat.pow_le_pow_right (by omega) (by omega)
    have h3 : x * 2 ^ (8 * i) ≤ 255 * 2 ^ 24 := Nat.mul_le_mul (by omega) h2
    omega
  have e1 : shl .u32 ((x : Int) % 4294967296) (wrap64 (8 * (i : Int))) = ((x * 2 ^ (8 * i) : Nat) : Int) := by
    rw [e0]
    unfold shl
    rw [Int.toNat_natCast, Nat.min_eq_left (by show 8 * i ≤ 32; omega), IntKind.wrap_u32', Int.emod_eq_of_lt (by omega : (0 : Int) ≤ (x : Int)) (by omega)]
    have h4 : (x : Int) * 2 ^ (8 * i) = ((x * 2 ^ (8 * i) : Nat) : Int) := by simp
    rw [h4]
    generalize x * 2 ^ (8 * i) = q at hp ⊢
    omega
  have hs2 : s < 4294967296 := by
    have h2 : (2 : Nat) ^ (8 * i) ≤ 2 ^ 24 := Nat.pow_le_pow_right (by omega) (by omega)
    omega
  rw [e1, u32_or_nat _ _ hs2 hp, Nat.or_comm, ← Nat.shiftLeft_eq, ← Nat.shiftLeft_add_eq_or_of_lt hs, Nat.add_comm]

theorem read_step (t : List Int) (h4 : t.length = 4) (s : Nat) (i : Nat) (r : Int × Bool) (x : Nat) (hx : rd t (i : Int) = (x : Int)) (hxb : x < 256) (hi : i < 4) (hs : s < 2 ^ (8 * i))
    (h : Ev (fun k => crc_Read.l0 k ((s + x * 2 ^ (8 * i) : Nat) : Int) t 4 ((i + 1 : Nat) : Int)) r) : Ev (fun k => crc_Read.l0 k (s : Int) t 4 (i : Int)) r := by
  refine Ev.step (f := fun k => crc_Read.l0 k ((s + x * 2 ^ (8 * i) : Nat) : Int) t 4 ((i + 1 : Nat) : Int)) (fun k => ?_) h
  simp only [crc_Read.l0]
  have ew : wrap64 ((i : Int) + 1) = ((i + 1 : Nat) : Int) := by rw [w64_lt (by omega) (by omega)]; omega
  have e1 : (i : Int) < 4 := by omega
  have e2 : (i : Int) < (t.length : Int) := by omega
  have e3 : (0 : Int) ≤ wrap64 (8 * (i : Int)) := by rw [w64_lt (by omega) (by omega)]; omega
  rw [if_pos e1, if_pos (Int.natCast_nonneg i), if_pos e2, if_pos e3, hx, or_step s x i hi hs hxb, ew]

theorem read_end (t : List Int) (v : Int) : Ev (fun k => crc_Read.l0 k v t 4 ((4 : Nat) : Int)) (v, true) := by
  refine Ev.step (f := fun _ => some (v, true)) (fun k => ?_) (Ev.now _)
  simp only [crc_Read.l0]
  rw [if_neg (by omega)]

theorem read_nat (a b c d : Nat) (ha : a < 256) (hb : b < 256) (hc : c < 256) (hd : d < 256) :
    Ev (fun k => crc_Read.l0 k ((0 : Nat) : Int) [(a : Int), b, c, d] 4 ((0 : Nat) : Int)) (((0 + a * 2 ^ (8 * 0) + b * 2 ^ (8 * 1) + c * 2 ^ (8 * 2) + d * 2 ^ (8 * 3) : Nat) : Int), true) := by
  have l4 : [(a : Int), b, c, d].length = 4 := rfl
  refine read_step _ l4 0 0 _ a rfl ha (by decide) (by decide) ?_
  refine read_step _ l4 _ 1 _ b rfl hb (by decide) (by clear l4; omega) ?_
  refine read_step _ l4 _ 2 _ c rfl hc (by decide) (by clear l4; omega) ?_
  refine read_step _ l4 _ 3 _ d rfl hd (by decide) (by clear l4; omega) ?_
  exact read_end _ _

theorem read_ev (t : List Int) (hb : Bytes t) (h : t.length = 4) : Ev (fun k => crc_Read.f k t) (rd4 t, true) := by
  obtain ⟨a, b, c, d, rfl⟩ := four h
  have h0 := hb a (by simp); have h1 := hb b (by simp); have h2 := hb c (by simp); have h3 := hb d (by simp)
  obtain ⟨a, rfl⟩ := Int.eq_ofNat_of_zero_le h0.1
  obtain ⟨b, rfl⟩ := Int.eq_ofNat_of_zero_le h1.1
  obtain ⟨c, rfl⟩ := Int.eq_ofNat_of_zero_le h2.1
  obtain ⟨d, rfl⟩ := Int.eq_ofNat_of_zero_le h3.1
  clear hb
  have e : ((0 + a * 2 ^ (8 * 0) + b * 2 ^ (8 * 1) + c * 2 ^ (8 * 2) + d * 2 ^ (8 * 3) : Nat) : Int) = rd4 [(a : Int), b, c, d] := by simp only [rd4]; omega
  have hr := read_nat a b c d (by omega) (by omega) (by omega) (by omega)
  rw [e] at hr
  refine Ev.congr (fun k => ?_) hr
  unfold crc_Read.f
  rw [if_pos (by rw [h]; rfl)]
  rfl
/-- Bytes, and their sum behind them. -/
def sealB (l : List Int) : List Int := l ++ le4 (toI (sumW l))
theorem sealB_length (l : List Int) : (sealB l).length = l.length + 4 := by unfold sealB; rw [List.length_append, le4_length]
theorem sealB_bytes {l : List Int} (h : Bytes l) : Bytes (sealB l) := by
  intro x hx
  unfold sealB at hx
  rcases List.mem_append.1 hx with hx | hx
  · exact h x hx
  · exact le4_bytes _ x hx
/-- A head's bytes. -/
def headB (K M I B S D : Int) : List Int := [83, 66, 88, 49, K % 256, M % 256, I % 256, 0] ++ le4 B ++ le4 S ++ le4 D
theorem headB_length (K M I B S D : Int) : (headB K M I B S D).length = 20 := rfl
theorem headB_bytes (K M I B S D : Int) : Bytes (headB K M I B S D) := by
  intro x hx
  unfold headB at hx
  rcases List.mem_append.1 hx with hx | hx
  · rcases List.mem_append.1 hx with hx | hx
    · rcases List.mem_append.1 hx with hx | hx
      · simp at hx; omega
      · exact le4_bytes _ x hx
    · exact le4_bytes _ x hx
  · exact le4_bytes _ x hx
/-- The data, block by block, each with its sum. -/
def blocksB (n : Nat) : Nat → List Int → List Int
  | 0, _ => []
  | f + 1, l => if l = [] then [] else sealB (l.take n) ++ blocksB n f (l.drop n)
theorem blocksB_bytes (n : Nat) (f : Nat) : ∀ {l : List Int}, Bytes l → Bytes (blocksB n f l) := by
  induction f with
  | zero => intro l h x hx; cases hx
  | succ f ih =>
    intro l h x hx
    unfold blocksB at hx
    by_cases hl : l = []
    · rw [if_pos hl] at hx; cases hx
    · rw [if_neg hl] at hx
      rcases List.mem_append.1 hx with hx | hx
      · exact sealB_bytes (h.sub fun y hy => List.mem_of_mem_take hy) x hx
      · exact ih (h.sub fun y hy => List.mem_of_mem_drop hy) x hx
theorem blocksB_length_le (n : Nat) (hn : 0 < n) (f : Nat) : ∀ l : List Int, (blocksB n f l).length ≤ 5 * l.length := by
  induction f with
  | zero => intro l; simp [blocksB]
  | succ f ih =>
    intro l
    unfold blocksB
    by_cases hl : l = []
    · rw [if_pos hl]; simp
    · rw [if_neg hl]
      have h1 := ih (l.drop n)
      have h2 : 0 < l.length := List.length_pos_iff.2 hl
      rw [List.length_append, sealB_length, List.length_take]
      rw [List.length_drop] at h1
      omega
/-- A file. -/
def fileB (K M I B S D : Int) (l : List Int) : List Int := sealB (headB K M I B S D) ++ blocksB B.toNat l.length l

theorem seal_ev (a l : List Int) (hl : l.length < 4611686018427387904) (hb : Bytes l) (ha : a.length + 4 < 140737488355328) : Ev (fun k => shard_sum.f k a l) (a ++ le4 (toI (sumW l))) := by
  unfold shard_sum.f
  refine Ev.bind (g := fun k => crc_Sum.f k l) (sum_ev l hl hb) ?_
  refine Ev.congr (f := fun _ => some (a ++ le4 (toI (sumW l)))) (fun k => ?_) (Ev.now _)
  show (some (le4 (toI (sumW l)))).bind _ = _
  rw [Option.bind_some, if_pos (by rw [le4_length]; exact ha)]
theorem number_some (l : List Int) (a : Int) (hl : l.length + 4 < 140737488355328) : shard_number.f l a = some (l ++ le4 a) := by
  unfold shard_number.f
  show (some (le4 a)).bind _ = _
  rw [Option.bind_some, if_pos (by rw [le4_length]; exact hl)]
theorem head_ev (K M I B S D : Int) : Ev (fun k => shard_head.f k K M I B S D) (sealB (headB K M I B S D)) := by
  have h := seal_ev (headB K M I B S D) (headB K M I B S D) (by rw [headB_length]; decide) (headB_bytes _ _ _ _ _ _) (by rw [headB_length]; decide)
  refine Ev.congr (fun k => ?_) h
  unfold shard_head.f
  rw [number_some _ _ (by simp), Option.bind_some, number_some _ _ (by rw [List.length_append, le4_length]; simp), Option.bind_some, number_some _ _ (by rw [List.length_append, List.length_append, le4_length, le4_length]; simp), Option.bind_some]
  rfl
theorem write_l0 (n : Int) (hn : 0 < n) (f : Nat) : ∀ (l b : List Int), l.length ≤ f → Bytes l → b.length + 5 * l.length + 8 < 140737488355328 → Ev (fun k => shard_Write.l0 k n b l) (b ++ blocksB n.toNat f l, 0) := by
  induction f with
  | zero =>
    intro l b hf _ _
    obtain rfl : l = [] := List.eq_nil_of_length_eq_zero (by omega)
    refine Ev.step (f := fun _ => some (b ++ blocksB n.toNat 0 [], 0)) (fun k => ?_) (Ev.now _)
    simp only [shard_Write.l0, blocksB, List.append_nil]
    rw [if_pos trivial]
  | succ f ih =>
    intro l b hf hb hl
    by_cases h0 : l = []
    · refine Ev.step (f := fun _ => some (b ++ blocksB n.toNat (f + 1) l, 0)) (fun k => ?_) (Ev.now _)
      unfold blocksB
      simp only [shard_Write.l0]
      rw [if_pos h0, if_pos h0, List.append_nil]
    · have hp : 0 < l.length := List.length_pos_iff.2 h0
      have ht : (l.take n.toNat).length = min n.toNat l.length := List.length_take
      have hd : (l.drop n.toNat).length = l.length - n.toNat := List.length_drop
      have e : b ++ blocksB n.toNat (f + 1) l = ((b ++ l.take n.toNat) ++ le4 (toI (sumW (l.take n.toNat)))) ++ blocksB n.toNat f (l.drop n.toNat) := by
        rw [blocksB, if_neg h0]
        unfold sealB
        simp only [List.append_assoc]
      rw [e]
      refine Ev.step (f := fun k => (shard_sum.f k (b ++ l.take n.toNat) (l.take n.toNat)).bind fun b2 => shard_Write.l0 k n b2 (l.drop n.toNat)) (fun k => ?_) ?_
      · simp only [shard_Write.l0]
        rw [if_neg h0, if_pos (by omega)]
      · refine Ev.bind (g := fun k => shard_sum.f k (b ++ l.take n.toNat) (l.take n.toNat)) (f := fun k b2 => shard_Write.l0 k n b2 (l.drop n.toNat)) (seal_ev (b ++ l.take n.toNat) (l.take n.toNat) (by omega) (hb.sub fun y hy => List.mem_of_mem_take hy) (by rw [List.length_append]; omega)) ?_
        refine ih (l.drop n.toNat) _ (by omega) (hb.sub fun y hy => List.mem_of_mem_drop hy) ?_
        rw [List.length_append, List.length_append, le4_length]
        omega
theorem write_ev (K M I B S D : Int) (l : List Int) (hm : Ev (fun k => shard_May.f k K M I B S D) true) (hB : 0 < B) (hS : (l.length : Int) = S) (hl : l.length ≤ 65536) (hb : Bytes l) :
    Ev (fun k => shard_Write.f k K M I B S D l) (fileB K M I B S D l, 0) := by
  unfold shard_Write.f
  refine Ev.bind (g := fun k => shard_May.f k K M I B S D) hm ?_
  refine Ev.congr (f := fun k => (shard_head.f k K M I B S D).bind fun b => shard_Write.l0 k B b l) (fun k => ?_) ?_
  · rw [if_pos rfl, if_pos hS]
  · refine Ev.bind (g := fun k => shard_head.f k K M I B S D) (f := fun k b => shard_Write.l0 k B b l) (head_ev _ _ _ _ _ _) ?_
    refine write_l0 B hB l.length l _ (Nat.le_refl _) hb ?_
    rw [sealB_length, headB_length]
    omega
theorem within_some (n lo hi : Int) : shard_within.f n lo hi = some (decide (lo ≤ n ∧ n ≤ hi)) := by
  unfold shard_within.f
  by_cases h1 : n ≥ lo
  · rw [if_pos h1]
    congr 1
    by_cases h2 : n ≤ hi
    · rw [decide_eq_true h2, decide_eq_true ⟨h1, h2⟩]
    · rw [decide_eq_false h2, decide_eq_false (fun h => h2 h.2)]
  · rw [if_neg h1, decide_eq_false (fun h => h1 h.1)]
/-- A head that may be. -/
def mayB (K M I B S D : Int) : Bool := decide ((1 ≤ K ∧ K ≤ 255) ∧ (1 ≤ M ∧ M ≤ 255 - K) ∧ (0 ≤ I ∧ I ≤ K + M - 1) ∧ (16 ≤ B ∧ B ≤ 4096) ∧ (0 ≤ S ∧ S ≤ 65536) ∧ (0 ≤ D ∧ D ≤ 2147483647))
theorem may_one (B S : Int) (hB : 16 ≤ B ∧ B ≤ 4096) (hS : 0 ≤ S ∧ S ≤ 65536) : Ev (fun k => shard_May.f k 2 1 1 B S 65537) true := by
  refine Ev.step (f := fun _ => some true) (fun k => ?_) (Ev.now _)
  have w1 : wrap64 (255 - 2) = 253 := by unfold wrap64; omega
  have w2 : wrap64 ((wrap64 (2 + 1)) - 1) = 2 := by unfold wrap64; omega
  unfold shard_May.f
  rw [within_some, Option.bind_some, if_pos (by decide), w1, within_some, Option.bind_some]
  show shard_May.j0 (k + 1) false 2 1 1 B S 65537 = some true
  simp only [shard_May.j0]
  rw [if_neg (by decide), w2, within_some, Option.bind_some, if_pos (by decide), within_some, Option.bind_some, if_pos (decide_eq_true hB), within_some, Option.bind_some, if_pos (decide_eq_true hS), within_some, Option.bind_some]
  rfl

theorem i64_or_nat (a b : Nat) (ha : a < 9223372036854775808) (hb : b < 9223372036854775808) : Go.bits .or .i64 (a : Int) (b : Int) = ((a ||| b : Nat) : Int) := by
  have hx : a ||| b < 2 ^ 63 := Nat.or_lt_two_pow (by omega) (by omega)
  show IntKind.i64.wrap ((BitVec.ofInt 64 (a : Int) ||| BitVec.ofInt 64 (b : Int)).toNat : Int) = _
  rw [BitVec.toNat_or, ofInt_u64 a (by omega), ofInt_u64 b (by omega), IntKind.wrap_i64]
  omega
theorem or_add (s x i : Nat) (hs : s < 2 ^ i) : s ||| x * 2 ^ i = s + x * 2 ^ i := by
  rw [Nat.or_comm, ← Nat.shiftLeft_eq, ← Nat.shiftLeft_add_eq_or_of_lt hs, Nat.add_comm]
theorem or_four (a b c d : Nat) (ha : a < 256) (hb : b < 256) (hc : c < 256) (hd : d < 256) :
    Go.bits .or .i64 (Go.bits .or .i64 (Go.bits .or .i64 (wrap64 (a : Int)) (wrap64 ((wrap64 (b : Int)) * 256))) (wrap64 ((wrap64 (c : Int)) * 65536))) (wrap64 ((wrap64 (d : Int)) * 16777216)) = ((a + b * 256 + c * 65536 + d * 16777216 : Nat) : Int) := by
  rw [w64_lt (by omega) (by omega : (a : Int) < _), w64_lt (by omega) (by omega : (b : Int) < _), w64_lt (by omega) (by omega : (c : Int) < _), w64_lt (by omega) (by omega : (d : Int) < _)]
  rw [w64_lt (by omega) (by omega), w64_lt (by omega) (by omega), w64_lt (by omega) (by omega)]
  rw [show (b : Int) * 256 = ((b * 2 ^ 8 : Nat) : Int) by omega, show (c : Int) * 65536 = ((c * 2 ^ 16 : Nat) : Int) by omega, show (d : Int) * 16777216 = ((d * 2 ^ 24 : Nat) : Int) by omega]
  rw [i64_or_nat _ _ (by omega) (by omega), or_add a b 8 (by omega), i64_or_nat _ _ (by omega) (by omega), or_add _ c 16 (by omega), i64_or_nat _ _ (by omega) (by omega), or_add _ d 24 (by omega)]
theorem take_four (l : List Int) (n : Nat) (h : n + 4 ≤ l.length) : (l.drop n).take 4 = [rd l n, rd l ((n + 1 : Nat) : Int), rd l ((n + 2 : Nat) : Int), rd l ((n + 3 : Nat) : Int)] := by
  have g : ∀ i : Nat, (hi : i < l.length) → rd l (i : Int) = l[i] := fun i hi => by
    unfold rd
    rw [Int.toNat_natCast, List.getD_eq_getElem?_getD, List.getElem?_eq_getElem hi]
    rfl
  rw [g n (by omega), g (n + 1) (by omega), g (n + 2) (by omega), g (n + 3) (by omega)]
  rw [List.drop_eq_getElem_cons (by omega : n < l.length), List.drop_eq_getElem_cons (by omega : n + 1 < l.length), List.drop_eq_getElem_cons (by omega : n + 1 + 1 < l.length), List.drop_eq_getElem_cons (by omega : n + 1 + 1 + 1 < l.length)]
  rfl
theorem rd_byte {l : List Int} (h : Bytes l) (i : Nat) (h1 : i < l.length) : ∃ x : Nat, rd l (i : Int) = (x : Int) ∧ x < 256 := by
  have : 0 ≤ rd l i ∧ rd l i < 256 := by
    unfold rd
    rw [Int.toNat_natCast, List.getD_eq_getElem?_getD, List.getElem?_eq_getElem h1]
    exact h _ (List.getElem_mem _)
  obtain ⟨x, hx⟩ := Int.eq_ofNat_of_zero_le this.1
  exact ⟨x, hx, by omega⟩
theorem get_some (l : List Int) (hb : Bytes l) (n : Nat) (hn : n + 4 ≤ l.length) (hl : l.length < 4611686018427387904) : shard_get.f l (n : Int) = some (rd4 ((l.drop n).take 4)) := by
  have w1 : wrap64 ((n : Int) + 1) = ((n + 1 : Nat) : Int) := by rw [w64_lt (by omega) (by omega)]; omega
  have w2 : wrap64 ((n : Int) + 2) = ((n + 2 : Nat) : Int) := by rw [w64_lt (by omega) (by omega)]; omega
  have w3 : wrap64 ((n : Int) + 3) = ((n + 3 : Nat) : Int) := by rw [w64_lt (by omega) (by omega)]; omega
  have p0 : ∀ m : Nat, (0 : Int) ≤ (m : Int) := fun m => Int.natCast_nonneg m
  have p1 : (n : Int) < (l.length : Int) := by clear w1 w2 w3; omega
  have p2 : ((n + 1 : Nat) : Int) < (l.length : Int) := by clear w1 w2 w3; omega
  have p3 : ((n + 2 : Nat) : Int) < (l.length : Int) := by clear w1 w2 w3; omega
  have p4 : ((n + 3 : Nat) : Int) < (l.length : Int) := by clear w1 w2 w3; omega
  have t := take_four l n hn
  have b0 := rd_byte hb n (by clear w1 w2 w3; omega)
  have b1 := rd_byte hb (n + 1) (by clear w1 w2 w3; omega)
  have b2 := rd_byte hb (n + 2) (by clear w1 w2 w3; omega)
  have b3 := rd_byte hb (n + 3) (by clear w1 w2 w3; omega)
  clear hl hn
  obtain ⟨a, ea, ha⟩ := b0
  obtain ⟨b, eb, hb'⟩ := b1
  obtain ⟨c, ec, hc⟩ := b2
  obtain ⟨d, ed, hd⟩ := b3
  have e4 : ((a + b * 256 + c * 65536 + d * 16777216 : Nat) : Int) = rd4 [(a : Int), b, c, d] := by
    clear w1 w2 w3 ea eb ec ed p1 p2 p3 p4 t
    simp only [rd4]
    omega
  rw [ea, eb, ec, ed] at t
  rw [t, ← e4, ← or_four a b c d ha hb' hc hd]
  unfold shard_get.f
  rw [w1, w2, w3, ea, eb, ec, ed, if_pos (p0 _), if_pos p1, if_pos (p0 _), if_pos p2, if_pos (p0 _), if_pos p3, if_pos (p0 _), if_pos p4]
theorem sum_range (l : List Int) : 0 ≤ toI (sumW l) ∧ toI (sumW l) < 4294967296 := toI_range _
/-- What stands in a file behind its head. -/
theorem opened_ev (B S : Int) (rest : List Int) (hB : 16 ≤ B ∧ B ≤ 4096) (hS : 0 ≤ S ∧ S ≤ 65536) (hb : Bytes rest) (hl : rest.length + 24 ≤ 131072) :
    Ev (fun k => shard_opened.f k (sealB (headB 2 1 1 B S 65537) ++ rest)) (2, 1, 1, B, S, 65537, rest, 0, 0) := by
  generalize hs : toI (sumW (headB 2 1 1 B S 65537)) = s
  have hs0 : 0 ≤ s ∧ s < 4294967296 := hs ▸ sum_range _
  obtain ⟨K1, h1⟩ := read_ev (le4 s) (le4_bytes s) rfl
  obtain ⟨K2, h2⟩ := sum_ev (headB 2 1 1 B S 65537) (by rw [headB_length]; decide) (headB_bytes _ _ _ _ _ _)
  obtain ⟨K3, h3⟩ := may_one B S hB hS
  rw [hs] at h2
  rw [rd4_le4 hs0.1 hs0.2] at h1
  have hbl : Bytes (sealB (headB 2 1 1 B S 65537) ++ rest) := fun x hx => (List.mem_append.1 hx).elim (fun h => sealB_bytes (headB_bytes _ _ _ _ _ _) x h) (fun h => hb x h)
  have hlen : (sealB (headB 2 1 1 B S 65537) ++ rest).length = rest.length + 24 := by rw [List.length_append, sealB_length, headB_length]; omega
  have el : sealB (headB 2 1 1 B S 65537) ++ rest = headB 2 1 1 B S 65537 ++ (le4 s ++ rest) := by unfold sealB; rw [hs, List.append_assoc]
  have e20 : (sealB (headB 2 1 1 B S 65537) ++ rest).take 20 = headB 2 1 1 B S 65537 := by rw [el]; exact List.take_left' (headB_length _ _ _ _ _ _)
  have e24 : ((sealB (headB 2 1 1 B S 65537) ++ rest).take 24).drop 20 = le4 s := by
    rw [el, List.drop_take, List.drop_left' (headB_length _ _ _ _ _ _)]
    exact List.take_left' (le4_length s)
  have ed : (sealB (headB 2 1 1 B S 65537) ++ rest).drop 24 = rest := List.drop_left' (by rw [sealB_length, headB_length])
  have g1 := get_some _ hbl 8 (by omega) (by omega)
  have g2 := get_some _ hbl 12 (by omega) (by omega)
  have g3 := get_some _ hbl 16 (by omega) (by omega)
  have i1 : ((sealB (headB 2 1 1 B S 65537) ++ rest).drop 8).take 4 = le4 B := rfl
  have i2 : ((sealB (headB 2 1 1 B S 65537) ++ rest).drop 12).take 4 = le4 S := rfl
  have i3 : ((sealB (headB 2 1 1 B S 65537) ++ rest).drop 16).take 4 = le4 65537 := rfl
  rw [i1, rd4_le4 (by omega) (by omega)] at g1
  rw [i2, rd4_le4 (by omega) (by omega)] at g2
  rw [i3, rd4_le4 (by omega) (by omega)] at g3
  have r4 : rd (sealB (headB 2 1 1 B S 65537) ++ rest) 4 = 2 := rfl
  have r5 : rd (sealB (headB 2 1 1 B S 65537) ++ rest) 5 = 1 := rfl
  have r6 : rd (sealB (headB 2 1 1 B S 65537) ++ rest) 6 = 1 := rfl
  have r7 : rd (sealB (headB 2 1 1 B S 65537) ++ rest) 7 = 0 := rfl
  have t4 : (strOfNums ((sealB (headB 2 1 1 B S 65537) ++ rest).take 4)).toList = ([83, 66, 88, 49] : List UInt8) := by
    have : (sealB (headB 2 1 1 B S 65537) ++ rest).take 4 = [83, 66, 88, 49] := rfl
    rw [this]; decide +kernel
  have w2 : wrap64 2 = 2 := by unfold wrap64; omega
  have w1 : wrap64 1 = 1 := by unfold wrap64; omega
  refine ⟨max K1 (max K2 K3), fun k hk => ?_⟩
  have q1 := h1 k (by omega)
  have q2 := h2 k (by omega)
  have q3 := h3 k (by omega)
  simp only at q1 q2 q3
  show shard_opened.f k _ = _
  unfold shard_opened.f
  rw [if_neg (by omega), if_neg (by omega), if_pos (by omega), if_pos t4, if_pos (by decide), if_pos (by omega), e24, q1, Option.bind_some, if_pos (by omega), e20, q2, Option.bind_some, if_pos rfl, if_pos (by omega), if_pos (by omega), if_pos (by omega)]
  have g1' : shard_get.f (sealB (headB 2 1 1 B S 65537) ++ rest) 8 = some B := g1
  have g2' : shard_get.f (sealB (headB 2 1 1 B S 65537) ++ rest) 12 = some S := g2
  have g3' : shard_get.f (sealB (headB 2 1 1 B S 65537) ++ rest) 16 = some 65537 := g3
  rw [g1', Option.bind_some, g2', Option.bind_some, g3', Option.bind_some, r4, r5, r6, w2, w1, q3, Option.bind_some, if_pos rfl, if_pos (by omega), r7, if_pos rfl, ed]

/-- An error, and at which block. -/
def errT (blk e : Int) : Int × Int × Int × Int × Int × Int × List Int × Int × Int := (0, 0, 0, 0, 0, 0, [], blk, e)
/-- What is made of what stands behind a head: S the data's length, B a block's. -/
def parseS (B S : Nat) : Nat → List Int → List Int → Int → Int × Int × Int × Int × Int × Int × List Int × Int × Int
  | 0, rest, acc, _ => if rest.length > 0 then errT 0 4 else (2, 1, 1, B, S, 65537, acc, 0, 0)
  | f + 1, rest, acc, blk => if acc.length < S then (if rest.length < min B (S - acc.length) + 4 then errT 0 2 else if rd4 ((rest.take (min B (S - acc.length) + 4)).drop (min B (S - acc.length))) = toI (sumW (rest.take (min B (S - acc.length)))) then parseS B S f (rest.drop (min B (S - acc.length) + 4)) (acc ++ rest.take (min B (S - acc.length))) (wrap64 (blk + 1)) else errT blk 5) else if rest.length > 0 then errT 0 4 else (2, 1, 1, B, S, 65537, acc, 0, 0)
theorem parse_end (k : Nat) (B S : Nat) (rest acc : List Int) (blk : Int) (h : ¬ acc.length < S) : shard_parse.l0 (k + 1) rest acc blk 2 1 1 B S 65537 = some (if rest.length > 0 then errT 0 4 else (2, 1, 1, B, S, 65537, acc, 0, 0)) := by
  rw [shard_parse.l0, if_neg (by omega)]
  by_cases hr : rest.length > 0
  · rw [if_pos (by omega), if_pos hr]; rfl
  · rw [if_neg (by omega), if_neg hr]
theorem parse_l0 (B S : Nat) (hB : 0 < B ∧ B ≤ 4096) (hS : S ≤ 65536) (f : Nat) : ∀ (rest acc : List Int) (blk : Int), S - acc.length ≤ f → acc.length ≤ S → rest.length ≤ 131072 → Bytes rest →
    Ev (fun k => shard_parse.l0 k rest acc blk 2 1 1 B S 65537) (parseS B S f rest acc blk) := by
  induction f with
  | zero =>
    intro rest acc blk h1 h2 _ _
    refine Ev.step (f := fun _ => some (parseS B S 0 rest acc blk)) (fun k => ?_) (Ev.now _)
    exact parse_end k B S rest acc blk (by omega)
  | succ f ih =>
    intro rest acc blk h1 h2 hr hb
    by_cases ha : acc.length < S
    · obtain ⟨n, hn⟩ : ∃ n, n = min B (S - acc.length) := ⟨_, rfl⟩
      have hn1 : 0 < n ∧ n ≤ 4096 ∧ acc.length + n ≤ S := by omega
      have e1 : mn (B : Int) (wrap64 ((S : Int) - (acc.length : Int))) = (n : Int) := by
        rw [w64_lt (by omega) (by omega)]
        unfold mn
        split <;> omega
      have e2 : wrap64 ((n : Int) + 4) = ((n + 4 : Nat) : Int) := by rw [w64_lt (by omega) (by omega)]; omega
      by_cases hs : rest.length < n + 4
      · refine Ev.step (f := fun _ => some (parseS B S (f + 1) rest acc blk)) (fun k => ?_) (Ev.now _)
        rw [parseS, ← hn, if_pos ha, if_pos hs, shard_parse.l0, if_pos (by clear e1 e2; omega), e1, e2, if_pos (by clear e1 e2; omega)]
        rfl
      · have bt : Bytes ((rest.take (n + 4)).drop n) := hb.sub fun x hx => List.mem_of_mem_take (List.mem_of_mem_drop hx)
        have bs : Bytes (rest.take n) := hb.sub fun x hx => List.mem_of_mem_take hx
        have bd : Bytes (rest.drop (n + 4)) := hb.sub fun x hx => List.mem_of_mem_drop hx
        have lt : ((rest.take (n + 4)).drop n).length = 4 := by rw [List.length_drop, List.length_take]; clear e1 e2; omega
        have ls : (rest.take n).length = n := by rw [List.length_take]; clear e1 e2; omega
        have ld : (rest.drop (n + 4)).length = rest.length - (n + 4) := List.length_drop
        have q0 : (acc.length : Int) < (S : Int) := by clear e1 e2; omega
        have q1 : ¬ (rest.length : Int) < ((n + 4 : Nat) : Int) := by clear e1 e2; omega
        have q2 : (0 : Int) ≤ (n : Int) := by clear e1 e2; omega
        have q3 : (n : Int) ≤ ((n + 4 : Nat) : Int) := by clear e1 e2; omega
        have q4 : ((n + 4 : Nat) : Int) ≤ (rest.length : Int) := by clear e1 e2; omega
        have q5 : (n : Int) ≤ (rest.length : Int) := by clear e1 e2; omega
        have q6 : acc.length + (rest.take n).length < 140737488355328 := by rw [ls]; clear e1 e2; omega
        have q7 : (0 : Int) ≤ ((n + 4 : Nat) : Int) := by clear e1 e2; omega
        obtain ⟨K1, g1⟩ := read_ev _ bt lt
        obtain ⟨K2, g2⟩ := sum_ev _ (by rw [ls]; clear e1 e2; omega) bs
        obtain ⟨K3, g3⟩ := ih (rest.drop (n + 4)) (acc ++ rest.take n) (wrap64 (blk + 1)) (by rw [List.length_append, ls]; clear e1 e2; omega) (by rw [List.length_append, ls]; clear e1 e2; omega) (by rw [ld]; clear e1 e2; omega) bd
        refine ⟨max K1 (max K2 K3) + 1, fun k hk => ?_⟩
        obtain ⟨k, rfl⟩ : ∃ j, k = j + 1 := ⟨k - 1, by clear e1 e2; omega⟩
        have g1 := g1 k (by clear e1 e2; omega)
        have g2 := g2 k (by clear e1 e2; omega)
        have g3 := g3 k (by clear e1 e2; omega)
        simp only at g1 g2 g3
        show shard_parse.l0 (k + 1) rest acc blk 2 1 1 B S 65537 = _
        rw [parseS, ← hn, if_pos ha, if_neg hs, shard_parse.l0, if_pos q0, e1, e2, if_neg q1, if_pos q2, if_pos q3, if_pos q4, Int.toNat_natCast, Int.toNat_natCast, g1, Option.bind_some, if_pos q5, g2, Option.bind_some]
        by_cases he : rd4 ((rest.take (n + 4)).drop n) = toI (sumW (rest.take n))
        · rw [if_pos he, if_pos he, Option.bind_some, if_pos q6, if_pos q7, g3]
        · rw [if_neg he, if_neg he]
          rfl
    · refine Ev.step (f := fun _ => some (parseS B S (f + 1) rest acc blk)) (fun k => ?_) (Ev.now _)
      rw [parse_end k B S rest acc blk ha, parseS, if_neg ha]
/-- What Read hands back of parse. -/
def ofT (t : Int × Int × Int × Int × Int × Int × List Int × Int × Int) : Int × Int × Int × Int × Int × Int × List Int × Int := (t.1, t.2.1, t.2.2.1, t.2.2.2.1, t.2.2.2.2.1, t.2.2.2.2.2.1, t.2.2.2.2.2.2.1, t.2.2.2.2.2.2.2.2)
theorem read_file_ev (B S : Nat) (hB : 16 ≤ B ∧ B ≤ 4096) (hS : S ≤ 65536) (rest : List Int) (hb : Bytes rest) (hl : rest.length + 24 ≤ 131072) :
    Ev (fun k => shard_Read.f k (sealB (headB 2 1 1 B S 65537) ++ rest)) (ofT (parseS B S S rest [] 0)) := by
  obtain ⟨K1, h1⟩ := opened_ev (B : Int) (S : Int) rest (by omega) (by omega) hb hl
  obtain ⟨K2, h2⟩ := parse_l0 B S (by omega) hS S rest [] 0 (by simp) (by simp) (by omega) hb
  refine ⟨max K1 K2, fun k hk => ?_⟩
  have h1 := h1 k (by omega)
  have h2 := h2 k (by omega)
  simp only at h1 h2
  have q1 : (0 : Int) ≤ mn (S : Int) (rest.length : Int) := by unfold mn; split <;> omega
  have q2 : (mn (S : Int) (rest.length : Int)).toNat ≤ 281474976710656 := by unfold mn; split <;> omega
  show shard_Read.f k _ = _
  rw [shard_Read.f, shard_parse.f, h1, Option.bind_some, if_pos rfl, if_pos q1, if_pos q2]
  show (shard_parse.l0 k rest [] 0 2 1 1 B S 65537).bind _ = _
  rw [h2]
  rfl
theorem seal_parts (x y : List Int) (n : Nat) (hx : x.length = n) : (sealB x ++ y).take n = x ∧ ((sealB x ++ y).take (n + 4)).drop n = le4 (toI (sumW x)) ∧ (sealB x ++ y).drop (n + 4) = y := by
  have e : sealB x ++ y = x ++ (le4 (toI (sumW x)) ++ y) := by unfold sealB; rw [List.append_assoc]
  refine ⟨by rw [e]; exact List.take_left' hx, ?_, List.drop_left' (by rw [sealB_length, hx])⟩
  rw [e, List.drop_take, List.drop_left' hx, Nat.add_sub_cancel_left]
  exact List.take_left' (le4_length _)
/-- All blocks whole: the data, or that something stands behind. -/
theorem parse_full (B S : Nat) (hB : 0 < B) (rest : List Int) (f : Nat) : ∀ (g : Nat) (data acc : List Int) (blk : Int), data.length ≤ f → data.length ≤ g → acc.length + data.length = S →
    parseS B S g (blocksB B f data ++ rest) acc blk = if rest.length > 0 then errT 0 4 else (2, 1, 1, B, S, 65537, acc ++ data, 0, 0) := by
  induction f with
  | zero =>
    intro g data acc blk hf hg hs
    obtain rfl : data = [] := List.eq_nil_of_length_eq_zero (by omega)
    simp only [List.length_nil, Nat.add_zero] at hs
    rw [blocksB, List.nil_append, List.append_nil]
    cases g with
    | zero => rfl
    | succ g => rw [parseS, if_neg (by omega)]
  | succ f ih =>
    intro g data acc blk hf hg hs
    by_cases h0 : data = []
    · subst h0
      simp only [List.length_nil, Nat.add_zero] at hs
      rw [blocksB, if_pos rfl, List.nil_append, List.append_nil]
      cases g with
      | zero => rfl
      | succ g => rw [parseS, if_neg (by omega)]
    · have hp : 0 < data.length := List.length_pos_iff.2 h0
      cases g with
      | zero => omega
      | succ g =>
      have ht : (data.take B).length = min B (S - acc.length) := by rw [List.length_take]; omega
      have hd : (data.drop B).length = data.length - B := List.length_drop
      rw [blocksB, if_neg h0, List.append_assoc, parseS, if_pos (by omega), ← ht]
      obtain ⟨p1, p2, p3⟩ := seal_parts (data.take B) (blocksB B f (data.drop B) ++ rest) _ rfl
      have hlen : ¬ (sealB (data.take B) ++ (blocksB B f (data.drop B) ++ rest)).length < (data.take B).length + 4 := by rw [List.length_append, sealB_length]; omega
      rw [if_neg hlen, p1, p2, p3, if_pos (rd4_le4 (sum_range _).1 (sum_range _).2)]
      rw [ih g (data.drop B) (acc ++ data.take B) _ (by omega) (by omega) (by rw [List.length_append, ht]; omega), List.append_assoc, List.take_append_drop]
theorem awake5_ev : Ev (fun k => strongboxlaw5_awake.f k) true := by
  generalize hd : ((List.replicate 17 (0 : Int)).set (16 : Int).toNat 9) = data
  have hl : data.length = 17 := by rw [← hd]; rfl
  have hb : Bytes data := by rw [← hd]; unfold Bytes; decide
  obtain ⟨K1, h1⟩ := write_ev 2 1 1 16 17 65537 data (may_one 16 17 (by decide) (by decide)) (by decide) (by rw [hl]; rfl) (by rw [hl]; decide) hb
  have hbb : Bytes (blocksB 16 17 data) := blocksB_bytes 16 17 hb
  have hbl : (blocksB 16 17 data).length ≤ 85 := by have := blocksB_length_le 16 (by decide) 17 data; omega
  obtain ⟨K2, h2⟩ := read_file_ev 16 17 (by decide) (by decide) (blocksB 16 17 data) hbb (by omega)
  have e1 : fileB 2 1 1 16 17 65537 data = sealB (headB 2 1 1 16 17 65537) ++ blocksB 16 17 data := by unfold fileB; rw [hl]; rfl
  have e2 : parseS 16 17 17 (blocksB 16 17 data) [] 0 = (2, 1, 1, 16, 17, 65537, data, 0, 0) := by
    have := parse_full 16 17 (by decide) [] 17 17 data [] 0 (by omega) (by omega) (by simp [hl])
    rw [List.append_nil, if_neg (by simp)] at this
    exact this
  have e3 : (fileB 2 1 1 16 17 65537 data).length = 49 := by rw [← hd]; rfl
  refine ⟨max K1 K2, fun k hk => ?_⟩
  have h1 := h1 k (by omega)
  have h2 := h2 k (by omega)
  simp only at h1 h2
  have h2' : shard_Read.f k (fileB 2 1 1 16 17 65537 data) = some (2, 1, 1, 16, 17, 65537, data, 0) := by
    rw [e1]
    refine (show _ = _ from h2).trans ?_
    rw [e2]; rfl
  show strongboxlaw5_awake.f k = some true
  have w0 : wrap64 (16 + wrap64 0) = 16 := by unfold wrap64; omega
  rw [strongboxlaw5_awake.f, strongboxlaw5_One.f, w0, Option.bind_some, if_pos (by decide), Option.bind_some, if_pos (by decide), Option.bind_some, hd, strongboxlaw5_Head.f, Option.bind_some, h1, Option.bind_some, h2', Option.bind_some, if_pos rfl, if_pos (by show ((fileB 2 1 1 16 17 65537 data).length : Int) = 49; rw [e3]; rfl), if_pos rfl, Option.bind_some, if_pos (by rfl)]
  congr 1
  exact beq_self_eq_true _

theorem rmore_l1 (l : List Int) (i : Int) (r : Int) (d : Nat) : ∀ (S : W) (j : Int), j + d = 8 → 0 ≤ j →
    Ev (fun k => strongboxref4_More.l0 k (toI (steps d S)) l (wrap64 (i + 1))) r → Ev (fun k => strongboxref4_More.l1 k (toI S) l i j) r := by
  induction d with
  | zero =>
    intro S j hj h0 h
    refine Ev.step (f := fun k => strongboxref4_More.l0 k (toI S) l (wrap64 (i + 1))) (fun k => ?_) h
    simp only [strongboxref4_More.l1]
    rw [if_neg (by omega)]
  | succ d ih =>
    intro S j hj h0 h
    refine Ev.step (f := fun k => strongboxref4_More.l1 k (toI (CrcMath.step S)) l i (j + 1)) (fun k => ?_) (ih (CrcMath.step S) (j + 1) (by omega) (by omega) h)
    simp only [strongboxref4_More.l1]
    rw [if_pos (by omega), w64_lt (by omega) (by omega), low]
    cases hs : S.getLsbD 0 with
    | true => simp only [if_true]; rw [step_on hs]
    | false => rw [if_neg (by simp), step_off hs]
theorem rmore_l0 (l : List Int) (hl : l.length < 4611686018427387904) (rest : List Int) : ∀ (pre : List Int) (S : W), l = pre ++ rest → Bytes rest →
    Ev (fun k => strongboxref4_More.l0 k (toI S) l (pre.length : Int)) (toI (~~~ (CrcMath.run S rest))) := by
  induction rest with
  | nil =>
    intro pre S e _
    refine Ev.step (f := fun _ => some (toI (~~~ S))) (fun k => ?_) (Ev.now _)
    simp only [strongboxref4_More.l0]
    have : l.length = pre.length := by rw [e]; simp
    rw [if_neg (by omega), not_toI]
  | cons x rest ih =>
    intro pre S e hb
    have hx := hb x (by simp)
    have hlen : l.length = pre.length + (rest.length + 1) := by rw [e]; simp
    have hrd : rd l (pre.length : Int) = x := by
      unfold rd
      rw [Int.toNat_natCast, e]
      simp [List.getD_eq_getElem?_getD]
    refine Ev.step (f := fun k => strongboxref4_More.l1 k (toI (S ^^^ BitVec.ofInt 32 x)) l (pre.length : Int) 0) (fun k => ?_) ?_
    · simp only [strongboxref4_More.l0]
      rw [if_pos (by omega), if_pos (by omega), hrd, Int.emod_eq_of_lt hx.1 (by omega)]
      rw [← toI_of hx.1 (by omega : x < 4294967296), xor_toI, toI_of hx.1 (by omega)]
    · refine rmore_l1 l _ _ 8 _ 0 (by omega) (by omega) ?_
      have h := ih (pre ++ [x]) (byteStep S x) (by rw [e]; simp) (fun y hy => hb y (by simp [hy]))
      have e2 : ((pre ++ [x]).length : Int) = wrap64 ((pre.length : Int) + 1) := by
        rw [w64_lt (by omega) (by omega)]; simp
      rw [e2] at h
      exact h
theorem rsum_ev (l : List Int) (hl : l.length < 4611686018427387904) (hb : Bytes l) : Ev (fun k => strongboxref4_Sum.f k l) (toI (sumW l)) := by
  have h := rmore_l0 l hl l [] (~~~ 0) rfl hb
  unfold strongboxref4_Sum.f
  refine Ev.bind (g := fun k => strongboxref4_More.f k 0 l) (f := fun _ t => some t) ?_ (Ev.now _)
  refine Ev.congr (fun k => ?_) h
  unfold strongboxref4_More.f
  have := not_toI 0
  have e0 : toI 0 = 0 := rfl
  rw [e0] at this
  rw [this]
  rfl
theorem shr_nat (n s : Nat) (hs : s ≤ 64) : shr .i64 (n : Int) (s : Int) = ((n / 2 ^ s : Nat) : Int) := by
  unfold shr
  rw [Int.toNat_natCast, Nat.min_eq_left (by show s ≤ 64; omega)]
  simp
theorem rbytes_ev (t : Int) (h0 : 0 ≤ t) (h1 : t < 4294967296) : Ev (fun k => strongboxref4_Bytes.f k t) (le4 t) := by
  obtain ⟨n, rfl⟩ := Int.eq_ofNat_of_zero_le h0
  refine ⟨10, fun k hk => ?_⟩
  obtain ⟨k, rfl⟩ : ∃ j, k = j + 5 := ⟨k - 5, by omega⟩
  have w : wrap64 (n : Int) = (n : Int) := w64_lt (by omega) (by omega)
  have s0 : IntKind.u64.wrap (wrap64 (8 * (0 : Int))) = ((0 : Nat) : Int) := by rw [w64_lt (by omega) (by omega), IntKind.wrap_u64]; omega
  have s1 : IntKind.u64.wrap (wrap64 (8 * (1 : Int))) = ((8 : Nat) : Int) := by rw [w64_lt (by omega) (by omega), IntKind.wrap_u64]; omega
  have s2 : IntKind.u64.wrap (wrap64 (8 * (2 : Int))) = ((16 : Nat) : Int) := by rw [w64_lt (by omega) (by omega), IntKind.wrap_u64]; omega
  have s3 : IntKind.u64.wrap (wrap64 (8 * (3 : Int))) = ((24 : Nat) : Int) := by rw [w64_lt (by omega) (by omega), IntKind.wrap_u64]; omega
  have a1 : wrap64 ((0 : Int) + 1) = 1 := by unfold wrap64; omega
  have a2 : wrap64 ((1 : Int) + 1) = 2 := by unfold wrap64; omega
  have a3 : wrap64 ((2 : Int) + 1) = 3 := by unfold wrap64; omega
  have a4 : wrap64 ((3 : Int) + 1) = 4 := by unfold wrap64; omega
  have r0 : (0 : Int) ≤ ((0 : Nat) : Int) := by decide
  have r1 : (0 : Int) ≤ ((8 : Nat) : Int) := by decide
  have r2 : (0 : Int) ≤ ((16 : Nat) : Int) := by decide
  have r3 : (0 : Int) ≤ ((24 : Nat) : Int) := by decide
  show strongboxref4_Bytes.f (k + 5) (n : Int) = _
  rw [strongboxref4_Bytes.f, strongboxref4_little.f, w]
  rw [strongboxref4_little.l0, if_pos (by decide), s0, if_pos r0, if_pos (by decide), shr_nat n 0 (by omega), a1]
  rw [strongboxref4_little.l0, if_pos (by decide), s1, if_pos r1, if_pos (by simp), shr_nat n 8 (by omega), a2]
  rw [strongboxref4_little.l0, if_pos (by decide), s2, if_pos r2, if_pos (by simp), shr_nat n 16 (by omega), a3]
  rw [strongboxref4_little.l0, if_pos (by decide), s3, if_pos r3, if_pos (by simp), shr_nat n 24 (by omega), a4]
  rw [strongboxref4_little.l0, if_neg (by decide), Option.bind_some]
  unfold le4
  simp only [List.nil_append, List.cons_append, Nat.pow_zero, Nat.div_one]
  have p8 : (2 : Nat) ^ 8 = 256 := rfl
  have p16 : (2 : Nat) ^ 16 = 65536 := rfl
  have p24 : (2 : Nat) ^ 24 = 16777216 := rfl
  rw [p8, p16, p24]
  rfl

theorem rmay_some (K M I B S D : Int) : strongboxref4_MayHead.f K M I B S D = some (mayB K M I B S D) := by
  unfold strongboxref4_MayHead.f mayB
  by_cases c0 : K ≥ 1
  · rw [if_pos c0]
    by_cases c1 : M ≥ 1
    · rw [if_pos c1]
      by_cases c2 : K ≤ 255
      · rw [if_pos c2]
        have w1 : wrap64 (255 - K) = 255 - K := by unfold wrap64; omega
        rw [w1]
        by_cases c3 : M ≤ 255 - K
        · rw [if_pos c3]
          by_cases c4 : I ≥ 0
          · rw [if_pos c4]
            have w2 : wrap64 (K + M) = K + M := by clear w1; unfold wrap64; omega
            rw [w2]
            by_cases c5 : I < K + M
            · rw [if_pos c5]
              by_cases c6 : B ≥ 16
              · rw [if_pos c6]
                by_cases c7 : B ≤ 4096
                · rw [if_pos c7]
                  by_cases c8 : S ≥ 0
                  · rw [if_pos c8]
                    by_cases c9 : S ≤ 65536
                    · rw [if_pos c9]
                      by_cases c10 : D ≥ 0
                      · rw [if_pos c10]
                        congr 1; clear w1 w2
                        by_cases c : D ≤ 2147483647
                        · rw [decide_eq_true c]; symm; exact decide_eq_true (by omega)
                        · rw [decide_eq_false c]; symm; exact decide_eq_false (by omega)
                      · rw [if_neg c10]; congr 1; symm; exact decide_eq_false (by clear w1 w2; omega)
                    · rw [if_neg c9]; congr 1; symm; exact decide_eq_false (by clear w1 w2; omega)
                  · rw [if_neg c8]; congr 1; symm; exact decide_eq_false (by clear w1 w2; omega)
                · rw [if_neg c7]; congr 1; symm; exact decide_eq_false (by clear w1 w2; omega)
              · rw [if_neg c6]; congr 1; symm; exact decide_eq_false (by clear w1 w2; omega)
            · rw [if_neg c5]; congr 1; symm; exact decide_eq_false (by clear w1 w2; omega)
          · rw [if_neg c4]; congr 1; symm; exact decide_eq_false (by clear w1; omega)
        · rw [if_neg c3]; congr 1; symm; exact decide_eq_false (by clear w1; omega)
      · rw [if_neg c2]; congr 1; symm; exact decide_eq_false (by omega)
    · rw [if_neg c1]; congr 1; symm; exact decide_eq_false (by omega)
  · rw [if_neg c0]; congr 1; symm; exact decide_eq_false (by omega)

theorem w64n (n : Nat) (h : n < 4611686018427387904) : wrap64 (n : Int) = (n : Int) := w64_lt (by omega) (by omega)
theorem may_ev (K M I B S D : Int) : Ev (fun k => shard_May.f k K M I B S D) (mayB K M I B S D) := by
  refine Ev.step (f := fun _ => some (mayB K M I B S D)) (fun k => ?_) (Ev.now _)
  unfold shard_May.f mayB
  rw [within_some, Option.bind_some]
  by_cases c1 : 1 ≤ K ∧ K ≤ 255
  · rw [if_pos (decide_eq_true c1)]
    have w1 : wrap64 (255 - K) = 255 - K := by unfold wrap64; omega
    rw [w1, within_some, Option.bind_some]
    clear w1
    by_cases c2 : 1 ≤ M ∧ M ≤ 255 - K
    · rw [decide_eq_true c2]
      have w2 : wrap64 ((wrap64 (K + M)) - 1) = K + M - 1 := by unfold wrap64; omega
      simp only [shard_May.j0, Bool.not_true]
      rw [if_neg (by decide), w2, within_some, Option.bind_some]
      clear w2
      by_cases c3 : 0 ≤ I ∧ I ≤ K + M - 1
      · rw [if_pos (decide_eq_true c3), within_some, Option.bind_some]
        by_cases c4 : 16 ≤ B ∧ B ≤ 4096
        · rw [if_pos (decide_eq_true c4), within_some, Option.bind_some]
          by_cases c5 : 0 ≤ S ∧ S ≤ 65536
          · rw [if_pos (decide_eq_true c5), within_some, Option.bind_some]
            congr 1
            by_cases c6 : 0 ≤ D ∧ D ≤ 2147483647
            · rw [decide_eq_true c6, decide_eq_true ⟨c1, c2, c3, c4, c5, c6⟩]
            · rw [decide_eq_false c6, decide_eq_false (fun h => c6 h.2.2.2.2.2)]
          · rw [if_neg (by rw [decide_eq_false c5]; decide), decide_eq_false (fun h => c5 h.2.2.2.2.1)]
        · rw [if_neg (by rw [decide_eq_false c4]; decide), decide_eq_false (fun h => c4 h.2.2.2.1)]
      · rw [if_neg (by rw [decide_eq_false c3]; decide), decide_eq_false (fun h => c3 h.2.2.1)]
    · rw [decide_eq_false c2]
      simp only [shard_May.j0, Bool.not_false]
      rw [if_pos trivial, decide_eq_false (fun h => c2 h.2.1)]
  · rw [if_neg (by rw [decide_eq_false c1]; decide)]
    simp only [shard_May.j0]
    rw [if_pos trivial, decide_eq_false (fun h => c1 h.1)]
theorem may_of {K M I B S D : Int} (h : mayB K M I B S D = true) : (16 ≤ B ∧ B ≤ 4096) ∧ (0 ≤ S ∧ S ≤ 65536) ∧ (0 ≤ D ∧ D ≤ 2147483647) := by
  have := of_decide_eq_true h
  exact ⟨this.2.2.2.1, this.2.2.2.2.1, this.2.2.2.2.2⟩
theorem rlittle_ev (t : Int) (h0 : 0 ≤ t) (h1 : t < 4294967296) : Ev (fun k => strongboxref4_little.f k t 4) (le4 t) := by
  obtain ⟨K, h⟩ := rbytes_ev t h0 h1
  refine ⟨K, fun k hk => ?_⟩
  have h := h k hk
  have w : wrap64 t = t := w64_lt h0 (by omega)
  simp only [strongboxref4_Bytes.f, w] at h
  show strongboxref4_little.f k t 4 = some (le4 t)
  cases hx : strongboxref4_little.f k t 4 with
  | none => rw [hx] at h; cases h
  | some v => rw [hx] at h; exact h
/-- All data, block by block. -/
def blocksF (B : Nat) (l : List Int) : List Int := blocksB B l.length l
theorem blocksB_fuel (B : Nat) (hB : 0 < B) (f : Nat) : ∀ (g : Nat) (l : List Int), l.length ≤ f → l.length ≤ g → blocksB B f l = blocksB B g l := by
  induction f with
  | zero =>
    intro g l hf _
    obtain rfl : l = [] := List.eq_nil_of_length_eq_zero (by omega)
    cases g with
    | zero => rfl
    | succ g => rw [blocksB, blocksB, if_pos rfl]
  | succ f ih =>
    intro g l hf hg
    by_cases h0 : l = []
    · subst h0
      cases g with
      | zero => rw [blocksB, blocksB, if_pos rfl]
      | succ g => rw [blocksB, blocksB]; rfl
    · have hp : 0 < l.length := List.length_pos_iff.2 h0
      cases g with
      | zero => omega
      | succ g => rw [blocksB, blocksB, if_neg h0, if_neg h0, ih g (l.drop B) (by rw [List.length_drop]; omega) (by rw [List.length_drop]; omega)]
theorem blocksF_nil (B : Nat) : blocksF B [] = [] := rfl
theorem blocksF_cons (B : Nat) (hB : 0 < B) (l : List Int) (h : l ≠ []) : blocksF B l = sealB (l.take B) ++ blocksF B (l.drop B) := by
  have hp : 0 < l.length := List.length_pos_iff.2 h
  unfold blocksF
  obtain ⟨n, hn⟩ : ∃ n, l.length = n + 1 := ⟨l.length - 1, by omega⟩
  rw [hn, blocksB, if_neg h, blocksB_fuel B hB n _ _ (by rw [List.length_drop]; omega) (Nat.le_refl _)]
theorem blocksF_full (B : Nat) (hB : 0 < B) (p m : List Int) (h : p.length = B) : blocksF B (p ++ m) = sealB p ++ blocksF B m := by
  rw [blocksF_cons B hB (p ++ m) (fun e => by have := congrArg List.length e; rw [List.length_append, List.length_nil] at this; omega), List.take_left' h, List.drop_left' h]
theorem blocksF_one (B : Nat) (hB : 0 < B) (p : List Int) (h0 : p ≠ []) (h : p.length ≤ B) : blocksF B p = sealB p := by
  rw [blocksF_cons B hB p h0, List.take_of_length_le h, List.drop_of_length_le h, blocksF_nil, List.append_nil]
theorem blocksF_length_le (B : Nat) (hB : 0 < B) (l : List Int) : (blocksF B l).length ≤ 5 * l.length := blocksB_length_le B hB _ l
theorem sealB_append (a l : List Int) : (a ++ l) ++ le4 (toI (sumW l)) = a ++ sealB l := by unfold sealB; rw [List.append_assoc]
set_option maxHeartbeats 1000000 in
theorem rwrite_l0 (B : Nat) (hB : 0 < B ∧ B ≤ 4096) (data : List Int) (hb : Bytes data) (hL : data.length ≤ 65536) (x0 x1 x2 x4 x5 : Int) (f : Nat) :
    ∀ (p : Nat) (b : List Int), data.length ≤ p + f → p ≤ data.length + B → b.length + 5 * (data.length - p) + 100 < 140737488355328 →
      Ev (fun k => strongboxref4_Write.l0 k data b (p : Int) x0 x1 x2 (B : Int) x4 x5) (b ++ blocksF B (data.drop p), 0) := by
  induction f with
  | zero =>
    intro p b hf hp hl
    refine Ev.step (f := fun _ => some (b ++ blocksF B (data.drop p), 0)) (fun k => ?_) (Ev.now _)
    simp only [strongboxref4_Write.l0]
    rw [if_neg (by omega), List.drop_of_length_le (by omega), blocksF_nil, List.append_nil]
  | succ f ih =>
    intro p b hf hp hl
    by_cases hc : p < data.length
    · obtain ⟨m, hm⟩ : ∃ m, m = min (p + B) data.length := ⟨_, rfl⟩
      obtain ⟨x, hx⟩ : ∃ x, x = (data.take m).drop p := ⟨_, rfl⟩
      have hxl : x.length = m - p := by rw [hx, List.length_drop, List.length_take]; omega
      have hx2 : (data.drop p).take B = x := by
        rw [hx, List.drop_take]
        by_cases hc2 : p + B ≤ data.length
        · rw [show m - p = B by omega]
        · rw [List.take_of_length_le (by rw [List.length_drop]; omega), List.take_of_length_le (by rw [List.length_drop]; omega)]
      have hxb : Bytes x := by rw [hx]; exact hb.sub fun y hy => List.mem_of_mem_take (List.mem_of_mem_drop hy)
      have hne : data.drop p ≠ [] := fun e => by have := congrArg List.length e; rw [List.length_drop] at this; simp at this; omega
      have e : b ++ blocksF B (data.drop p) = (b ++ x ++ le4 (toI (sumW x))) ++ blocksF B (data.drop (p + B)) := by
        rw [blocksF_cons B hB.1 _ hne, hx2, List.drop_drop, sealB_append, List.append_assoc]
      obtain ⟨K1, g1⟩ := rsum_ev x (by omega) hxb
      obtain ⟨K2, g2⟩ := rbytes_ev (toI (sumW x)) (sum_range _).1 (sum_range _).2
      obtain ⟨K3, g3⟩ := ih (p + B) (b ++ x ++ le4 (toI (sumW x))) (by omega) (by omega) (by rw [List.length_append, List.length_append, le4_length]; omega)
      have c1 : (p : Int) < (data.length : Int) := by omega
      have c2 : (0 : Int) ≤ (p : Int) := by omega
      have c3 : (p : Int) ≤ (m : Int) := by omega
      have c4 : (m : Int) ≤ (data.length : Int) := by omega
      have c5 : b.length + x.length < 140737488355328 := by omega
      have c6 : (b ++ x).length + (le4 (toI (sumW x))).length < 140737488355328 := by rw [List.length_append, le4_length]; omega
      have eM : mn (((p + B : Nat)) : Int) (data.length : Int) = (m : Int) := by unfold mn; split <;> omega
      have eP : wrap64 ((p : Int) + (B : Int)) = ((p + B : Nat) : Int) := by rw [← Int.natCast_add]; exact w64n _ (by omega)
      rw [e]
      refine ⟨max (max K1 K2) K3 + 1, fun k hk => ?_⟩
      obtain ⟨k, rfl⟩ : ∃ j, k = j + 1 := ⟨k - 1, by clear eP eM; omega⟩
      have g1 := g1 k (by clear eP eM; omega)
      have g2 := g2 k (by clear eP eM; omega)
      have g3 := g3 k (by clear eP eM; omega)
      simp only at g1 g2 g3
      show strongboxref4_Write.l0 (k + 1) data b (p : Int) x0 x1 x2 (B : Int) x4 x5 = _
      rw [strongboxref4_Write.l0, if_pos c1, if_pos c2, eP, eM, if_pos c3, if_pos c4, Int.toNat_natCast, Int.toNat_natCast, ← hx, Option.bind_some, if_pos c5, Option.bind_some, g1, Option.bind_some, g2, Option.bind_some, if_pos c6, g3]
    · refine Ev.step (f := fun _ => some (b ++ blocksF B (data.drop p), 0)) (fun k => ?_) (Ev.now _)
      simp only [strongboxref4_Write.l0]
      rw [if_neg (by omega), List.drop_of_length_le (by omega), blocksF_nil, List.append_nil]
/-- The reference's answer: a file, or that it may not be. -/
theorem rwrite_no (K M I B S D : Int) (l : List Int) (h : mayB K M I B S D = false ∨ (l.length : Int) ≠ S) : Ev (fun k => strongboxref4_Write.f k K M I B S D l) ([], 1) := by
  refine Ev.step (f := fun _ => some (([] : List Int), 1)) (fun k => ?_) (Ev.now _)
  unfold strongboxref4_Write.f
  rw [rmay_some, Option.bind_some]
  cases hm : mayB K M I B S D with
  | false =>
    rw [if_neg (by decide)]
    simp only [strongboxref4_Write.j0]
    rw [if_pos trivial]
  | true =>
    rw [if_pos rfl]
    have hS := h.resolve_left (by rw [hm]; decide)
    rw [bne_iff_ne.2 hS]
    simp only [strongboxref4_Write.j0]
    rw [if_pos trivial]
theorem write_no (K M I B S D : Int) (l : List Int) (h : mayB K M I B S D = false ∨ (l.length : Int) ≠ S) : Ev (fun k => shard_Write.f k K M I B S D l) ([], 1) := by
  unfold shard_Write.f
  refine Ev.bind (g := fun k => shard_May.f k K M I B S D) (may_ev K M I B S D) ?_
  refine Ev.congr (f := fun _ => some (([] : List Int), 1)) (fun k => ?_) (Ev.now _)
  cases hm : mayB K M I B S D with
  | false => rw [if_neg (by decide)]
  | true => rw [if_pos rfl, if_neg (h.resolve_left (by rw [hm]; decide))]
set_option maxHeartbeats 1000000 in
theorem rwrite_ev (K M I B S D : Int) (l : List Int) (hm : mayB K M I B S D = true) (hS : (l.length : Int) = S) (hb : Bytes l) :
    Ev (fun k => strongboxref4_Write.f k K M I B S D l) (fileB K M I B S D l, 0) := by
  obtain ⟨hB, hS2, hD⟩ := may_of hm
  obtain ⟨N, hN⟩ : ∃ N : Nat, (N : Int) = B := ⟨B.toNat, by omega⟩
  obtain ⟨K1, g1⟩ := rlittle_ev B (by omega) (by omega)
  obtain ⟨K2, g2⟩ := rlittle_ev S (by omega) (by omega)
  obtain ⟨K3, g3⟩ := rlittle_ev D (by omega) (by omega)
  obtain ⟨K4, g4⟩ := rsum_ev (headB K M I B S D) (by rw [headB_length]; decide) (headB_bytes _ _ _ _ _ _)
  obtain ⟨K5, g5⟩ := rbytes_ev (toI (sumW (headB K M I B S D))) (sum_range _).1 (sum_range _).2
  obtain ⟨K6, g6⟩ := rwrite_l0 N (by omega) l hb (by omega) K M I S D l.length 0 (sealB (headB K M I B S D)) (by omega) (by omega) (by rw [sealB_length, headB_length]; omega)
  rw [List.drop_zero] at g6
  have ef : fileB K M I B S D l = sealB (headB K M I B S D) ++ blocksF N l := by unfold fileB blocksF; rw [← hN, Int.toNat_natCast]
  rw [ef]
  refine ⟨max (max (max K1 K2) (max K3 K4)) (max K5 K6) + 1, fun k hk => ?_⟩
  obtain ⟨k, rfl⟩ : ∃ j, k = j + 1 := ⟨k - 1, by omega⟩
  have g1 := g1 k (by omega)
  have g2 := g2 k (by omega)
  have g3 := g3 k (by omega)
  have g4 := g4 k (by omega)
  have g5 := g5 k (by omega)
  have g6 := g6 k (by omega)
  simp only at g1 g2 g3 g4 g5 g6
  show strongboxref4_Write.f (k + 1) K M I B S D l = _
  rw [strongboxref4_Write.f, rmay_some, Option.bind_some, hm, if_pos rfl, bne_eq_false_iff_eq.2 hS, strongboxref4_Write.j0, if_neg (by decide), Option.bind_some, Option.bind_some, if_pos (by simp), Option.bind_some, g1, Option.bind_some, if_pos (by rw [le4_length]; simp), Option.bind_some, g2, Option.bind_some, if_pos (by rw [le4_length, List.length_append, le4_length]; simp), Option.bind_some, g3, Option.bind_some, if_pos (by rw [le4_length, List.length_append, List.length_append, le4_length, le4_length]; simp), Option.bind_some]
  have eh : ([83, 66, 88, 49] : List Int) ++ [K % 256, M % 256, I % 256, 0] ++ le4 B ++ le4 S ++ le4 D = headB K M I B S D := rfl
  rw [eh, g4, Option.bind_some, g5, Option.bind_some, if_pos (by rw [headB_length, le4_length]; decide), ← g6, hN]
  rfl

theorem open_true (K M I B S D : Int) (bk pc : List Int) (sz : Int) (hm : mayB K M I B S D = true) : Ev (fun k => shard_Writer_open.f k K M I B S D bk pc sz false) true := by
  obtain ⟨K0, g⟩ := may_ev K M I B S D
  refine ⟨K0, fun k hk => ?_⟩
  have g := g k hk
  simp only at g
  show shard_Writer_open.f k K M I B S D bk pc sz false = some true
  rw [shard_Writer_open.f, if_neg (by decide), g, Option.bind_some, hm]
theorem open_ended (k : Nat) (K M I B S D : Int) (bk pc : List Int) (sz : Int) : shard_Writer_open.f k K M I B S D bk pc sz true = some false := by
  rw [shard_Writer_open.f, if_pos rfl]
theorem flush_ev (K M I B S D : Int) (bk pc : List Int) (sz : Int) (en : Bool) (hb : Bytes pc) (hl : bk.length + pc.length + 10 < 140737488355328) :
    Ev (fun k => shard_Writer_flush.f k K M I B S D bk pc sz en) (K, M, I, B, S, D, if pc = [] then bk else bk ++ sealB pc, [], sz, en) := by
  unfold shard_Writer_flush.f
  by_cases h0 : pc = []
  · subst h0
    refine Ev.congr (fun k => ?_) (Ev.now _)
    rw [if_neg (by simp), if_pos rfl]
  · have hp : 0 < pc.length := List.length_pos_iff.2 h0
    obtain ⟨K1, g1⟩ := seal_ev (bk ++ pc) pc (by omega) hb (by rw [List.length_append]; omega)
    refine ⟨K1, fun k hk => ?_⟩
    have g1 := g1 k hk
    simp only at g1
    simp only
    rw [if_pos (by omega), if_pos (by omega), g1, Option.bind_some, if_neg h0, sealB_append]
set_option maxHeartbeats 1000000 in
theorem add_l0 (B : Nat) (hB : 0 < B ∧ B ≤ 4096) (K M I S D sz : Int) (f : Nat) : ∀ (l bk pc : List Int), l.length ≤ f → Bytes l → Bytes pc → pc.length < B → bk.length + 5 * (pc.length + l.length) + 100 < 140737488355328 →
    ∃ bk2 pc2, Bytes pc2 ∧ pc2.length < B ∧ (∀ more, bk ++ blocksF B (pc ++ l ++ more) = bk2 ++ blocksF B (pc2 ++ more)) ∧
      Ev (fun k => shard_Writer_Add.l0 k l K M I (B : Int) S D bk pc sz false) (K, M, I, (B : Int), S, D, bk2, pc2, sz, false, 0) := by
  induction f with
  | zero =>
    intro l bk pc hf hb hp hpl hl
    obtain rfl : l = [] := List.eq_nil_of_length_eq_zero (by omega)
    refine ⟨bk, pc, hp, hpl, fun more => by rw [List.append_nil], Ev.step (f := fun _ => some (K, M, I, (B : Int), S, D, bk, pc, sz, false, 0)) (fun k => ?_) (Ev.now _)⟩
    simp only [shard_Writer_Add.l0]
    rw [if_neg (by simp)]
  | succ f ih =>
    intro l bk pc hf hb hp hpl hl
    by_cases h0 : l = []
    · subst h0
      refine ⟨bk, pc, hp, hpl, fun more => by rw [List.append_nil], Ev.step (f := fun _ => some (K, M, I, (B : Int), S, D, bk, pc, sz, false, 0)) (fun k => ?_) (Ev.now _)⟩
      simp only [shard_Writer_Add.l0]
      rw [if_neg (by simp)]
    · have hlp : 0 < l.length := List.length_pos_iff.2 h0
      obtain ⟨n, hn⟩ : ∃ n, n = min (B - pc.length) l.length := ⟨_, rfl⟩
      have hn1 : 0 < n := by omega
      have hpb : Bytes (pc ++ l.take n) := fun x hx => (List.mem_append.1 hx).elim (fun h => hp x h) (fun h => hb x (List.mem_of_mem_take h))
      have hdb : Bytes (l.drop n) := hb.sub fun y hy => List.mem_of_mem_drop hy
      have hpn : (pc ++ l.take n).length = pc.length + n := by rw [List.length_append, List.length_take]; omega
      have hdl : (l.drop n).length = l.length - n := List.length_drop
      have c0 : (l.length : Int) > 0 := by omega
      have c1 : (0 : Int) ≤ (n : Int) := by omega
      have c2 : (n : Int) ≤ (l.length : Int) := by omega
      have c3 : pc.length + (l.take n).length < 140737488355328 := by rw [List.length_take]; omega
      have eN : mn (wrap64 ((B : Int) - (pc.length : Int))) (l.length : Int) = (n : Int) := by
        have : wrap64 ((B : Int) - (pc.length : Int)) = ((B - pc.length : Nat) : Int) := by rw [w64_lt (by omega) (by omega)]; omega
        rw [this]; unfold mn; split <;> omega
      have eq1 : ∀ more, pc ++ l ++ more = (pc ++ l.take n) ++ (l.drop n ++ more) := fun more => by
        rw [List.append_assoc, List.append_assoc, ← List.append_assoc (l.take n), List.take_append_drop]
      by_cases hc : (pc ++ l.take n).length = B
      · obtain ⟨K1, g1⟩ := flush_ev K M I (B : Int) S D bk (pc ++ l.take n) sz false hpb (by clear eN; omega)
        rw [if_neg (fun e => by rw [e] at hc; simp at hc; clear eN; omega)] at g1
        obtain ⟨bk2, pc2, hb2, hl2, he2, K2, g2⟩ := ih (l.drop n) (bk ++ sealB (pc ++ l.take n)) [] (by clear eN; omega) hdb (fun x hx => by cases hx) (by simp; clear eN; omega) (by rw [List.length_append, sealB_length, List.length_nil]; clear eN; omega)
        refine ⟨bk2, pc2, hb2, hl2, fun more => ?_, max K1 K2 + 1, fun k hk => ?_⟩
        · rw [← he2 more, eq1, blocksF_full B hB.1 _ _ hc, List.append_assoc, List.nil_append]
        · obtain ⟨k, rfl⟩ : ∃ j, k = j + 1 := ⟨k - 1, by clear eN; omega⟩
          have g1 := g1 k (by clear eN; omega)
          have g2 := g2 k (by clear eN; omega)
          simp only at g1 g2
          show shard_Writer_Add.l0 (k + 1) l K M I (B : Int) S D bk pc sz false = _
          rw [shard_Writer_Add.l0, if_pos c0, eN, if_pos c1, if_pos c2, Int.toNat_natCast, Option.bind_some, if_pos c3, Option.bind_some, Option.bind_some, if_pos (by rw [hc]), g1, Option.bind_some]
          exact g2
      · obtain ⟨bk2, pc2, hb2, hl2, he2, K2, g2⟩ := ih (l.drop n) bk (pc ++ l.take n) (by clear eN; omega) hdb hpb (by clear eN; omega) (by clear eN; omega)
        refine ⟨bk2, pc2, hb2, hl2, fun more => ?_, K2 + 1, fun k hk => ?_⟩
        · rw [← he2 more, eq1, List.append_assoc (pc ++ l.take n)]
        · obtain ⟨k, rfl⟩ : ∃ j, k = j + 1 := ⟨k - 1, by clear eN; omega⟩
          have g2 := g2 k (by clear eN; omega)
          simp only at g2
          show shard_Writer_Add.l0 (k + 1) l K M I (B : Int) S D bk pc sz false = _
          rw [shard_Writer_Add.l0, if_pos c0, eN, if_pos c1, if_pos c2, Int.toNat_natCast, Option.bind_some, if_pos c3, Option.bind_some, Option.bind_some, if_neg (fun e => hc (by clear eN; omega))]
          exact g2
/-- More data that still goes in. -/
theorem add_ok (B : Nat) (K M I D : Int) (S at_ : Nat) (hm : mayB K M I (B : Int) (S : Int) D = true) (l bk pc : List Int) (hb : Bytes l) (hp : Bytes pc) (hpl : pc.length < B) (hS : at_ + l.length ≤ S) (hl : bk.length ≤ 1000000) :
    ∃ bk2 pc2, Bytes pc2 ∧ pc2.length < B ∧ (∀ more, bk ++ blocksF B (pc ++ l ++ more) = bk2 ++ blocksF B (pc2 ++ more)) ∧
      Ev (fun k => shard_Writer_Add.f k K M I (B : Int) (S : Int) D bk pc (at_ : Int) false l) (K, M, I, (B : Int), (S : Int), D, bk2, pc2, ((at_ + l.length : Nat) : Int), false, 0) := by
  obtain ⟨hB, hS2, _⟩ := may_of hm
  obtain ⟨bk2, pc2, h1, h2, h3, K2, g2⟩ := add_l0 B (by omega) K M I (S : Int) D ((at_ + l.length : Nat) : Int) l.length l bk pc (Nat.le_refl _) hb hp hpl (by omega)
  obtain ⟨K1, g1⟩ := open_true K M I (B : Int) (S : Int) D bk pc (at_ : Int) hm
  refine ⟨bk2, pc2, h1, h2, h3, max K1 K2, fun k hk => ?_⟩
  have g1 := g1 k (by omega)
  have g2 := g2 k (by omega)
  simp only at g1 g2
  show shard_Writer_Add.f k K M I (B : Int) (S : Int) D bk pc (at_ : Int) false l = _
  have e1 : wrap64 ((S : Int) - (at_ : Int)) = ((S - at_ : Nat) : Int) := by rw [w64_lt (by omega) (by omega)]; omega
  have e2 : wrap64 ((at_ : Int) + (l.length : Int)) = ((at_ + l.length : Nat) : Int) := by clear e1; rw [← Int.natCast_add]; exact w64n _ (by omega)
  rw [shard_Writer_Add.f, g1, Option.bind_some, if_pos rfl, e1, if_neg (by clear e1 e2; omega), e2, g2]
/-- More data than goes in. -/
theorem add_long (B : Nat) (K M I D : Int) (S at_ : Nat) (hm : mayB K M I (B : Int) (S : Int) D = true) (l bk pc : List Int) (hS : at_ ≤ S) (hS2 : S < at_ + l.length) :
    Ev (fun k => shard_Writer_Add.f k K M I (B : Int) (S : Int) D bk pc (at_ : Int) false l) (K, M, I, (B : Int), (S : Int), D, bk, pc, (at_ : Int), false, 3) := by
  obtain ⟨_, hS3, _⟩ := may_of hm
  obtain ⟨K1, g1⟩ := open_true K M I (B : Int) (S : Int) D bk pc (at_ : Int) hm
  refine ⟨K1, fun k hk => ?_⟩
  have g1 := g1 k hk
  simp only at g1
  show shard_Writer_Add.f k K M I (B : Int) (S : Int) D bk pc (at_ : Int) false l = _
  have e1 : wrap64 ((S : Int) - (at_ : Int)) = ((S - at_ : Nat) : Int) := by rw [w64_lt (by omega) (by omega)]; omega
  rw [shard_Writer_Add.f, g1, Option.bind_some, if_pos rfl, e1, if_pos (by clear e1; omega)]
theorem end_short (B : Nat) (K M I D : Int) (S at_ : Nat) (hm : mayB K M I (B : Int) (S : Int) D = true) (bk pc : List Int) (hS : at_ < S) :
    Ev (fun k => shard_Writer_End.f k K M I (B : Int) (S : Int) D bk pc (at_ : Int) false) (K, M, I, (B : Int), (S : Int), D, bk, pc, (at_ : Int), false, [], 2) := by
  obtain ⟨K1, g1⟩ := open_true K M I (B : Int) (S : Int) D bk pc (at_ : Int) hm
  refine ⟨K1, fun k hk => ?_⟩
  have g1 := g1 k hk
  simp only at g1
  show shard_Writer_End.f k K M I (B : Int) (S : Int) D bk pc (at_ : Int) false = _
  rw [shard_Writer_End.f, g1, Option.bind_some, if_pos rfl, if_pos (by omega)]
theorem end_full (B : Nat) (K M I D : Int) (S at_ : Nat) (hm : mayB K M I (B : Int) (S : Int) D = true) (bk pc : List Int) (hp : Bytes pc) (hpl : pc.length < B) (hS : S ≤ at_) (hl : bk.length ≤ 1000000) :
    Ev (fun k => shard_Writer_End.f k K M I (B : Int) (S : Int) D bk pc (at_ : Int) false) (K, M, I, (B : Int), (S : Int), D, bk ++ blocksF B pc, [], (at_ : Int), true, bk ++ blocksF B pc, 0) := by
  obtain ⟨hB, _, _⟩ := may_of hm
  obtain ⟨K1, g1⟩ := open_true K M I (B : Int) (S : Int) D bk pc (at_ : Int) hm
  obtain ⟨K2, g2⟩ := flush_ev K M I (B : Int) (S : Int) D bk pc (at_ : Int) false hp (by omega)
  have e : (if pc = [] then bk else bk ++ sealB pc) = bk ++ blocksF B pc := by
    by_cases h0 : pc = []
    · subst h0; rw [if_pos rfl, blocksF_nil, List.append_nil]
    · rw [if_neg h0, blocksF_one B (by omega) pc h0 (by omega)]
  rw [e] at g2
  refine ⟨max K1 K2, fun k hk => ?_⟩
  have g1 := g1 k (by omega)
  have g2 := g2 k (by omega)
  simp only at g1 g2
  show shard_Writer_End.f k K M I (B : Int) (S : Int) D bk pc (at_ : Int) false = _
  rw [shard_Writer_End.f, g1, Option.bind_some, if_pos rfl, if_neg (by omega), g2, Option.bind_some]
/-- The law's walk over the cuts, of a head that may be. -/
theorem law_l0 (B : Nat) (K M I D : Int) (S : Nat) (hm : mayB K M I (B : Int) (S : Int) D = true) (data cuts hd x9 : List Int) (hb : Bytes data) (hcu : Bytes cuts) (hL : data.length ≤ 5000) (hC : cuts.length ≤ 50) (hh : hd.length = 24)
    (hx9 : data.length = S → x9 = hd ++ blocksF B data) (d : Nat) : ∀ (i at_ : Nat) (bk pc : List Int), i + d = cuts.length → at_ ≤ data.length → at_ ≤ S → Bytes pc → pc.length < B →
      (∀ more, hd ++ blocksF B (data.take at_ ++ more) = bk ++ blocksF B (pc ++ more)) →
      Ev (fun k => strongboxlaw5_ShardWrites.l0 k data cuts x9 (at_ : Int) (i : Int) K M I (B : Int) (S : Int) D K M I (B : Int) (S : Int) D bk pc (at_ : Int) false) true := by
  obtain ⟨hB, hS2, _⟩ := may_of hm
  have hbk : ∀ (at_ : Nat) (bk pc : List Int), (∀ more, hd ++ blocksF B (data.take at_ ++ more) = bk ++ blocksF B (pc ++ more)) → bk.length ≤ 1000000 := fun at_ bk pc h => by
    have h1 := congrArg List.length (h [])
    rw [List.append_nil, List.append_nil, List.length_append, List.length_append] at h1
    have h2 := blocksF_length_le B (by omega) (data.take at_)
    rw [List.length_take] at h2
    omega
  induction d with
  | zero =>
    intro i at_ bk pc hi ha hS hp hpl hinv
    have hbl := hbk at_ bk pc hinv
    have hdb : Bytes (data.drop at_) := hb.sub fun y hy => List.mem_of_mem_drop hy
    have hdl : (data.drop at_).length = data.length - at_ := List.length_drop
    have c0 : ¬ (i : Int) < (cuts.length : Int) := by omega
    have c1 : (0 : Int) ≤ (at_ : Int) := by omega
    have c2 : (at_ : Int) ≤ (data.length : Int) := by omega
    by_cases hlong : S < data.length
    · obtain ⟨K1, g1⟩ := add_long B K M I D S at_ hm (data.drop at_) bk pc hS (by omega)
      obtain ⟨t, K2, g2⟩ : ∃ t, Ev (fun k => shard_Writer_End.f k K M I (B : Int) (S : Int) D bk pc (at_ : Int) false) t := by
        by_cases hs : at_ < S
        · exact ⟨_, end_short B K M I D S at_ hm bk pc hs⟩
        · exact ⟨_, end_full B K M I D S at_ hm bk pc hp hpl (by omega) hbl⟩
      refine ⟨max K1 K2 + 1, fun k hk => ?_⟩
      obtain ⟨k, rfl⟩ : ∃ j, k = j + 1 := ⟨k - 1, by omega⟩
      have g1 := g1 k (by omega)
      have g2 := g2 k (by omega)
      simp only at g1 g2
      show strongboxlaw5_ShardWrites.l0 (k + 1) data cuts x9 (at_ : Int) (i : Int) K M I (B : Int) (S : Int) D K M I (B : Int) (S : Int) D bk pc (at_ : Int) false = some true
      rw [strongboxlaw5_ShardWrites.l0, if_neg c0, if_pos c1, if_pos c2, Int.toNat_natCast, g1, Option.bind_some, g2, Option.bind_some, rmay_some, Option.bind_some, hm, if_pos rfl, if_pos (by omega)]
      rfl
    · obtain ⟨bk2, pc2, hp2, hpl2, he2, K1, g1⟩ := add_ok B K M I D S at_ hm (data.drop at_) bk pc hdb hp hpl (by omega) hbl
      have hat : at_ + (data.drop at_).length = data.length := by omega
      rw [hat] at g1
      have hinv2 : ∀ more, hd ++ blocksF B (data ++ more) = bk2 ++ blocksF B (pc2 ++ more) := fun more => by
        have h1 := hinv (data.drop at_ ++ more)
        rw [← List.append_assoc, List.take_append_drop] at h1
        rw [h1, ← he2 more, List.append_assoc]
      have hbl2 : bk2.length ≤ 1000000 := hbk data.length bk2 pc2 (fun more => by rw [List.take_length]; exact hinv2 more)
      by_cases hs : data.length < S
      · obtain ⟨K2, g2⟩ := end_short B K M I D S data.length hm bk2 pc2 hs
        refine ⟨max K1 K2 + 1, fun k hk => ?_⟩
        obtain ⟨k, rfl⟩ : ∃ j, k = j + 1 := ⟨k - 1, by omega⟩
        have g1 := g1 k (by omega)
        have g2 := g2 k (by omega)
        simp only at g1 g2
        show strongboxlaw5_ShardWrites.l0 (k + 1) data cuts x9 (at_ : Int) (i : Int) K M I (B : Int) (S : Int) D K M I (B : Int) (S : Int) D bk pc (at_ : Int) false = some true
        rw [strongboxlaw5_ShardWrites.l0, if_neg c0, if_pos c1, if_pos c2, Int.toNat_natCast, g1, Option.bind_some, g2, Option.bind_some, rmay_some, Option.bind_some, hm, if_pos rfl, if_neg (by omega), if_pos (by omega), if_pos rfl]
        rfl
      · obtain ⟨K2, g2⟩ := end_full B K M I D S data.length hm bk2 pc2 hp2 hpl2 (by omega) hbl2
        have ee : bk2 ++ blocksF B pc2 = x9 := by
          have h1 := hinv2 []
          rw [List.append_nil, List.append_nil] at h1
          rw [hx9 (by omega), h1]
        rw [ee] at g2
        refine ⟨max K1 K2 + 1, fun k hk => ?_⟩
        obtain ⟨k, rfl⟩ : ∃ j, k = j + 1 := ⟨k - 1, by omega⟩
        have g1 := g1 k (by omega)
        have g2 := g2 k (by omega)
        simp only at g1 g2
        show strongboxlaw5_ShardWrites.l0 (k + 1) data cuts x9 (at_ : Int) (i : Int) K M I (B : Int) (S : Int) D K M I (B : Int) (S : Int) D bk pc (at_ : Int) false = some true
        rw [strongboxlaw5_ShardWrites.l0, if_neg c0, if_pos c1, if_pos c2, Int.toNat_natCast, g1, Option.bind_some, g2, Option.bind_some, rmay_some, Option.bind_some, hm, if_pos rfl, if_neg (by omega), if_neg (by omega), if_pos rfl, if_pos rfl, if_pos rfl]
        rfl
  | succ d ih =>
    intro i at_ bk pc hi ha hS hp hpl hinv
    have hbl := hbk at_ bk pc hinv
    obtain ⟨c, hc, hc2⟩ := rd_byte hcu i (by omega)
    obtain ⟨n, hn⟩ : ∃ n, n = min c (data.length - at_) := ⟨_, rfl⟩
    obtain ⟨x, hx⟩ : ∃ x, x = (data.take (at_ + n)).drop at_ := ⟨_, rfl⟩
    have hxl : x.length = n := by rw [hx, List.length_drop, List.length_take]; omega
    have hxb : Bytes x := by rw [hx]; exact hb.sub fun y hy => List.mem_of_mem_take (List.mem_of_mem_drop hy)
    have hxt : data.take at_ ++ x = data.take (at_ + n) := by
      rw [hx, List.drop_take, Nat.add_sub_cancel_left, List.take_add]
    have q0 : (i : Int) < (cuts.length : Int) := by omega
    have q1 : (0 : Int) ≤ (i : Int) := by omega
    have q2 : (0 : Int) ≤ (at_ : Int) := by omega
    have q3 : (at_ : Int) ≤ ((at_ + n : Nat) : Int) := by omega
    have q4 : ((at_ + n : Nat) : Int) ≤ (data.length : Int) := by omega
    have e1 : wrap64 ((data.length : Int) - (at_ : Int)) = ((data.length - at_ : Nat) : Int) := by rw [w64_lt (by omega) (by omega)]; omega
    have e2 : wrap64 (rd cuts (i : Int)) = (c : Int) := by clear e1; rw [hc]; exact w64n _ (by omega)
    have e3 : mn (c : Int) ((data.length - at_ : Nat) : Int) = (n : Int) := by clear e1 e2; unfold mn; split <;> omega
    have e4 : wrap64 ((at_ : Int) + (n : Int)) = ((at_ + n : Nat) : Int) := by clear e1 e2; rw [← Int.natCast_add]; exact w64n _ (by omega)
    have e5 : wrap64 ((i : Int) + 1) = ((i + 1 : Nat) : Int) := by clear e1 e2 e4; exact w64n (i + 1) (by omega)
    have z1 : at_ + n ≤ data.length := by clear e1 e2 e3 e4 e5; omega
    have z2 : i + 1 + d = cuts.length := by clear e1 e2 e3 e4 e5; omega
    by_cases hlong : S < at_ + n
    · obtain ⟨K1, g1⟩ := add_long B K M I D S at_ hm x bk pc hS (by rw [hxl]; exact hlong)
      refine ⟨K1 + 1, fun k hk => ?_⟩
      obtain ⟨k, rfl⟩ : ∃ j, k = j + 1 := ⟨k - 1, by clear e1 e2 e3 e4 e5; omega⟩
      have g1 := g1 k (by clear e1 e2 e3 e4 e5; omega)
      simp only at g1
      have q5 : ((at_ + n : Nat) : Int) > (S : Int) := by clear e1 e2 e3 e4 e5; omega
      show strongboxlaw5_ShardWrites.l0 (k + 1) data cuts x9 (at_ : Int) (i : Int) K M I (B : Int) (S : Int) D K M I (B : Int) (S : Int) D bk pc (at_ : Int) false = some true
      rw [strongboxlaw5_ShardWrites.l0, if_pos q0, if_pos q1, if_pos q2, e1, e2, e3, e4, if_pos q3, if_pos q4, Int.toNat_natCast, Int.toNat_natCast, ← hx, g1, Option.bind_some, rmay_some, Option.bind_some, hm, if_pos rfl, if_pos q5]
      rfl
    · obtain ⟨bk2, pc2, hp2, hpl2, he2, K1, g1⟩ := add_ok B K M I D S at_ hm x bk pc hxb hp hpl (by rw [hxl]; exact Nat.le_of_not_lt hlong) hbl
      rw [hxl] at g1
      have hinv2 : ∀ more, hd ++ blocksF B (data.take (at_ + n) ++ more) = bk2 ++ blocksF B (pc2 ++ more) := fun more => by
        have h1 := hinv (x ++ more)
        rw [← List.append_assoc, hxt] at h1
        rw [h1, ← he2 more, List.append_assoc]
      obtain ⟨K2, g2⟩ := ih (i + 1) (at_ + n) bk2 pc2 z2 z1 (Nat.le_of_not_lt hlong) hp2 hpl2 hinv2
      refine ⟨max K1 K2 + 1, fun k hk => ?_⟩
      obtain ⟨k, rfl⟩ : ∃ j, k = j + 1 := ⟨k - 1, by clear e1 e2 e3 e4 e5; omega⟩
      have g1 := g1 k (by clear e1 e2 e3 e4 e5; omega)
      have g2 := g2 k (by clear e1 e2 e3 e4 e5; omega)
      simp only at g1 g2
      have q5 : ¬ ((at_ + n : Nat) : Int) > (S : Int) := by clear e1 e2 e3 e4 e5; omega
      show strongboxlaw5_ShardWrites.l0 (k + 1) data cuts x9 (at_ : Int) (i : Int) K M I (B : Int) (S : Int) D K M I (B : Int) (S : Int) D bk pc (at_ : Int) false = some true
      rw [strongboxlaw5_ShardWrites.l0, if_pos q0, if_pos q1, if_pos q2, e1, e2, e3, e4, if_pos q3, if_pos q4, Int.toNat_natCast, Int.toNat_natCast, ← hx, g1, Option.bind_some, rmay_some, Option.bind_some, hm, if_pos rfl, if_neg q5, if_pos rfl, e5]
      exact g2
/-- Of a head that may not be: the first Add is told so. -/
theorem law_closed (data cuts x9 : List Int) (K M I B S D : Int) (hm : mayB K M I B S D = false) (hcu : Bytes cuts) (hL : data.length ≤ 5000) :
    Ev (fun k => strongboxlaw5_ShardWrites.l0 k data cuts x9 0 0 K M I B S D 0 0 0 0 0 0 [] [] 0 true) true := by
  have ha : ∀ k l, shard_Writer_Add.f k 0 0 0 0 0 0 [] [] 0 true l = some (0, 0, 0, 0, 0, 0, [], [], 0, true, 1) := fun k l => by
    rw [shard_Writer_Add.f, open_ended, Option.bind_some, if_neg (by decide)]
  have hE : ∀ k, shard_Writer_End.f k 0 0 0 0 0 0 [] [] 0 true = some (0, 0, 0, 0, 0, 0, [], [], 0, true, [], 1) := fun k => by
    rw [shard_Writer_End.f, open_ended, Option.bind_some, if_neg (by decide)]
  refine ⟨1, fun k hk => ?_⟩
  obtain ⟨k, rfl⟩ : ∃ j, k = j + 1 := ⟨k - 1, by omega⟩
  show strongboxlaw5_ShardWrites.l0 (k + 1) data cuts x9 0 0 K M I B S D 0 0 0 0 0 0 [] [] 0 true = some true
  rw [strongboxlaw5_ShardWrites.l0]
  by_cases h0 : cuts = []
  · subst h0
    rw [if_neg (by simp), if_pos (by decide), if_pos (by omega), ha, Option.bind_some, hE, Option.bind_some, rmay_some, Option.bind_some, hm, if_neg (by decide), if_pos rfl]
    rfl
  · have hcl : 0 < cuts.length := List.length_pos_iff.2 h0
    obtain ⟨c, hc, hc2⟩ := rd_byte hcu 0 hcl
    obtain ⟨n, hn⟩ : ∃ n, n = min c data.length := ⟨_, rfl⟩
    have hc' : rd cuts 0 = (c : Int) := hc
    have e1 : wrap64 ((data.length : Int) - 0) = (data.length : Int) := by rw [Int.sub_zero]; exact w64n _ (by omega)
    have e2 : wrap64 (rd cuts 0) = (c : Int) := by clear e1; rw [hc']; exact w64n _ (by omega)
    have e3 : mn (c : Int) (data.length : Int) = (n : Int) := by clear e1 e2; unfold mn; split <;> omega
    have e4 : wrap64 (0 + (n : Int)) = (n : Int) := by clear e1 e2; rw [Int.zero_add]; exact w64n _ (by omega)
    have q0 : (0 : Int) < (cuts.length : Int) := by clear e1 e2 e3 e4; omega
    have q3 : (0 : Int) ≤ (n : Int) := by clear e1 e2 e3 e4; omega
    have q4 : (n : Int) ≤ (data.length : Int) := by clear e1 e2 e3 e4; omega
    rw [if_pos q0, if_pos (by decide), if_pos (by decide), e1, e2, e3, e4, if_pos q3, if_pos q4, ha, Option.bind_some, rmay_some, Option.bind_some, hm, if_neg (by decide)]
    rfl
theorem newWriter_yes (K M I B S D : Int) (hm : mayB K M I B S D = true) : Ev (fun k => shard_NewWriter.f k K M I B S D) (K, M, I, B, S, D, sealB (headB K M I B S D), [], 0, false) := by
  obtain ⟨K1, g1⟩ := may_ev K M I B S D
  obtain ⟨K2, g2⟩ := head_ev K M I B S D
  refine ⟨max K1 K2, fun k hk => ?_⟩
  have g1 := g1 k (by omega)
  have g2 := g2 k (by omega)
  simp only at g1 g2
  show shard_NewWriter.f k K M I B S D = _
  rw [shard_NewWriter.f, g1, Option.bind_some, hm, if_pos rfl, g2, Option.bind_some]
theorem newWriter_no (K M I B S D : Int) (hm : mayB K M I B S D = false) : Ev (fun k => shard_NewWriter.f k K M I B S D) (0, 0, 0, 0, 0, 0, [], [], 0, true) := by
  obtain ⟨K1, g1⟩ := may_ev K M I B S D
  refine ⟨K1, fun k hk => ?_⟩
  have g1 := g1 k hk
  simp only at g1
  show shard_NewWriter.f k K M I B S D = _
  rw [shard_NewWriter.f, g1, Option.bind_some, hm, if_neg (by decide)]

theorem ShardWrites (K M I B S D : Int) (l1 l2 : List Int) (hw1 : ∀ n ∈ l1, (Lit.int .u8 n).wf = true) (hw2 : ∀ n ∈ l2, (Lit.int .u8 n).wf = true) : ∃ k, strongboxlaw5_ShardWrites.f k K M I B S D l1 l2 = some true := by
  have hb := bytes_of hw1
  have hcu := bytes_of hw2
  refine Ev.rounds (g := fun k => strongboxlaw5_ShardWrites.f k K M I B S D l1 l2) ?_
  obtain ⟨K0, g0⟩ := awake5_ev
  by_cases hl : (l1.length : Int) > 5000
  · refine ⟨K0 + 1, fun k hk => ?_⟩
    obtain ⟨k, rfl⟩ : ∃ j, k = j + 1 := ⟨k - 1, by omega⟩
    have g0 := g0 (k + 1) (by omega)
    simp only at g0
    show strongboxlaw5_ShardWrites.f (k + 1) K M I B S D l1 l2 = some true
    rw [strongboxlaw5_ShardWrites.f, g0, Option.bind_some, if_pos rfl, if_pos hl, strongboxlaw5_ShardWrites.j0, if_pos rfl]
  by_cases hc : (l2.length : Int) > 50
  · refine ⟨K0 + 1, fun k hk => ?_⟩
    obtain ⟨k, rfl⟩ : ∃ j, k = j + 1 := ⟨k - 1, by omega⟩
    have g0 := g0 (k + 1) (by omega)
    simp only at g0
    show strongboxlaw5_ShardWrites.f (k + 1) K M I B S D l1 l2 = some true
    rw [strongboxlaw5_ShardWrites.f, g0, Option.bind_some, if_pos rfl, if_neg hl, decide_eq_true hc, strongboxlaw5_ShardWrites.j0, if_pos rfl]
  obtain ⟨x, e, K1, g1, K2, g2, hx⟩ : ∃ (x : List Int) (e : Int), ∃ K1, (∀ k, K1 ≤ k → shard_Write.f k K M I B S D l1 = some (x, e)) ∧ ∃ K2, (∀ k, K2 ≤ k → strongboxref4_Write.f k K M I B S D l1 = some (x, e)) ∧ (mayB K M I B S D = true → (l1.length : Int) = S → x = fileB K M I B S D l1) := by
    by_cases hy : mayB K M I B S D = true ∧ (l1.length : Int) = S
    · obtain ⟨hm, hS⟩ := hy
      obtain ⟨hB, _, _⟩ := may_of hm
      have hmev := may_ev K M I B S D
      rw [hm] at hmev
      obtain ⟨K1, g1⟩ := write_ev K M I B S D l1 hmev (by omega) hS (by omega) hb
      obtain ⟨K2, g2⟩ := rwrite_ev K M I B S D l1 hm hS hb
      exact ⟨_, _, K1, g1, K2, g2, fun _ _ => rfl⟩
    · have hn : mayB K M I B S D = false ∨ (l1.length : Int) ≠ S := by
        cases hm : mayB K M I B S D with
        | false => exact .inl rfl
        | true => exact .inr (fun h => hy ⟨hm, h⟩)
      obtain ⟨K1, g1⟩ := write_no K M I B S D l1 hn
      obtain ⟨K2, g2⟩ := rwrite_no K M I B S D l1 hn
      exact ⟨_, _, K1, g1, K2, g2, fun h1 h2 => absurd ⟨h1, h2⟩ hy⟩
  obtain ⟨K3, g3⟩ := may_ev K M I B S D
  obtain ⟨t, K4, g4, K5, g5⟩ : ∃ t : Int × Int × Int × Int × Int × Int × List Int × List Int × Int × Bool, ∃ K4, (∀ k, K4 ≤ k → shard_NewWriter.f k K M I B S D = some t) ∧
      Ev (fun k => strongboxlaw5_ShardWrites.l0 k l1 l2 x 0 0 K M I B S D t.1 t.2.1 t.2.2.1 t.2.2.2.1 t.2.2.2.2.1 t.2.2.2.2.2.1 t.2.2.2.2.2.2.1 t.2.2.2.2.2.2.2.1 t.2.2.2.2.2.2.2.2.1 t.2.2.2.2.2.2.2.2.2) true := by
    cases hm : mayB K M I B S D with
    | false =>
      obtain ⟨K4, g4⟩ := newWriter_no K M I B S D hm
      exact ⟨_, K4, g4, law_closed l1 l2 x K M I B S D hm hcu (by omega)⟩
    | true =>
      obtain ⟨K4, g4⟩ := newWriter_yes K M I B S D hm
      refine ⟨_, K4, g4, ?_⟩
      obtain ⟨hB, hS2, _⟩ := may_of hm
      obtain ⟨b, hb'⟩ : ∃ b : Nat, (b : Int) = B := ⟨B.toNat, by omega⟩
      obtain ⟨s, hs'⟩ : ∃ s : Nat, (s : Int) = S := ⟨S.toNat, by omega⟩
      subst hb'; subst hs'
      have h := law_l0 b K M I D s hm l1 l2 (sealB (headB K M I (b : Int) (s : Int) D)) x hb hcu (by omega) (by omega) (by rw [sealB_length, headB_length]) (fun hls => by
        rw [hx hm (by omega)]; unfold fileB blocksF; rw [Int.toNat_natCast]) l2.length 0 0 (sealB (headB K M I (b : Int) (s : Int) D)) [] (by omega) (by omega) (by omega) (fun x hx => by cases hx) (by simp; omega) (fun more => by rw [List.take_zero])
      exact h
  refine ⟨max (max (max K0 K1) (max K2 K3)) (max K4 K5) + 3, fun k hk => ?_⟩
  obtain ⟨k, rfl⟩ : ∃ j, k = j + 3 := ⟨k - 3, by omega⟩
  have g0 := g0 (k + 3) (by omega)
  have g1 := g1 (k + 2) (by omega)
  have g2 := g2 (k + 2) (by omega)
  have g3 := g3 (k + 2) (by omega)
  have g4 := g4 (k + 1) (by omega)
  have g5 := g5 (k + 1) (by omega)
  simp only at g0 g3 g5
  show strongboxlaw5_ShardWrites.f (k + 3) K M I B S D l1 l2 = some true
  rw [strongboxlaw5_ShardWrites.f, g0, Option.bind_some, if_pos rfl, if_neg hl, decide_eq_false hc]
  show strongboxlaw5_ShardWrites.j0 (k + 2 + 1) l1 l2 false K M I B S D = some true
  rw [strongboxlaw5_ShardWrites.j0, if_neg (by decide), strongboxlaw5_Head.f, Option.bind_some, g1, Option.bind_some, g2, Option.bind_some, if_pos rfl, if_pos rfl, Option.bind_some, g3, Option.bind_some, rmay_some, Option.bind_some, bne_self_eq_false]
  show strongboxlaw5_ShardWrites.j1 (k + 1 + 1) l1 l2 x false K M I B S D = some true
  rw [strongboxlaw5_ShardWrites.j1, if_neg (by decide), strongboxlaw5_Head.f, Option.bind_some, g4, Option.bind_some]
  exact g5

end Go.Proofs.Ytnlpipjdpmaggaa.Pure
