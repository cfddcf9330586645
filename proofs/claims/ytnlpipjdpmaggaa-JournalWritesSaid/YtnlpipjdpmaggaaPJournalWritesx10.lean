/- WRITTEN FOR THIS CLAIM by a program of the prover's own (the kit's printing program, with constructs added): for each Go function that the statement reaches a Lean function with the same answers, and the proof of that. Not trusted: Lean checks it. -/
import Derived.Test.YtnlpipjdpmaggaaMore3
import Derived.Lib.SlBytesConst
import Derived.Test.YtnlpipjdpmaggaaPJournalBurstsx0
import Derived.Test.YtnlpipjdpmaggaaPJournalWritesx8
import Derived.Test.YtnlpipjdpmaggaaPJournalWritesx9
import Derived.Test.YtnlpipjdpmaggaaMore2
namespace Go.Proofs.Ytnlpipjdpmaggaa.PJournalBursts
open Go.RowKit Go.Proofs.YtnlpipjdpmaggaaW.PrintWords Go.Proofs.YtnlpipjdpmaggaaW.PrintLast Go.Proofs.YtnlpipjdpmaggaaW.PrintMore
attribute [local go_sem] max2_int min2_int max_two min_two max_three min_three max_four min_four   -- for this text's walks alone
set_option linter.unusedVariables false
set_option linter.unusedSimpArgs false

/-! ### strongboxref4_little: how long its row is -/
theorem rlittle_l0 (k : Nat) : ∀ (a w i : Int) (b r : List Int), 0 ≤ i → i ≤ w → w < 1000 → strongboxref4_little.l0 k a w b i = some r → (r.length : Int) = b.length + (w - i) := by
 induction k with
 | zero => intro a w i b r _ _ _ h; cases h
 | succ k ih =>
  intro a w i b r h0 h1 h2 h
  rw [strongboxref4_little.l0] at h
  by_cases hw : i < w
  ·have ew : wrap64 (i + 1) = i + 1 := by unfold wrap64; omega
   rw [if_pos hw, ew] at h
   by_cases c1 : 0 ≤ (IntKind.u64.wrap (wrap64 (8 * i)))
   ·rw [if_pos c1] at h
    by_cases c2 : b.length < 140737488355328
    ·rw [if_pos c2] at h
     clear c1 ew
     have := ih a w (i + 1) _ r (by omega) (by omega) h2 h
     rw [List.length_append] at this
     simp only [List.length_singleton] at this
     omega
    ·rw [if_neg c2] at h; cases h
   ·rw [if_neg c1] at h; cases h
  ·rw [if_neg hw] at h
   obtain rfl := Option.some.inj h
   omega
theorem rlittle_length {k : Nat} {a : Int} {r : List Int} (h : strongboxref4_little.f k a 4 = some r) : r.length = 4 := by
 have := rlittle_l0 k a 4 0 [] r (by decide) (by decide) (by decide) h
 simp only [List.length_nil] at this
 omega
/-! ### strongboxref4_Encode: function 25 -/
def strongboxref4_Encode.l0 : Nat → List Int → Int → Int → ByteArray → List (S72) → Option (List Int × Int)
 | 0, _, _, _, _, _ => none
 | k + 1, x4, x5, x226000, x226001, x226002 => if x5 < (x226002.length : Int) then (if 0 ≤ x5 then (if (rd_T72 x226002 x5).f1 = true then ((strongboxref4_little.f k ((rd_T72 x226002 x5).f0) 4).bind fun t260 => (if x4.length + t260.length < 140737488355328 then ((some (x4 ++ t260 : List Int)).bind fun y263 => ((some (([1] : List Int) : List Int)).bind fun y266 => (if y263.length + y266.length < 140737488355328 then ((some (y263 ++ y266 : List Int)).bind fun y269 => ((strongboxref4_little.f k ((rd_T72 x226002 x5).f2) 4).bind fun t272 => (if y269.length + t272.length < 140737488355328 then ((some (y269 ++ t272 : List Int)).bind fun y275 => ((strongboxref4_Bytes.f k ((rd_T72 x226002 x5).f3)).bind fun t278 => (if y275.length + t278.length < 140737488355328 then (strongboxref4_Encode.l0 k (y275 ++ t278) (wrap64 (x5 + 1)) x226000 x226001 x226002) else (none)))) else (none)))) else (none)))) else (none))) else ((strongboxref4_little.f k ((rd_T72 x226002 x5).f0) 4).bind fun t284 => (if x4.length + t284.length < 140737488355328 then ((some (x4 ++ t284 : List Int)).bind fun y287 => ((some (([0] : List Int) : List Int)).bind fun y290 => (if y287.length + y290.length < 140737488355328 then ((some (y287 ++ y290 : List Int)).bind fun y293 => ((strongboxref4_little.f k ((rd_T72 x226002 x5).f2) 4).bind fun t296 => (if y293.length + t296.length < 140737488355328 then ((some (y293 ++ t296 : List Int)).bind fun y299 => ((strongboxref4_Bytes.f k ((rd_T72 x226002 x5).f3)).bind fun t302 => (if y299.length + t302.length < 140737488355328 then (strongboxref4_Encode.l0 k (y299 ++ t302) (wrap64 (x5 + 1)) x226000 x226001 x226002) else (none)))) else (none)))) else (none)))) else (none)))) else (none)) else ((strongboxref4_Sum.f k x4).bind fun t251 => ((strongboxref4_Bytes.f k t251).bind fun t252 => (if x4.length + t252.length < 140737488355328 then (some ((x4 ++ t252), 0)) else (none))))
def strongboxref4_Encode.f (k : Nat) (a0_0 : Int) (a0_1 : ByteArray) (l0_2 : List (S72)) : Option (List Int × Int) := (strongboxref4_May.f k a0_0 a0_1 l0_2).bind fun t226 => (if t226 = true then ((some (([83, 66, 74, 49] : List Int) : List Int)).bind fun y227 => ((strongboxref4_little.f k a0_0 4).bind fun t230 => (if y227.length + t230.length < 140737488355328 then ((some (y227 ++ t230 : List Int)).bind fun y233 => ((strongboxref4_little.f k (a0_1.size : Int) 2).bind fun t236 => (if y233.length + t236.length < 140737488355328 then ((some (y233 ++ t236 : List Int)).bind fun y239 => (if y239.length + a0_1.size < 140737488355328 then ((some (y239 ++ bytesOf a0_1 : List Int)).bind fun y242 => ((some (([((l0_2.length : Int)) % 256] : List Int) : List Int)).bind fun y245 => (if y242.length + y245.length < 140737488355328 then (strongboxref4_Encode.l0 k (y242 ++ y245) 0 a0_0 a0_1 l0_2) else (none)))) else (none))) else (none)))) else (none)))) else (some (([] : List Int), 1)))
theorem strongboxref4_Encode.mono_l : ∀ k, (∀ y0 y1 y2 y3 y4, LeO (strongboxref4_Encode.l0 k y0 y1 y2 y3 y4) (strongboxref4_Encode.l0 (k + 1) y0 y1 y2 y3 y4))
 | 0 => fun _ _ _ _ _ r h => by simp [strongboxref4_Encode.l0] at h
 | k + 1 => by
  have ih0 := strongboxref4_Encode.mono_l k
  ·intro y0 y1 y2 y3 y4
   unfold strongboxref4_Encode.l0
   repeat' first
   | (with_reducible exact ih0 _ _ _ _ _)
   | (with_reducible exact strongboxref4_Bytes.mono _ _)
   | (with_reducible exact strongboxref4_May.mono _ _ _ _)
   | (with_reducible exact strongboxref4_Sum.mono _ _)
   | (with_reducible exact strongboxref4_little.mono _ _ _)
   | (with_reducible exact LeO.refl _)
   | (with_reducible exact LeO.none _)
   | (with_reducible refine LeO.ite ?_ ?_)
   | (with_reducible refine LeO.bind ?_ (fun _ => ?_))
   | exact ih0 _ _ _ _ _
   | exact strongboxref4_Bytes.mono _ _
   | exact strongboxref4_May.mono _ _ _ _
   | exact strongboxref4_Sum.mono _ _
   | exact strongboxref4_little.mono _ _ _
   | exact LeO.none _
   | refine LeO.ite ?_ ?_
   | refine LeO.bind ?_ (fun _ => ?_)
theorem strongboxref4_Encode.mono : ∀ a0 a1 a2 k, LeO (strongboxref4_Encode.f k a0 a1 a2) (strongboxref4_Encode.f (k + 1) a0 a1 a2) := by
 intro a0 a1 a2 k
 have ih0 := strongboxref4_Encode.mono_l k
 unfold strongboxref4_Encode.f
 repeat' first
   | (with_reducible exact ih0 _ _ _ _ _)
   | (with_reducible exact strongboxref4_Bytes.mono _ _)
   | (with_reducible exact strongboxref4_May.mono _ _ _ _)
   | (with_reducible exact strongboxref4_Sum.mono _ _)
   | (with_reducible exact strongboxref4_little.mono _ _ _)
   | (with_reducible exact LeO.refl _)
   | (with_reducible exact LeO.none _)
   | (with_reducible refine LeO.ite ?_ ?_)
   | (with_reducible refine LeO.bind ?_ (fun _ => ?_))
   | exact ih0 _ _ _ _ _
   | exact strongboxref4_Bytes.mono _ _
   | exact strongboxref4_May.mono _ _ _ _
   | exact strongboxref4_Sum.mono _ _
   | exact strongboxref4_little.mono _ _ _
   | exact LeO.none _
   | refine LeO.ite ?_ ?_
   | refine LeO.bind ?_ (fun _ => ?_)
def strongboxref4_Encode.T4 : Bool × List (List Nat × List Nat) := (true, [([], []), ([], []), ([1], [1]), ([2], [2]), ([3], [3]), ([0, 4, 4], [0, 4]), ([], []), ([6], [6]), ([5, 7, 5], [5, 7]), ([8, 8, 0, 1, 2, 3, 4, 5, 6, 7, 8], [0, 8])])
def strongboxref4_Encode.B4 : List Nat := [0, 0, 2, 6, 14, 31, 0, 64, 255, 511]
theorem strongboxref4_Encode.tab4 : rtab .any (opsOf Try.f25 4) = strongboxref4_Encode.T4 := by kernel_rfl
theorem strongboxref4_Encode.bits4 : waitsOk strongboxref4_Encode.T4.2 strongboxref4_Encode.B4 = true := by kernel_rfl
def strongboxref4_Encode.T13 : Bool × List (List Nat × List Nat) := (true, [([], []), ([], []), ([1], [1]), ([2], [2]), ([0, 3, 3], [0, 3]), ([], []), ([5], [5]), ([4, 6, 4], [4, 6]), ([], []), ([8], [8]), ([9, 7], [9]), ([7, 10, 10], [7, 10]), ([], []), ([12], [12]), ([13, 11], [13]), ([11, 14, 14], [11, 14]), ([15, 15, 0, 1, 2, 3, 4, 5, 6, 7, 8, 9, 10, 11, 12, 13, 14, 15], [0, 15])])
def strongboxref4_Encode.B13 : List Nat := [0, 0, 2, 6, 15, 0, 32, 127, 0, 256, 1023, 2047, 0, 4096, 16383, 32767, 65535]
theorem strongboxref4_Encode.tab13 : rtab .any (opsOf Try.f25 13) = strongboxref4_Encode.T13 := by kernel_rfl
theorem strongboxref4_Encode.bits13 : waitsOk strongboxref4_Encode.T13.2 strongboxref4_Encode.B13 = true := by kernel_rfl
set_option maxHeartbeats 8000000 in
set_option maxRecDepth 100000 in
theorem strongboxref4_Encode.calls (k : Nat) (a0_0 : Int) (a0_1 : ByteArray) (A0_2 : Option Addr) (c0_2 : Nat) (l0_2 : List (S72)) (r1 : List Int) (r2 : Int) (w : World) (hr0_2 : Kd.C k72 w A0_2 l0_2.length l0_2) (hc0_2 : l0_2.length ≤ c0_2) (h : strongboxref4_Encode.f k a0_0 a0_1 l0_2 = some (r1, r2)) :
  Calls Try.prog 25 #[.agg #[.int .i64 a0_0, .string a0_1, .slice A0_2 l0_2.length c0_2]] w fun e w' => ∃ v0_ : Value, e = .returned (.tuple #[v0_, .int .i64 r2]) ∧ Kd.R (Kd.int .u8) 5 w' w.heap.size (fun _ => True) v0_ r1 ∧ Below w.heap.size w w' := by
 have hu45 := Try.underlying45
 have hu72 := Try.underlying72
 have HR0_2 := Aside0.mk hr0_2
 have HC0_2 := Aside0.mk hc0_2
 clear hr0_2 hc0_2
 have HB := Aside0.mk (Below.refl w.heap.size w)
 have H : ((strongboxref4_May.f k a0_0 a0_1 l0_2).bind fun t226 => (if t226 = true then ((some (([83, 66, 74, 49] : List Int) : List Int)).bind fun y227 => ((strongboxref4_little.f k a0_0 4).bind fun t230 => (if y227.length + t230.length < 140737488355328 then ((some (y227 ++ t230 : List Int)).bind fun y233 => ((strongboxref4_little.f k (a0_1.size : Int) 2).bind fun t236 => (if y233.length + t236.length < 140737488355328 then ((some (y233 ++ t236 : List Int)).bind fun y239 => (if y239.length + a0_1.size < 140737488355328 then ((some (y239 ++ bytesOf a0_1 : List Int)).bind fun y242 => ((some (([((l0_2.length : Int)) % 256] : List Int) : List Int)).bind fun y245 => (if y242.length + y245.length < 140737488355328 then (strongboxref4_Encode.l0 k (y242 ++ y245) 0 a0_0 a0_1 l0_2) else (none)))) else (none))) else (none)))) else (none)))) else (some (([] : List Int), 1)))) = some (r1, r2) := h
 clear h
 replace H := Option.bind_eq_some_iff.mp H
 obtain ⟨t226, A20, H⟩ := H
 replace H : (if t226 = true then ((some (([83, 66, 74, 49] : List Int) : List Int)).bind fun y227 => ((strongboxref4_little.f k a0_0 4).bind fun t230 => (if y227.length + t230.length < 140737488355328 then ((some (y227 ++ t230 : List Int)).bind fun y233 => ((strongboxref4_little.f k (a0_1.size : Int) 2).bind fun t236 => (if y233.length + t236.length < 140737488355328 then ((some (y233 ++ t236 : List Int)).bind fun y239 => (if y239.length + a0_1.size < 140737488355328 then ((some (y239 ++ bytesOf a0_1 : List Int)).bind fun y242 => ((some (([((l0_2.length : Int)) % 256] : List Int) : List Int)).bind fun y245 => (if y242.length + y245.length < 140737488355328 then (strongboxref4_Encode.l0 k (y242 ++ y245) 0 a0_0 a0_1 l0_2) else (none)))) else (none))) else (none)))) else (none)))) else (some (([] : List Int), 1))) = some (r1, r2) := H
 have A2 := Aside0.mk A20
 clear A20
 by_cases c3 : t226 = true
 ·subst c3
  have H1 : ((some (([83, 66, 74, 49] : List Int) : List Int)).bind fun y227 => ((strongboxref4_little.f k a0_0 4).bind fun t230 => (if y227.length + t230.length < 140737488355328 then ((some (y227 ++ t230 : List Int)).bind fun y233 => ((strongboxref4_little.f k (a0_1.size : Int) 2).bind fun t236 => (if y233.length + t236.length < 140737488355328 then ((some (y233 ++ t236 : List Int)).bind fun y239 => (if y239.length + a0_1.size < 140737488355328 then ((some (y239 ++ bytesOf a0_1 : List Int)).bind fun y242 => ((some (([((l0_2.length : Int)) % 256] : List Int) : List Int)).bind fun y245 => (if y242.length + y245.length < 140737488355328 then (strongboxref4_Encode.l0 k (y242 ++ y245) 0 a0_0 a0_1 l0_2) else (none)))) else (none))) else (none)))) else (none)))) = some (r1, r2) := by rw [if_pos rfl] at H; exact H
  clear H
  have H := H1
  clear H1
  obtain ⟨y227, hy227⟩ : ∃ y_ : List Int, y_ = (([83, 66, 74, 49] : List Int)) := ⟨_, rfl⟩
  replace H : ((strongboxref4_little.f k a0_0 4).bind fun t230 => (if y227.length + t230.length < 140737488355328 then ((some (y227 ++ t230 : List Int)).bind fun y233 => ((strongboxref4_little.f k (a0_1.size : Int) 2).bind fun t236 => (if y233.length + t236.length < 140737488355328 then ((some (y233 ++ t236 : List Int)).bind fun y239 => (if y239.length + a0_1.size < 140737488355328 then ((some (y239 ++ bytesOf a0_1 : List Int)).bind fun y242 => ((some (([((l0_2.length : Int)) % 256] : List Int) : List Int)).bind fun y245 => (if y242.length + y245.length < 140737488355328 then (strongboxref4_Encode.l0 k (y242 ++ y245) 0 a0_0 a0_1 l0_2) else (none)))) else (none))) else (none)))) else (none))) = some (r1, r2) := by first | (rw [hy227]; with_reducible exact H) | (have H2_ := (Option.bind_some _ _).symm.trans H; rw [hy227]; with_reducible exact H2_) | (have H2_ := (Option.bind_some _ _).symm.trans H; with_reducible exact H2_) | with_reducible exact H | (rw [hy227]; exact H) | exact H
  have Ny227 := Aside0.mk hy227
  clear hy227
  replace H := Option.bind_eq_some_iff.mp H
  obtain ⟨t230, A40, H⟩ := H
  replace H : (if y227.length + t230.length < 140737488355328 then ((some (y227 ++ t230 : List Int)).bind fun y233 => ((strongboxref4_little.f k (a0_1.size : Int) 2).bind fun t236 => (if y233.length + t236.length < 140737488355328 then ((some (y233 ++ t236 : List Int)).bind fun y239 => (if y239.length + a0_1.size < 140737488355328 then ((some (y239 ++ bytesOf a0_1 : List Int)).bind fun y242 => ((some (([((l0_2.length : Int)) % 256] : List Int) : List Int)).bind fun y245 => (if y242.length + y245.length < 140737488355328 then (strongboxref4_Encode.l0 k (y242 ++ y245) 0 a0_0 a0_1 l0_2) else (none)))) else (none))) else (none)))) else (none)) = some (r1, r2) := H
  have A4 := Aside0.mk A40
  clear A40
  by_cases c5 : y227.length + t230.length < 140737488355328
  ·rw [if_pos c5] at H
   have LMc5 := Aside0.mk c5
   clear c5
   obtain ⟨y233, hy233⟩ : ∃ y_ : List Int, y_ = (y227 ++ t230) := ⟨_, rfl⟩
   replace H : ((strongboxref4_little.f k (a0_1.size : Int) 2).bind fun t236 => (if y233.length + t236.length < 140737488355328 then ((some (y233 ++ t236 : List Int)).bind fun y239 => (if y239.length + a0_1.size < 140737488355328 then ((some (y239 ++ bytesOf a0_1 : List Int)).bind fun y242 => ((some (([((l0_2.length : Int)) % 256] : List Int) : List Int)).bind fun y245 => (if y242.length + y245.length < 140737488355328 then (strongboxref4_Encode.l0 k (y242 ++ y245) 0 a0_0 a0_1 l0_2) else (none)))) else (none))) else (none))) = some (r1, r2) := by first | (rw [hy233]; with_reducible exact H) | (have H2_ := (Option.bind_some _ _).symm.trans H; rw [hy233]; with_reducible exact H2_) | (have H2_ := (Option.bind_some _ _).symm.trans H; with_reducible exact H2_) | with_reducible exact H | (rw [hy233]; exact H) | exact H
   have Ny233 := Aside0.mk hy233
   clear hy233
   replace H := Option.bind_eq_some_iff.mp H
   obtain ⟨t236, A60, H⟩ := H
   replace H : (if y233.length + t236.length < 140737488355328 then ((some (y233 ++ t236 : List Int)).bind fun y239 => (if y239.length + a0_1.size < 140737488355328 then ((some (y239 ++ bytesOf a0_1 : List Int)).bind fun y242 => ((some (([((l0_2.length : Int)) % 256] : List Int) : List Int)).bind fun y245 => (if y242.length + y245.length < 140737488355328 then (strongboxref4_Encode.l0 k (y242 ++ y245) 0 a0_0 a0_1 l0_2) else (none)))) else (none))) else (none)) = some (r1, r2) := H
   have A6 := Aside0.mk A60
   clear A60
   by_cases c7 : y233.length + t236.length < 140737488355328
   ·rw [if_pos c7] at H
    have LMc7 := Aside0.mk c7
    clear c7
    obtain ⟨y239, hy239⟩ : ∃ y_ : List Int, y_ = (y233 ++ t236) := ⟨_, rfl⟩
    replace H : (if y239.length + a0_1.size < 140737488355328 then ((some (y239 ++ bytesOf a0_1 : List Int)).bind fun y242 => ((some (([((l0_2.length : Int)) % 256] : List Int) : List Int)).bind fun y245 => (if y242.length + y245.length < 140737488355328 then (strongboxref4_Encode.l0 k (y242 ++ y245) 0 a0_0 a0_1 l0_2) else (none)))) else (none)) = some (r1, r2) := by first | (rw [hy239]; with_reducible exact H) | (have H2_ := (Option.bind_some _ _).symm.trans H; rw [hy239]; with_reducible exact H2_) | (have H2_ := (Option.bind_some _ _).symm.trans H; with_reducible exact H2_) | with_reducible exact H | (rw [hy239]; exact H) | exact H
    have Ny239 := Aside0.mk hy239
    clear hy239
    by_cases c8 : y239.length + a0_1.size < 140737488355328
    ·rw [if_pos c8] at H
     have LMc8 := Aside0.mk c8
     clear c8
     obtain ⟨y242, hy242⟩ : ∃ y_ : List Int, y_ = (y239 ++ bytesOf a0_1) := ⟨_, rfl⟩
     replace H : ((some (([((l0_2.length : Int)) % 256] : List Int) : List Int)).bind fun y245 => (if y242.length + y245.length < 140737488355328 then (strongboxref4_Encode.l0 k (y242 ++ y245) 0 a0_0 a0_1 l0_2) else (none))) = some (r1, r2) := by first | (rw [hy242]; with_reducible exact H) | (have H2_ := (Option.bind_some _ _).symm.trans H; rw [hy242]; with_reducible exact H2_) | (have H2_ := (Option.bind_some _ _).symm.trans H; with_reducible exact H2_) | with_reducible exact H | (rw [hy242]; exact H) | exact H
     have Ny242 := Aside0.mk hy242
     clear hy242
     obtain ⟨y245, hy245⟩ : ∃ y_ : List Int, y_ = (([((l0_2.length : Int)) % 256] : List Int)) := ⟨_, rfl⟩
     replace H : (if y242.length + y245.length < 140737488355328 then (strongboxref4_Encode.l0 k (y242 ++ y245) 0 a0_0 a0_1 l0_2) else (none)) = some (r1, r2) := by first | (rw [hy245]; with_reducible exact H) | (have H2_ := (Option.bind_some _ _).symm.trans H; rw [hy245]; with_reducible exact H2_) | (have H2_ := (Option.bind_some _ _).symm.trans H; with_reducible exact H2_) | with_reducible exact H | (rw [hy245]; exact H) | exact H
     have Ny245 := Aside0.mk hy245
     clear hy245
     by_cases c9 : y242.length + y245.length < 140737488355328
     ·rw [if_pos c9] at H
      have LMc9 := Aside0.mk c9
      clear c9
      obtain ⟨y248, hy248⟩ : ∃ y_ : List Int, y_ = (y242 ++ y245) := ⟨_, rfl⟩
      replace H : (strongboxref4_Encode.l0 k y248 0 a0_0 a0_1 l0_2) = some (r1, r2) := by first | (rw [hy248]; with_reducible exact H) | (have H2_ := (Option.bind_some _ _).symm.trans H; rw [hy248]; with_reducible exact H2_) | (have H2_ := (Option.bind_some _ _).symm.trans H; with_reducible exact H2_) | with_reducible exact H | (rw [hy248]; exact H) | exact H
      have Ny248 := Aside0.mk hy248
      clear hy248
      have H' := Aside0.mk H
      clear H
      go_enter Try.func25, Try.ntmps25
      try go_wp2_with (first | ((with_reducible refine gate_dst (N := 1) rfl ?_); refine box_event ?hg (N := 1) ?hd (cs := #[.int .i64 a0_0, .string a0_1, .slice A0_2 l0_2.length c0_2]) (t := 45) ?hr ?_; (case hd => rfl); (case hg => rfl); (case hr => first | (go_simp; done) | (go_simp; rfl)); intro gb225 hg w10 hbox hb; have n0_ := Aside0.mk (below_step (by repeat (first | (with_reducible first | exact HB.out | apply below_alloc | apply pw_below_drewN | apply below_drew1) | exact HB.out)) hb); have n1_ := Aside0.mk (hbox); have n2_ := Aside0.mk ((by rw [hg]; exact (below_size (by repeat (first | (with_reducible first | exact HB.out | apply below_alloc | apply pw_below_drewN | apply below_drew1) | exact HB.out))) : w.heap.size ≤ gb225)); have n3_ := Aside0.mk ((by rw [hg]; exact (below_size (by repeat (first | (with_reducible first | exact HB.out | apply below_alloc | apply pw_below_drewN | apply below_drew1) | exact HB.out))) : w.heap.size ≤ gb225)); clear HB; have HB := n0_; have BK225 := n1_; have GW225 := n2_; have GE225 := n3_; clear n0_ n1_ n2_ n3_; clear hb hbox hg; have hcz11_0 : w10.cell? ⟨gb225, 0, none⟩ = some (.int .i64 a0_0) := (blk_cell BK225.out 0).trans rfl; have hcz11_1 : w10.cell? ⟨gb225, 1, none⟩ = some (.string a0_1) := (blk_cell BK225.out 1).trans rfl; have hcz11_2 : w10.cell? ⟨gb225, 2, none⟩ = some (.slice A0_2 l0_2.length c0_2) := (blk_cell BK225.out 2).trans rfl; have hfz11_0 := blk_frozen BK225.out 0; have hfz11_1 := blk_frozen BK225.out 1; have hfz11_2 := blk_frozen BK225.out 2) | ((with_reducible refine gate_callee (f := 27) rfl ?_); refine goesL_ (some 9) rfl rfl Try.func27 (by kernel_rfl) rfl #[.agg #[.int .i64 a0_0, .string a0_1, .slice A0_2 l0_2.length c0_2]] rfl (by (try simp only [List.map_toArray, List.map_cons, List.map_nil]); first | done | rfl | (simp only [List.length_drop, List.length_take]; rfl)) ?_; (with_reducible refine (strongboxref4_May.calls k a0_0 a0_1 _ _ l0_2 true _ ?side1 ?side2 A2.out).mono ?_); (case side1 => repeat (first | exact (Kd.C_below HR0_2.out HB.out) | (with_reducible refine Kd.C_alloc ?_ _) | (with_reducible refine Kd.C_drewN ?_ _) | (with_reducible refine Kd.C_drew ?_))); (case side2 => exact HC0_2.out); rintro e w12 ⟨rfl, hb⟩; refine ⟨_, rfl, ?_⟩; have n0_ := Aside0.mk (blk_below (g := gb225) (o := .cells #[.int .i64 a0_0, .string a0_1, .slice A0_2 l0_2.length c0_2] 45 (0, 0)) (by (with_reducible repeat (first | refine blk_drewN ?_ _ | refine blk_drew ?_ | refine blk_alloc ?_ _)); exact BK225.out) hb); have n1_ := Aside0.mk (below_step (by repeat (first | (with_reducible first | exact HB.out | apply below_alloc | apply pw_below_drewN | apply below_drew1 | refine below_set ?_ GE225.out) | exact HB.out)) hb); clear BK225; clear HB; have BK225 := n0_; have HB := n1_; clear n0_ n1_; (try clear hb); (try clear hb2); (try clear hk); (try clear hi); have kc_ : (convert 22 22 (.slice (some ⟨w12.heap.size, 0, none⟩) 4 4)).run Try.prog (w12.alloc (.cells #[.int .u8 83, .int .u8 66, .int .u8 74, .int .u8 49] 5)) = .ok (.slice (some ⟨w12.heap.size, 0, none⟩) 4 4) (w12.alloc (.cells #[.int .u8 83, .int .u8 66, .int .u8 74, .int .u8 49] 5 (4, 5))) := Lib.run_convert_bytes_const (P := Try.prog) w12 22 5 #[.int .u8 83, .int .u8 66, .int .u8 74, .int .u8 49] 4 4 Try.underlying22 Try.underlying5; have hcz15_0 : (w12.alloc (.cells #[.int .u8 83, .int .u8 66, .int .u8 74, .int .u8 49] 5 (4, 5))).cell? ⟨gb225, 0, none⟩ = some (.int .i64 a0_0) := (blk_cell (blk_alloc BK225.out _) 0).trans rfl; have hcz15_1 : (w12.alloc (.cells #[.int .u8 83, .int .u8 66, .int .u8 74, .int .u8 49] 5 (4, 5))).cell? ⟨gb225, 1, none⟩ = some (.string a0_1) := (blk_cell (blk_alloc BK225.out _) 1).trans rfl; have hcz15_2 : (w12.alloc (.cells #[.int .u8 83, .int .u8 66, .int .u8 74, .int .u8 49] 5 (4, 5))).cell? ⟨gb225, 2, none⟩ = some (.slice A0_2 l0_2.length c0_2) := (blk_cell (blk_alloc BK225.out _) 2).trans rfl; have hfz15_0 : (w12.alloc (.cells #[.int .u8 83, .int .u8 66, .int .u8 74, .int .u8 49] 5 (4, 5))).frozen? ⟨gb225, 0, none⟩ = false := blk_frozen (blk_alloc BK225.out _) 0; have hfz15_1 : (w12.alloc (.cells #[.int .u8 83, .int .u8 66, .int .u8 74, .int .u8 49] 5 (4, 5))).frozen? ⟨gb225, 1, none⟩ = false := blk_frozen (blk_alloc BK225.out _) 1; have hfz15_2 : (w12.alloc (.cells #[.int .u8 83, .int .u8 66, .int .u8 74, .int .u8 49] 5 (4, 5))).frozen? ⟨gb225, 2, none⟩ = false := blk_frozen (blk_alloc BK225.out _) 2) | ((with_reducible refine gate_callee (f := 51) rfl ?_); refine goesL_ (some 15) rfl rfl Try.func51 (by kernel_rfl) rfl #[.int .i64 a0_0, .int .i64 4] rfl (by (try simp only [List.map_toArray, List.map_cons, List.map_nil]); first | done | rfl | (simp only [List.length_drop, List.length_take]; rfl)) ?_; (with_reducible refine (strongboxref4_little.calls k a0_0 4 t230 _ A4.out).mono ?_); rintro e w16 ⟨v231, rfl, ho0, hb⟩; refine ⟨_, rfl, ?_⟩; have n0_ := Aside0.mk (Kd.C_below (Go.Proofs.Ytnlpipjdpmaggaa.More2.C_marked w12 [83, 66, 74, 49] 5 (4, 5) (by decide)) hb); have n1_ := Aside0.mk (Kd.R_mono (ok' := fun _ => True) (Kd.R_lower ho0 (below_size (below_alloc HB.out (.cells #[.int .u8 83, .int .u8 66, .int .u8 74, .int .u8 49] 5 (4, 5))))) (fun _ _ => trivial)); have n2_ := Aside0.mk (blk_below (blk_alloc BK225.out _) hb); have n3_ := Aside0.mk (below_step (below_alloc HB.out (.cells #[.int .u8 83, .int .u8 66, .int .u8 74, .int .u8 49] 5 (4, 5))) hb); clear BK225; clear HB; have HCm_ := n0_; have HO232 := n1_; have BK225 := n2_; have HB := n3_; clear n0_ n1_ n2_ n3_; (try clear hb); (try clear ho0); obtain ⟨Ao18, co18, eo_⟩ := Kd.R_slice HO232.out; subst eo_; have hlen_ := Aside0.mk (rlittle_length A4.out)) | ((with_reducible refine gate_builtin (b := .append) (xs := #[.tmp 12, .tmp 15]) rfl ?_); at_builtin; refine Go.Proofs.Ytnlpipjdpmaggaa.More2.append_markedO rfl (.tmp 12) (.tmp 15) 22 5 (.int .u8 0) 1 rfl Try.underlying22 info5 rfl ⟨w12.heap.size, 0, none⟩ 4 4 [83, 66, 74, 49] t230 Ao18 t230.length co18 rfl rfl HCm_.out (Kd.R_reads' HO232.out).2.2 (by rw [hlen_.out]; decide) (by rw [hlen_.out]; decide) (by rw [hlen_.out]; decide) (by rw [hlen_.out]; decide) ?_; intro v234 w17 ho hg; rw [← Ny227.out, ← Ny233.out] at ho; have hs_ := below_size HB.out; have n0_ := Aside0.mk (blk_grown BK225.out hg (by simp)); have n1_ := Aside0.mk (Kd.R_mono (ok' := fun k_ => True ∧ some k_ ≠ (v234 : Value).ownBlock) (Kd.R_after (ok := (fun _ => True)) (v := .slice none 0 0) (Kd.R_mono HO232.out (fun _ _ => ⟨trivial, by simp [Value.ownBlock]⟩)) hg ((Kd.R_base2 ho).imp (fun h_ => h_.trans rfl) (fun h_ => h_))) (fun _ h_ => h_)); have n2_ := Aside0.mk (HB.out.grown hg hs_ (fun k_ hk_ => by cases hk_)); have n3_ := Aside0.mk (Kd.R_reok (ok := (fun k_ => some k_ ≠ (.slice Ao18 t230.length co18 : Value).ownBlock)) rfl (Kd.R_lower ho hs_) (fun k_ hk_ e_ => absurd (Kd.R_lt HO232.out k_ e_.symm) (by have h_ := Kd.R_base ho k_ hk_; omega))); clear BK225; clear HO232; clear HB; clear HCm_; have BK225 := n0_; have HO232 := n1_; have HB := n2_; have HO235 := n3_; clear n0_ n1_ n2_ n3_; clear ho hg hs_ hlen_))
      have n0_ := Aside0.mk (Kd.R_drew HO232.out)
      have n1_ := Aside0.mk (Kd.R_drew HO235.out)
      have n2_ := Aside0.mk (blk_drew BK225.out)
      have n3_ := Aside0.mk (below_drew1 HB.out)
      clear HO232
      clear HO235
      clear BK225
      clear HB
      have HO232 := n0_
      have HO235 := n1_
      have BK225 := n2_
      have HB := n3_
      clear n0_ n1_ n2_ n3_
      refine start_ (n := 10) (S := fun w' => w'.cell? ⟨gb225, 0, none⟩ = some (.int .i64 a0_0) ∧ w'.cell? ⟨gb225, 1, none⟩ = some (.string a0_1) ∧ w'.cell? ⟨gb225, 2, none⟩ = some (.slice A0_2 l0_2.length c0_2)) (ds := []) #[false, false, false, false, false, false, false, false, false, false] (by kernel_rfl) rfl rfl ⟨(blk_cell BK225.out 0).trans rfl, (blk_cell BK225.out 1).trans rfl, (blk_cell BK225.out 2).trans rfl⟩ (fun hHeld => ?_); refine with_tabW strongboxref4_Encode.tab4 strongboxref4_Encode.bits4 (fun HT_ HW_ => ?_)
      generalize w17.drew = w19 at HO232 HO235 BK225 HB hHeld ⊢
      refine pure_ (i := 0) (N := some 17) (v := ?_) (a' := ?_) #[true, false, false, false, false, false, false, false, false, false] rfl rfl (any_of HT_.out (by kernel_rfl)) (fun _ _ _ h => h) (Or.inl ⟨by rfl, ?_⟩) ?_ ?_
      rotate_left
      ·intro w'
       go_simp
       with_reducible rfl
      rotate_left
      ·simp only [Act.put, List.setIfInBounds_toArray, List.set_cons_zero, List.set_cons_succ, i64_w, i32_w]
       rfl
      refine pure_ (i := 1) (N := some 18) (v := ?_) (a' := ?_) #[true, true, false, false, false, false, false, false, false, false] rfl rfl (any_of HT_.out (by kernel_rfl)) (fun _ _ _ h => h) (Or.inl ⟨by rfl, ?_⟩) ?_ ?_
      rotate_left
      ·intro w'
       go_simp
       with_reducible rfl
      rotate_left
      ·simp only [Act.put, List.setIfInBounds_toArray, List.set_cons_zero, List.set_cons_succ, i64_w, i32_w]
       rfl
      refine pure_ (i := 6) (N := some 23) (v := ?_) (a' := ?_) #[true, true, false, false, false, false, true, false, false, false] rfl rfl (any_of HT_.out (by kernel_rfl)) (fun _ _ _ h => h) (Or.inl ⟨by rfl, ?_⟩) ?_ ?_
      rotate_left
      ·intro w'
       go_simp
       with_reducible rfl
      rotate_left
      ·simp only [Act.put, List.setIfInBounds_toArray, List.set_cons_zero, List.set_cons_succ, i64_w, i32_w]
       rfl
      refine take_ (i := 2) (N := some 19) (v := ?_) (a' := ?_) #[true, true, true, false, false, false, true, false, false, false] rfl rfl (take_ofW HT_.out HW_.out (by kernel_rfl)) (fun _ _ _ h => h) (Or.inl ⟨by rfl, ?_⟩) hHeld ?_ ?_
      rotate_left
      ·rintro w' ⟨s0, s1, s2⟩
       go_simp
       with_reducible rfl
      rotate_left
      ·simp only [Act.put, List.setIfInBounds_toArray, List.set_cons_zero, List.set_cons_succ, i64_w, i32_w]
       rfl
      refine pure_ (i := 3) (N := some 20) (v := ?_) (a' := ?_) #[true, true, true, true, false, false, true, false, false, false] rfl rfl (any_of HT_.out (by kernel_rfl)) (fun _ _ _ h => h) (Or.inl ⟨by rfl, ?_⟩) ?_ ?_
      rotate_left
      ·intro w'
       go_simp
       with_reducible rfl
      rotate_left
      ·simp only [Act.put, List.setIfInBounds_toArray, List.set_cons_zero, List.set_cons_succ, i64_w, i32_w]
       rfl
      refine take_ (i := 7) (N := some 24) (v := ?_) (a' := ?_) #[true, true, true, true, false, false, true, true, false, false] rfl rfl (take_ofW HT_.out HW_.out (by kernel_rfl)) (fun _ _ _ h => h) (Or.inl ⟨by rfl, ?_⟩) hHeld ?_ ?_
      rotate_left
      ·rintro w' ⟨s0, s1, s2⟩
       go_simp
       with_reducible rfl
      rotate_left
      ·simp only [Act.put, List.setIfInBounds_toArray, List.set_cons_zero, List.set_cons_succ, i64_w, i32_w]
       rfl
      refine one_ (i := 4) (N := some 21) #[true, true, true, true, true, false, true, true, false, false] rfl rfl (one_of HT_.out (by kernel_rfl)) (by decide) (fun K hK => ?_)
      refine goes_ Try.func51 (by kernel_rfl) rfl #[.int .i64 (a0_1.size : Int), .int .i64 2] (by rfl) rfl rfl (by (try simp only [List.map_toArray, List.map_cons, List.map_nil]); first | done | rfl | (simp only [List.length_drop, List.length_take]; rfl)) ?_
      with_reducible refine (strongboxref4_little.calls k (a0_1.size : Int) 2 t236 _ A6.out).mono ?_
      rintro e w20 ⟨v237, rfl, ho0, hb⟩
      refine ⟨_, rfl, ?_⟩
      have n0_ := Aside0.mk (Kd.R_elder' (by (with_reducible repeat (first | apply Kd.R_alloc | apply Kd.R_drewN | apply Kd.R_drew)); exact HO232.out) (Kd.R_base ho0) hb)
      have n1_ := Aside0.mk (Kd.R_elder' (by (with_reducible repeat (first | apply Kd.R_alloc | apply Kd.R_drewN | apply Kd.R_drew)); exact HO235.out) (Kd.R_base ho0) hb)
      have n2_ := Aside0.mk (Kd.R_lower (Kd.R_new' (Kd.R_new' ho0 (Kd.R_lt (by (with_reducible repeat (first | apply Kd.R_alloc | apply Kd.R_drewN | apply Kd.R_drew)); exact HO232.out))) (Kd.R_lt (by (with_reducible repeat (first | apply Kd.R_alloc | apply Kd.R_drewN | apply Kd.R_drew)); exact HO235.out))) (below_size (by repeat (first | (with_reducible first | exact HB.out | apply below_alloc | apply pw_below_drewN | apply below_drew1 | refine below_set ?_ GE225.out) | exact HB.out))))
      have n3_ := Aside0.mk (blk_below (g := gb225) (o := .cells #[.int .i64 a0_0, .string a0_1, .slice A0_2 l0_2.length c0_2] 45 (0, 0)) (by (with_reducible repeat (first | refine blk_drewN ?_ _ | refine blk_drew ?_ | refine blk_alloc ?_ _)); exact BK225.out) hb)
      have n4_ := Aside0.mk (below_step (by repeat (first | (with_reducible first | exact HB.out | apply below_alloc | apply pw_below_drewN | apply below_drew1 | refine below_set ?_ GE225.out) | exact HB.out)) hb)
      clear HO232
      clear HO235
      clear BK225
      clear HB
      have HO232 := n0_
      have HO235 := n1_
      have HO238 := n2_
      have BK225 := n3_
      have HB := n4_
      clear n0_ n1_ n2_ n3_ n4_
      (try clear hb)
      (try clear hb2)
      (try clear hk)
      (try clear hi)
      (try clear ho0)
      obtain ⟨Ao22, co22, eo22⟩ := Kd.R_slice HO238.out
      (first | subst eo22 | (injection eo22 with f1_ f2_ f3_; have f4_ := f1_.symm; have f5_ := f3_.symm; clear f1_ f2_ f3_; subst f4_; subst f5_))
      refine hK.out _ _ ⟨(blk_cell BK225.out 0).trans rfl, (blk_cell BK225.out 1).trans rfl, (blk_cell BK225.out 2).trans rfl⟩ (fun hHeld => ?_)
      clear hK K
      refine norm_ (a' := ?_) ?_ ?_
      rotate_left
      ·show Act.put _ (some 21) _ = _
       simp only [Act.put, List.setIfInBounds_toArray, List.set_cons_zero, List.set_cons_succ, i64_w, i32_w]
       rfl
      refine one_ (i := 5) (N := some 22) #[true, true, true, true, true, true, true, true, false, false] rfl rfl (one_of HT_.out (by kernel_rfl)) (by decide) (fun K hK => ?_)
      refine Kd.R_append_rows_step (Kd.int .u8) (w0 := w) w.heap.size (by rfl) (.tmp 17) (.tmp 21) 22 5 (.int .u8 0) 1 rfl Try.underlying22 info5 rfl (by decide) (by omega) v234 y233 t236 _ _ _ (fun k_ => some k_ ≠ (.slice Ao18 t230.length co18 : Value).ownBlock ∧ some k_ ≠ (.slice Ao22 t236.length co22 : Value).ownBlock) (fun _ => False) rfl rfl ?aO ?aR (fun _ _ h => h) (fun _ h => h.elim) ?aF ?aB ?aS ?aL ?_
      (case aR => repeat (first | exact (Kd.R_reads' HO238.out).2.2 | (with_reducible refine Kd.C_alloc ?_ _) | (with_reducible refine Kd.C_drewN ?_ _) | (with_reducible refine Kd.C_drew ?_)))
      (case aB => exact (by repeat (first | (with_reducible first | exact HB.out | apply below_alloc | apply pw_below_drewN | apply below_drew1 | refine below_set ?_ GE225.out) | exact HB.out)))
      (case aF => exact (fun k_ hk => ⟨Kd.fresh' (Kd.R_lt (by (with_reducible repeat (first | apply Kd.R_alloc | apply Kd.R_drewN | apply Kd.R_drew)); exact HO232.out)) k_ hk, Kd.fresh' (Kd.R_lt (by (with_reducible repeat (first | apply Kd.R_alloc | apply Kd.R_drewN | apply Kd.R_drew)); exact HO238.out)) k_ hk⟩))
      (case aO => exact (by (with_reducible repeat (first | apply Kd.R_alloc | apply Kd.R_drewN | apply Kd.R_drew)); exact HO235.out))
      (case aS => exact (below_size (by repeat (first | (with_reducible first | exact HB.out | apply below_alloc | apply pw_below_drewN | apply below_drew1 | refine below_set ?_ GE225.out) | exact HB.out))))
      (case aL => have := LMc7.out; omega)
      intro v240 w21 ho hb hg hat
      rw [← Ny239.out] at ho
      have n0_ := Aside0.mk (blk_grown (g := gb225) (o := .cells #[.int .i64 a0_0, .string a0_1, .slice A0_2 l0_2.length c0_2] 45 (0, 0)) (by (with_reducible repeat (first | refine blk_drewN ?_ _ | refine blk_drew ?_ | refine blk_alloc ?_ _)); exact BK225.out) hg (Kd.R_ne HO235.out BK225.out (by decide)))
      have n1_ := Aside0.mk (Kd.R_after (ok := (fun k_ => some k_ ≠ (.slice Ao22 t236.length co22 : Value).ownBlock)) (by (with_reducible repeat (first | apply Kd.R_alloc | apply Kd.R_drewN | apply Kd.R_drew)); exact Kd.R_mono HO232.out (fun _ hk => ⟨hk.2, hk.1.2⟩)) hg hat)
      have n2_ := Aside0.mk (Kd.R_after (ok := (fun k_ => some k_ ≠ (.slice Ao18 t230.length co18 : Value).ownBlock)) (by (with_reducible repeat (first | apply Kd.R_alloc | apply Kd.R_drewN | apply Kd.R_drew)); exact Kd.R_mono HO238.out (fun _ hk => ⟨hk.1.2, hk.2⟩)) hg hat)
      have n3_ := Aside0.mk (hb)
      have n4_ := Aside0.mk (ho)
      clear BK225
      clear HO232
      clear HO238
      clear HB
      clear HO235
      have BK225 := n0_
      have HO232 := n1_
      have HO238 := n2_
      have HB := n3_
      have HO241 := n4_
      clear n0_ n1_ n2_ n3_ n4_
      clear ho hb hg hat
      refine hK.out _ _ ⟨(blk_cell BK225.out 0).trans rfl, (blk_cell BK225.out 1).trans rfl, (blk_cell BK225.out 2).trans rfl⟩ (fun hHeld => ?_)
      clear hK K
      refine norm_ (a' := ?_) ?_ ?_
      rotate_left
      ·show Act.put _ (some 22) _ = _
       simp only [Act.put, List.setIfInBounds_toArray, List.set_cons_zero, List.set_cons_succ, i64_w, i32_w]
       rfl
      refine one_ (i := 8) (N := some 25) #[true, true, true, true, true, true, true, true, true, false] rfl rfl (one_of HT_.out (by kernel_rfl)) (by decide) (fun K hK => ?_)
      refine append_str_step (w0 := w) w.heap.size (by rfl) (.tmp 22) _ 22 9 5 rfl Try.underlying22 Try.underlying9 info5 v240 y239 a0_1 rfl rfl ?aO ?aB ?aS ?aL ?_
      (case aB => exact (by repeat (first | (with_reducible first | exact HB.out | apply below_alloc | apply pw_below_drewN | apply below_drew1 | refine below_set ?_ GE225.out) | exact HB.out)))
      (case aO => exact (Kd.own_of_R (by (with_reducible repeat (first | apply Kd.R_alloc | apply Kd.R_drewN | apply Kd.R_drew)); exact Kd.R_mono HO241.out (fun _ hk => trivial))))
      (case aS => exact (below_size (by repeat (first | (with_reducible first | exact HB.out | apply below_alloc | apply pw_below_drewN | apply below_drew1 | refine below_set ?_ GE225.out) | exact HB.out))))
      (case aL => have := LMc8.out; omega)
      intro v243 w23 ho0 hb hg
      have ho := Kd.R_of_own (h1 := fun _ => rfl) (ok := fun _ => True) ho0 (fun _ _ => trivial)
      clear ho0
      have hat := True.intro
      rw [← Ny242.out] at ho
      change Kd.R (Kd.int .u8) 5 w23 w.heap.size (fun _ => True) v243 y242 at ho
      have n0_ := Aside0.mk (blk_grown (g := gb225) (o := .cells #[.int .i64 a0_0, .string a0_1, .slice A0_2 l0_2.length c0_2] 45 (0, 0)) (by (with_reducible repeat (first | refine blk_drewN ?_ _ | refine blk_drew ?_ | refine blk_alloc ?_ _)); exact BK225.out) hg (Kd.R_ne HO241.out BK225.out (by decide)))
      have n1_ := Aside0.mk (hb)
      have n2_ := Aside0.mk (ho)
      clear BK225
      clear HB
      clear HO241
      have BK225 := n0_
      have HB := n1_
      have HO244 := n2_
      clear n0_ n1_ n2_
      clear ho hb hg hat
      refine hK.out _ _ ⟨(blk_cell BK225.out 0).trans rfl, (blk_cell BK225.out 1).trans rfl, (blk_cell BK225.out 2).trans rfl⟩ (fun hHeld => ?_)
      clear hK K
      refine norm_ (a' := ?_) ?_ ?_
      rotate_left
      ·show Act.put _ (some 25) _ = _
       simp only [Act.put, List.setIfInBounds_toArray, List.set_cons_zero, List.set_cons_succ, i64_w, i32_w]
       rfl
      refine pure_ (i := 9) (N := some 4) (v := ?_) (a' := ?_) #[true, true, true, true, true, true, true, true, true, true] rfl rfl (any_of HT_.out (by kernel_rfl)) (fun _ _ _ h => h) (Or.inl ⟨by rfl, ?_⟩) ?_ ?_
      rotate_left
      ·intro w'
       go_simp
       with_reducible rfl
      rotate_left
      ·simp only [Act.put, List.setIfInBounds_toArray, List.set_cons_zero, List.set_cons_succ, i64_w, i32_w]
       rfl
      refine done_ (done_of HT_.out (by kernel_rfl)) ?_
      have hcz24_0 : w23.cell? ⟨gb225, 0, none⟩ = some (.int .i64 a0_0) := (blk_cell BK225.out 0).trans rfl
      have hcz24_1 : w23.cell? ⟨gb225, 1, none⟩ = some (.string a0_1) := (blk_cell BK225.out 1).trans rfl
      have hcz24_2 : w23.cell? ⟨gb225, 2, none⟩ = some (.slice A0_2 l0_2.length c0_2) := (blk_cell BK225.out 2).trans rfl
      have hfz24_0 := blk_frozen BK225.out 0
      have hfz24_1 := blk_frozen BK225.out 1
      have hfz24_2 := blk_frozen BK225.out 2
      try go_wp2_with (first | ((with_reducible refine gate_dst (N := 31) rfl ?_); refine Kd.R_lit (Kd.int .u8) _ 5 ?hg (N := 31) ?hd (xs := ([((l0_2.length : Int)) % 256] : List Int)) (inner := [.int .u8 (((l0_2.length : Int)) % 256)]) (ok := fun _ => True) (okp := fun _ => True) ?hr ?hp (fun _ hk => hk) trivial (Below.refl _ _) (Nat.le_refl _) (by simp) ?_; (case hd => rfl); (case hg => rfl); (case hr => first | (go_simp; done) | (go_simp; rfl)); (case hp => exact (Reps.one (show Kd.M (Kd.int .u8) _ _ _ (((l0_2.length : Int)) % 256) [.int .u8 (((l0_2.length : Int)) % 256)] from rfl) (Reps.none _ _))); intro v246 w25 ho26 hb hg_ hnew_; clear hg_ hnew_; (first | rw [← Ny245.out] at ho26 | (simp only [Int.reduceToNat] at ho26; rw [← Ny245.out] at ho26)); have n0_ := Aside0.mk (Kd.R_elder' (by (with_reducible repeat (first | apply Kd.R_alloc | apply Kd.R_drewN | apply Kd.R_drew)); exact HO244.out) (Kd.R_base ho26) hb); have n1_ := Aside0.mk (Kd.R_lower (Kd.R_new' ho26 (Kd.R_lt (by (with_reducible repeat (first | apply Kd.R_alloc | apply Kd.R_drewN | apply Kd.R_drew)); exact HO244.out))) (below_size (by repeat (first | (with_reducible first | exact HB.out | apply below_alloc | apply pw_below_drewN | apply below_drew1 | refine below_set ?_ GE225.out) | exact HB.out)))); have n2_ := Aside0.mk (blk_below (g := gb225) (o := .cells #[.int .i64 a0_0, .string a0_1, .slice A0_2 l0_2.length c0_2] 45 (0, 0)) (by (with_reducible repeat (first | refine blk_drewN ?_ _ | refine blk_drew ?_ | refine blk_alloc ?_ _)); exact BK225.out) hb); have n3_ := Aside0.mk (below_step (by repeat (first | (with_reducible first | exact HB.out | apply below_alloc | apply pw_below_drewN | apply below_drew1 | refine below_set ?_ GE225.out) | exact HB.out)) hb); clear HO244; clear BK225; clear HB; have HO244 := n0_; have HO247 := n1_; have BK225 := n2_; have HB := n3_; clear n0_ n1_ n2_ n3_; clear hb ho26; obtain ⟨Ao28, co28, eo28⟩ := Kd.R_slice HO247.out; subst eo28) | ((with_reducible refine gate_builtin (b := .append) (xs := #[.tmp 26, .tmp 31]) rfl ?_); at_builtin; refine Kd.R_append_rows (Kd.int .u8) (w0 := w) w.heap.size rfl (.tmp 26) (.tmp 31) 22 5 (.int .u8 0) 1 rfl Try.underlying22 info5 rfl (by decide) (by omega) v243 y242 y245 _ _ _ (fun k_ => some k_ ≠ (.slice Ao28 y245.length co28 : Value).ownBlock) (fun _ => False) rfl rfl ?aO ?aR (fun _ _ h => h) (fun _ h => h.elim) ?aF ?aB ?aS ?aL ?_; (case aR => repeat (first | exact (Kd.R_reads' HO247.out).2.2 | (with_reducible refine Kd.C_alloc ?_ _) | (with_reducible refine Kd.C_drewN ?_ _) | (with_reducible refine Kd.C_drew ?_))); (case aB => exact (by repeat (first | (with_reducible first | exact HB.out | apply below_alloc | apply pw_below_drewN | apply below_drew1 | refine below_set ?_ GE225.out) | exact HB.out))); (case aF => exact (fun k_ hk => Kd.fresh' (Kd.R_lt (by (with_reducible repeat (first | apply Kd.R_alloc | apply Kd.R_drewN | apply Kd.R_drew)); exact HO247.out)) k_ hk)); (case aO => exact (by (with_reducible repeat (first | apply Kd.R_alloc | apply Kd.R_drewN | apply Kd.R_drew)); exact Kd.R_mono HO244.out (fun _ hk => hk.2))); (case aS => exact (below_size (by repeat (first | (with_reducible first | exact HB.out | apply below_alloc | apply pw_below_drewN | apply below_drew1 | refine below_set ?_ GE225.out) | exact HB.out)))); (case aL => have := LMc9.out; omega); intro v249 w27 ho hb hg hat; rw [← Ny248.out] at ho; have n0_ := Aside0.mk (blk_grown (g := gb225) (o := .cells #[.int .i64 a0_0, .string a0_1, .slice A0_2 l0_2.length c0_2] 45 (0, 0)) (by (with_reducible repeat (first | refine blk_drewN ?_ _ | refine blk_drew ?_ | refine blk_alloc ?_ _)); exact BK225.out) hg (Kd.R_ne HO244.out BK225.out (by decide))); have n1_ := Aside0.mk (Kd.R_after (ok := (fun _ => True)) (by (with_reducible repeat (first | apply Kd.R_alloc | apply Kd.R_drewN | apply Kd.R_drew)); exact HO247.out) hg hat); have n2_ := Aside0.mk (hb); have n3_ := Aside0.mk (ho); clear BK225; clear HO247; clear HB; clear HO244; have BK225 := n0_; have HO247 := n1_; have HB := n2_; have HO250 := n3_; clear n0_ n1_ n2_ n3_; clear ho hb hg hat))
      go_loopg [4, 5] k (fun kq v4 v5 w' => ∃ (x4_1 : List Int) (x5_1 : Int), v5 = .int .i64 x5_1 ∧ Aside0 (strongboxref4_Encode.l0 kq x4_1 x5_1 a0_0 a0_1 l0_2 = some (r1, r2)) ∧ Aside0 (kq ≤ k) ∧ Aside0 (Kd.R (Kd.int .u8) 5 w' w.heap.size (fun _ => True) v4 x4_1) ∧ Aside0 (w'.heap[gb225]? = some (.cells #[.int .i64 a0_0, .string a0_1, (.slice A0_2 l0_2.length c0_2)] 45 (0, 0))) ∧ Aside0 (Below w.heap.size w w'))
      case atStart => exact ⟨(y248), (0), (by first | rfl | (simp; done) | (simp [*]; done)), H', ⟨Nat.le_refl _⟩, ⟨by (with_reducible repeat (first | apply Kd.R_alloc | apply Kd.R_drewN | apply Kd.R_drew)); exact Kd.R_mono HO250.out (fun _ hk => trivial)⟩, ⟨by (with_reducible repeat (first | refine blk_drewN ?_ _ | refine blk_drew ?_ | refine blk_alloc ?_ _)); exact BK225.out⟩, ⟨by repeat (first | (with_reducible first | exact HB.out | apply below_alloc | apply pw_below_drewN | apply below_drew1 | refine below_set ?_ GE225.out) | exact HB.out)⟩⟩
      case round =>
       clear H'
       try clear c2
       try clear p2
       try clear c3
       try clear c5
       try clear c7
       try clear c8
       try clear c9
       try clear c25
       try clear c27
       try clear hcz11_0
       try clear hcz11_1
       try clear hcz11_2
       try clear hcz15_0
       try clear hcz15_1
       try clear hcz15_2
       try clear hcz24_0
       try clear hcz24_1
       try clear hcz24_2
       try clear hfz11_0
       try clear hfz11_1
       try clear hfz11_2
       try clear hfz15_0
       try clear hfz15_1
       try clear hfz15_2
       try clear hfz24_0
       try clear hfz24_1
       try clear hfz24_2
       obtain ⟨x4_1, x5_1, rfl, HA, HK1, HO_4, BK225, HB⟩ := hrel
       cases gk with
       | zero => exact absurd HA.out (by simp [strongboxref4_Encode.l0])
       | succ k1 =>
        have H := HA.out
        clear HA
        simp only [strongboxref4_Encode.l0] at H
        by_cases c29 : x5_1 < (l0_2.length : Int)
        ·rw [if_pos c29] at H
         have c29b0 : decide (x5_1 < (l0_2.length : Int)) = true := decide_eq_true c29
         clear c29
         by_cases c30 : 0 ≤ x5_1
         ·rw [if_pos c30] at H
          have c30b0 : decide (0 ≤ x5_1) = true := decide_eq_true c30
          clear c30
          obtain ⟨bq31, hbq31⟩ : ∃ b_ : Bool, b_ = ((rd_T72 l0_2 x5_1).f1) := ⟨_, rfl⟩
          replace H : (if bq31 = true then ((strongboxref4_little.f k1 ((rd_T72 l0_2 x5_1).f0) 4).bind fun t260 => (if x4_1.length + t260.length < 140737488355328 then ((some (x4_1 ++ t260 : List Int)).bind fun y263 => ((some (([1] : List Int) : List Int)).bind fun y266 => (if y263.length + y266.length < 140737488355328 then ((some (y263 ++ y266 : List Int)).bind fun y269 => ((strongboxref4_little.f k1 ((rd_T72 l0_2 x5_1).f2) 4).bind fun t272 => (if y269.length + t272.length < 140737488355328 then ((some (y269 ++ t272 : List Int)).bind fun y275 => ((strongboxref4_Bytes.f k1 ((rd_T72 l0_2 x5_1).f3)).bind fun t278 => (if y275.length + t278.length < 140737488355328 then (strongboxref4_Encode.l0 k1 (y275 ++ t278) (wrap64 (x5_1 + 1)) a0_0 a0_1 l0_2) else (none)))) else (none)))) else (none)))) else (none))) else ((strongboxref4_little.f k1 ((rd_T72 l0_2 x5_1).f0) 4).bind fun t284 => (if x4_1.length + t284.length < 140737488355328 then ((some (x4_1 ++ t284 : List Int)).bind fun y287 => ((some (([0] : List Int) : List Int)).bind fun y290 => (if y287.length + y290.length < 140737488355328 then ((some (y287 ++ y290 : List Int)).bind fun y293 => ((strongboxref4_little.f k1 ((rd_T72 l0_2 x5_1).f2) 4).bind fun t296 => (if y293.length + t296.length < 140737488355328 then ((some (y293 ++ t296 : List Int)).bind fun y299 => ((strongboxref4_Bytes.f k1 ((rd_T72 l0_2 x5_1).f3)).bind fun t302 => (if y299.length + t302.length < 140737488355328 then (strongboxref4_Encode.l0 k1 (y299 ++ t302) (wrap64 (x5_1 + 1)) a0_0 a0_1 l0_2) else (none)))) else (none)))) else (none)))) else (none)))) = some (r1, r2) := by rw [← hbq31] at H; exact H
          have Nbq31 := Aside0.mk hbq31
          clear hbq31
          by_cases c32 : bq31 = true
          ·subst c32
           have H1 : ((strongboxref4_little.f k1 ((rd_T72 l0_2 x5_1).f0) 4).bind fun t260 => (if x4_1.length + t260.length < 140737488355328 then ((some (x4_1 ++ t260 : List Int)).bind fun y263 => ((some (([1] : List Int) : List Int)).bind fun y266 => (if y263.length + y266.length < 140737488355328 then ((some (y263 ++ y266 : List Int)).bind fun y269 => ((strongboxref4_little.f k1 ((rd_T72 l0_2 x5_1).f2) 4).bind fun t272 => (if y269.length + t272.length < 140737488355328 then ((some (y269 ++ t272 : List Int)).bind fun y275 => ((strongboxref4_Bytes.f k1 ((rd_T72 l0_2 x5_1).f3)).bind fun t278 => (if y275.length + t278.length < 140737488355328 then (strongboxref4_Encode.l0 k1 (y275 ++ t278) (wrap64 (x5_1 + 1)) a0_0 a0_1 l0_2) else (none)))) else (none)))) else (none)))) else (none))) = some (r1, r2) := by rw [if_pos rfl] at H; exact H
           clear H
           have H := H1
           clear H1
           replace H := Option.bind_eq_some_iff.mp H
           obtain ⟨t260, A330, H⟩ := H
           replace H : (if x4_1.length + t260.length < 140737488355328 then ((some (x4_1 ++ t260 : List Int)).bind fun y263 => ((some (([1] : List Int) : List Int)).bind fun y266 => (if y263.length + y266.length < 140737488355328 then ((some (y263 ++ y266 : List Int)).bind fun y269 => ((strongboxref4_little.f k1 ((rd_T72 l0_2 x5_1).f2) 4).bind fun t272 => (if y269.length + t272.length < 140737488355328 then ((some (y269 ++ t272 : List Int)).bind fun y275 => ((strongboxref4_Bytes.f k1 ((rd_T72 l0_2 x5_1).f3)).bind fun t278 => (if y275.length + t278.length < 140737488355328 then (strongboxref4_Encode.l0 k1 (y275 ++ t278) (wrap64 (x5_1 + 1)) a0_0 a0_1 l0_2) else (none)))) else (none)))) else (none)))) else (none)) = some (r1, r2) := H
           have A33 := Aside0.mk A330
           clear A330
           by_cases c34 : x4_1.length + t260.length < 140737488355328
           ·rw [if_pos c34] at H
            have LMc34 := Aside0.mk c34
            clear c34
            obtain ⟨y263, hy263⟩ : ∃ y_ : List Int, y_ = (x4_1 ++ t260) := ⟨_, rfl⟩
            replace H : ((some (([1] : List Int) : List Int)).bind fun y266 => (if y263.length + y266.length < 140737488355328 then ((some (y263 ++ y266 : List Int)).bind fun y269 => ((strongboxref4_little.f k1 ((rd_T72 l0_2 x5_1).f2) 4).bind fun t272 => (if y269.length + t272.length < 140737488355328 then ((some (y269 ++ t272 : List Int)).bind fun y275 => ((strongboxref4_Bytes.f k1 ((rd_T72 l0_2 x5_1).f3)).bind fun t278 => (if y275.length + t278.length < 140737488355328 then (strongboxref4_Encode.l0 k1 (y275 ++ t278) (wrap64 (x5_1 + 1)) a0_0 a0_1 l0_2) else (none)))) else (none)))) else (none))) = some (r1, r2) := by first | (rw [hy263]; with_reducible exact H) | (have H2_ := (Option.bind_some _ _).symm.trans H; rw [hy263]; with_reducible exact H2_) | (have H2_ := (Option.bind_some _ _).symm.trans H; with_reducible exact H2_) | with_reducible exact H | (rw [hy263]; exact H) | exact H
            have Ny263 := Aside0.mk hy263
            clear hy263
            obtain ⟨y266, hy266⟩ : ∃ y_ : List Int, y_ = (([1] : List Int)) := ⟨_, rfl⟩
            replace H : (if y263.length + y266.length < 140737488355328 then ((some (y263 ++ y266 : List Int)).bind fun y269 => ((strongboxref4_little.f k1 ((rd_T72 l0_2 x5_1).f2) 4).bind fun t272 => (if y269.length + t272.length < 140737488355328 then ((some (y269 ++ t272 : List Int)).bind fun y275 => ((strongboxref4_Bytes.f k1 ((rd_T72 l0_2 x5_1).f3)).bind fun t278 => (if y275.length + t278.length < 140737488355328 then (strongboxref4_Encode.l0 k1 (y275 ++ t278) (wrap64 (x5_1 + 1)) a0_0 a0_1 l0_2) else (none)))) else (none)))) else (none)) = some (r1, r2) := by first | (rw [hy266]; with_reducible exact H) | (have H2_ := (Option.bind_some _ _).symm.trans H; rw [hy266]; with_reducible exact H2_) | (have H2_ := (Option.bind_some _ _).symm.trans H; with_reducible exact H2_) | with_reducible exact H | (rw [hy266]; exact H) | exact H
            have Ny266 := Aside0.mk hy266
            clear hy266
            by_cases c35 : y263.length + y266.length < 140737488355328
            ·rw [if_pos c35] at H
             have LMc35 := Aside0.mk c35
             clear c35
             obtain ⟨y269, hy269⟩ : ∃ y_ : List Int, y_ = (y263 ++ y266) := ⟨_, rfl⟩
             replace H : ((strongboxref4_little.f k1 ((rd_T72 l0_2 x5_1).f2) 4).bind fun t272 => (if y269.length + t272.length < 140737488355328 then ((some (y269 ++ t272 : List Int)).bind fun y275 => ((strongboxref4_Bytes.f k1 ((rd_T72 l0_2 x5_1).f3)).bind fun t278 => (if y275.length + t278.length < 140737488355328 then (strongboxref4_Encode.l0 k1 (y275 ++ t278) (wrap64 (x5_1 + 1)) a0_0 a0_1 l0_2) else (none)))) else (none))) = some (r1, r2) := by first | (rw [hy269]; with_reducible exact H) | (have H2_ := (Option.bind_some _ _).symm.trans H; rw [hy269]; with_reducible exact H2_) | (have H2_ := (Option.bind_some _ _).symm.trans H; with_reducible exact H2_) | with_reducible exact H | (rw [hy269]; exact H) | exact H
             have Ny269 := Aside0.mk hy269
             clear hy269
             replace H := Option.bind_eq_some_iff.mp H
             obtain ⟨t272, A360, H⟩ := H
             replace H : (if y269.length + t272.length < 140737488355328 then ((some (y269 ++ t272 : List Int)).bind fun y275 => ((strongboxref4_Bytes.f k1 ((rd_T72 l0_2 x5_1).f3)).bind fun t278 => (if y275.length + t278.length < 140737488355328 then (strongboxref4_Encode.l0 k1 (y275 ++ t278) (wrap64 (x5_1 + 1)) a0_0 a0_1 l0_2) else (none)))) else (none)) = some (r1, r2) := H
             have A36 := Aside0.mk A360
             clear A360
             by_cases c37 : y269.length + t272.length < 140737488355328
             ·rw [if_pos c37] at H
              have LMc37 := Aside0.mk c37
              clear c37
              obtain ⟨y275, hy275⟩ : ∃ y_ : List Int, y_ = (y269 ++ t272) := ⟨_, rfl⟩
              replace H : ((strongboxref4_Bytes.f k1 ((rd_T72 l0_2 x5_1).f3)).bind fun t278 => (if y275.length + t278.length < 140737488355328 then (strongboxref4_Encode.l0 k1 (y275 ++ t278) (wrap64 (x5_1 + 1)) a0_0 a0_1 l0_2) else (none))) = some (r1, r2) := by first | (rw [hy275]; with_reducible exact H) | (have H2_ := (Option.bind_some _ _).symm.trans H; rw [hy275]; with_reducible exact H2_) | (have H2_ := (Option.bind_some _ _).symm.trans H; with_reducible exact H2_) | with_reducible exact H | (rw [hy275]; exact H) | exact H
              have Ny275 := Aside0.mk hy275
              clear hy275
              replace H := Option.bind_eq_some_iff.mp H
              obtain ⟨t278, A380, H⟩ := H
              replace H : (if y275.length + t278.length < 140737488355328 then (strongboxref4_Encode.l0 k1 (y275 ++ t278) (wrap64 (x5_1 + 1)) a0_0 a0_1 l0_2) else (none)) = some (r1, r2) := H
              have A38 := Aside0.mk A380
              clear A380
              by_cases c39 : y275.length + t278.length < 140737488355328
              ·rw [if_pos c39] at H
               have LMc39 := Aside0.mk c39
               clear c39
               obtain ⟨y281, hy281⟩ : ∃ y_ : List Int, y_ = (y275 ++ t278) := ⟨_, rfl⟩
               replace H : (strongboxref4_Encode.l0 k1 y281 (wrap64 (x5_1 + 1)) a0_0 a0_1 l0_2) = some (r1, r2) := by first | (rw [hy281]; with_reducible exact H) | (have H2_ := (Option.bind_some _ _).symm.trans H; rw [hy281]; with_reducible exact H2_) | (have H2_ := (Option.bind_some _ _).symm.trans H; with_reducible exact H2_) | with_reducible exact H | (rw [hy281]; exact H) | exact H
               have Ny281 := Aside0.mk hy281
               clear hy281
               have H' := Aside0.mk H
               clear H
               have hcz40_0 : wr.cell? ⟨gb225, 0, none⟩ = some (.int .i64 a0_0) := (blk_cell BK225.out 0).trans rfl
               have hcz40_1 : wr.cell? ⟨gb225, 1, none⟩ = some (.string a0_1) := (blk_cell BK225.out 1).trans rfl
               have hcz40_2 : wr.cell? ⟨gb225, 2, none⟩ = some (.slice A0_2 l0_2.length c0_2) := (blk_cell BK225.out 2).trans rfl
               have hfz40_0 := blk_frozen BK225.out 0
               have hfz40_1 := blk_frozen BK225.out 1
               have hfz40_2 := blk_frozen BK225.out 2
               have p258 : 0 ≤ (x5_1 : Int) := of_decide_eq_true (by first | (with_reducible assumption) | assumption)
               have q258 : x5_1 < (l0_2.length : Int) := of_decide_eq_true (by first | (with_reducible assumption) | assumption)
               obtain ⟨ad258, e258, hx258_0, hx258_1, hx258_2, hx258_3⟩ := at_T72 HR0_2.out x5_1 p258 q258
               (try rw [← Nbq31.out] at hx258_1)
               cases e258
               replace hx258_0 := (HB.out.cell (World.block_lt_of_cell? w _ hx258_0)).trans hx258_0
               replace hx258_1 := (HB.out.cell (World.block_lt_of_cell? w _ hx258_1)).trans hx258_1
               replace hx258_2 := (HB.out.cell (World.block_lt_of_cell? w _ hx258_2)).trans hx258_2
               replace hx258_3 := (HB.out.cell (World.block_lt_of_cell? w _ hx258_3)).trans hx258_3
               replace p258 := eq_true p258
               replace q258 := eq_true q258
               try go_wp2_with (first | ((with_reducible refine gate_dst (N := 6) rfl ?_); refine box_event ?hg (N := 6) ?hd (cs := #[.int .i64 0, .bool false, .int .i64 0, .int .u32 0]) (t := 72) ?hr ?_; (case hd => rfl); (case hg => rfl); (case hr => first | (go_simp; done) | (go_simp; rfl)); intro gb259 hg w41 hbox hb; have n0_ := Aside0.mk (Kd.R_below (by (with_reducible repeat (first | apply Kd.R_alloc | apply Kd.R_drewN | apply Kd.R_drew)); exact HO_4.out) hb); have n1_ := Aside0.mk (blk_below (g := gb225) (o := .cells #[.int .i64 a0_0, .string a0_1, .slice (some ad258) l0_2.length c0_2] 45 (0, 0)) (by (with_reducible repeat (first | refine blk_drewN ?_ _ | refine blk_drew ?_ | refine blk_alloc ?_ _)); exact BK225.out) hb); have n2_ := Aside0.mk (below_step (by repeat (first | (with_reducible first | exact HB.out | apply below_alloc | apply pw_below_drewN | apply below_drew1 | refine below_set ?_ GE225.out) | exact HB.out)) hb); have n3_ := Aside0.mk (hbox); have n4_ := Aside0.mk ((by rw [hg]; exact (below_size (by repeat (first | (with_reducible first | exact HB.out | apply below_alloc | apply pw_below_drewN | apply below_drew1 | refine below_set ?_ GE225.out) | exact HB.out))) : w.heap.size ≤ gb259)); have n5_ := Aside0.mk ((by rw [hg]; exact (below_size (by repeat (first | (with_reducible first | exact HB.out | apply below_alloc | apply pw_below_drewN | apply below_drew1 | refine below_set ?_ GE225.out) | exact HB.out))) : w.heap.size ≤ gb259)); have n6_ := Aside0.mk ((by rw [hg]; exact Nat.ne_of_lt (blk_lt (g := gb225) (o := .cells #[.int .i64 a0_0, .string a0_1, .slice (some ad258) l0_2.length c0_2] 45 (0, 0)) (by (with_reducible repeat (first | refine blk_drewN ?_ _ | refine blk_drew ?_ | refine blk_alloc ?_ _)); exact BK225.out)) : gb225 ≠ gb259)); have n7_ := Aside0.mk ((by rw [hg]; exact Nat.ne_of_gt (blk_lt (g := gb225) (o := .cells #[.int .i64 a0_0, .string a0_1, .slice (some ad258) l0_2.length c0_2] 45 (0, 0)) (by (with_reducible repeat (first | refine blk_drewN ?_ _ | refine blk_drew ?_ | refine blk_alloc ?_ _)); exact BK225.out)) : gb259 ≠ gb225)); clear HO_4; clear BK225; clear HB; have HO_4 := n0_; have BK225 := n1_; have HB := n2_; have BK259 := n3_; have GW259 := n4_; have GE259 := n5_; have NB225_259 := n6_; have NB259_225 := n7_; clear n0_ n1_ n2_ n3_ n4_ n5_ n6_ n7_; clear hb hbox hg; have hnb42 := NB259_225.out; have hnc42 := NB225_259.out; have hcz43_0 : w41.cell? ⟨gb259, 0, none⟩ = some (.int .i64 0) := (blk_cell BK259.out 0).trans rfl; have hcz43_1 : w41.cell? ⟨gb259, 1, none⟩ = some (.bool false) := (blk_cell BK259.out 1).trans rfl; have hcz43_2 : w41.cell? ⟨gb259, 2, none⟩ = some (.int .i64 0) := (blk_cell BK259.out 2).trans rfl; have hcz43_3 : w41.cell? ⟨gb259, 3, none⟩ = some (.int .u32 0) := (blk_cell BK259.out 3).trans rfl; have hfz43_0 := blk_frozen BK259.out 0; have hfz43_1 := blk_frozen BK259.out 1; have hfz43_2 := blk_frozen BK259.out 2; have hfz43_3 := blk_frozen BK259.out 3; obtain ⟨Ao44, co44, eo44⟩ := Kd.R_slice HO_4.out; subst eo44))
               have n0_ : Aside0 (Kd.R (Kd.int .u8) 5 ((((w41.setCell ⟨gb259, 0, none⟩ (.int .i64 ((rd_T72 l0_2 x5_1).f0))).setCell ⟨gb259, 1, none⟩ (.bool true)).setCell ⟨gb259, 2, none⟩ (.int .i64 ((rd_T72 l0_2 x5_1).f2))).setCell ⟨gb259, 3, none⟩ (.int .u32 ((rd_T72 l0_2 x5_1).f3))) w.heap.size (fun _ => True) (.slice Ao44 x4_1.length co44) x4_1) := ⟨by (with_reducible repeat (first | apply Kd.R_alloc | apply Kd.R_drewN | apply Kd.R_drew)); exact Kd.R_mono (Kd.R_far (p := ⟨gb259, 3, none⟩) (Kd.R_far (p := ⟨gb259, 2, none⟩) (Kd.R_far (p := ⟨gb259, 1, none⟩) (Kd.R_far (p := ⟨gb259, 0, none⟩) (Kd.R_types HO_4.out BK259.out (by decide)) (fun _ hk => hk.2) (.int .i64 ((rd_T72 l0_2 x5_1).f0))) (fun _ hk => hk.2) (.bool true)) (fun _ hk => hk.2) (.int .i64 ((rd_T72 l0_2 x5_1).f2))) (fun _ hk => hk.2) (.int .u32 ((rd_T72 l0_2 x5_1).f3))) (fun _ hk => trivial)⟩
               have n1_ : Aside0 (((((w41.setCell ⟨gb259, 0, none⟩ (.int .i64 ((rd_T72 l0_2 x5_1).f0))).setCell ⟨gb259, 1, none⟩ (.bool true)).setCell ⟨gb259, 2, none⟩ (.int .i64 ((rd_T72 l0_2 x5_1).f2))).setCell ⟨gb259, 3, none⟩ (.int .u32 ((rd_T72 l0_2 x5_1).f3))).heap[gb225]? = some (.cells #[.int .i64 a0_0, .string a0_1, .slice (some ad258) l0_2.length c0_2] 45 (0, 0))) := ⟨by (with_reducible repeat (first | refine blk_drewN ?_ _ | refine blk_drew ?_ | refine blk_alloc ?_ _)); refine blk_far ?_ NB225_259.out _; (with_reducible repeat (first | refine blk_drewN ?_ _ | refine blk_drew ?_ | refine blk_alloc ?_ _)); refine blk_far ?_ NB225_259.out _; (with_reducible repeat (first | refine blk_drewN ?_ _ | refine blk_drew ?_ | refine blk_alloc ?_ _)); refine blk_far ?_ NB225_259.out _; (with_reducible repeat (first | refine blk_drewN ?_ _ | refine blk_drew ?_ | refine blk_alloc ?_ _)); refine blk_far ?_ NB225_259.out _; (with_reducible repeat (first | refine blk_drewN ?_ _ | refine blk_drew ?_ | refine blk_alloc ?_ _)); exact BK225.out⟩
               have n2_ : Aside0 (((((w41.setCell ⟨gb259, 0, none⟩ (.int .i64 ((rd_T72 l0_2 x5_1).f0))).setCell ⟨gb259, 1, none⟩ (.bool true)).setCell ⟨gb259, 2, none⟩ (.int .i64 ((rd_T72 l0_2 x5_1).f2))).setCell ⟨gb259, 3, none⟩ (.int .u32 ((rd_T72 l0_2 x5_1).f3))).heap[gb259]? = some (.cells #[.int .i64 ((rd_T72 l0_2 x5_1).f0), .bool true, .int .i64 ((rd_T72 l0_2 x5_1).f2), .int .u32 ((rd_T72 l0_2 x5_1).f3)] 72 (0, 0))) := ⟨by (with_reducible repeat (first | refine blk_drewN ?_ _ | refine blk_drew ?_ | refine blk_alloc ?_ _)); refine blk_put (cs := #[.int .i64 ((rd_T72 l0_2 x5_1).f0), .bool true, .int .i64 ((rd_T72 l0_2 x5_1).f2), .int .u32 0]) ?_ 3 _ rfl; (with_reducible repeat (first | refine blk_drewN ?_ _ | refine blk_drew ?_ | refine blk_alloc ?_ _)); refine blk_put (cs := #[.int .i64 ((rd_T72 l0_2 x5_1).f0), .bool true, .int .i64 0, .int .u32 0]) ?_ 2 _ rfl; (with_reducible repeat (first | refine blk_drewN ?_ _ | refine blk_drew ?_ | refine blk_alloc ?_ _)); refine blk_put (cs := #[.int .i64 ((rd_T72 l0_2 x5_1).f0), .bool false, .int .i64 0, .int .u32 0]) ?_ 1 _ rfl; (with_reducible repeat (first | refine blk_drewN ?_ _ | refine blk_drew ?_ | refine blk_alloc ?_ _)); refine blk_put (cs := #[.int .i64 0, .bool false, .int .i64 0, .int .u32 0]) ?_ 0 _ rfl; (with_reducible repeat (first | refine blk_drewN ?_ _ | refine blk_drew ?_ | refine blk_alloc ?_ _)); exact BK259.out⟩
               have n3_ : Aside0 (Below w.heap.size w ((((w41.setCell ⟨gb259, 0, none⟩ (.int .i64 ((rd_T72 l0_2 x5_1).f0))).setCell ⟨gb259, 1, none⟩ (.bool true)).setCell ⟨gb259, 2, none⟩ (.int .i64 ((rd_T72 l0_2 x5_1).f2))).setCell ⟨gb259, 3, none⟩ (.int .u32 ((rd_T72 l0_2 x5_1).f3)))) := ⟨by repeat (first | (with_reducible first | exact HB.out | apply below_alloc | apply pw_below_drewN | apply below_drew1 | refine below_set ?_ GE225.out | refine below_set ?_ GE259.out) | exact HB.out)⟩
               (try clear HO_4)
               (try clear BK225)
               (try clear BK259)
               (try clear HB)
               generalize ((((w41.setCell ⟨gb259, 0, none⟩ (.int .i64 ((rd_T72 l0_2 x5_1).f0))).setCell ⟨gb259, 1, none⟩ (.bool true)).setCell ⟨gb259, 2, none⟩ (.int .i64 ((rd_T72 l0_2 x5_1).f2))).setCell ⟨gb259, 3, none⟩ (.int .u32 ((rd_T72 l0_2 x5_1).f3))) = w45 at n0_ n1_ n2_ n3_ ⊢
               have HO_4 := n0_
               have BK225 := n1_
               have BK259 := n2_
               have HB := n3_
               clear n0_ n1_ n2_ n3_
               have n0_ := Aside0.mk (Kd.R_drew HO_4.out)
               have n1_ := Aside0.mk (blk_drew BK225.out)
               have n2_ := Aside0.mk (blk_drew BK259.out)
               have n3_ := Aside0.mk (below_drew1 HB.out)
               clear HO_4
               clear BK225
               clear BK259
               clear HB
               have HO_4 := n0_
               have BK225 := n1_
               have BK259 := n2_
               have HB := n3_
               clear n0_ n1_ n2_ n3_
               refine start_ (n := 17) (S := fun w' => w'.cell? ⟨gb259, 0, none⟩ = some (.int .i64 ((rd_T72 l0_2 x5_1).f0)) ∧ w'.cell? ⟨gb259, 1, none⟩ = some (.bool true) ∧ w'.cell? ⟨gb259, 2, none⟩ = some (.int .i64 ((rd_T72 l0_2 x5_1).f2)) ∧ w'.cell? ⟨gb259, 3, none⟩ = some (.int .u32 ((rd_T72 l0_2 x5_1).f3))) (ds := []) #[false, false, false, false, false, false, false, false, false, false, false, false, false, false, false, false, false] (by kernel_rfl) rfl rfl ⟨(blk_cell BK259.out 0).trans rfl, (blk_cell BK259.out 1).trans rfl, (blk_cell BK259.out 2).trans rfl, (blk_cell BK259.out 3).trans rfl⟩ (fun hHeld => ?_); refine with_tabW strongboxref4_Encode.tab13 strongboxref4_Encode.bits13 (fun HT_ HW_ => ?_)
               generalize w45.drew = w46 at HO_4 BK225 BK259 HB hHeld ⊢
               refine pure_ (i := 0) (N := some 47) (v := ?_) (a' := ?_) #[true, false, false, false, false, false, false, false, false, false, false, false, false, false, false, false, false] rfl rfl (any_of HT_.out (by kernel_rfl)) (fun _ _ _ h => h) (Or.inl ⟨by rfl, ?_⟩) ?_ ?_
               rotate_left
               ·intro w'
                go_simp
                with_reducible rfl
               rotate_left
               ·simp only [Act.put, List.setIfInBounds_toArray, List.set_cons_zero, List.set_cons_succ, i64_w, i32_w]
                rfl
               refine pure_ (i := 1) (N := some 48) (v := ?_) (a' := ?_) #[true, true, false, false, false, false, false, false, false, false, false, false, false, false, false, false, false] rfl rfl (any_of HT_.out (by kernel_rfl)) (fun _ _ _ h => h) (Or.inl ⟨by rfl, ?_⟩) ?_ ?_
               rotate_left
               ·intro w'
                go_simp
                with_reducible rfl
               rotate_left
               ·simp only [Act.put, List.setIfInBounds_toArray, List.set_cons_zero, List.set_cons_succ, i64_w, i32_w]
                rfl
               refine pure_ (i := 5) (N := some 52) (v := ?_) (a' := ?_) #[true, true, false, false, false, true, false, false, false, false, false, false, false, false, false, false, false] rfl rfl (any_of HT_.out (by kernel_rfl)) (fun _ _ _ h => h) (Or.inl ⟨by rfl, ?_⟩) ?_ ?_
               rotate_left
               ·intro w'
                go_simp
                with_reducible rfl
               rotate_left
               ·simp only [Act.put, List.setIfInBounds_toArray, List.set_cons_zero, List.set_cons_succ, i64_w, i32_w]
                rfl
               refine pure_ (i := 8) (N := some 55) (v := ?_) (a' := ?_) #[true, true, false, false, false, true, false, false, true, false, false, false, false, false, false, false, false] rfl rfl (any_of HT_.out (by kernel_rfl)) (fun _ _ _ h => h) (Or.inl ⟨by rfl, ?_⟩) ?_ ?_
               rotate_left
               ·intro w'
                go_simp
                with_reducible rfl
               rotate_left
               ·simp only [Act.put, List.setIfInBounds_toArray, List.set_cons_zero, List.set_cons_succ, i64_w, i32_w]
                rfl
               refine pure_ (i := 12) (N := some 59) (v := ?_) (a' := ?_) #[true, true, false, false, false, true, false, false, true, false, false, false, true, false, false, false, false] rfl rfl (any_of HT_.out (by kernel_rfl)) (fun _ _ _ h => h) (Or.inl ⟨by rfl, ?_⟩) ?_ ?_
               rotate_left
               ·intro w'
                go_simp
                with_reducible rfl
               rotate_left
               ·simp only [Act.put, List.setIfInBounds_toArray, List.set_cons_zero, List.set_cons_succ, i64_w, i32_w]
                rfl
               refine take_ (i := 2) (N := some 49) (v := ?_) (a' := ?_) #[true, true, true, false, false, true, false, false, true, false, false, false, true, false, false, false, false] rfl rfl (take_ofW HT_.out HW_.out (by kernel_rfl)) (fun _ _ _ h => h) (Or.inl ⟨by rfl, ?_⟩) hHeld ?_ ?_
               rotate_left
               ·rintro w' ⟨s0, s1, s2, s3⟩
                go_simp
                with_reducible rfl
               rotate_left
               ·simp only [Act.put, List.setIfInBounds_toArray, List.set_cons_zero, List.set_cons_succ, i64_w, i32_w]
                rfl
               refine take_ (i := 9) (N := some 56) (v := ?_) (a' := ?_) #[true, true, true, false, false, true, false, false, true, true, false, false, true, false, false, false, false] rfl rfl (take_ofW HT_.out HW_.out (by kernel_rfl)) (fun _ _ _ h => h) (Or.inl ⟨by rfl, ?_⟩) hHeld ?_ ?_
               rotate_left
               ·rintro w' ⟨s0, s1, s2, s3⟩
                go_simp
                with_reducible rfl
               rotate_left
               ·simp only [Act.put, List.setIfInBounds_toArray, List.set_cons_zero, List.set_cons_succ, i64_w, i32_w]
                rfl
               refine take_ (i := 13) (N := some 60) (v := ?_) (a' := ?_) #[true, true, true, false, false, true, false, false, true, true, false, false, true, true, false, false, false] rfl rfl (take_ofW HT_.out HW_.out (by kernel_rfl)) (fun _ _ _ h => h) (Or.inl ⟨by rfl, ?_⟩) hHeld ?_ ?_
               rotate_left
               ·rintro w' ⟨s0, s1, s2, s3⟩
                go_simp
                with_reducible rfl
               rotate_left
               ·simp only [Act.put, List.setIfInBounds_toArray, List.set_cons_zero, List.set_cons_succ, i64_w, i32_w]
                rfl
               refine join_ (σ := Value × Value × Value) 6 #[true, true, true, true, true, true, true, false, true, true, false, false, true, true, false, false, false] (fun s_ => [(50, s_.1), (51, s_.2.1), (53, s_.2.2)]) (fun s_ w' => (w'.cell? ⟨gb259, 0, none⟩ = some (.int .i64 ((rd_T72 l0_2 x5_1).f0)) ∧ w'.cell? ⟨gb259, 1, none⟩ = some (.bool true) ∧ w'.cell? ⟨gb259, 2, none⟩ = some (.int .i64 ((rd_T72 l0_2 x5_1).f2)) ∧ w'.cell? ⟨gb259, 3, none⟩ = some (.int .u32 ((rd_T72 l0_2 x5_1).f3))) ∧ (Kd.R (Kd.int .u8) 5 w' w.heap.size (fun k_ => some k_ ≠ (s_.2.1 : Value).ownBlock ∧ some k_ ≠ (s_.2.2 : Value).ownBlock) s_.1 t260) ∧ (Kd.R (Kd.int .u8) 5 w' w.heap.size (fun k_ => some k_ ≠ (s_.1 : Value).ownBlock ∧ some k_ ≠ (s_.2.2 : Value).ownBlock) s_.2.1 y263) ∧ (Kd.R (Kd.int .u8) 5 w' w.heap.size (fun k_ => some k_ ≠ (s_.1 : Value).ownBlock ∧ some k_ ≠ (s_.2.1 : Value).ownBlock) s_.2.2 y266) ∧ (w'.heap[gb225]? = some (.cells #[.int .i64 a0_0, .string a0_1, .slice (some ad258) l0_2.length c0_2] 45 (0, 0))) ∧ (w'.heap[gb259]? = some (.cells #[.int .i64 ((rd_T72 l0_2 x5_1).f0), .bool true, .int .i64 ((rd_T72 l0_2 x5_1).f2), .int .u32 ((rd_T72 l0_2 x5_1).f3)] 72 (0, 0))) ∧ (Below w.heap.size w w')) ?_ ?_
               rotate_left
               ·intro hCont
                refine two_ (i := 3) (j := 6) (Ni := some 50) (Nj := some 53) #[true, true, true, true, false, true, false, false, true, true, false, false, true, true, false, false, false] #[true, true, true, false, false, true, true, false, true, true, false, false, true, true, false, false, false] rfl rfl rfl rfl (two_of HT_.out (by kernel_rfl)) (by decide) (by decide) (fun K hK => ?_) (fun K hK => ?_)
                ·skip
                 refine goes_ Try.func51 (by kernel_rfl) rfl #[.int .i64 ((rd_T72 l0_2 x5_1).f0), .int .i64 4] (by rfl) rfl rfl (by (try simp only [List.map_toArray, List.map_cons, List.map_nil]); first | done | rfl | (simp only [List.length_drop, List.length_take]; rfl)) ?_
                 with_reducible refine (strongboxref4_little.calls k1 ((rd_T72 l0_2 x5_1).f0) 4 t260 _ A33.out).mono ?_
                 rintro e w47 ⟨v261, rfl, ho0, hb⟩
                 refine ⟨_, rfl, ?_⟩
                 have n0_ := Aside0.mk (Kd.R_elder' (by (with_reducible repeat (first | apply Kd.R_alloc | apply Kd.R_drewN | apply Kd.R_drew)); exact HO_4.out) (Kd.R_base ho0) hb)
                 have n1_ := Aside0.mk (Kd.R_lower (Kd.R_new' ho0 (Kd.R_lt (by (with_reducible repeat (first | apply Kd.R_alloc | apply Kd.R_drewN | apply Kd.R_drew)); exact HO_4.out))) (below_size (by repeat (first | (with_reducible first | exact HB.out | apply below_alloc | apply pw_below_drewN | apply below_drew1 | refine below_set ?_ GE225.out | refine below_set ?_ GE259.out) | exact HB.out))))
                 have n2_ := Aside0.mk (blk_below (g := gb225) (o := .cells #[.int .i64 a0_0, .string a0_1, .slice (some ad258) l0_2.length c0_2] 45 (0, 0)) (by (with_reducible repeat (first | refine blk_drewN ?_ _ | refine blk_drew ?_ | refine blk_alloc ?_ _)); exact BK225.out) hb)
                 have n3_ := Aside0.mk (blk_below (g := gb259) (o := .cells #[.int .i64 ((rd_T72 l0_2 x5_1).f0), .bool true, .int .i64 ((rd_T72 l0_2 x5_1).f2), .int .u32 ((rd_T72 l0_2 x5_1).f3)] 72 (0, 0)) (by (with_reducible repeat (first | refine blk_drewN ?_ _ | refine blk_drew ?_ | refine blk_alloc ?_ _)); exact BK259.out) hb)
                 have n4_ := Aside0.mk (below_step (by repeat (first | (with_reducible first | exact HB.out | apply below_alloc | apply pw_below_drewN | apply below_drew1 | refine below_set ?_ GE225.out | refine below_set ?_ GE259.out) | exact HB.out)) hb)
                 clear HO_4
                 clear BK225
                 clear BK259
                 clear HB
                 have HO_4 := n0_
                 have HO262 := n1_
                 have BK225 := n2_
                 have BK259 := n3_
                 have HB := n4_
                 clear n0_ n1_ n2_ n3_ n4_
                 (try clear hb)
                 (try clear hb2)
                 (try clear hk)
                 (try clear hi)
                 (try clear ho0)
                 obtain ⟨Ao49, co49, eo49⟩ := Kd.R_slice HO262.out
                 (first | subst eo49 | (injection eo49 with f1_ f2_ f3_; have f4_ := f1_.symm; have f5_ := f3_.symm; clear f1_ f2_ f3_; subst f4_; subst f5_))
                 refine hK.out _ _ ⟨(blk_cell BK259.out 0).trans rfl, (blk_cell BK259.out 1).trans rfl, (blk_cell BK259.out 2).trans rfl, (blk_cell BK259.out 3).trans rfl⟩ (fun hHeld => ?_)
                 clear hK K
                 refine norm_ (a' := ?_) ?_ ?_
                 rotate_left
                 ·show Act.put _ (some 50) _ = _
                  simp only [Act.put, List.setIfInBounds_toArray, List.set_cons_zero, List.set_cons_succ, i64_w, i32_w]
                  rfl
                 refine two_ (i := 4) (j := 6) (Ni := some 51) (Nj := some 53) #[true, true, true, true, true, true, false, false, true, true, false, false, true, true, false, false, false] #[true, true, true, true, false, true, true, false, true, true, false, false, true, true, false, false, false] rfl rfl rfl rfl (two_of HT_.out (by kernel_rfl)) (by decide) (by decide) (fun K hK => ?_) (fun K hK => ?_)
                 ·skip
                  refine Kd.R_append_rows_step (Kd.int .u8) (w0 := w) w.heap.size (by rfl) (.tmp 47) (.tmp 50) 22 5 (.int .u8 0) 1 rfl Try.underlying22 info5 rfl (by decide) (by omega) (.slice Ao44 x4_1.length co44) x4_1 t260 _ _ _ (fun k_ => some k_ ≠ (.slice Ao49 t260.length co49 : Value).ownBlock) (fun _ => False) rfl rfl ?aO ?aR (fun _ _ h => h) (fun _ h => h.elim) ?aF ?aB ?aS ?aL ?_
                  (case aR => repeat (first | exact (Kd.R_reads' HO262.out).2.2 | (with_reducible refine Kd.C_alloc ?_ _) | (with_reducible refine Kd.C_drewN ?_ _) | (with_reducible refine Kd.C_drew ?_)))
                  (case aB => exact (by repeat (first | (with_reducible first | exact HB.out | apply below_alloc | apply pw_below_drewN | apply below_drew1 | refine below_set ?_ GE225.out | refine below_set ?_ GE259.out) | exact HB.out)))
                  (case aF => exact (fun k_ hk => Kd.fresh' (Kd.R_lt (by (with_reducible repeat (first | apply Kd.R_alloc | apply Kd.R_drewN | apply Kd.R_drew)); exact HO262.out)) k_ hk))
                  (case aO => exact (by (with_reducible repeat (first | apply Kd.R_alloc | apply Kd.R_drewN | apply Kd.R_drew)); exact Kd.R_mono HO_4.out (fun _ hk => hk.2)))
                  (case aS => exact (below_size (by repeat (first | (with_reducible first | exact HB.out | apply below_alloc | apply pw_below_drewN | apply below_drew1 | refine below_set ?_ GE225.out | refine below_set ?_ GE259.out) | exact HB.out))))
                  (case aL => have := LMc34.out; omega)
                  intro v264 w48 ho hb hg hat
                  rw [← Ny263.out] at ho
                  have n0_ := Aside0.mk (blk_grown (g := gb225) (o := .cells #[.int .i64 a0_0, .string a0_1, .slice (some ad258) l0_2.length c0_2] 45 (0, 0)) (by (with_reducible repeat (first | refine blk_drewN ?_ _ | refine blk_drew ?_ | refine blk_alloc ?_ _)); exact BK225.out) hg (Kd.R_ne HO_4.out BK225.out (by decide)))
                  have n1_ := Aside0.mk (blk_grown (g := gb259) (o := .cells #[.int .i64 ((rd_T72 l0_2 x5_1).f0), .bool true, .int .i64 ((rd_T72 l0_2 x5_1).f2), .int .u32 ((rd_T72 l0_2 x5_1).f3)] 72 (0, 0)) (by (with_reducible repeat (first | refine blk_drewN ?_ _ | refine blk_drew ?_ | refine blk_alloc ?_ _)); exact BK259.out) hg (Kd.R_ne HO_4.out BK259.out (by decide)))
                  have n2_ := Aside0.mk (Kd.R_after (ok := (fun _ => True)) (by (with_reducible repeat (first | apply Kd.R_alloc | apply Kd.R_drewN | apply Kd.R_drew)); exact HO262.out) hg hat)
                  have n3_ := Aside0.mk (hb)
                  have n4_ := Aside0.mk (ho)
                  clear BK225
                  clear BK259
                  clear HO262
                  clear HB
                  clear HO_4
                  have BK225 := n0_
                  have BK259 := n1_
                  have HO262 := n2_
                  have HB := n3_
                  have HO265 := n4_
                  clear n0_ n1_ n2_ n3_ n4_
                  clear ho hb hg hat
                  refine hK.out _ _ ⟨(blk_cell BK259.out 0).trans rfl, (blk_cell BK259.out 1).trans rfl, (blk_cell BK259.out 2).trans rfl, (blk_cell BK259.out 3).trans rfl⟩ (fun hHeld => ?_)
                  clear hK K
                  refine norm_ (a' := ?_) ?_ ?_
                  rotate_left
                  ·show Act.put _ (some 51) _ = _
                   simp only [Act.put, List.setIfInBounds_toArray, List.set_cons_zero, List.set_cons_succ, i64_w, i32_w]
                   rfl
                  refine one_ (i := 6) (N := some 53) #[true, true, true, true, true, true, true, false, true, true, false, false, true, true, false, false, false] rfl rfl (one_of HT_.out (by kernel_rfl)) (by decide) (fun K hK => ?_)
                  refine Kd.R_lit_step (Kd.int .u8) _ 5 ?hg (N := 53) ?hd (xs := ([1] : List Int)) (inner := [.int .u8 1]) (ok := fun _ => True) (okp := fun _ => True) ?hr ?hp (fun _ hk => hk) trivial (Below.refl _ _) (Nat.le_refl _) (by simp) ?_; (case hd => rfl); (case hg => rfl); (case hr => first | (go_simp; done) | (go_simp; rfl)); (case hp => exact (Reps.one (show Kd.M (Kd.int .u8) _ _ _ 1 [.int .u8 1] from rfl) (Reps.none _ _)))
                  intro v267 w50 ho51 hb hg_ hnew_
                  clear hg_ hnew_
                  (first | rw [← Ny266.out] at ho51 | (simp only [Int.reduceToNat] at ho51; rw [← Ny266.out] at ho51))
                  have n0_ := Aside0.mk (Kd.R_elder' (by (with_reducible repeat (first | apply Kd.R_alloc | apply Kd.R_drewN | apply Kd.R_drew)); exact HO262.out) (Kd.R_base ho51) hb)
                  have n1_ := Aside0.mk (Kd.R_elder' (by (with_reducible repeat (first | apply Kd.R_alloc | apply Kd.R_drewN | apply Kd.R_drew)); exact HO265.out) (Kd.R_base ho51) hb)
                  have n2_ := Aside0.mk (Kd.R_lower (Kd.R_new' (Kd.R_new' ho51 (Kd.R_lt (by (with_reducible repeat (first | apply Kd.R_alloc | apply Kd.R_drewN | apply Kd.R_drew)); exact HO262.out))) (Kd.R_lt (by (with_reducible repeat (first | apply Kd.R_alloc | apply Kd.R_drewN | apply Kd.R_drew)); exact HO265.out))) (below_size (by repeat (first | (with_reducible first | exact HB.out | apply below_alloc | apply pw_below_drewN | apply below_drew1 | refine below_set ?_ GE225.out | refine below_set ?_ GE259.out) | exact HB.out))))
                  have n3_ := Aside0.mk (blk_below (g := gb225) (o := .cells #[.int .i64 a0_0, .string a0_1, .slice (some ad258) l0_2.length c0_2] 45 (0, 0)) (by (with_reducible repeat (first | refine blk_drewN ?_ _ | refine blk_drew ?_ | refine blk_alloc ?_ _)); exact BK225.out) hb)
                  have n4_ := Aside0.mk (blk_below (g := gb259) (o := .cells #[.int .i64 ((rd_T72 l0_2 x5_1).f0), .bool true, .int .i64 ((rd_T72 l0_2 x5_1).f2), .int .u32 ((rd_T72 l0_2 x5_1).f3)] 72 (0, 0)) (by (with_reducible repeat (first | refine blk_drewN ?_ _ | refine blk_drew ?_ | refine blk_alloc ?_ _)); exact BK259.out) hb)
                  have n5_ := Aside0.mk (below_step (by repeat (first | (with_reducible first | exact HB.out | apply below_alloc | apply pw_below_drewN | apply below_drew1 | refine below_set ?_ GE225.out | refine below_set ?_ GE259.out) | exact HB.out)) hb)
                  clear HO262
                  clear HO265
                  clear BK225
                  clear BK259
                  clear HB
                  have HO262 := n0_
                  have HO265 := n1_
                  have HO268 := n2_
                  have BK225 := n3_
                  have BK259 := n4_
                  have HB := n5_
                  clear n0_ n1_ n2_ n3_ n4_ n5_
                  clear hb ho51
                  refine hK.out _ _ ⟨(blk_cell BK259.out 0).trans rfl, (blk_cell BK259.out 1).trans rfl, (blk_cell BK259.out 2).trans rfl, (blk_cell BK259.out 3).trans rfl⟩ (fun hHeld => ?_)
                  clear hK K
                  refine norm_ (a' := ?_) ?_ ?_
                  rotate_left
                  ·show Act.put _ (some 53) _ = _
                   simp only [Act.put, List.setIfInBounds_toArray, List.set_cons_zero, List.set_cons_succ, i64_w, i32_w]
                   rfl
                  exact norm_ (by simp only [putAll, Act.put, List.setIfInBounds_toArray, List.set_cons_zero, List.set_cons_succ]) (hCont (.slice Ao49 t260.length co49, v264, v267) _ ⟨hHeld, (by (with_reducible repeat (first | apply Kd.R_alloc | apply Kd.R_drewN | apply Kd.R_drew)); exact Kd.R_mono HO262.out (fun _ hk => ⟨hk.1.2, hk.2⟩)), (by (with_reducible repeat (first | apply Kd.R_alloc | apply Kd.R_drewN | apply Kd.R_drew)); exact HO265.out), (by (with_reducible repeat (first | apply Kd.R_alloc | apply Kd.R_drewN | apply Kd.R_drew)); exact Kd.R_mono HO268.out (fun _ hk => ⟨hk.1.2, hk.2⟩)), (by (with_reducible repeat (first | refine blk_drewN ?_ _ | refine blk_drew ?_ | refine blk_alloc ?_ _)); exact BK225.out), (by (with_reducible repeat (first | refine blk_drewN ?_ _ | refine blk_drew ?_ | refine blk_alloc ?_ _)); exact BK259.out), (by repeat (first | (with_reducible first | exact HB.out | apply below_alloc | apply pw_below_drewN | apply below_drew1 | refine below_set ?_ GE225.out | refine below_set ?_ GE259.out) | exact HB.out))⟩)
                 ·skip
                  refine Kd.R_lit_step (Kd.int .u8) _ 5 ?hg (N := 53) ?hd (xs := ([1] : List Int)) (inner := [.int .u8 1]) (ok := fun _ => True) (okp := fun _ => True) ?hr ?hp (fun _ hk => hk) trivial (Below.refl _ _) (Nat.le_refl _) (by simp) ?_; (case hd => rfl); (case hg => rfl); (case hr => first | (go_simp; done) | (go_simp; rfl)); (case hp => exact (Reps.one (show Kd.M (Kd.int .u8) _ _ _ 1 [.int .u8 1] from rfl) (Reps.none _ _)))
                  intro v267 w48 ho49 hb hg_ hnew_
                  clear hg_ hnew_
                  (first | rw [← Ny266.out] at ho49 | (simp only [Int.reduceToNat] at ho49; rw [← Ny266.out] at ho49))
                  have n0_ := Aside0.mk (Kd.R_elder' (by (with_reducible repeat (first | apply Kd.R_alloc | apply Kd.R_drewN | apply Kd.R_drew)); exact HO_4.out) (Kd.R_base ho49) hb)
                  have n1_ := Aside0.mk (Kd.R_elder' (by (with_reducible repeat (first | apply Kd.R_alloc | apply Kd.R_drewN | apply Kd.R_drew)); exact HO262.out) (Kd.R_base ho49) hb)
                  have n2_ := Aside0.mk (Kd.R_lower (Kd.R_new' (Kd.R_new' ho49 (Kd.R_lt (by (with_reducible repeat (first | apply Kd.R_alloc | apply Kd.R_drewN | apply Kd.R_drew)); exact HO_4.out))) (Kd.R_lt (by (with_reducible repeat (first | apply Kd.R_alloc | apply Kd.R_drewN | apply Kd.R_drew)); exact HO262.out))) (below_size (by repeat (first | (with_reducible first | exact HB.out | apply below_alloc | apply pw_below_drewN | apply below_drew1 | refine below_set ?_ GE225.out | refine below_set ?_ GE259.out) | exact HB.out))))
                  have n3_ := Aside0.mk (blk_below (g := gb225) (o := .cells #[.int .i64 a0_0, .string a0_1, .slice (some ad258) l0_2.length c0_2] 45 (0, 0)) (by (with_reducible repeat (first | refine blk_drewN ?_ _ | refine blk_drew ?_ | refine blk_alloc ?_ _)); exact BK225.out) hb)
                  have n4_ := Aside0.mk (blk_below (g := gb259) (o := .cells #[.int .i64 ((rd_T72 l0_2 x5_1).f0), .bool true, .int .i64 ((rd_T72 l0_2 x5_1).f2), .int .u32 ((rd_T72 l0_2 x5_1).f3)] 72 (0, 0)) (by (with_reducible repeat (first | refine blk_drewN ?_ _ | refine blk_drew ?_ | refine blk_alloc ?_ _)); exact BK259.out) hb)
                  have n5_ := Aside0.mk (below_step (by repeat (first | (with_reducible first | exact HB.out | apply below_alloc | apply pw_below_drewN | apply below_drew1 | refine below_set ?_ GE225.out | refine below_set ?_ GE259.out) | exact HB.out)) hb)
                  clear HO_4
                  clear HO262
                  clear BK225
                  clear BK259
                  clear HB
                  have HO_4 := n0_
                  have HO262 := n1_
                  have HO268 := n2_
                  have BK225 := n3_
                  have BK259 := n4_
                  have HB := n5_
                  clear n0_ n1_ n2_ n3_ n4_ n5_
                  clear hb ho49
                  obtain ⟨Ao51, co51, eo51⟩ := Kd.R_slice HO262.out
                  (first | subst eo51 | (injection eo51 with f1_ f2_ f3_; have f4_ := f1_.symm; have f5_ := f3_.symm; clear f1_ f2_ f3_; subst f4_; subst f5_))
                  refine hK.out _ _ ⟨(blk_cell BK259.out 0).trans rfl, (blk_cell BK259.out 1).trans rfl, (blk_cell BK259.out 2).trans rfl, (blk_cell BK259.out 3).trans rfl⟩ (fun hHeld => ?_)
                  clear hK K
                  refine norm_ (a' := ?_) ?_ ?_
                  rotate_left
                  ·show Act.put _ (some 53) _ = _
                   simp only [Act.put, List.setIfInBounds_toArray, List.set_cons_zero, List.set_cons_succ, i64_w, i32_w]
                   rfl
                  refine one_ (i := 4) (N := some 51) #[true, true, true, true, true, true, true, false, true, true, false, false, true, true, false, false, false] rfl rfl (one_of HT_.out (by kernel_rfl)) (by decide) (fun K hK => ?_)
                  refine Kd.R_append_rows_step (Kd.int .u8) (w0 := w) w.heap.size (by rfl) (.tmp 47) (.tmp 50) 22 5 (.int .u8 0) 1 rfl Try.underlying22 info5 rfl (by decide) (by omega) (.slice Ao44 x4_1.length co44) x4_1 t260 _ _ _ (fun k_ => some k_ ≠ (.slice Ao51 t260.length co51 : Value).ownBlock ∧ some k_ ≠ (v267 : Value).ownBlock) (fun _ => False) rfl rfl ?aO ?aR (fun _ _ h => h) (fun _ h => h.elim) ?aF ?aB ?aS ?aL ?_
                  (case aR => repeat (first | exact (Kd.R_reads' HO262.out).2.2 | (with_reducible refine Kd.C_alloc ?_ _) | (with_reducible refine Kd.C_drewN ?_ _) | (with_reducible refine Kd.C_drew ?_)))
                  (case aB => exact (by repeat (first | (with_reducible first | exact HB.out | apply below_alloc | apply pw_below_drewN | apply below_drew1 | refine below_set ?_ GE225.out | refine below_set ?_ GE259.out) | exact HB.out)))
                  (case aF => exact (fun k_ hk => ⟨Kd.fresh' (Kd.R_lt (by (with_reducible repeat (first | apply Kd.R_alloc | apply Kd.R_drewN | apply Kd.R_drew)); exact HO262.out)) k_ hk, Kd.fresh' (Kd.R_lt (by (with_reducible repeat (first | apply Kd.R_alloc | apply Kd.R_drewN | apply Kd.R_drew)); exact HO268.out)) k_ hk⟩))
                  (case aO => exact (by (with_reducible repeat (first | apply Kd.R_alloc | apply Kd.R_drewN | apply Kd.R_drew)); exact Kd.R_mono HO_4.out (fun _ hk => ⟨hk.1.2, hk.2⟩)))
                  (case aS => exact (below_size (by repeat (first | (with_reducible first | exact HB.out | apply below_alloc | apply pw_below_drewN | apply below_drew1 | refine below_set ?_ GE225.out | refine below_set ?_ GE259.out) | exact HB.out))))
                  (case aL => have := LMc34.out; omega)
                  intro v264 w50 ho hb hg hat
                  rw [← Ny263.out] at ho
                  have n0_ := Aside0.mk (blk_grown (g := gb225) (o := .cells #[.int .i64 a0_0, .string a0_1, .slice (some ad258) l0_2.length c0_2] 45 (0, 0)) (by (with_reducible repeat (first | refine blk_drewN ?_ _ | refine blk_drew ?_ | refine blk_alloc ?_ _)); exact BK225.out) hg (Kd.R_ne HO_4.out BK225.out (by decide)))
                  have n1_ := Aside0.mk (blk_grown (g := gb259) (o := .cells #[.int .i64 ((rd_T72 l0_2 x5_1).f0), .bool true, .int .i64 ((rd_T72 l0_2 x5_1).f2), .int .u32 ((rd_T72 l0_2 x5_1).f3)] 72 (0, 0)) (by (with_reducible repeat (first | refine blk_drewN ?_ _ | refine blk_drew ?_ | refine blk_alloc ?_ _)); exact BK259.out) hg (Kd.R_ne HO_4.out BK259.out (by decide)))
                  have n2_ := Aside0.mk (Kd.R_after (ok := (fun k_ => some k_ ≠ (v267 : Value).ownBlock)) (by (with_reducible repeat (first | apply Kd.R_alloc | apply Kd.R_drewN | apply Kd.R_drew)); exact Kd.R_mono HO262.out (fun _ hk => ⟨hk.2, hk.1.2⟩)) hg hat)
                  have n3_ := Aside0.mk (Kd.R_after (ok := (fun k_ => some k_ ≠ (.slice Ao51 t260.length co51 : Value).ownBlock)) (by (with_reducible repeat (first | apply Kd.R_alloc | apply Kd.R_drewN | apply Kd.R_drew)); exact Kd.R_mono HO268.out (fun _ hk => ⟨hk.2, hk.1.2⟩)) hg hat)
                  have n4_ := Aside0.mk (hb)
                  have n5_ := Aside0.mk (ho)
                  clear BK225
                  clear BK259
                  clear HO262
                  clear HO268
                  clear HB
                  clear HO_4
                  have BK225 := n0_
                  have BK259 := n1_
                  have HO262 := n2_
                  have HO268 := n3_
                  have HB := n4_
                  have HO265 := n5_
                  clear n0_ n1_ n2_ n3_ n4_ n5_
                  clear ho hb hg hat
                  refine hK.out _ _ ⟨(blk_cell BK259.out 0).trans rfl, (blk_cell BK259.out 1).trans rfl, (blk_cell BK259.out 2).trans rfl, (blk_cell BK259.out 3).trans rfl⟩ (fun hHeld => ?_)
                  clear hK K
                  refine norm_ (a' := ?_) ?_ ?_
                  rotate_left
                  ·show Act.put _ (some 51) _ = _
                   simp only [Act.put, List.setIfInBounds_toArray, List.set_cons_zero, List.set_cons_succ, i64_w, i32_w]
                   rfl
                  exact norm_ (by simp only [putAll, Act.put, List.setIfInBounds_toArray, List.set_cons_zero, List.set_cons_succ]) (hCont (.slice Ao51 t260.length co51, v264, v267) _ ⟨hHeld, (by (with_reducible repeat (first | apply Kd.R_alloc | apply Kd.R_drewN | apply Kd.R_drew)); exact Kd.R_mono HO262.out (fun _ hk => ⟨hk.2, hk.1⟩)), (by (with_reducible repeat (first | apply Kd.R_alloc | apply Kd.R_drewN | apply Kd.R_drew)); exact HO265.out), (by (with_reducible repeat (first | apply Kd.R_alloc | apply Kd.R_drewN | apply Kd.R_drew)); exact HO268.out), (by (with_reducible repeat (first | refine blk_drewN ?_ _ | refine blk_drew ?_ | refine blk_alloc ?_ _)); exact BK225.out), (by (with_reducible repeat (first | refine blk_drewN ?_ _ | refine blk_drew ?_ | refine blk_alloc ?_ _)); exact BK259.out), (by repeat (first | (with_reducible first | exact HB.out | apply below_alloc | apply pw_below_drewN | apply below_drew1 | refine below_set ?_ GE225.out | refine below_set ?_ GE259.out) | exact HB.out))⟩)
                ·skip
                 refine Kd.R_lit_step (Kd.int .u8) _ 5 ?hg (N := 53) ?hd (xs := ([1] : List Int)) (inner := [.int .u8 1]) (ok := fun _ => True) (okp := fun _ => True) ?hr ?hp (fun _ hk => hk) trivial (Below.refl _ _) (Nat.le_refl _) (by simp) ?_; (case hd => rfl); (case hg => rfl); (case hr => first | (go_simp; done) | (go_simp; rfl)); (case hp => exact (Reps.one (show Kd.M (Kd.int .u8) _ _ _ 1 [.int .u8 1] from rfl) (Reps.none _ _)))
                 intro v267 w47 ho48 hb hg_ hnew_
                 clear hg_ hnew_
                 (first | rw [← Ny266.out] at ho48 | (simp only [Int.reduceToNat] at ho48; rw [← Ny266.out] at ho48))
                 have n0_ := Aside0.mk (Kd.R_elder' (by (with_reducible repeat (first | apply Kd.R_alloc | apply Kd.R_drewN | apply Kd.R_drew)); exact HO_4.out) (Kd.R_base ho48) hb)
                 have n1_ := Aside0.mk (Kd.R_lower (Kd.R_new' ho48 (Kd.R_lt (by (with_reducible repeat (first | apply Kd.R_alloc | apply Kd.R_drewN | apply Kd.R_drew)); exact HO_4.out))) (below_size (by repeat (first | (with_reducible first | exact HB.out | apply below_alloc | apply pw_below_drewN | apply below_drew1 | refine below_set ?_ GE225.out | refine below_set ?_ GE259.out) | exact HB.out))))
                 have n2_ := Aside0.mk (blk_below (g := gb225) (o := .cells #[.int .i64 a0_0, .string a0_1, .slice (some ad258) l0_2.length c0_2] 45 (0, 0)) (by (with_reducible repeat (first | refine blk_drewN ?_ _ | refine blk_drew ?_ | refine blk_alloc ?_ _)); exact BK225.out) hb)
                 have n3_ := Aside0.mk (blk_below (g := gb259) (o := .cells #[.int .i64 ((rd_T72 l0_2 x5_1).f0), .bool true, .int .i64 ((rd_T72 l0_2 x5_1).f2), .int .u32 ((rd_T72 l0_2 x5_1).f3)] 72 (0, 0)) (by (with_reducible repeat (first | refine blk_drewN ?_ _ | refine blk_drew ?_ | refine blk_alloc ?_ _)); exact BK259.out) hb)
                 have n4_ := Aside0.mk (below_step (by repeat (first | (with_reducible first | exact HB.out | apply below_alloc | apply pw_below_drewN | apply below_drew1 | refine below_set ?_ GE225.out | refine below_set ?_ GE259.out) | exact HB.out)) hb)
                 clear HO_4
                 clear BK225
                 clear BK259
                 clear HB
                 have HO_4 := n0_
                 have HO268 := n1_
                 have BK225 := n2_
                 have BK259 := n3_
                 have HB := n4_
                 clear n0_ n1_ n2_ n3_ n4_
                 clear hb ho48
                 refine hK.out _ _ ⟨(blk_cell BK259.out 0).trans rfl, (blk_cell BK259.out 1).trans rfl, (blk_cell BK259.out 2).trans rfl, (blk_cell BK259.out 3).trans rfl⟩ (fun hHeld => ?_)
                 clear hK K
                 refine norm_ (a' := ?_) ?_ ?_
                 rotate_left
                 ·show Act.put _ (some 53) _ = _
                  simp only [Act.put, List.setIfInBounds_toArray, List.set_cons_zero, List.set_cons_succ, i64_w, i32_w]
                  rfl
                 refine one_ (i := 3) (N := some 50) #[true, true, true, true, false, true, true, false, true, true, false, false, true, true, false, false, false] rfl rfl (one_of HT_.out (by kernel_rfl)) (by decide) (fun K hK => ?_)
                 refine goes_ Try.func51 (by kernel_rfl) rfl #[.int .i64 ((rd_T72 l0_2 x5_1).f0), .int .i64 4] (by rfl) rfl rfl (by (try simp only [List.map_toArray, List.map_cons, List.map_nil]); first | done | rfl | (simp only [List.length_drop, List.length_take]; rfl)) ?_
                 with_reducible refine (strongboxref4_little.calls k1 ((rd_T72 l0_2 x5_1).f0) 4 t260 _ A33.out).mono ?_
                 rintro e w49 ⟨v261, rfl, ho0, hb⟩
                 refine ⟨_, rfl, ?_⟩
                 have n0_ := Aside0.mk (Kd.R_elder' (by (with_reducible repeat (first | apply Kd.R_alloc | apply Kd.R_drewN | apply Kd.R_drew)); exact HO_4.out) (Kd.R_base ho0) hb)
                 have n1_ := Aside0.mk (Kd.R_elder' (by (with_reducible repeat (first | apply Kd.R_alloc | apply Kd.R_drewN | apply Kd.R_drew)); exact HO268.out) (Kd.R_base ho0) hb)
                 have n2_ := Aside0.mk (Kd.R_lower (Kd.R_new' (Kd.R_new' ho0 (Kd.R_lt (by (with_reducible repeat (first | apply Kd.R_alloc | apply Kd.R_drewN | apply Kd.R_drew)); exact HO_4.out))) (Kd.R_lt (by (with_reducible repeat (first | apply Kd.R_alloc | apply Kd.R_drewN | apply Kd.R_drew)); exact HO268.out))) (below_size (by repeat (first | (with_reducible first | exact HB.out | apply below_alloc | apply pw_below_drewN | apply below_drew1 | refine below_set ?_ GE225.out | refine below_set ?_ GE259.out) | exact HB.out))))
                 have n3_ := Aside0.mk (blk_below (g := gb225) (o := .cells #[.int .i64 a0_0, .string a0_1, .slice (some ad258) l0_2.length c0_2] 45 (0, 0)) (by (with_reducible repeat (first | refine blk_drewN ?_ _ | refine blk_drew ?_ | refine blk_alloc ?_ _)); exact BK225.out) hb)
                 have n4_ := Aside0.mk (blk_below (g := gb259) (o := .cells #[.int .i64 ((rd_T72 l0_2 x5_1).f0), .bool true, .int .i64 ((rd_T72 l0_2 x5_1).f2), .int .u32 ((rd_T72 l0_2 x5_1).f3)] 72 (0, 0)) (by (with_reducible repeat (first | refine blk_drewN ?_ _ | refine blk_drew ?_ | refine blk_alloc ?_ _)); exact BK259.out) hb)
                 have n5_ := Aside0.mk (below_step (by repeat (first | (with_reducible first | exact HB.out | apply below_alloc | apply pw_below_drewN | apply below_drew1 | refine below_set ?_ GE225.out | refine below_set ?_ GE259.out) | exact HB.out)) hb)
                 clear HO_4
                 clear HO268
                 clear BK225
                 clear BK259
                 clear HB
                 have HO_4 := n0_
                 have HO268 := n1_
                 have HO262 := n2_
                 have BK225 := n3_
                 have BK259 := n4_
                 have HB := n5_
                 clear n0_ n1_ n2_ n3_ n4_ n5_
                 (try clear hb)
                 (try clear hb2)
                 (try clear hk)
                 (try clear hi)
                 (try clear ho0)
                 obtain ⟨Ao51, co51, eo51⟩ := Kd.R_slice HO262.out
                 (first | subst eo51 | (injection eo51 with f1_ f2_ f3_; have f4_ := f1_.symm; have f5_ := f3_.symm; clear f1_ f2_ f3_; subst f4_; subst f5_))
                 refine hK.out _ _ ⟨(blk_cell BK259.out 0).trans rfl, (blk_cell BK259.out 1).trans rfl, (blk_cell BK259.out 2).trans rfl, (blk_cell BK259.out 3).trans rfl⟩ (fun hHeld => ?_)
                 clear hK K
                 refine norm_ (a' := ?_) ?_ ?_
                 rotate_left
                 ·show Act.put _ (some 50) _ = _
                  simp only [Act.put, List.setIfInBounds_toArray, List.set_cons_zero, List.set_cons_succ, i64_w, i32_w]
                  rfl
                 refine one_ (i := 4) (N := some 51) #[true, true, true, true, true, true, true, false, true, true, false, false, true, true, false, false, false] rfl rfl (one_of HT_.out (by kernel_rfl)) (by decide) (fun K hK => ?_)
                 refine Kd.R_append_rows_step (Kd.int .u8) (w0 := w) w.heap.size (by rfl) (.tmp 47) (.tmp 50) 22 5 (.int .u8 0) 1 rfl Try.underlying22 info5 rfl (by decide) (by omega) (.slice Ao44 x4_1.length co44) x4_1 t260 _ _ _ (fun k_ => some k_ ≠ (v267 : Value).ownBlock ∧ some k_ ≠ (.slice Ao51 t260.length co51 : Value).ownBlock) (fun _ => False) rfl rfl ?aO ?aR (fun _ _ h => h) (fun _ h => h.elim) ?aF ?aB ?aS ?aL ?_
                 (case aR => repeat (first | exact (Kd.R_reads' HO262.out).2.2 | (with_reducible refine Kd.C_alloc ?_ _) | (with_reducible refine Kd.C_drewN ?_ _) | (with_reducible refine Kd.C_drew ?_)))
                 (case aB => exact (by repeat (first | (with_reducible first | exact HB.out | apply below_alloc | apply pw_below_drewN | apply below_drew1 | refine below_set ?_ GE225.out | refine below_set ?_ GE259.out) | exact HB.out)))
                 (case aF => exact (fun k_ hk => ⟨Kd.fresh' (Kd.R_lt (by (with_reducible repeat (first | apply Kd.R_alloc | apply Kd.R_drewN | apply Kd.R_drew)); exact HO268.out)) k_ hk, Kd.fresh' (Kd.R_lt (by (with_reducible repeat (first | apply Kd.R_alloc | apply Kd.R_drewN | apply Kd.R_drew)); exact HO262.out)) k_ hk⟩))
                 (case aO => exact (by (with_reducible repeat (first | apply Kd.R_alloc | apply Kd.R_drewN | apply Kd.R_drew)); exact Kd.R_mono HO_4.out (fun _ hk => ⟨hk.1.2, hk.2⟩)))
                 (case aS => exact (below_size (by repeat (first | (with_reducible first | exact HB.out | apply below_alloc | apply pw_below_drewN | apply below_drew1 | refine below_set ?_ GE225.out | refine below_set ?_ GE259.out) | exact HB.out))))
                 (case aL => have := LMc34.out; omega)
                 intro v264 w50 ho hb hg hat
                 rw [← Ny263.out] at ho
                 have n0_ := Aside0.mk (blk_grown (g := gb225) (o := .cells #[.int .i64 a0_0, .string a0_1, .slice (some ad258) l0_2.length c0_2] 45 (0, 0)) (by (with_reducible repeat (first | refine blk_drewN ?_ _ | refine blk_drew ?_ | refine blk_alloc ?_ _)); exact BK225.out) hg (Kd.R_ne HO_4.out BK225.out (by decide)))
                 have n1_ := Aside0.mk (blk_grown (g := gb259) (o := .cells #[.int .i64 ((rd_T72 l0_2 x5_1).f0), .bool true, .int .i64 ((rd_T72 l0_2 x5_1).f2), .int .u32 ((rd_T72 l0_2 x5_1).f3)] 72 (0, 0)) (by (with_reducible repeat (first | refine blk_drewN ?_ _ | refine blk_drew ?_ | refine blk_alloc ?_ _)); exact BK259.out) hg (Kd.R_ne HO_4.out BK259.out (by decide)))
                 have n2_ := Aside0.mk (Kd.R_after (ok := (fun k_ => some k_ ≠ (.slice Ao51 t260.length co51 : Value).ownBlock)) (by (with_reducible repeat (first | apply Kd.R_alloc | apply Kd.R_drewN | apply Kd.R_drew)); exact Kd.R_mono HO268.out (fun _ hk => ⟨hk.2, hk.1.2⟩)) hg hat)
                 have n3_ := Aside0.mk (Kd.R_after (ok := (fun k_ => some k_ ≠ (v267 : Value).ownBlock)) (by (with_reducible repeat (first | apply Kd.R_alloc | apply Kd.R_drewN | apply Kd.R_drew)); exact Kd.R_mono HO262.out (fun _ hk => ⟨hk.2, hk.1.2⟩)) hg hat)
                 have n4_ := Aside0.mk (hb)
                 have n5_ := Aside0.mk (ho)
                 clear BK225
                 clear BK259
                 clear HO268
                 clear HO262
                 clear HB
                 clear HO_4
                 have BK225 := n0_
                 have BK259 := n1_
                 have HO268 := n2_
                 have HO262 := n3_
                 have HB := n4_
                 have HO265 := n5_
                 clear n0_ n1_ n2_ n3_ n4_ n5_
                 clear ho hb hg hat
                 refine hK.out _ _ ⟨(blk_cell BK259.out 0).trans rfl, (blk_cell BK259.out 1).trans rfl, (blk_cell BK259.out 2).trans rfl, (blk_cell BK259.out 3).trans rfl⟩ (fun hHeld => ?_)
                 clear hK K
                 refine norm_ (a' := ?_) ?_ ?_
                 rotate_left
                 ·show Act.put _ (some 51) _ = _
                  simp only [Act.put, List.setIfInBounds_toArray, List.set_cons_zero, List.set_cons_succ, i64_w, i32_w]
                  rfl
                 exact norm_ (by simp only [putAll, Act.put, List.setIfInBounds_toArray, List.set_cons_zero, List.set_cons_succ]) (hCont (.slice Ao51 t260.length co51, v264, v267) _ ⟨hHeld, (by (with_reducible repeat (first | apply Kd.R_alloc | apply Kd.R_drewN | apply Kd.R_drew)); exact Kd.R_mono HO262.out (fun _ hk => ⟨hk.2, hk.1⟩)), (by (with_reducible repeat (first | apply Kd.R_alloc | apply Kd.R_drewN | apply Kd.R_drew)); exact Kd.R_mono HO265.out (fun _ hk => ⟨hk.2, hk.1⟩)), (by (with_reducible repeat (first | apply Kd.R_alloc | apply Kd.R_drewN | apply Kd.R_drew)); exact HO268.out), (by (with_reducible repeat (first | refine blk_drewN ?_ _ | refine blk_drew ?_ | refine blk_alloc ?_ _)); exact BK225.out), (by (with_reducible repeat (first | refine blk_drewN ?_ _ | refine blk_drew ?_ | refine blk_alloc ?_ _)); exact BK259.out), (by repeat (first | (with_reducible first | exact HB.out | apply below_alloc | apply pw_below_drewN | apply below_drew1 | refine below_set ?_ GE225.out | refine below_set ?_ GE259.out) | exact HB.out))⟩)
               rintro ⟨v261, v264, v267⟩ w52 ⟨hS_, h0_, h1_, h2_, h3_, h4_, h5_⟩
               have n0_ : Aside0 (Kd.R (Kd.int .u8) 5 w52 w.heap.size (fun k_ => some k_ ≠ (v264 : Value).ownBlock ∧ some k_ ≠ (v267 : Value).ownBlock) v261 t260) := ⟨h0_⟩
               have n1_ : Aside0 (Kd.R (Kd.int .u8) 5 w52 w.heap.size (fun k_ => some k_ ≠ (v261 : Value).ownBlock ∧ some k_ ≠ (v267 : Value).ownBlock) v264 y263) := ⟨h1_⟩
               have n2_ : Aside0 (Kd.R (Kd.int .u8) 5 w52 w.heap.size (fun k_ => some k_ ≠ (v261 : Value).ownBlock ∧ some k_ ≠ (v264 : Value).ownBlock) v267 y266) := ⟨h2_⟩
               have n3_ : Aside0 (w52.heap[gb225]? = some (.cells #[.int .i64 a0_0, .string a0_1, .slice (some ad258) l0_2.length c0_2] 45 (0, 0))) := ⟨h3_⟩
               have n4_ : Aside0 (w52.heap[gb259]? = some (.cells #[.int .i64 ((rd_T72 l0_2 x5_1).f0), .bool true, .int .i64 ((rd_T72 l0_2 x5_1).f2), .int .u32 ((rd_T72 l0_2 x5_1).f3)] 72 (0, 0))) := ⟨h4_⟩
               have n5_ : Aside0 (Below w.heap.size w w52) := ⟨h5_⟩
               clear HO_4
               clear BK225
               clear BK259
               clear HB
               clear h0_ h1_ h2_ h3_ h4_ h5_
               have HO262 := n0_
               have HO265 := n1_
               have HO268 := n2_
               have BK225 := n3_
               have BK259 := n4_
               have HB := n5_
               clear n0_ n1_ n2_ n3_ n4_ n5_
               have hHeld : w52.cell? ⟨gb259, 0, none⟩ = some (.int .i64 ((rd_T72 l0_2 x5_1).f0)) ∧ w52.cell? ⟨gb259, 1, none⟩ = some (.bool true) ∧ w52.cell? ⟨gb259, 2, none⟩ = some (.int .i64 ((rd_T72 l0_2 x5_1).f2)) ∧ w52.cell? ⟨gb259, 3, none⟩ = some (.int .u32 ((rd_T72 l0_2 x5_1).f3)) := hS_
               obtain ⟨Ao54, co54, eo54⟩ := Kd.R_slice HO268.out
               (first | subst eo54 | (injection eo54 with f1_ f2_ f3_; have f4_ := f1_.symm; have f5_ := f3_.symm; clear f1_ f2_ f3_; subst f4_; subst f5_))
               refine norm_ (a' := ?_) ?_ ?_
               rotate_left
               ·simp only [putAll, Act.put, List.setIfInBounds_toArray, List.set_cons_zero, List.set_cons_succ]
                rfl
               refine one_ (i := 7) (N := some 54) #[true, true, true, true, true, true, true, true, true, true, false, false, true, true, false, false, false] rfl rfl (one_of HT_.out (by kernel_rfl)) (by decide) (fun K hK => ?_)
               refine Kd.R_append_rows_step (Kd.int .u8) (w0 := w) w.heap.size (by rfl) (.tmp 51) (.tmp 53) 22 5 (.int .u8 0) 1 rfl Try.underlying22 info5 rfl (by decide) (by omega) v264 y263 y266 _ _ _ (fun k_ => some k_ ≠ (v261 : Value).ownBlock ∧ some k_ ≠ (.slice Ao54 y266.length co54 : Value).ownBlock) (fun _ => False) rfl rfl ?aO ?aR (fun _ _ h => h) (fun _ h => h.elim) ?aF ?aB ?aS ?aL ?_
               (case aR => repeat (first | exact (Kd.R_reads' HO268.out).2.2 | (with_reducible refine Kd.C_alloc ?_ _) | (with_reducible refine Kd.C_drewN ?_ _) | (with_reducible refine Kd.C_drew ?_)))
               (case aB => exact (by repeat (first | (with_reducible first | exact HB.out | apply below_alloc | apply pw_below_drewN | apply below_drew1 | refine below_set ?_ GE225.out | refine below_set ?_ GE259.out) | exact HB.out)))
               (case aF => exact (fun k_ hk => ⟨Kd.fresh' (Kd.R_lt (by (with_reducible repeat (first | apply Kd.R_alloc | apply Kd.R_drewN | apply Kd.R_drew)); exact HO262.out)) k_ hk, Kd.fresh' (Kd.R_lt (by (with_reducible repeat (first | apply Kd.R_alloc | apply Kd.R_drewN | apply Kd.R_drew)); exact HO268.out)) k_ hk⟩))
               (case aO => exact (by (with_reducible repeat (first | apply Kd.R_alloc | apply Kd.R_drewN | apply Kd.R_drew)); exact HO265.out))
               (case aS => exact (below_size (by repeat (first | (with_reducible first | exact HB.out | apply below_alloc | apply pw_below_drewN | apply below_drew1 | refine below_set ?_ GE225.out | refine below_set ?_ GE259.out) | exact HB.out))))
               (case aL => have := LMc35.out; omega)
               intro v270 w53 ho hb hg hat
               rw [← Ny269.out] at ho
               have n0_ := Aside0.mk (blk_grown (g := gb225) (o := .cells #[.int .i64 a0_0, .string a0_1, .slice (some ad258) l0_2.length c0_2] 45 (0, 0)) (by (with_reducible repeat (first | refine blk_drewN ?_ _ | refine blk_drew ?_ | refine blk_alloc ?_ _)); exact BK225.out) hg (Kd.R_ne HO265.out BK225.out (by decide)))
               have n1_ := Aside0.mk (blk_grown (g := gb259) (o := .cells #[.int .i64 ((rd_T72 l0_2 x5_1).f0), .bool true, .int .i64 ((rd_T72 l0_2 x5_1).f2), .int .u32 ((rd_T72 l0_2 x5_1).f3)] 72 (0, 0)) (by (with_reducible repeat (first | refine blk_drewN ?_ _ | refine blk_drew ?_ | refine blk_alloc ?_ _)); exact BK259.out) hg (Kd.R_ne HO265.out BK259.out (by decide)))
               have n2_ := Aside0.mk (Kd.R_after (ok := (fun k_ => some k_ ≠ (.slice Ao54 y266.length co54 : Value).ownBlock)) (by (with_reducible repeat (first | apply Kd.R_alloc | apply Kd.R_drewN | apply Kd.R_drew)); exact Kd.R_mono HO262.out (fun _ hk => ⟨hk.2, hk.1⟩)) hg hat)
               have n3_ := Aside0.mk (Kd.R_after (ok := (fun k_ => some k_ ≠ (v261 : Value).ownBlock)) (by (with_reducible repeat (first | apply Kd.R_alloc | apply Kd.R_drewN | apply Kd.R_drew)); exact HO268.out) hg hat)
               have n4_ := Aside0.mk (hb)
               have n5_ := Aside0.mk (ho)
               clear BK225
               clear BK259
               clear HO262
               clear HO268
               clear HB
               clear HO265
               have BK225 := n0_
               have BK259 := n1_
               have HO262 := n2_
               have HO268 := n3_
               have HB := n4_
               have HO271 := n5_
               clear n0_ n1_ n2_ n3_ n4_ n5_
               clear ho hb hg hat
               refine hK.out _ _ ⟨(blk_cell BK259.out 0).trans rfl, (blk_cell BK259.out 1).trans rfl, (blk_cell BK259.out 2).trans rfl, (blk_cell BK259.out 3).trans rfl⟩ (fun hHeld => ?_)
               clear hK K
               refine norm_ (a' := ?_) ?_ ?_
               rotate_left
               ·show Act.put _ (some 54) _ = _
                simp only [Act.put, List.setIfInBounds_toArray, List.set_cons_zero, List.set_cons_succ, i64_w, i32_w]
                rfl
               refine one_ (i := 10) (N := some 57) #[true, true, true, true, true, true, true, true, true, true, true, false, true, true, false, false, false] rfl rfl (one_of HT_.out (by kernel_rfl)) (by decide) (fun K hK => ?_)
               refine goes_ Try.func51 (by kernel_rfl) rfl #[.int .i64 ((rd_T72 l0_2 x5_1).f2), .int .i64 4] (by rfl) rfl rfl (by (try simp only [List.map_toArray, List.map_cons, List.map_nil]); first | done | rfl | (simp only [List.length_drop, List.length_take]; rfl)) ?_
               with_reducible refine (strongboxref4_little.calls k1 ((rd_T72 l0_2 x5_1).f2) 4 t272 _ A36.out).mono ?_
               rintro e w55 ⟨v273, rfl, ho0, hb⟩
               refine ⟨_, rfl, ?_⟩
               have n0_ := Aside0.mk (Kd.R_elder' (by (with_reducible repeat (first | apply Kd.R_alloc | apply Kd.R_drewN | apply Kd.R_drew)); exact HO262.out) (Kd.R_base ho0) hb)
               have n1_ := Aside0.mk (Kd.R_elder' (by (with_reducible repeat (first | apply Kd.R_alloc | apply Kd.R_drewN | apply Kd.R_drew)); exact HO268.out) (Kd.R_base ho0) hb)
               have n2_ := Aside0.mk (Kd.R_elder' (by (with_reducible repeat (first | apply Kd.R_alloc | apply Kd.R_drewN | apply Kd.R_drew)); exact HO271.out) (Kd.R_base ho0) hb)
               have n3_ := Aside0.mk (Kd.R_lower (Kd.R_new' (Kd.R_new' (Kd.R_new' ho0 (Kd.R_lt (by (with_reducible repeat (first | apply Kd.R_alloc | apply Kd.R_drewN | apply Kd.R_drew)); exact HO262.out))) (Kd.R_lt (by (with_reducible repeat (first | apply Kd.R_alloc | apply Kd.R_drewN | apply Kd.R_drew)); exact HO268.out))) (Kd.R_lt (by (with_reducible repeat (first | apply Kd.R_alloc | apply Kd.R_drewN | apply Kd.R_drew)); exact HO271.out))) (below_size (by repeat (first | (with_reducible first | exact HB.out | apply below_alloc | apply pw_below_drewN | apply below_drew1 | refine below_set ?_ GE225.out | refine below_set ?_ GE259.out) | exact HB.out))))
               have n4_ := Aside0.mk (blk_below (g := gb225) (o := .cells #[.int .i64 a0_0, .string a0_1, .slice (some ad258) l0_2.length c0_2] 45 (0, 0)) (by (with_reducible repeat (first | refine blk_drewN ?_ _ | refine blk_drew ?_ | refine blk_alloc ?_ _)); exact BK225.out) hb)
               have n5_ := Aside0.mk (blk_below (g := gb259) (o := .cells #[.int .i64 ((rd_T72 l0_2 x5_1).f0), .bool true, .int .i64 ((rd_T72 l0_2 x5_1).f2), .int .u32 ((rd_T72 l0_2 x5_1).f3)] 72 (0, 0)) (by (with_reducible repeat (first | refine blk_drewN ?_ _ | refine blk_drew ?_ | refine blk_alloc ?_ _)); exact BK259.out) hb)
               have n6_ := Aside0.mk (below_step (by repeat (first | (with_reducible first | exact HB.out | apply below_alloc | apply pw_below_drewN | apply below_drew1 | refine below_set ?_ GE225.out | refine below_set ?_ GE259.out) | exact HB.out)) hb)
               clear HO262
               clear HO268
               clear HO271
               clear BK225
               clear BK259
               clear HB
               have HO262 := n0_
               have HO268 := n1_
               have HO271 := n2_
               have HO274 := n3_
               have BK225 := n4_
               have BK259 := n5_
               have HB := n6_
               clear n0_ n1_ n2_ n3_ n4_ n5_ n6_
               (try clear hb)
               (try clear hb2)
               (try clear hk)
               (try clear hi)
               (try clear ho0)
               obtain ⟨Ao57, co57, eo57⟩ := Kd.R_slice HO274.out
               (first | subst eo57 | (injection eo57 with f1_ f2_ f3_; have f4_ := f1_.symm; have f5_ := f3_.symm; clear f1_ f2_ f3_; subst f4_; subst f5_))
               refine hK.out _ _ ⟨(blk_cell BK259.out 0).trans rfl, (blk_cell BK259.out 1).trans rfl, (blk_cell BK259.out 2).trans rfl, (blk_cell BK259.out 3).trans rfl⟩ (fun hHeld => ?_)
               clear hK K
               refine norm_ (a' := ?_) ?_ ?_
               rotate_left
               ·show Act.put _ (some 57) _ = _
                simp only [Act.put, List.setIfInBounds_toArray, List.set_cons_zero, List.set_cons_succ, i64_w, i32_w]
                rfl
               refine one_ (i := 11) (N := some 58) #[true, true, true, true, true, true, true, true, true, true, true, true, true, true, false, false, false] rfl rfl (one_of HT_.out (by kernel_rfl)) (by decide) (fun K hK => ?_)
               refine Kd.R_append_rows_step (Kd.int .u8) (w0 := w) w.heap.size (by rfl) (.tmp 54) (.tmp 57) 22 5 (.int .u8 0) 1 rfl Try.underlying22 info5 rfl (by decide) (by omega) v270 y269 t272 _ _ _ (fun k_ => some k_ ≠ (v261 : Value).ownBlock ∧ some k_ ≠ (.slice Ao54 y266.length co54 : Value).ownBlock ∧ some k_ ≠ (.slice Ao57 t272.length co57 : Value).ownBlock) (fun _ => False) rfl rfl ?aO ?aR (fun _ _ h => h) (fun _ h => h.elim) ?aF ?aB ?aS ?aL ?_
               (case aR => repeat (first | exact (Kd.R_reads' HO274.out).2.2 | (with_reducible refine Kd.C_alloc ?_ _) | (with_reducible refine Kd.C_drewN ?_ _) | (with_reducible refine Kd.C_drew ?_)))
               (case aB => exact (by repeat (first | (with_reducible first | exact HB.out | apply below_alloc | apply pw_below_drewN | apply below_drew1 | refine below_set ?_ GE225.out | refine below_set ?_ GE259.out) | exact HB.out)))
               (case aF => exact (fun k_ hk => ⟨Kd.fresh' (Kd.R_lt (by (with_reducible repeat (first | apply Kd.R_alloc | apply Kd.R_drewN | apply Kd.R_drew)); exact HO262.out)) k_ hk, Kd.fresh' (Kd.R_lt (by (with_reducible repeat (first | apply Kd.R_alloc | apply Kd.R_drewN | apply Kd.R_drew)); exact HO268.out)) k_ hk, Kd.fresh' (Kd.R_lt (by (with_reducible repeat (first | apply Kd.R_alloc | apply Kd.R_drewN | apply Kd.R_drew)); exact HO274.out)) k_ hk⟩))
               (case aO => exact (by (with_reducible repeat (first | apply Kd.R_alloc | apply Kd.R_drewN | apply Kd.R_drew)); exact Kd.R_mono HO271.out (fun _ hk => ⟨hk.1.1, ⟨hk.1.2, hk.2⟩⟩)))
               (case aS => exact (below_size (by repeat (first | (with_reducible first | exact HB.out | apply below_alloc | apply pw_below_drewN | apply below_drew1 | refine below_set ?_ GE225.out | refine below_set ?_ GE259.out) | exact HB.out))))
               (case aL => have := LMc37.out; omega)
               intro v276 w56 ho hb hg hat
               rw [← Ny275.out] at ho
               have n0_ := Aside0.mk (blk_grown (g := gb225) (o := .cells #[.int .i64 a0_0, .string a0_1, .slice (some ad258) l0_2.length c0_2] 45 (0, 0)) (by (with_reducible repeat (first | refine blk_drewN ?_ _ | refine blk_drew ?_ | refine blk_alloc ?_ _)); exact BK225.out) hg (Kd.R_ne HO271.out BK225.out (by decide)))
               have n1_ := Aside0.mk (blk_grown (g := gb259) (o := .cells #[.int .i64 ((rd_T72 l0_2 x5_1).f0), .bool true, .int .i64 ((rd_T72 l0_2 x5_1).f2), .int .u32 ((rd_T72 l0_2 x5_1).f3)] 72 (0, 0)) (by (with_reducible repeat (first | refine blk_drewN ?_ _ | refine blk_drew ?_ | refine blk_alloc ?_ _)); exact BK259.out) hg (Kd.R_ne HO271.out BK259.out (by decide)))
               have n2_ := Aside0.mk (Kd.R_after (ok := (fun k_ => some k_ ≠ (.slice Ao54 y266.length co54 : Value).ownBlock ∧ some k_ ≠ (.slice Ao57 t272.length co57 : Value).ownBlock)) (by (with_reducible repeat (first | apply Kd.R_alloc | apply Kd.R_drewN | apply Kd.R_drew)); exact Kd.R_mono HO262.out (fun _ hk => ⟨⟨hk.1.1, hk.2⟩, hk.1.2⟩)) hg hat)
               have n3_ := Aside0.mk (Kd.R_after (ok := (fun k_ => some k_ ≠ (v261 : Value).ownBlock ∧ some k_ ≠ (.slice Ao57 t272.length co57 : Value).ownBlock)) (by (with_reducible repeat (first | apply Kd.R_alloc | apply Kd.R_drewN | apply Kd.R_drew)); exact Kd.R_mono HO268.out (fun _ hk => ⟨⟨hk.1.1, hk.2⟩, hk.1.2⟩)) hg hat)
               have n4_ := Aside0.mk (Kd.R_after (ok := (fun k_ => some k_ ≠ (v261 : Value).ownBlock ∧ some k_ ≠ (.slice Ao54 y266.length co54 : Value).ownBlock)) (by (with_reducible repeat (first | apply Kd.R_alloc | apply Kd.R_drewN | apply Kd.R_drew)); exact Kd.R_mono HO274.out (fun _ hk => ⟨⟨hk.1.1.2, hk.1.2⟩, hk.2⟩)) hg hat)
               have n5_ := Aside0.mk (hb)
               have n6_ := Aside0.mk (ho)
               clear BK225
               clear BK259
               clear HO262
               clear HO268
               clear HO274
               clear HB
               clear HO271
               have BK225 := n0_
               have BK259 := n1_
               have HO262 := n2_
               have HO268 := n3_
               have HO274 := n4_
               have HB := n5_
               have HO277 := n6_
               clear n0_ n1_ n2_ n3_ n4_ n5_ n6_
               clear ho hb hg hat
               refine hK.out _ _ ⟨(blk_cell BK259.out 0).trans rfl, (blk_cell BK259.out 1).trans rfl, (blk_cell BK259.out 2).trans rfl, (blk_cell BK259.out 3).trans rfl⟩ (fun hHeld => ?_)
               clear hK K
               refine norm_ (a' := ?_) ?_ ?_
               rotate_left
               ·show Act.put _ (some 58) _ = _
                simp only [Act.put, List.setIfInBounds_toArray, List.set_cons_zero, List.set_cons_succ, i64_w, i32_w]
                rfl
               refine one_ (i := 14) (N := some 61) #[true, true, true, true, true, true, true, true, true, true, true, true, true, true, true, false, false] rfl rfl (one_of HT_.out (by kernel_rfl)) (by decide) (fun K hK => ?_)
               refine goes_ Try.func19 (by kernel_rfl) rfl #[.int .u32 ((rd_T72 l0_2 x5_1).f3)] (by rfl) rfl rfl (by (try simp only [List.map_toArray, List.map_cons, List.map_nil]); first | done | rfl | (simp only [List.length_drop, List.length_take]; rfl)) ?_
               with_reducible refine (strongboxref4_Bytes.calls k1 ((rd_T72 l0_2 x5_1).f3) t278 _ A38.out).mono ?_
               rintro e w58 ⟨v279, rfl, ho0, hb⟩
               refine ⟨_, rfl, ?_⟩
               have n0_ := Aside0.mk (Kd.R_elder' (by (with_reducible repeat (first | apply Kd.R_alloc | apply Kd.R_drewN | apply Kd.R_drew)); exact HO262.out) (Kd.R_base ho0) hb)
               have n1_ := Aside0.mk (Kd.R_elder' (by (with_reducible repeat (first | apply Kd.R_alloc | apply Kd.R_drewN | apply Kd.R_drew)); exact HO268.out) (Kd.R_base ho0) hb)
               have n2_ := Aside0.mk (Kd.R_elder' (by (with_reducible repeat (first | apply Kd.R_alloc | apply Kd.R_drewN | apply Kd.R_drew)); exact HO274.out) (Kd.R_base ho0) hb)
               have n3_ := Aside0.mk (Kd.R_elder' (by (with_reducible repeat (first | apply Kd.R_alloc | apply Kd.R_drewN | apply Kd.R_drew)); exact HO277.out) (Kd.R_base ho0) hb)
               have n4_ := Aside0.mk (Kd.R_lower (Kd.R_new' (Kd.R_new' (Kd.R_new' (Kd.R_new' ho0 (Kd.R_lt (by (with_reducible repeat (first | apply Kd.R_alloc | apply Kd.R_drewN | apply Kd.R_drew)); exact HO262.out))) (Kd.R_lt (by (with_reducible repeat (first | apply Kd.R_alloc | apply Kd.R_drewN | apply Kd.R_drew)); exact HO268.out))) (Kd.R_lt (by (with_reducible repeat (first | apply Kd.R_alloc | apply Kd.R_drewN | apply Kd.R_drew)); exact HO274.out))) (Kd.R_lt (by (with_reducible repeat (first | apply Kd.R_alloc | apply Kd.R_drewN | apply Kd.R_drew)); exact HO277.out))) (below_size (by repeat (first | (with_reducible first | exact HB.out | apply below_alloc | apply pw_below_drewN | apply below_drew1 | refine below_set ?_ GE225.out | refine below_set ?_ GE259.out) | exact HB.out))))
               have n5_ := Aside0.mk (blk_below (g := gb225) (o := .cells #[.int .i64 a0_0, .string a0_1, .slice (some ad258) l0_2.length c0_2] 45 (0, 0)) (by (with_reducible repeat (first | refine blk_drewN ?_ _ | refine blk_drew ?_ | refine blk_alloc ?_ _)); exact BK225.out) hb)
               have n6_ := Aside0.mk (blk_below (g := gb259) (o := .cells #[.int .i64 ((rd_T72 l0_2 x5_1).f0), .bool true, .int .i64 ((rd_T72 l0_2 x5_1).f2), .int .u32 ((rd_T72 l0_2 x5_1).f3)] 72 (0, 0)) (by (with_reducible repeat (first | refine blk_drewN ?_ _ | refine blk_drew ?_ | refine blk_alloc ?_ _)); exact BK259.out) hb)
               have n7_ := Aside0.mk (below_step (by repeat (first | (with_reducible first | exact HB.out | apply below_alloc | apply pw_below_drewN | apply below_drew1 | refine below_set ?_ GE225.out | refine below_set ?_ GE259.out) | exact HB.out)) hb)
               clear HO262
               clear HO268
               clear HO274
               clear HO277
               clear BK225
               clear BK259
               clear HB
               have HO262 := n0_
               have HO268 := n1_
               have HO274 := n2_
               have HO277 := n3_
               have HO280 := n4_
               have BK225 := n5_
               have BK259 := n6_
               have HB := n7_
               clear n0_ n1_ n2_ n3_ n4_ n5_ n6_ n7_
               (try clear hb)
               (try clear hb2)
               (try clear hk)
               (try clear hi)
               (try clear ho0)
               obtain ⟨Ao60, co60, eo60⟩ := Kd.R_slice HO280.out
               (first | subst eo60 | (injection eo60 with f1_ f2_ f3_; have f4_ := f1_.symm; have f5_ := f3_.symm; clear f1_ f2_ f3_; subst f4_; subst f5_))
               refine hK.out _ _ ⟨(blk_cell BK259.out 0).trans rfl, (blk_cell BK259.out 1).trans rfl, (blk_cell BK259.out 2).trans rfl, (blk_cell BK259.out 3).trans rfl⟩ (fun hHeld => ?_)
               clear hK K
               refine norm_ (a' := ?_) ?_ ?_
               rotate_left
               ·show Act.put _ (some 61) _ = _
                simp only [Act.put, List.setIfInBounds_toArray, List.set_cons_zero, List.set_cons_succ, i64_w, i32_w]
                rfl
               refine one_ (i := 15) (N := some 62) #[true, true, true, true, true, true, true, true, true, true, true, true, true, true, true, true, false] rfl rfl (one_of HT_.out (by kernel_rfl)) (by decide) (fun K hK => ?_)
               refine Kd.R_append_rows_step (Kd.int .u8) (w0 := w) w.heap.size (by rfl) (.tmp 58) (.tmp 61) 22 5 (.int .u8 0) 1 rfl Try.underlying22 info5 rfl (by decide) (by omega) v276 y275 t278 _ _ _ (fun k_ => some k_ ≠ (v261 : Value).ownBlock ∧ some k_ ≠ (.slice Ao54 y266.length co54 : Value).ownBlock ∧ some k_ ≠ (.slice Ao57 t272.length co57 : Value).ownBlock ∧ some k_ ≠ (.slice Ao60 t278.length co60 : Value).ownBlock) (fun _ => False) rfl rfl ?aO ?aR (fun _ _ h => h) (fun _ h => h.elim) ?aF ?aB ?aS ?aL ?_
               (case aR => repeat (first | exact (Kd.R_reads' HO280.out).2.2 | (with_reducible refine Kd.C_alloc ?_ _) | (with_reducible refine Kd.C_drewN ?_ _) | (with_reducible refine Kd.C_drew ?_)))
               (case aB => exact (by repeat (first | (with_reducible first | exact HB.out | apply below_alloc | apply pw_below_drewN | apply below_drew1 | refine below_set ?_ GE225.out | refine below_set ?_ GE259.out) | exact HB.out)))
               (case aF => exact (fun k_ hk => ⟨Kd.fresh' (Kd.R_lt (by (with_reducible repeat (first | apply Kd.R_alloc | apply Kd.R_drewN | apply Kd.R_drew)); exact HO262.out)) k_ hk, Kd.fresh' (Kd.R_lt (by (with_reducible repeat (first | apply Kd.R_alloc | apply Kd.R_drewN | apply Kd.R_drew)); exact HO268.out)) k_ hk, Kd.fresh' (Kd.R_lt (by (with_reducible repeat (first | apply Kd.R_alloc | apply Kd.R_drewN | apply Kd.R_drew)); exact HO274.out)) k_ hk, Kd.fresh' (Kd.R_lt (by (with_reducible repeat (first | apply Kd.R_alloc | apply Kd.R_drewN | apply Kd.R_drew)); exact HO280.out)) k_ hk⟩))
               (case aO => exact (by (with_reducible repeat (first | apply Kd.R_alloc | apply Kd.R_drewN | apply Kd.R_drew)); exact Kd.R_mono HO277.out (fun _ hk => ⟨hk.1.1, ⟨hk.1.2.1, ⟨hk.1.2.2, hk.2⟩⟩⟩)))
               (case aS => exact (below_size (by repeat (first | (with_reducible first | exact HB.out | apply below_alloc | apply pw_below_drewN | apply below_drew1 | refine below_set ?_ GE225.out | refine below_set ?_ GE259.out) | exact HB.out))))
               (case aL => have := LMc39.out; omega)
               intro v282 w59 ho hb hg hat
               rw [← Ny281.out] at ho
               have n0_ := Aside0.mk (blk_grown (g := gb225) (o := .cells #[.int .i64 a0_0, .string a0_1, .slice (some ad258) l0_2.length c0_2] 45 (0, 0)) (by (with_reducible repeat (first | refine blk_drewN ?_ _ | refine blk_drew ?_ | refine blk_alloc ?_ _)); exact BK225.out) hg (Kd.R_ne HO277.out BK225.out (by decide)))
               have n1_ := Aside0.mk (blk_grown (g := gb259) (o := .cells #[.int .i64 ((rd_T72 l0_2 x5_1).f0), .bool true, .int .i64 ((rd_T72 l0_2 x5_1).f2), .int .u32 ((rd_T72 l0_2 x5_1).f3)] 72 (0, 0)) (by (with_reducible repeat (first | refine blk_drewN ?_ _ | refine blk_drew ?_ | refine blk_alloc ?_ _)); exact BK259.out) hg (Kd.R_ne HO277.out BK259.out (by decide)))
               have n2_ := Aside0.mk (Kd.R_after (ok := (fun k_ => some k_ ≠ (.slice Ao54 y266.length co54 : Value).ownBlock ∧ some k_ ≠ (.slice Ao57 t272.length co57 : Value).ownBlock ∧ some k_ ≠ (.slice Ao60 t278.length co60 : Value).ownBlock)) (by (with_reducible repeat (first | apply Kd.R_alloc | apply Kd.R_drewN | apply Kd.R_drew)); exact Kd.R_mono HO262.out (fun _ hk => ⟨⟨hk.1.1.1, ⟨hk.1.1.2, hk.2⟩⟩, hk.1.2⟩)) hg hat)
               have n3_ := Aside0.mk (Kd.R_after (ok := (fun k_ => some k_ ≠ (v261 : Value).ownBlock ∧ some k_ ≠ (.slice Ao57 t272.length co57 : Value).ownBlock ∧ some k_ ≠ (.slice Ao60 t278.length co60 : Value).ownBlock)) (by (with_reducible repeat (first | apply Kd.R_alloc | apply Kd.R_drewN | apply Kd.R_drew)); exact Kd.R_mono HO268.out (fun _ hk => ⟨⟨hk.1.1.1, ⟨hk.1.1.2, hk.2⟩⟩, hk.1.2⟩)) hg hat)
               have n4_ := Aside0.mk (Kd.R_after (ok := (fun k_ => some k_ ≠ (v261 : Value).ownBlock ∧ some k_ ≠ (.slice Ao54 y266.length co54 : Value).ownBlock ∧ some k_ ≠ (.slice Ao60 t278.length co60 : Value).ownBlock)) (by (with_reducible repeat (first | apply Kd.R_alloc | apply Kd.R_drewN | apply Kd.R_drew)); exact Kd.R_mono HO274.out (fun _ hk => ⟨⟨hk.1.1.1, ⟨hk.1.1.2, hk.2⟩⟩, hk.1.2⟩)) hg hat)
               have n5_ := Aside0.mk (Kd.R_after (ok := (fun k_ => some k_ ≠ (v261 : Value).ownBlock ∧ some k_ ≠ (.slice Ao54 y266.length co54 : Value).ownBlock ∧ some k_ ≠ (.slice Ao57 t272.length co57 : Value).ownBlock)) (by (with_reducible repeat (first | apply Kd.R_alloc | apply Kd.R_drewN | apply Kd.R_drew)); exact Kd.R_mono HO280.out (fun _ hk => ⟨⟨hk.1.1.1.2, ⟨hk.1.1.2, hk.1.2⟩⟩, hk.2⟩)) hg hat)
               have n6_ := Aside0.mk (hb)
               have n7_ := Aside0.mk (ho)
               clear BK225
               clear BK259
               clear HO262
               clear HO268
               clear HO274
               clear HO280
               clear HB
               clear HO277
               have BK225 := n0_
               have BK259 := n1_
               have HO262 := n2_
               have HO268 := n3_
               have HO274 := n4_
               have HO280 := n5_
               have HB := n6_
               have HO283 := n7_
               clear n0_ n1_ n2_ n3_ n4_ n5_ n6_ n7_
               clear ho hb hg hat
               refine hK.out _ _ ⟨(blk_cell BK259.out 0).trans rfl, (blk_cell BK259.out 1).trans rfl, (blk_cell BK259.out 2).trans rfl, (blk_cell BK259.out 3).trans rfl⟩ (fun hHeld => ?_)
               clear hK K
               refine norm_ (a' := ?_) ?_ ?_
               rotate_left
               ·show Act.put _ (some 62) _ = _
                simp only [Act.put, List.setIfInBounds_toArray, List.set_cons_zero, List.set_cons_succ, i64_w, i32_w]
                rfl
               refine pure_ (i := 16) (N := some 4) (v := ?_) (a' := ?_) #[true, true, true, true, true, true, true, true, true, true, true, true, true, true, true, true, true] rfl rfl (any_of HT_.out (by kernel_rfl)) (fun _ _ _ h => h) (Or.inl ⟨by rfl, ?_⟩) ?_ ?_
               rotate_left
               ·intro w'
                go_simp
                with_reducible rfl
               rotate_left
               ·simp only [Act.put, List.setIfInBounds_toArray, List.set_cons_zero, List.set_cons_succ, i64_w, i32_w]
                rfl
               refine done_ (done_of HT_.out (by kernel_rfl)) ?_
               try go_wp2
               go_roundg k1
               case measure => have := HK1.out; omega
               case rel => exact ⟨(y281), (wrap64 (x5_1 + 1)), (by first | rfl | (simp; done) | (simp [*]; done)), H', ⟨by have := HK1.out; omega⟩, ⟨by (with_reducible repeat (first | apply Kd.R_alloc | apply Kd.R_drewN | apply Kd.R_drew)); exact Kd.R_mono HO283.out (fun _ hk => trivial)⟩, ⟨by (with_reducible repeat (first | refine blk_drewN ?_ _ | refine blk_drew ?_ | refine blk_alloc ?_ _)); exact BK225.out⟩, ⟨by repeat (first | (with_reducible first | exact HB.out | apply below_alloc | apply pw_below_drewN | apply below_drew1 | refine below_set ?_ GE225.out | refine below_set ?_ GE259.out) | exact HB.out)⟩⟩
              ·rw [if_neg c39] at H
               exact absurd H (by simp)
             ·rw [if_neg c37] at H
              exact absurd H (by simp)
            ·rw [if_neg c35] at H
             exact absurd H (by simp)
           ·rw [if_neg c34] at H
            exact absurd H (by simp)
          ·replace c32 := Bool.eq_false_iff.mpr c32
           subst c32
           have H1 : ((strongboxref4_little.f k1 ((rd_T72 l0_2 x5_1).f0) 4).bind fun t284 => (if x4_1.length + t284.length < 140737488355328 then ((some (x4_1 ++ t284 : List Int)).bind fun y287 => ((some (([0] : List Int) : List Int)).bind fun y290 => (if y287.length + y290.length < 140737488355328 then ((some (y287 ++ y290 : List Int)).bind fun y293 => ((strongboxref4_little.f k1 ((rd_T72 l0_2 x5_1).f2) 4).bind fun t296 => (if y293.length + t296.length < 140737488355328 then ((some (y293 ++ t296 : List Int)).bind fun y299 => ((strongboxref4_Bytes.f k1 ((rd_T72 l0_2 x5_1).f3)).bind fun t302 => (if y299.length + t302.length < 140737488355328 then (strongboxref4_Encode.l0 k1 (y299 ++ t302) (wrap64 (x5_1 + 1)) a0_0 a0_1 l0_2) else (none)))) else (none)))) else (none)))) else (none))) = some (r1, r2) := by rw [if_neg (show ¬ (false = true) by decide)] at H; exact H
           clear H
           have H := H1
           clear H1
           replace H := Option.bind_eq_some_iff.mp H
           obtain ⟨t284, A610, H⟩ := H
           replace H : (if x4_1.length + t284.length < 140737488355328 then ((some (x4_1 ++ t284 : List Int)).bind fun y287 => ((some (([0] : List Int) : List Int)).bind fun y290 => (if y287.length + y290.length < 140737488355328 then ((some (y287 ++ y290 : List Int)).bind fun y293 => ((strongboxref4_little.f k1 ((rd_T72 l0_2 x5_1).f2) 4).bind fun t296 => (if y293.length + t296.length < 140737488355328 then ((some (y293 ++ t296 : List Int)).bind fun y299 => ((strongboxref4_Bytes.f k1 ((rd_T72 l0_2 x5_1).f3)).bind fun t302 => (if y299.length + t302.length < 140737488355328 then (strongboxref4_Encode.l0 k1 (y299 ++ t302) (wrap64 (x5_1 + 1)) a0_0 a0_1 l0_2) else (none)))) else (none)))) else (none)))) else (none)) = some (r1, r2) := H
           have A61 := Aside0.mk A610
           clear A610
           by_cases c62 : x4_1.length + t284.length < 140737488355328
           ·rw [if_pos c62] at H
            have LMc62 := Aside0.mk c62
            clear c62
            obtain ⟨y287, hy287⟩ : ∃ y_ : List Int, y_ = (x4_1 ++ t284) := ⟨_, rfl⟩
            replace H : ((some (([0] : List Int) : List Int)).bind fun y290 => (if y287.length + y290.length < 140737488355328 then ((some (y287 ++ y290 : List Int)).bind fun y293 => ((strongboxref4_little.f k1 ((rd_T72 l0_2 x5_1).f2) 4).bind fun t296 => (if y293.length + t296.length < 140737488355328 then ((some (y293 ++ t296 : List Int)).bind fun y299 => ((strongboxref4_Bytes.f k1 ((rd_T72 l0_2 x5_1).f3)).bind fun t302 => (if y299.length + t302.length < 140737488355328 then (strongboxref4_Encode.l0 k1 (y299 ++ t302) (wrap64 (x5_1 + 1)) a0_0 a0_1 l0_2) else (none)))) else (none)))) else (none))) = some (r1, r2) := by first | (rw [hy287]; with_reducible exact H) | (have H2_ := (Option.bind_some _ _).symm.trans H; rw [hy287]; with_reducible exact H2_) | (have H2_ := (Option.bind_some _ _).symm.trans H; with_reducible exact H2_) | with_reducible exact H | (rw [hy287]; exact H) | exact H
            have Ny287 := Aside0.mk hy287
            clear hy287
            obtain ⟨y290, hy290⟩ : ∃ y_ : List Int, y_ = (([0] : List Int)) := ⟨_, rfl⟩
            replace H : (if y287.length + y290.length < 140737488355328 then ((some (y287 ++ y290 : List Int)).bind fun y293 => ((strongboxref4_little.f k1 ((rd_T72 l0_2 x5_1).f2) 4).bind fun t296 => (if y293.length + t296.length < 140737488355328 then ((some (y293 ++ t296 : List Int)).bind fun y299 => ((strongboxref4_Bytes.f k1 ((rd_T72 l0_2 x5_1).f3)).bind fun t302 => (if y299.length + t302.length < 140737488355328 then (strongboxref4_Encode.l0 k1 (y299 ++ t302) (wrap64 (x5_1 + 1)) a0_0 a0_1 l0_2) else (none)))) else (none)))) else (none)) = some (r1, r2) := by first | (rw [hy290]; with_reducible exact H) | (have H2_ := (Option.bind_some _ _).symm.trans H; rw [hy290]; with_reducible exact H2_) | (have H2_ := (Option.bind_some _ _).symm.trans H; with_reducible exact H2_) | with_reducible exact H | (rw [hy290]; exact H) | exact H
            have Ny290 := Aside0.mk hy290
            clear hy290
            by_cases c63 : y287.length + y290.length < 140737488355328
            ·rw [if_pos c63] at H
             have LMc63 := Aside0.mk c63
             clear c63
             obtain ⟨y293, hy293⟩ : ∃ y_ : List Int, y_ = (y287 ++ y290) := ⟨_, rfl⟩
             replace H : ((strongboxref4_little.f k1 ((rd_T72 l0_2 x5_1).f2) 4).bind fun t296 => (if y293.length + t296.length < 140737488355328 then ((some (y293 ++ t296 : List Int)).bind fun y299 => ((strongboxref4_Bytes.f k1 ((rd_T72 l0_2 x5_1).f3)).bind fun t302 => (if y299.length + t302.length < 140737488355328 then (strongboxref4_Encode.l0 k1 (y299 ++ t302) (wrap64 (x5_1 + 1)) a0_0 a0_1 l0_2) else (none)))) else (none))) = some (r1, r2) := by first | (rw [hy293]; with_reducible exact H) | (have H2_ := (Option.bind_some _ _).symm.trans H; rw [hy293]; with_reducible exact H2_) | (have H2_ := (Option.bind_some _ _).symm.trans H; with_reducible exact H2_) | with_reducible exact H | (rw [hy293]; exact H) | exact H
             have Ny293 := Aside0.mk hy293
             clear hy293
             replace H := Option.bind_eq_some_iff.mp H
             obtain ⟨t296, A640, H⟩ := H
             replace H : (if y293.length + t296.length < 140737488355328 then ((some (y293 ++ t296 : List Int)).bind fun y299 => ((strongboxref4_Bytes.f k1 ((rd_T72 l0_2 x5_1).f3)).bind fun t302 => (if y299.length + t302.length < 140737488355328 then (strongboxref4_Encode.l0 k1 (y299 ++ t302) (wrap64 (x5_1 + 1)) a0_0 a0_1 l0_2) else (none)))) else (none)) = some (r1, r2) := H
             have A64 := Aside0.mk A640
             clear A640
             by_cases c65 : y293.length + t296.length < 140737488355328
             ·rw [if_pos c65] at H
              have LMc65 := Aside0.mk c65
              clear c65
              obtain ⟨y299, hy299⟩ : ∃ y_ : List Int, y_ = (y293 ++ t296) := ⟨_, rfl⟩
              replace H : ((strongboxref4_Bytes.f k1 ((rd_T72 l0_2 x5_1).f3)).bind fun t302 => (if y299.length + t302.length < 140737488355328 then (strongboxref4_Encode.l0 k1 (y299 ++ t302) (wrap64 (x5_1 + 1)) a0_0 a0_1 l0_2) else (none))) = some (r1, r2) := by first | (rw [hy299]; with_reducible exact H) | (have H2_ := (Option.bind_some _ _).symm.trans H; rw [hy299]; with_reducible exact H2_) | (have H2_ := (Option.bind_some _ _).symm.trans H; with_reducible exact H2_) | with_reducible exact H | (rw [hy299]; exact H) | exact H
              have Ny299 := Aside0.mk hy299
              clear hy299
              replace H := Option.bind_eq_some_iff.mp H
              obtain ⟨t302, A660, H⟩ := H
              replace H : (if y299.length + t302.length < 140737488355328 then (strongboxref4_Encode.l0 k1 (y299 ++ t302) (wrap64 (x5_1 + 1)) a0_0 a0_1 l0_2) else (none)) = some (r1, r2) := H
              have A66 := Aside0.mk A660
              clear A660
              by_cases c67 : y299.length + t302.length < 140737488355328
              ·rw [if_pos c67] at H
               have LMc67 := Aside0.mk c67
               clear c67
               obtain ⟨y305, hy305⟩ : ∃ y_ : List Int, y_ = (y299 ++ t302) := ⟨_, rfl⟩
               replace H : (strongboxref4_Encode.l0 k1 y305 (wrap64 (x5_1 + 1)) a0_0 a0_1 l0_2) = some (r1, r2) := by first | (rw [hy305]; with_reducible exact H) | (have H2_ := (Option.bind_some _ _).symm.trans H; rw [hy305]; with_reducible exact H2_) | (have H2_ := (Option.bind_some _ _).symm.trans H; with_reducible exact H2_) | with_reducible exact H | (rw [hy305]; exact H) | exact H
               have Ny305 := Aside0.mk hy305
               clear hy305
               have H' := Aside0.mk H
               clear H
               have hcz68_0 : wr.cell? ⟨gb225, 0, none⟩ = some (.int .i64 a0_0) := (blk_cell BK225.out 0).trans rfl
               have hcz68_1 : wr.cell? ⟨gb225, 1, none⟩ = some (.string a0_1) := (blk_cell BK225.out 1).trans rfl
               have hcz68_2 : wr.cell? ⟨gb225, 2, none⟩ = some (.slice A0_2 l0_2.length c0_2) := (blk_cell BK225.out 2).trans rfl
               have hfz68_0 := blk_frozen BK225.out 0
               have hfz68_1 := blk_frozen BK225.out 1
               have hfz68_2 := blk_frozen BK225.out 2
               have p258 : 0 ≤ (x5_1 : Int) := of_decide_eq_true (by first | (with_reducible assumption) | assumption)
               have q258 : x5_1 < (l0_2.length : Int) := of_decide_eq_true (by first | (with_reducible assumption) | assumption)
               obtain ⟨ad258, e258, hx258_0, hx258_1, hx258_2, hx258_3⟩ := at_T72 HR0_2.out x5_1 p258 q258
               (try rw [← Nbq31.out] at hx258_1)
               cases e258
               replace hx258_0 := (HB.out.cell (World.block_lt_of_cell? w _ hx258_0)).trans hx258_0
               replace hx258_1 := (HB.out.cell (World.block_lt_of_cell? w _ hx258_1)).trans hx258_1
               replace hx258_2 := (HB.out.cell (World.block_lt_of_cell? w _ hx258_2)).trans hx258_2
               replace hx258_3 := (HB.out.cell (World.block_lt_of_cell? w _ hx258_3)).trans hx258_3
               replace p258 := eq_true p258
               replace q258 := eq_true q258
               try go_wp2_with (first | ((with_reducible refine gate_dst (N := 6) rfl ?_); refine box_event ?hg (N := 6) ?hd (cs := #[.int .i64 0, .bool false, .int .i64 0, .int .u32 0]) (t := 72) ?hr ?_; (case hd => rfl); (case hg => rfl); (case hr => first | (go_simp; done) | (go_simp; rfl)); intro gb259 hg w69 hbox hb; have n0_ := Aside0.mk (Kd.R_below (by (with_reducible repeat (first | apply Kd.R_alloc | apply Kd.R_drewN | apply Kd.R_drew)); exact HO_4.out) hb); have n1_ := Aside0.mk (blk_below (g := gb225) (o := .cells #[.int .i64 a0_0, .string a0_1, .slice (some ad258) l0_2.length c0_2] 45 (0, 0)) (by (with_reducible repeat (first | refine blk_drewN ?_ _ | refine blk_drew ?_ | refine blk_alloc ?_ _)); exact BK225.out) hb); have n2_ := Aside0.mk (below_step (by repeat (first | (with_reducible first | exact HB.out | apply below_alloc | apply pw_below_drewN | apply below_drew1 | refine below_set ?_ GE225.out) | exact HB.out)) hb); have n3_ := Aside0.mk (hbox); have n4_ := Aside0.mk ((by rw [hg]; exact (below_size (by repeat (first | (with_reducible first | exact HB.out | apply below_alloc | apply pw_below_drewN | apply below_drew1 | refine below_set ?_ GE225.out) | exact HB.out))) : w.heap.size ≤ gb259)); have n5_ := Aside0.mk ((by rw [hg]; exact (below_size (by repeat (first | (with_reducible first | exact HB.out | apply below_alloc | apply pw_below_drewN | apply below_drew1 | refine below_set ?_ GE225.out) | exact HB.out))) : w.heap.size ≤ gb259)); have n6_ := Aside0.mk ((by rw [hg]; exact Nat.ne_of_lt (blk_lt (g := gb225) (o := .cells #[.int .i64 a0_0, .string a0_1, .slice (some ad258) l0_2.length c0_2] 45 (0, 0)) (by (with_reducible repeat (first | refine blk_drewN ?_ _ | refine blk_drew ?_ | refine blk_alloc ?_ _)); exact BK225.out)) : gb225 ≠ gb259)); have n7_ := Aside0.mk ((by rw [hg]; exact Nat.ne_of_gt (blk_lt (g := gb225) (o := .cells #[.int .i64 a0_0, .string a0_1, .slice (some ad258) l0_2.length c0_2] 45 (0, 0)) (by (with_reducible repeat (first | refine blk_drewN ?_ _ | refine blk_drew ?_ | refine blk_alloc ?_ _)); exact BK225.out)) : gb259 ≠ gb225)); clear HO_4; clear BK225; clear HB; have HO_4 := n0_; have BK225 := n1_; have HB := n2_; have BK259 := n3_; have GW259 := n4_; have GE259 := n5_; have NB225_259 := n6_; have NB259_225 := n7_; clear n0_ n1_ n2_ n3_ n4_ n5_ n6_ n7_; clear hb hbox hg; have hnb70 := NB259_225.out; have hnc70 := NB225_259.out; have hcz71_0 : w69.cell? ⟨gb259, 0, none⟩ = some (.int .i64 0) := (blk_cell BK259.out 0).trans rfl; have hcz71_1 : w69.cell? ⟨gb259, 1, none⟩ = some (.bool false) := (blk_cell BK259.out 1).trans rfl; have hcz71_2 : w69.cell? ⟨gb259, 2, none⟩ = some (.int .i64 0) := (blk_cell BK259.out 2).trans rfl; have hcz71_3 : w69.cell? ⟨gb259, 3, none⟩ = some (.int .u32 0) := (blk_cell BK259.out 3).trans rfl; have hfz71_0 := blk_frozen BK259.out 0; have hfz71_1 := blk_frozen BK259.out 1; have hfz71_2 := blk_frozen BK259.out 2; have hfz71_3 := blk_frozen BK259.out 3; obtain ⟨Ao72, co72, eo72⟩ := Kd.R_slice HO_4.out; subst eo72))
               have n0_ : Aside0 (Kd.R (Kd.int .u8) 5 ((((w69.setCell ⟨gb259, 0, none⟩ (.int .i64 ((rd_T72 l0_2 x5_1).f0))).setCell ⟨gb259, 1, none⟩ (.bool false)).setCell ⟨gb259, 2, none⟩ (.int .i64 ((rd_T72 l0_2 x5_1).f2))).setCell ⟨gb259, 3, none⟩ (.int .u32 ((rd_T72 l0_2 x5_1).f3))) w.heap.size (fun _ => True) (.slice Ao72 x4_1.length co72) x4_1) := ⟨by (with_reducible repeat (first | apply Kd.R_alloc | apply Kd.R_drewN | apply Kd.R_drew)); exact Kd.R_mono (Kd.R_far (p := ⟨gb259, 3, none⟩) (Kd.R_far (p := ⟨gb259, 2, none⟩) (Kd.R_far (p := ⟨gb259, 1, none⟩) (Kd.R_far (p := ⟨gb259, 0, none⟩) (Kd.R_types HO_4.out BK259.out (by decide)) (fun _ hk => hk.2) (.int .i64 ((rd_T72 l0_2 x5_1).f0))) (fun _ hk => hk.2) (.bool false)) (fun _ hk => hk.2) (.int .i64 ((rd_T72 l0_2 x5_1).f2))) (fun _ hk => hk.2) (.int .u32 ((rd_T72 l0_2 x5_1).f3))) (fun _ hk => trivial)⟩
               have n1_ : Aside0 (((((w69.setCell ⟨gb259, 0, none⟩ (.int .i64 ((rd_T72 l0_2 x5_1).f0))).setCell ⟨gb259, 1, none⟩ (.bool false)).setCell ⟨gb259, 2, none⟩ (.int .i64 ((rd_T72 l0_2 x5_1).f2))).setCell ⟨gb259, 3, none⟩ (.int .u32 ((rd_T72 l0_2 x5_1).f3))).heap[gb225]? = some (.cells #[.int .i64 a0_0, .string a0_1, .slice (some ad258) l0_2.length c0_2] 45 (0, 0))) := ⟨by (with_reducible repeat (first | refine blk_drewN ?_ _ | refine blk_drew ?_ | refine blk_alloc ?_ _)); refine blk_far ?_ NB225_259.out _; (with_reducible repeat (first | refine blk_drewN ?_ _ | refine blk_drew ?_ | refine blk_alloc ?_ _)); refine blk_far ?_ NB225_259.out _; (with_reducible repeat (first | refine blk_drewN ?_ _ | refine blk_drew ?_ | refine blk_alloc ?_ _)); refine blk_far ?_ NB225_259.out _; (with_reducible repeat (first | refine blk_drewN ?_ _ | refine blk_drew ?_ | refine blk_alloc ?_ _)); refine blk_far ?_ NB225_259.out _; (with_reducible repeat (first | refine blk_drewN ?_ _ | refine blk_drew ?_ | refine blk_alloc ?_ _)); exact BK225.out⟩
               have n2_ : Aside0 (((((w69.setCell ⟨gb259, 0, none⟩ (.int .i64 ((rd_T72 l0_2 x5_1).f0))).setCell ⟨gb259, 1, none⟩ (.bool false)).setCell ⟨gb259, 2, none⟩ (.int .i64 ((rd_T72 l0_2 x5_1).f2))).setCell ⟨gb259, 3, none⟩ (.int .u32 ((rd_T72 l0_2 x5_1).f3))).heap[gb259]? = some (.cells #[.int .i64 ((rd_T72 l0_2 x5_1).f0), .bool false, .int .i64 ((rd_T72 l0_2 x5_1).f2), .int .u32 ((rd_T72 l0_2 x5_1).f3)] 72 (0, 0))) := ⟨by (with_reducible repeat (first | refine blk_drewN ?_ _ | refine blk_drew ?_ | refine blk_alloc ?_ _)); refine blk_put (cs := #[.int .i64 ((rd_T72 l0_2 x5_1).f0), .bool false, .int .i64 ((rd_T72 l0_2 x5_1).f2), .int .u32 0]) ?_ 3 _ rfl; (with_reducible repeat (first | refine blk_drewN ?_ _ | refine blk_drew ?_ | refine blk_alloc ?_ _)); refine blk_put (cs := #[.int .i64 ((rd_T72 l0_2 x5_1).f0), .bool false, .int .i64 0, .int .u32 0]) ?_ 2 _ rfl; (with_reducible repeat (first | refine blk_drewN ?_ _ | refine blk_drew ?_ | refine blk_alloc ?_ _)); refine blk_put (cs := #[.int .i64 ((rd_T72 l0_2 x5_1).f0), .bool false, .int .i64 0, .int .u32 0]) ?_ 1 _ rfl; (with_reducible repeat (first | refine blk_drewN ?_ _ | refine blk_drew ?_ | refine blk_alloc ?_ _)); refine blk_put (cs := #[.int .i64 0, .bool false, .int .i64 0, .int .u32 0]) ?_ 0 _ rfl; (with_reducible repeat (first | refine blk_drewN ?_ _ | refine blk_drew ?_ | refine blk_alloc ?_ _)); exact BK259.out⟩
               have n3_ : Aside0 (Below w.heap.size w ((((w69.setCell ⟨gb259, 0, none⟩ (.int .i64 ((rd_T72 l0_2 x5_1).f0))).setCell ⟨gb259, 1, none⟩ (.bool false)).setCell ⟨gb259, 2, none⟩ (.int .i64 ((rd_T72 l0_2 x5_1).f2))).setCell ⟨gb259, 3, none⟩ (.int .u32 ((rd_T72 l0_2 x5_1).f3)))) := ⟨by repeat (first | (with_reducible first | exact HB.out | apply below_alloc | apply pw_below_drewN | apply below_drew1 | refine below_set ?_ GE225.out | refine below_set ?_ GE259.out) | exact HB.out)⟩
               (try clear HO_4)
               (try clear BK225)
               (try clear BK259)
               (try clear HB)
               generalize ((((w69.setCell ⟨gb259, 0, none⟩ (.int .i64 ((rd_T72 l0_2 x5_1).f0))).setCell ⟨gb259, 1, none⟩ (.bool false)).setCell ⟨gb259, 2, none⟩ (.int .i64 ((rd_T72 l0_2 x5_1).f2))).setCell ⟨gb259, 3, none⟩ (.int .u32 ((rd_T72 l0_2 x5_1).f3))) = w73 at n0_ n1_ n2_ n3_ ⊢
               have HO_4 := n0_
               have BK225 := n1_
               have BK259 := n2_
               have HB := n3_
               clear n0_ n1_ n2_ n3_
               have n0_ := Aside0.mk (Kd.R_drew HO_4.out)
               have n1_ := Aside0.mk (blk_drew BK225.out)
               have n2_ := Aside0.mk (blk_drew BK259.out)
               have n3_ := Aside0.mk (below_drew1 HB.out)
               clear HO_4
               clear BK225
               clear BK259
               clear HB
               have HO_4 := n0_
               have BK225 := n1_
               have BK259 := n2_
               have HB := n3_
               clear n0_ n1_ n2_ n3_
               refine start_ (n := 17) (S := fun w' => w'.cell? ⟨gb259, 0, none⟩ = some (.int .i64 ((rd_T72 l0_2 x5_1).f0)) ∧ w'.cell? ⟨gb259, 1, none⟩ = some (.bool false) ∧ w'.cell? ⟨gb259, 2, none⟩ = some (.int .i64 ((rd_T72 l0_2 x5_1).f2)) ∧ w'.cell? ⟨gb259, 3, none⟩ = some (.int .u32 ((rd_T72 l0_2 x5_1).f3))) (ds := []) #[false, false, false, false, false, false, false, false, false, false, false, false, false, false, false, false, false] (by kernel_rfl) rfl rfl ⟨(blk_cell BK259.out 0).trans rfl, (blk_cell BK259.out 1).trans rfl, (blk_cell BK259.out 2).trans rfl, (blk_cell BK259.out 3).trans rfl⟩ (fun hHeld => ?_); refine with_tabW strongboxref4_Encode.tab13 strongboxref4_Encode.bits13 (fun HT_ HW_ => ?_)
               generalize w73.drew = w74 at HO_4 BK225 BK259 HB hHeld ⊢
               refine pure_ (i := 0) (N := some 47) (v := ?_) (a' := ?_) #[true, false, false, false, false, false, false, false, false, false, false, false, false, false, false, false, false] rfl rfl (any_of HT_.out (by kernel_rfl)) (fun _ _ _ h => h) (Or.inl ⟨by rfl, ?_⟩) ?_ ?_
               rotate_left
               ·intro w'
                go_simp
                with_reducible rfl
               rotate_left
               ·simp only [Act.put, List.setIfInBounds_toArray, List.set_cons_zero, List.set_cons_succ, i64_w, i32_w]
                rfl
               refine pure_ (i := 1) (N := some 48) (v := ?_) (a' := ?_) #[true, true, false, false, false, false, false, false, false, false, false, false, false, false, false, false, false] rfl rfl (any_of HT_.out (by kernel_rfl)) (fun _ _ _ h => h) (Or.inl ⟨by rfl, ?_⟩) ?_ ?_
               rotate_left
               ·intro w'
                go_simp
                with_reducible rfl
               rotate_left
               ·simp only [Act.put, List.setIfInBounds_toArray, List.set_cons_zero, List.set_cons_succ, i64_w, i32_w]
                rfl
               refine pure_ (i := 5) (N := some 52) (v := ?_) (a' := ?_) #[true, true, false, false, false, true, false, false, false, false, false, false, false, false, false, false, false] rfl rfl (any_of HT_.out (by kernel_rfl)) (fun _ _ _ h => h) (Or.inl ⟨by rfl, ?_⟩) ?_ ?_
               rotate_left
               ·intro w'
                go_simp
                with_reducible rfl
               rotate_left
               ·simp only [Act.put, List.setIfInBounds_toArray, List.set_cons_zero, List.set_cons_succ, i64_w, i32_w]
                rfl
               refine pure_ (i := 8) (N := some 55) (v := ?_) (a' := ?_) #[true, true, false, false, false, true, false, false, true, false, false, false, false, false, false, false, false] rfl rfl (any_of HT_.out (by kernel_rfl)) (fun _ _ _ h => h) (Or.inl ⟨by rfl, ?_⟩) ?_ ?_
               rotate_left
               ·intro w'
                go_simp
                with_reducible rfl
               rotate_left
               ·simp only [Act.put, List.setIfInBounds_toArray, List.set_cons_zero, List.set_cons_succ, i64_w, i32_w]
                rfl
               refine pure_ (i := 12) (N := some 59) (v := ?_) (a' := ?_) #[true, true, false, false, false, true, false, false, true, false, false, false, true, false, false, false, false] rfl rfl (any_of HT_.out (by kernel_rfl)) (fun _ _ _ h => h) (Or.inl ⟨by rfl, ?_⟩) ?_ ?_
               rotate_left
               ·intro w'
                go_simp
                with_reducible rfl
               rotate_left
               ·simp only [Act.put, List.setIfInBounds_toArray, List.set_cons_zero, List.set_cons_succ, i64_w, i32_w]
                rfl
               refine take_ (i := 2) (N := some 49) (v := ?_) (a' := ?_) #[true, true, true, false, false, true, false, false, true, false, false, false, true, false, false, false, false] rfl rfl (take_ofW HT_.out HW_.out (by kernel_rfl)) (fun _ _ _ h => h) (Or.inl ⟨by rfl, ?_⟩) hHeld ?_ ?_
               rotate_left
               ·rintro w' ⟨s0, s1, s2, s3⟩
                go_simp
                with_reducible rfl
               rotate_left
               ·simp only [Act.put, List.setIfInBounds_toArray, List.set_cons_zero, List.set_cons_succ, i64_w, i32_w]
                rfl
               refine take_ (i := 9) (N := some 56) (v := ?_) (a' := ?_) #[true, true, true, false, false, true, false, false, true, true, false, false, true, false, false, false, false] rfl rfl (take_ofW HT_.out HW_.out (by kernel_rfl)) (fun _ _ _ h => h) (Or.inl ⟨by rfl, ?_⟩) hHeld ?_ ?_
               rotate_left
               ·rintro w' ⟨s0, s1, s2, s3⟩
                go_simp
                with_reducible rfl
               rotate_left
               ·simp only [Act.put, List.setIfInBounds_toArray, List.set_cons_zero, List.set_cons_succ, i64_w, i32_w]
                rfl
               refine take_ (i := 13) (N := some 60) (v := ?_) (a' := ?_) #[true, true, true, false, false, true, false, false, true, true, false, false, true, true, false, false, false] rfl rfl (take_ofW HT_.out HW_.out (by kernel_rfl)) (fun _ _ _ h => h) (Or.inl ⟨by rfl, ?_⟩) hHeld ?_ ?_
               rotate_left
               ·rintro w' ⟨s0, s1, s2, s3⟩
                go_simp
                with_reducible rfl
               rotate_left
               ·simp only [Act.put, List.setIfInBounds_toArray, List.set_cons_zero, List.set_cons_succ, i64_w, i32_w]
                rfl
               refine join_ (σ := Value × Value × Value) 6 #[true, true, true, true, true, true, true, false, true, true, false, false, true, true, false, false, false] (fun s_ => [(50, s_.1), (51, s_.2.1), (53, s_.2.2)]) (fun s_ w' => (w'.cell? ⟨gb259, 0, none⟩ = some (.int .i64 ((rd_T72 l0_2 x5_1).f0)) ∧ w'.cell? ⟨gb259, 1, none⟩ = some (.bool false) ∧ w'.cell? ⟨gb259, 2, none⟩ = some (.int .i64 ((rd_T72 l0_2 x5_1).f2)) ∧ w'.cell? ⟨gb259, 3, none⟩ = some (.int .u32 ((rd_T72 l0_2 x5_1).f3))) ∧ (Kd.R (Kd.int .u8) 5 w' w.heap.size (fun k_ => some k_ ≠ (s_.2.1 : Value).ownBlock ∧ some k_ ≠ (s_.2.2 : Value).ownBlock) s_.1 t284) ∧ (Kd.R (Kd.int .u8) 5 w' w.heap.size (fun k_ => some k_ ≠ (s_.1 : Value).ownBlock ∧ some k_ ≠ (s_.2.2 : Value).ownBlock) s_.2.1 y287) ∧ (Kd.R (Kd.int .u8) 5 w' w.heap.size (fun k_ => some k_ ≠ (s_.1 : Value).ownBlock ∧ some k_ ≠ (s_.2.1 : Value).ownBlock) s_.2.2 y290) ∧ (w'.heap[gb225]? = some (.cells #[.int .i64 a0_0, .string a0_1, .slice (some ad258) l0_2.length c0_2] 45 (0, 0))) ∧ (w'.heap[gb259]? = some (.cells #[.int .i64 ((rd_T72 l0_2 x5_1).f0), .bool false, .int .i64 ((rd_T72 l0_2 x5_1).f2), .int .u32 ((rd_T72 l0_2 x5_1).f3)] 72 (0, 0))) ∧ (Below w.heap.size w w')) ?_ ?_
               rotate_left
               ·intro hCont
                refine two_ (i := 3) (j := 6) (Ni := some 50) (Nj := some 53) #[true, true, true, true, false, true, false, false, true, true, false, false, true, true, false, false, false] #[true, true, true, false, false, true, true, false, true, true, false, false, true, true, false, false, false] rfl rfl rfl rfl (two_of HT_.out (by kernel_rfl)) (by decide) (by decide) (fun K hK => ?_) (fun K hK => ?_)
                ·skip
                 refine goes_ Try.func51 (by kernel_rfl) rfl #[.int .i64 ((rd_T72 l0_2 x5_1).f0), .int .i64 4] (by rfl) rfl rfl (by (try simp only [List.map_toArray, List.map_cons, List.map_nil]); first | done | rfl | (simp only [List.length_drop, List.length_take]; rfl)) ?_
                 with_reducible refine (strongboxref4_little.calls k1 ((rd_T72 l0_2 x5_1).f0) 4 t284 _ A61.out).mono ?_
                 rintro e w75 ⟨v285, rfl, ho0, hb⟩
                 refine ⟨_, rfl, ?_⟩
                 have n0_ := Aside0.mk (Kd.R_elder' (by (with_reducible repeat (first | apply Kd.R_alloc | apply Kd.R_drewN | apply Kd.R_drew)); exact HO_4.out) (Kd.R_base ho0) hb)
                 have n1_ := Aside0.mk (Kd.R_lower (Kd.R_new' ho0 (Kd.R_lt (by (with_reducible repeat (first | apply Kd.R_alloc | apply Kd.R_drewN | apply Kd.R_drew)); exact HO_4.out))) (below_size (by repeat (first | (with_reducible first | exact HB.out | apply below_alloc | apply pw_below_drewN | apply below_drew1 | refine below_set ?_ GE225.out | refine below_set ?_ GE259.out) | exact HB.out))))
                 have n2_ := Aside0.mk (blk_below (g := gb225) (o := .cells #[.int .i64 a0_0, .string a0_1, .slice (some ad258) l0_2.length c0_2] 45 (0, 0)) (by (with_reducible repeat (first | refine blk_drewN ?_ _ | refine blk_drew ?_ | refine blk_alloc ?_ _)); exact BK225.out) hb)
                 have n3_ := Aside0.mk (blk_below (g := gb259) (o := .cells #[.int .i64 ((rd_T72 l0_2 x5_1).f0), .bool false, .int .i64 ((rd_T72 l0_2 x5_1).f2), .int .u32 ((rd_T72 l0_2 x5_1).f3)] 72 (0, 0)) (by (with_reducible repeat (first | refine blk_drewN ?_ _ | refine blk_drew ?_ | refine blk_alloc ?_ _)); exact BK259.out) hb)
                 have n4_ := Aside0.mk (below_step (by repeat (first | (with_reducible first | exact HB.out | apply below_alloc | apply pw_below_drewN | apply below_drew1 | refine below_set ?_ GE225.out | refine below_set ?_ GE259.out) | exact HB.out)) hb)
                 clear HO_4
                 clear BK225
                 clear BK259
                 clear HB
                 have HO_4 := n0_
                 have HO286 := n1_
                 have BK225 := n2_
                 have BK259 := n3_
                 have HB := n4_
                 clear n0_ n1_ n2_ n3_ n4_
                 (try clear hb)
                 (try clear hb2)
                 (try clear hk)
                 (try clear hi)
                 (try clear ho0)
                 obtain ⟨Ao77, co77, eo77⟩ := Kd.R_slice HO286.out
                 (first | subst eo77 | (injection eo77 with f1_ f2_ f3_; have f4_ := f1_.symm; have f5_ := f3_.symm; clear f1_ f2_ f3_; subst f4_; subst f5_))
                 refine hK.out _ _ ⟨(blk_cell BK259.out 0).trans rfl, (blk_cell BK259.out 1).trans rfl, (blk_cell BK259.out 2).trans rfl, (blk_cell BK259.out 3).trans rfl⟩ (fun hHeld => ?_)
                 clear hK K
                 refine norm_ (a' := ?_) ?_ ?_
                 rotate_left
                 ·show Act.put _ (some 50) _ = _
                  simp only [Act.put, List.setIfInBounds_toArray, List.set_cons_zero, List.set_cons_succ, i64_w, i32_w]
                  rfl
                 refine two_ (i := 4) (j := 6) (Ni := some 51) (Nj := some 53) #[true, true, true, true, true, true, false, false, true, true, false, false, true, true, false, false, false] #[true, true, true, true, false, true, true, false, true, true, false, false, true, true, false, false, false] rfl rfl rfl rfl (two_of HT_.out (by kernel_rfl)) (by decide) (by decide) (fun K hK => ?_) (fun K hK => ?_)
                 ·skip
                  refine Kd.R_append_rows_step (Kd.int .u8) (w0 := w) w.heap.size (by rfl) (.tmp 47) (.tmp 50) 22 5 (.int .u8 0) 1 rfl Try.underlying22 info5 rfl (by decide) (by omega) (.slice Ao72 x4_1.length co72) x4_1 t284 _ _ _ (fun k_ => some k_ ≠ (.slice Ao77 t284.length co77 : Value).ownBlock) (fun _ => False) rfl rfl ?aO ?aR (fun _ _ h => h) (fun _ h => h.elim) ?aF ?aB ?aS ?aL ?_
                  (case aR => repeat (first | exact (Kd.R_reads' HO286.out).2.2 | (with_reducible refine Kd.C_alloc ?_ _) | (with_reducible refine Kd.C_drewN ?_ _) | (with_reducible refine Kd.C_drew ?_)))
                  (case aB => exact (by repeat (first | (with_reducible first | exact HB.out | apply below_alloc | apply pw_below_drewN | apply below_drew1 | refine below_set ?_ GE225.out | refine below_set ?_ GE259.out) | exact HB.out)))
                  (case aF => exact (fun k_ hk => Kd.fresh' (Kd.R_lt (by (with_reducible repeat (first | apply Kd.R_alloc | apply Kd.R_drewN | apply Kd.R_drew)); exact HO286.out)) k_ hk))
                  (case aO => exact (by (with_reducible repeat (first | apply Kd.R_alloc | apply Kd.R_drewN | apply Kd.R_drew)); exact Kd.R_mono HO_4.out (fun _ hk => hk.2)))
                  (case aS => exact (below_size (by repeat (first | (with_reducible first | exact HB.out | apply below_alloc | apply pw_below_drewN | apply below_drew1 | refine below_set ?_ GE225.out | refine below_set ?_ GE259.out) | exact HB.out))))
                  (case aL => have := LMc62.out; omega)
                  intro v288 w76 ho hb hg hat
                  rw [← Ny287.out] at ho
                  have n0_ := Aside0.mk (blk_grown (g := gb225) (o := .cells #[.int .i64 a0_0, .string a0_1, .slice (some ad258) l0_2.length c0_2] 45 (0, 0)) (by (with_reducible repeat (first | refine blk_drewN ?_ _ | refine blk_drew ?_ | refine blk_alloc ?_ _)); exact BK225.out) hg (Kd.R_ne HO_4.out BK225.out (by decide)))
                  have n1_ := Aside0.mk (blk_grown (g := gb259) (o := .cells #[.int .i64 ((rd_T72 l0_2 x5_1).f0), .bool false, .int .i64 ((rd_T72 l0_2 x5_1).f2), .int .u32 ((rd_T72 l0_2 x5_1).f3)] 72 (0, 0)) (by (with_reducible repeat (first | refine blk_drewN ?_ _ | refine blk_drew ?_ | refine blk_alloc ?_ _)); exact BK259.out) hg (Kd.R_ne HO_4.out BK259.out (by decide)))
                  have n2_ := Aside0.mk (Kd.R_after (ok := (fun _ => True)) (by (with_reducible repeat (first | apply Kd.R_alloc | apply Kd.R_drewN | apply Kd.R_drew)); exact HO286.out) hg hat)
                  have n3_ := Aside0.mk (hb)
                  have n4_ := Aside0.mk (ho)
                  clear BK225
                  clear BK259
                  clear HO286
                  clear HB
                  clear HO_4
                  have BK225 := n0_
                  have BK259 := n1_
                  have HO286 := n2_
                  have HB := n3_
                  have HO289 := n4_
                  clear n0_ n1_ n2_ n3_ n4_
                  clear ho hb hg hat
                  refine hK.out _ _ ⟨(blk_cell BK259.out 0).trans rfl, (blk_cell BK259.out 1).trans rfl, (blk_cell BK259.out 2).trans rfl, (blk_cell BK259.out 3).trans rfl⟩ (fun hHeld => ?_)
                  clear hK K
                  refine norm_ (a' := ?_) ?_ ?_
                  rotate_left
                  ·show Act.put _ (some 51) _ = _
                   simp only [Act.put, List.setIfInBounds_toArray, List.set_cons_zero, List.set_cons_succ, i64_w, i32_w]
                   rfl
                  refine one_ (i := 6) (N := some 53) #[true, true, true, true, true, true, true, false, true, true, false, false, true, true, false, false, false] rfl rfl (one_of HT_.out (by kernel_rfl)) (by decide) (fun K hK => ?_)
                  refine Kd.R_lit_step (Kd.int .u8) _ 5 ?hg (N := 53) ?hd (xs := ([0] : List Int)) (inner := [.int .u8 0]) (ok := fun _ => True) (okp := fun _ => True) ?hr ?hp (fun _ hk => hk) trivial (Below.refl _ _) (Nat.le_refl _) (by simp) ?_; (case hd => rfl); (case hg => rfl); (case hr => first | (go_simp; done) | (go_simp; rfl)); (case hp => exact (Reps.one (show Kd.M (Kd.int .u8) _ _ _ 0 [.int .u8 0] from rfl) (Reps.none _ _)))
                  intro v291 w78 ho79 hb hg_ hnew_
                  clear hg_ hnew_
                  (first | rw [← Ny290.out] at ho79 | (simp only [Int.reduceToNat] at ho79; rw [← Ny290.out] at ho79))
                  have n0_ := Aside0.mk (Kd.R_elder' (by (with_reducible repeat (first | apply Kd.R_alloc | apply Kd.R_drewN | apply Kd.R_drew)); exact HO286.out) (Kd.R_base ho79) hb)
                  have n1_ := Aside0.mk (Kd.R_elder' (by (with_reducible repeat (first | apply Kd.R_alloc | apply Kd.R_drewN | apply Kd.R_drew)); exact HO289.out) (Kd.R_base ho79) hb)
                  have n2_ := Aside0.mk (Kd.R_lower (Kd.R_new' (Kd.R_new' ho79 (Kd.R_lt (by (with_reducible repeat (first | apply Kd.R_alloc | apply Kd.R_drewN | apply Kd.R_drew)); exact HO286.out))) (Kd.R_lt (by (with_reducible repeat (first | apply Kd.R_alloc | apply Kd.R_drewN | apply Kd.R_drew)); exact HO289.out))) (below_size (by repeat (first | (with_reducible first | exact HB.out | apply below_alloc | apply pw_below_drewN | apply below_drew1 | refine below_set ?_ GE225.out | refine below_set ?_ GE259.out) | exact HB.out))))
                  have n3_ := Aside0.mk (blk_below (g := gb225) (o := .cells #[.int .i64 a0_0, .string a0_1, .slice (some ad258) l0_2.length c0_2] 45 (0, 0)) (by (with_reducible repeat (first | refine blk_drewN ?_ _ | refine blk_drew ?_ | refine blk_alloc ?_ _)); exact BK225.out) hb)
                  have n4_ := Aside0.mk (blk_below (g := gb259) (o := .cells #[.int .i64 ((rd_T72 l0_2 x5_1).f0), .bool false, .int .i64 ((rd_T72 l0_2 x5_1).f2), .int .u32 ((rd_T72 l0_2 x5_1).f3)] 72 (0, 0)) (by (with_reducible repeat (first | refine blk_drewN ?_ _ | refine blk_drew ?_ | refine blk_alloc ?_ _)); exact BK259.out) hb)
                  have n5_ := Aside0.mk (below_step (by repeat (first | (with_reducible first | exact HB.out | apply below_alloc | apply pw_below_drewN | apply below_drew1 | refine below_set ?_ GE225.out | refine below_set ?_ GE259.out) | exact HB.out)) hb)
                  clear HO286
                  clear HO289
                  clear BK225
                  clear BK259
                  clear HB
                  have HO286 := n0_
                  have HO289 := n1_
                  have HO292 := n2_
                  have BK225 := n3_
                  have BK259 := n4_
                  have HB := n5_
                  clear n0_ n1_ n2_ n3_ n4_ n5_
                  clear hb ho79
                  refine hK.out _ _ ⟨(blk_cell BK259.out 0).trans rfl, (blk_cell BK259.out 1).trans rfl, (blk_cell BK259.out 2).trans rfl, (blk_cell BK259.out 3).trans rfl⟩ (fun hHeld => ?_)
                  clear hK K
                  refine norm_ (a' := ?_) ?_ ?_
                  rotate_left
                  ·show Act.put _ (some 53) _ = _
                   simp only [Act.put, List.setIfInBounds_toArray, List.set_cons_zero, List.set_cons_succ, i64_w, i32_w]
                   rfl
                  exact norm_ (by simp only [putAll, Act.put, List.setIfInBounds_toArray, List.set_cons_zero, List.set_cons_succ]) (hCont (.slice Ao77 t284.length co77, v288, v291) _ ⟨hHeld, (by (with_reducible repeat (first | apply Kd.R_alloc | apply Kd.R_drewN | apply Kd.R_drew)); exact Kd.R_mono HO286.out (fun _ hk => ⟨hk.1.2, hk.2⟩)), (by (with_reducible repeat (first | apply Kd.R_alloc | apply Kd.R_drewN | apply Kd.R_drew)); exact HO289.out), (by (with_reducible repeat (first | apply Kd.R_alloc | apply Kd.R_drewN | apply Kd.R_drew)); exact Kd.R_mono HO292.out (fun _ hk => ⟨hk.1.2, hk.2⟩)), (by (with_reducible repeat (first | refine blk_drewN ?_ _ | refine blk_drew ?_ | refine blk_alloc ?_ _)); exact BK225.out), (by (with_reducible repeat (first | refine blk_drewN ?_ _ | refine blk_drew ?_ | refine blk_alloc ?_ _)); exact BK259.out), (by repeat (first | (with_reducible first | exact HB.out | apply below_alloc | apply pw_below_drewN | apply below_drew1 | refine below_set ?_ GE225.out | refine below_set ?_ GE259.out) | exact HB.out))⟩)
                 ·skip
                  refine Kd.R_lit_step (Kd.int .u8) _ 5 ?hg (N := 53) ?hd (xs := ([0] : List Int)) (inner := [.int .u8 0]) (ok := fun _ => True) (okp := fun _ => True) ?hr ?hp (fun _ hk => hk) trivial (Below.refl _ _) (Nat.le_refl _) (by simp) ?_; (case hd => rfl); (case hg => rfl); (case hr => first | (go_simp; done) | (go_simp; rfl)); (case hp => exact (Reps.one (show Kd.M (Kd.int .u8) _ _ _ 0 [.int .u8 0] from rfl) (Reps.none _ _)))
                  intro v291 w76 ho77 hb hg_ hnew_
                  clear hg_ hnew_
                  (first | rw [← Ny290.out] at ho77 | (simp only [Int.reduceToNat] at ho77; rw [← Ny290.out] at ho77))
                  have n0_ := Aside0.mk (Kd.R_elder' (by (with_reducible repeat (first | apply Kd.R_alloc | apply Kd.R_drewN | apply Kd.R_drew)); exact HO_4.out) (Kd.R_base ho77) hb)
                  have n1_ := Aside0.mk (Kd.R_elder' (by (with_reducible repeat (first | apply Kd.R_alloc | apply Kd.R_drewN | apply Kd.R_drew)); exact HO286.out) (Kd.R_base ho77) hb)
                  have n2_ := Aside0.mk (Kd.R_lower (Kd.R_new' (Kd.R_new' ho77 (Kd.R_lt (by (with_reducible repeat (first | apply Kd.R_alloc | apply Kd.R_drewN | apply Kd.R_drew)); exact HO_4.out))) (Kd.R_lt (by (with_reducible repeat (first | apply Kd.R_alloc | apply Kd.R_drewN | apply Kd.R_drew)); exact HO286.out))) (below_size (by repeat (first | (with_reducible first | exact HB.out | apply below_alloc | apply pw_below_drewN | apply below_drew1 | refine below_set ?_ GE225.out | refine below_set ?_ GE259.out) | exact HB.out))))
                  have n3_ := Aside0.mk (blk_below (g := gb225) (o := .cells #[.int .i64 a0_0, .string a0_1, .slice (some ad258) l0_2.length c0_2] 45 (0, 0)) (by (with_reducible repeat (first | refine blk_drewN ?_ _ | refine blk_drew ?_ | refine blk_alloc ?_ _)); exact BK225.out) hb)
                  have n4_ := Aside0.mk (blk_below (g := gb259) (o := .cells #[.int .i64 ((rd_T72 l0_2 x5_1).f0), .bool false, .int .i64 ((rd_T72 l0_2 x5_1).f2), .int .u32 ((rd_T72 l0_2 x5_1).f3)] 72 (0, 0)) (by (with_reducible repeat (first | refine blk_drewN ?_ _ | refine blk_drew ?_ | refine blk_alloc ?_ _)); exact BK259.out) hb)
                  have n5_ := Aside0.mk (below_step (by repeat (first | (with_reducible first | exact HB.out | apply below_alloc | apply pw_below_drewN | apply below_drew1 | refine below_set ?_ GE225.out | refine below_set ?_ GE259.out) | exact HB.out)) hb)
                  clear HO_4
                  clear HO286
                  clear BK225
                  clear BK259
                  clear HB
                  have HO_4 := n0_
                  have HO286 := n1_
                  have HO292 := n2_
                  have BK225 := n3_
                  have BK259 := n4_
                  have HB := n5_
                  clear n0_ n1_ n2_ n3_ n4_ n5_
                  clear hb ho77
                  obtain ⟨Ao79, co79, eo79⟩ := Kd.R_slice HO286.out
                  (first | subst eo79 | (injection eo79 with f1_ f2_ f3_; have f4_ := f1_.symm; have f5_ := f3_.symm; clear f1_ f2_ f3_; subst f4_; subst f5_))
                  refine hK.out _ _ ⟨(blk_cell BK259.out 0).trans rfl, (blk_cell BK259.out 1).trans rfl, (blk_cell BK259.out 2).trans rfl, (blk_cell BK259.out 3).trans rfl⟩ (fun hHeld => ?_)
                  clear hK K
                  refine norm_ (a' := ?_) ?_ ?_
                  rotate_left
                  ·show Act.put _ (some 53) _ = _
                   simp only [Act.put, List.setIfInBounds_toArray, List.set_cons_zero, List.set_cons_succ, i64_w, i32_w]
                   rfl
                  refine one_ (i := 4) (N := some 51) #[true, true, true, true, true, true, true, false, true, true, false, false, true, true, false, false, false] rfl rfl (one_of HT_.out (by kernel_rfl)) (by decide) (fun K hK => ?_)
                  refine Kd.R_append_rows_step (Kd.int .u8) (w0 := w) w.heap.size (by rfl) (.tmp 47) (.tmp 50) 22 5 (.int .u8 0) 1 rfl Try.underlying22 info5 rfl (by decide) (by omega) (.slice Ao72 x4_1.length co72) x4_1 t284 _ _ _ (fun k_ => some k_ ≠ (.slice Ao79 t284.length co79 : Value).ownBlock ∧ some k_ ≠ (v291 : Value).ownBlock) (fun _ => False) rfl rfl ?aO ?aR (fun _ _ h => h) (fun _ h => h.elim) ?aF ?aB ?aS ?aL ?_
                  (case aR => repeat (first | exact (Kd.R_reads' HO286.out).2.2 | (with_reducible refine Kd.C_alloc ?_ _) | (with_reducible refine Kd.C_drewN ?_ _) | (with_reducible refine Kd.C_drew ?_)))
                  (case aB => exact (by repeat (first | (with_reducible first | exact HB.out | apply below_alloc | apply pw_below_drewN | apply below_drew1 | refine below_set ?_ GE225.out | refine below_set ?_ GE259.out) | exact HB.out)))
                  (case aF => exact (fun k_ hk => ⟨Kd.fresh' (Kd.R_lt (by (with_reducible repeat (first | apply Kd.R_alloc | apply Kd.R_drewN | apply Kd.R_drew)); exact HO286.out)) k_ hk, Kd.fresh' (Kd.R_lt (by (with_reducible repeat (first | apply Kd.R_alloc | apply Kd.R_drewN | apply Kd.R_drew)); exact HO292.out)) k_ hk⟩))
                  (case aO => exact (by (with_reducible repeat (first | apply Kd.R_alloc | apply Kd.R_drewN | apply Kd.R_drew)); exact Kd.R_mono HO_4.out (fun _ hk => ⟨hk.1.2, hk.2⟩)))
                  (case aS => exact (below_size (by repeat (first | (with_reducible first | exact HB.out | apply below_alloc | apply pw_below_drewN | apply below_drew1 | refine below_set ?_ GE225.out | refine below_set ?_ GE259.out) | exact HB.out))))
                  (case aL => have := LMc62.out; omega)
                  intro v288 w78 ho hb hg hat
                  rw [← Ny287.out] at ho
                  have n0_ := Aside0.mk (blk_grown (g := gb225) (o := .cells #[.int .i64 a0_0, .string a0_1, .slice (some ad258) l0_2.length c0_2] 45 (0, 0)) (by (with_reducible repeat (first | refine blk_drewN ?_ _ | refine blk_drew ?_ | refine blk_alloc ?_ _)); exact BK225.out) hg (Kd.R_ne HO_4.out BK225.out (by decide)))
                  have n1_ := Aside0.mk (blk_grown (g := gb259) (o := .cells #[.int .i64 ((rd_T72 l0_2 x5_1).f0), .bool false, .int .i64 ((rd_T72 l0_2 x5_1).f2), .int .u32 ((rd_T72 l0_2 x5_1).f3)] 72 (0, 0)) (by (with_reducible repeat (first | refine blk_drewN ?_ _ | refine blk_drew ?_ | refine blk_alloc ?_ _)); exact BK259.out) hg (Kd.R_ne HO_4.out BK259.out (by decide)))
                  have n2_ := Aside0.mk (Kd.R_after (ok := (fun k_ => some k_ ≠ (v291 : Value).ownBlock)) (by (with_reducible repeat (first | apply Kd.R_alloc | apply Kd.R_drewN | apply Kd.R_drew)); exact Kd.R_mono HO286.out (fun _ hk => ⟨hk.2, hk.1.2⟩)) hg hat)
                  have n3_ := Aside0.mk (Kd.R_after (ok := (fun k_ => some k_ ≠ (.slice Ao79 t284.length co79 : Value).ownBlock)) (by (with_reducible repeat (first | apply Kd.R_alloc | apply Kd.R_drewN | apply Kd.R_drew)); exact Kd.R_mono HO292.out (fun _ hk => ⟨hk.2, hk.1.2⟩)) hg hat)
                  have n4_ := Aside0.mk (hb)
                  have n5_ := Aside0.mk (ho)
                  clear BK225
                  clear BK259
                  clear HO286
                  clear HO292
                  clear HB
                  clear HO_4
                  have BK225 := n0_
                  have BK259 := n1_
                  have HO286 := n2_
                  have HO292 := n3_
                  have HB := n4_
                  have HO289 := n5_
                  clear n0_ n1_ n2_ n3_ n4_ n5_
                  clear ho hb hg hat
                  refine hK.out _ _ ⟨(blk_cell BK259.out 0).trans rfl, (blk_cell BK259.out 1).trans rfl, (blk_cell BK259.out 2).trans rfl, (blk_cell BK259.out 3).trans rfl⟩ (fun hHeld => ?_)
                  clear hK K
                  refine norm_ (a' := ?_) ?_ ?_
                  rotate_left
                  ·show Act.put _ (some 51) _ = _
                   simp only [Act.put, List.setIfInBounds_toArray, List.set_cons_zero, List.set_cons_succ, i64_w, i32_w]
                   rfl
                  exact norm_ (by simp only [putAll, Act.put, List.setIfInBounds_toArray, List.set_cons_zero, List.set_cons_succ]) (hCont (.slice Ao79 t284.length co79, v288, v291) _ ⟨hHeld, (by (with_reducible repeat (first | apply Kd.R_alloc | apply Kd.R_drewN | apply Kd.R_drew)); exact Kd.R_mono HO286.out (fun _ hk => ⟨hk.2, hk.1⟩)), (by (with_reducible repeat (first | apply Kd.R_alloc | apply Kd.R_drewN | apply Kd.R_drew)); exact HO289.out), (by (with_reducible repeat (first | apply Kd.R_alloc | apply Kd.R_drewN | apply Kd.R_drew)); exact HO292.out), (by (with_reducible repeat (first | refine blk_drewN ?_ _ | refine blk_drew ?_ | refine blk_alloc ?_ _)); exact BK225.out), (by (with_reducible repeat (first | refine blk_drewN ?_ _ | refine blk_drew ?_ | refine blk_alloc ?_ _)); exact BK259.out), (by repeat (first | (with_reducible first | exact HB.out | apply below_alloc | apply pw_below_drewN | apply below_drew1 | refine below_set ?_ GE225.out | refine below_set ?_ GE259.out) | exact HB.out))⟩)
                ·skip
                 refine Kd.R_lit_step (Kd.int .u8) _ 5 ?hg (N := 53) ?hd (xs := ([0] : List Int)) (inner := [.int .u8 0]) (ok := fun _ => True) (okp := fun _ => True) ?hr ?hp (fun _ hk => hk) trivial (Below.refl _ _) (Nat.le_refl _) (by simp) ?_; (case hd => rfl); (case hg => rfl); (case hr => first | (go_simp; done) | (go_simp; rfl)); (case hp => exact (Reps.one (show Kd.M (Kd.int .u8) _ _ _ 0 [.int .u8 0] from rfl) (Reps.none _ _)))
                 intro v291 w75 ho76 hb hg_ hnew_
                 clear hg_ hnew_
                 (first | rw [← Ny290.out] at ho76 | (simp only [Int.reduceToNat] at ho76; rw [← Ny290.out] at ho76))
                 have n0_ := Aside0.mk (Kd.R_elder' (by (with_reducible repeat (first | apply Kd.R_alloc | apply Kd.R_drewN | apply Kd.R_drew)); exact HO_4.out) (Kd.R_base ho76) hb)
                 have n1_ := Aside0.mk (Kd.R_lower (Kd.R_new' ho76 (Kd.R_lt (by (with_reducible repeat (first | apply Kd.R_alloc | apply Kd.R_drewN | apply Kd.R_drew)); exact HO_4.out))) (below_size (by repeat (first | (with_reducible first | exact HB.out | apply below_alloc | apply pw_below_drewN | apply below_drew1 | refine below_set ?_ GE225.out | refine below_set ?_ GE259.out) | exact HB.out))))
                 have n2_ := Aside0.mk (blk_below (g := gb225) (o := .cells #[.int .i64 a0_0, .string a0_1, .slice (some ad258) l0_2.length c0_2] 45 (0, 0)) (by (with_reducible repeat (first | refine blk_drewN ?_ _ | refine blk_drew ?_ | refine blk_alloc ?_ _)); exact BK225.out) hb)
                 have n3_ := Aside0.mk (blk_below (g := gb259) (o := .cells #[.int .i64 ((rd_T72 l0_2 x5_1).f0), .bool false, .int .i64 ((rd_T72 l0_2 x5_1).f2), .int .u32 ((rd_T72 l0_2 x5_1).f3)] 72 (0, 0)) (by (with_reducible repeat (first | refine blk_drewN ?_ _ | refine blk_drew ?_ | refine blk_alloc ?_ _)); exact BK259.out) hb)
                 have n4_ := Aside0.mk (below_step (by repeat (first | (with_reducible first | exact HB.out | apply below_alloc | apply pw_below_drewN | apply below_drew1 | refine below_set ?_ GE225.out | refine below_set ?_ GE259.out) | exact HB.out)) hb)
                 clear HO_4
                 clear BK225
                 clear BK259
                 clear HB
                 have HO_4 := n0_
                 have HO292 := n1_
                 have BK225 := n2_
                 have BK259 := n3_
                 have HB := n4_
                 clear n0_ n1_ n2_ n3_ n4_
                 clear hb ho76
                 refine hK.out _ _ ⟨(blk_cell BK259.out 0).trans rfl, (blk_cell BK259.out 1).trans rfl, (blk_cell BK259.out 2).trans rfl, (blk_cell BK259.out 3).trans rfl⟩ (fun hHeld => ?_)
                 clear hK K
                 refine norm_ (a' := ?_) ?_ ?_
                 rotate_left
                 ·show Act.put _ (some 53) _ = _
                  simp only [Act.put, List.setIfInBounds_toArray, List.set_cons_zero, List.set_cons_succ, i64_w, i32_w]
                  rfl
                 refine one_ (i := 3) (N := some 50) #[true, true, true, true, false, true, true, false, true, true, false, false, true, true, false, false, false] rfl rfl (one_of HT_.out (by kernel_rfl)) (by decide) (fun K hK => ?_)
                 refine goes_ Try.func51 (by kernel_rfl) rfl #[.int .i64 ((rd_T72 l0_2 x5_1).f0), .int .i64 4] (by rfl) rfl rfl (by (try simp only [List.map_toArray, List.map_cons, List.map_nil]); first | done | rfl | (simp only [List.length_drop, List.length_take]; rfl)) ?_
                 with_reducible refine (strongboxref4_little.calls k1 ((rd_T72 l0_2 x5_1).f0) 4 t284 _ A61.out).mono ?_
                 rintro e w77 ⟨v285, rfl, ho0, hb⟩
                 refine ⟨_, rfl, ?_⟩
                 have n0_ := Aside0.mk (Kd.R_elder' (by (with_reducible repeat (first | apply Kd.R_alloc | apply Kd.R_drewN | apply Kd.R_drew)); exact HO_4.out) (Kd.R_base ho0) hb)
                 have n1_ := Aside0.mk (Kd.R_elder' (by (with_reducible repeat (first | apply Kd.R_alloc | apply Kd.R_drewN | apply Kd.R_drew)); exact HO292.out) (Kd.R_base ho0) hb)
                 have n2_ := Aside0.mk (Kd.R_lower (Kd.R_new' (Kd.R_new' ho0 (Kd.R_lt (by (with_reducible repeat (first | apply Kd.R_alloc | apply Kd.R_drewN | apply Kd.R_drew)); exact HO_4.out))) (Kd.R_lt (by (with_reducible repeat (first | apply Kd.R_alloc | apply Kd.R_drewN | apply Kd.R_drew)); exact HO292.out))) (below_size (by repeat (first | (with_reducible first | exact HB.out | apply below_alloc | apply pw_below_drewN | apply below_drew1 | refine below_set ?_ GE225.out | refine below_set ?_ GE259.out) | exact HB.out))))
                 have n3_ := Aside0.mk (blk_below (g := gb225) (o := .cells #[.int .i64 a0_0, .string a0_1, .slice (some ad258) l0_2.length c0_2] 45 (0, 0)) (by (with_reducible repeat (first | refine blk_drewN ?_ _ | refine blk_drew ?_ | refine blk_alloc ?_ _)); exact BK225.out) hb)
                 have n4_ := Aside0.mk (blk_below (g := gb259) (o := .cells #[.int .i64 ((rd_T72 l0_2 x5_1).f0), .bool false, .int .i64 ((rd_T72 l0_2 x5_1).f2), .int .u32 ((rd_T72 l0_2 x5_1).f3)] 72 (0, 0)) (by (with_reducible repeat (first | refine blk_drewN ?_ _ | refine blk_drew ?_ | refine blk_alloc ?_ _)); exact BK259.out) hb)
                 have n5_ := Aside0.mk (below_step (by repeat (first | (with_reducible first | exact HB.out | apply below_alloc | apply pw_below_drewN | apply below_drew1 | refine below_set ?_ GE225.out | refine below_set ?_ GE259.out) | exact HB.out)) hb)
                 clear HO_4
                 clear HO292
                 clear BK225
                 clear BK259
                 clear HB
                 have HO_4 := n0_
                 have HO292 := n1_
                 have HO286 := n2_
                 have BK225 := n3_
                 have BK259 := n4_
                 have HB := n5_
                 clear n0_ n1_ n2_ n3_ n4_ n5_
                 (try clear hb)
                 (try clear hb2)
                 (try clear hk)
                 (try clear hi)
                 (try clear ho0)
                 obtain ⟨Ao79, co79, eo79⟩ := Kd.R_slice HO286.out
                 (first | subst eo79 | (injection eo79 with f1_ f2_ f3_; have f4_ := f1_.symm; have f5_ := f3_.symm; clear f1_ f2_ f3_; subst f4_; subst f5_))
                 refine hK.out _ _ ⟨(blk_cell BK259.out 0).trans rfl, (blk_cell BK259.out 1).trans rfl, (blk_cell BK259.out 2).trans rfl, (blk_cell BK259.out 3).trans rfl⟩ (fun hHeld => ?_)
                 clear hK K
                 refine norm_ (a' := ?_) ?_ ?_
                 rotate_left
                 ·show Act.put _ (some 50) _ = _
                  simp only [Act.put, List.setIfInBounds_toArray, List.set_cons_zero, List.set_cons_succ, i64_w, i32_w]
                  rfl
                 refine one_ (i := 4) (N := some 51) #[true, true, true, true, true, true, true, false, true, true, false, false, true, true, false, false, false] rfl rfl (one_of HT_.out (by kernel_rfl)) (by decide) (fun K hK => ?_)
                 refine Kd.R_append_rows_step (Kd.int .u8) (w0 := w) w.heap.size (by rfl) (.tmp 47) (.tmp 50) 22 5 (.int .u8 0) 1 rfl Try.underlying22 info5 rfl (by decide) (by omega) (.slice Ao72 x4_1.length co72) x4_1 t284 _ _ _ (fun k_ => some k_ ≠ (v291 : Value).ownBlock ∧ some k_ ≠ (.slice Ao79 t284.length co79 : Value).ownBlock) (fun _ => False) rfl rfl ?aO ?aR (fun _ _ h => h) (fun _ h => h.elim) ?aF ?aB ?aS ?aL ?_
                 (case aR => repeat (first | exact (Kd.R_reads' HO286.out).2.2 | (with_reducible refine Kd.C_alloc ?_ _) | (with_reducible refine Kd.C_drewN ?_ _) | (with_reducible refine Kd.C_drew ?_)))
                 (case aB => exact (by repeat (first | (with_reducible first | exact HB.out | apply below_alloc | apply pw_below_drewN | apply below_drew1 | refine below_set ?_ GE225.out | refine below_set ?_ GE259.out) | exact HB.out)))
                 (case aF => exact (fun k_ hk => ⟨Kd.fresh' (Kd.R_lt (by (with_reducible repeat (first | apply Kd.R_alloc | apply Kd.R_drewN | apply Kd.R_drew)); exact HO292.out)) k_ hk, Kd.fresh' (Kd.R_lt (by (with_reducible repeat (first | apply Kd.R_alloc | apply Kd.R_drewN | apply Kd.R_drew)); exact HO286.out)) k_ hk⟩))
                 (case aO => exact (by (with_reducible repeat (first | apply Kd.R_alloc | apply Kd.R_drewN | apply Kd.R_drew)); exact Kd.R_mono HO_4.out (fun _ hk => ⟨hk.1.2, hk.2⟩)))
                 (case aS => exact (below_size (by repeat (first | (with_reducible first | exact HB.out | apply below_alloc | apply pw_below_drewN | apply below_drew1 | refine below_set ?_ GE225.out | refine below_set ?_ GE259.out) | exact HB.out))))
                 (case aL => have := LMc62.out; omega)
                 intro v288 w78 ho hb hg hat
                 rw [← Ny287.out] at ho
                 have n0_ := Aside0.mk (blk_grown (g := gb225) (o := .cells #[.int .i64 a0_0, .string a0_1, .slice (some ad258) l0_2.length c0_2] 45 (0, 0)) (by (with_reducible repeat (first | refine blk_drewN ?_ _ | refine blk_drew ?_ | refine blk_alloc ?_ _)); exact BK225.out) hg (Kd.R_ne HO_4.out BK225.out (by decide)))
                 have n1_ := Aside0.mk (blk_grown (g := gb259) (o := .cells #[.int .i64 ((rd_T72 l0_2 x5_1).f0), .bool false, .int .i64 ((rd_T72 l0_2 x5_1).f2), .int .u32 ((rd_T72 l0_2 x5_1).f3)] 72 (0, 0)) (by (with_reducible repeat (first | refine blk_drewN ?_ _ | refine blk_drew ?_ | refine blk_alloc ?_ _)); exact BK259.out) hg (Kd.R_ne HO_4.out BK259.out (by decide)))
                 have n2_ := Aside0.mk (Kd.R_after (ok := (fun k_ => some k_ ≠ (.slice Ao79 t284.length co79 : Value).ownBlock)) (by (with_reducible repeat (first | apply Kd.R_alloc | apply Kd.R_drewN | apply Kd.R_drew)); exact Kd.R_mono HO292.out (fun _ hk => ⟨hk.2, hk.1.2⟩)) hg hat)
                 have n3_ := Aside0.mk (Kd.R_after (ok := (fun k_ => some k_ ≠ (v291 : Value).ownBlock)) (by (with_reducible repeat (first | apply Kd.R_alloc | apply Kd.R_drewN | apply Kd.R_drew)); exact Kd.R_mono HO286.out (fun _ hk => ⟨hk.2, hk.1.2⟩)) hg hat)
                 have n4_ := Aside0.mk (hb)
                 have n5_ := Aside0.mk (ho)
                 clear BK225
                 clear BK259
                 clear HO292
                 clear HO286
                 clear HB
                 clear HO_4
                 have BK225 := n0_
                 have BK259 := n1_
                 have HO292 := n2_
                 have HO286 := n3_
                 have HB := n4_
                 have HO289 := n5_
                 clear n0_ n1_ n2_ n3_ n4_ n5_
                 clear ho hb hg hat
                 refine hK.out _ _ ⟨(blk_cell BK259.out 0).trans rfl, (blk_cell BK259.out 1).trans rfl, (blk_cell BK259.out 2).trans rfl, (blk_cell BK259.out 3).trans rfl⟩ (fun hHeld => ?_)
                 clear hK K
                 refine norm_ (a' := ?_) ?_ ?_
                 rotate_left
                 ·show Act.put _ (some 51) _ = _
                  simp only [Act.put, List.setIfInBounds_toArray, List.set_cons_zero, List.set_cons_succ, i64_w, i32_w]
                  rfl
                 exact norm_ (by simp only [putAll, Act.put, List.setIfInBounds_toArray, List.set_cons_zero, List.set_cons_succ]) (hCont (.slice Ao79 t284.length co79, v288, v291) _ ⟨hHeld, (by (with_reducible repeat (first | apply Kd.R_alloc | apply Kd.R_drewN | apply Kd.R_drew)); exact Kd.R_mono HO286.out (fun _ hk => ⟨hk.2, hk.1⟩)), (by (with_reducible repeat (first | apply Kd.R_alloc | apply Kd.R_drewN | apply Kd.R_drew)); exact Kd.R_mono HO289.out (fun _ hk => ⟨hk.2, hk.1⟩)), (by (with_reducible repeat (first | apply Kd.R_alloc | apply Kd.R_drewN | apply Kd.R_drew)); exact HO292.out), (by (with_reducible repeat (first | refine blk_drewN ?_ _ | refine blk_drew ?_ | refine blk_alloc ?_ _)); exact BK225.out), (by (with_reducible repeat (first | refine blk_drewN ?_ _ | refine blk_drew ?_ | refine blk_alloc ?_ _)); exact BK259.out), (by repeat (first | (with_reducible first | exact HB.out | apply below_alloc | apply pw_below_drewN | apply below_drew1 | refine below_set ?_ GE225.out | refine below_set ?_ GE259.out) | exact HB.out))⟩)
               rintro ⟨v285, v288, v291⟩ w80 ⟨hS_, h0_, h1_, h2_, h3_, h4_, h5_⟩
               have n0_ : Aside0 (Kd.R (Kd.int .u8) 5 w80 w.heap.size (fun k_ => some k_ ≠ (v288 : Value).ownBlock ∧ some k_ ≠ (v291 : Value).ownBlock) v285 t284) := ⟨h0_⟩
               have n1_ : Aside0 (Kd.R (Kd.int .u8) 5 w80 w.heap.size (fun k_ => some k_ ≠ (v285 : Value).ownBlock ∧ some k_ ≠ (v291 : Value).ownBlock) v288 y287) := ⟨h1_⟩
               have n2_ : Aside0 (Kd.R (Kd.int .u8) 5 w80 w.heap.size (fun k_ => some k_ ≠ (v285 : Value).ownBlock ∧ some k_ ≠ (v288 : Value).ownBlock) v291 y290) := ⟨h2_⟩
               have n3_ : Aside0 (w80.heap[gb225]? = some (.cells #[.int .i64 a0_0, .string a0_1, .slice (some ad258) l0_2.length c0_2] 45 (0, 0))) := ⟨h3_⟩
               have n4_ : Aside0 (w80.heap[gb259]? = some (.cells #[.int .i64 ((rd_T72 l0_2 x5_1).f0), .bool false, .int .i64 ((rd_T72 l0_2 x5_1).f2), .int .u32 ((rd_T72 l0_2 x5_1).f3)] 72 (0, 0))) := ⟨h4_⟩
               have n5_ : Aside0 (Below w.heap.size w w80) := ⟨h5_⟩
               clear HO_4
               clear BK225
               clear BK259
               clear HB
               clear h0_ h1_ h2_ h3_ h4_ h5_
               have HO286 := n0_
               have HO289 := n1_
               have HO292 := n2_
               have BK225 := n3_
               have BK259 := n4_
               have HB := n5_
               clear n0_ n1_ n2_ n3_ n4_ n5_
               have hHeld : w80.cell? ⟨gb259, 0, none⟩ = some (.int .i64 ((rd_T72 l0_2 x5_1).f0)) ∧ w80.cell? ⟨gb259, 1, none⟩ = some (.bool false) ∧ w80.cell? ⟨gb259, 2, none⟩ = some (.int .i64 ((rd_T72 l0_2 x5_1).f2)) ∧ w80.cell? ⟨gb259, 3, none⟩ = some (.int .u32 ((rd_T72 l0_2 x5_1).f3)) := hS_
               obtain ⟨Ao82, co82, eo82⟩ := Kd.R_slice HO292.out
               (first | subst eo82 | (injection eo82 with f1_ f2_ f3_; have f4_ := f1_.symm; have f5_ := f3_.symm; clear f1_ f2_ f3_; subst f4_; subst f5_))
               refine norm_ (a' := ?_) ?_ ?_
               rotate_left
               ·simp only [putAll, Act.put, List.setIfInBounds_toArray, List.set_cons_zero, List.set_cons_succ]
                rfl
               refine one_ (i := 7) (N := some 54) #[true, true, true, true, true, true, true, true, true, true, false, false, true, true, false, false, false] rfl rfl (one_of HT_.out (by kernel_rfl)) (by decide) (fun K hK => ?_)
               refine Kd.R_append_rows_step (Kd.int .u8) (w0 := w) w.heap.size (by rfl) (.tmp 51) (.tmp 53) 22 5 (.int .u8 0) 1 rfl Try.underlying22 info5 rfl (by decide) (by omega) v288 y287 y290 _ _ _ (fun k_ => some k_ ≠ (v285 : Value).ownBlock ∧ some k_ ≠ (.slice Ao82 y290.length co82 : Value).ownBlock) (fun _ => False) rfl rfl ?aO ?aR (fun _ _ h => h) (fun _ h => h.elim) ?aF ?aB ?aS ?aL ?_
               (case aR => repeat (first | exact (Kd.R_reads' HO292.out).2.2 | (with_reducible refine Kd.C_alloc ?_ _) | (with_reducible refine Kd.C_drewN ?_ _) | (with_reducible refine Kd.C_drew ?_)))
               (case aB => exact (by repeat (first | (with_reducible first | exact HB.out | apply below_alloc | apply pw_below_drewN | apply below_drew1 | refine below_set ?_ GE225.out | refine below_set ?_ GE259.out) | exact HB.out)))
               (case aF => exact (fun k_ hk => ⟨Kd.fresh' (Kd.R_lt (by (with_reducible repeat (first | apply Kd.R_alloc | apply Kd.R_drewN | apply Kd.R_drew)); exact HO286.out)) k_ hk, Kd.fresh' (Kd.R_lt (by (with_reducible repeat (first | apply Kd.R_alloc | apply Kd.R_drewN | apply Kd.R_drew)); exact HO292.out)) k_ hk⟩))
               (case aO => exact (by (with_reducible repeat (first | apply Kd.R_alloc | apply Kd.R_drewN | apply Kd.R_drew)); exact HO289.out))
               (case aS => exact (below_size (by repeat (first | (with_reducible first | exact HB.out | apply below_alloc | apply pw_below_drewN | apply below_drew1 | refine below_set ?_ GE225.out | refine below_set ?_ GE259.out) | exact HB.out))))
               (case aL => have := LMc63.out; omega)
               intro v294 w81 ho hb hg hat
               rw [← Ny293.out] at ho
               have n0_ := Aside0.mk (blk_grown (g := gb225) (o := .cells #[.int .i64 a0_0, .string a0_1, .slice (some ad258) l0_2.length c0_2] 45 (0, 0)) (by (with_reducible repeat (first | refine blk_drewN ?_ _ | refine blk_drew ?_ | refine blk_alloc ?_ _)); exact BK225.out) hg (Kd.R_ne HO289.out BK225.out (by decide)))
               have n1_ := Aside0.mk (blk_grown (g := gb259) (o := .cells #[.int .i64 ((rd_T72 l0_2 x5_1).f0), .bool false, .int .i64 ((rd_T72 l0_2 x5_1).f2), .int .u32 ((rd_T72 l0_2 x5_1).f3)] 72 (0, 0)) (by (with_reducible repeat (first | refine blk_drewN ?_ _ | refine blk_drew ?_ | refine blk_alloc ?_ _)); exact BK259.out) hg (Kd.R_ne HO289.out BK259.out (by decide)))
               have n2_ := Aside0.mk (Kd.R_after (ok := (fun k_ => some k_ ≠ (.slice Ao82 y290.length co82 : Value).ownBlock)) (by (with_reducible repeat (first | apply Kd.R_alloc | apply Kd.R_drewN | apply Kd.R_drew)); exact Kd.R_mono HO286.out (fun _ hk => ⟨hk.2, hk.1⟩)) hg hat)
               have n3_ := Aside0.mk (Kd.R_after (ok := (fun k_ => some k_ ≠ (v285 : Value).ownBlock)) (by (with_reducible repeat (first | apply Kd.R_alloc | apply Kd.R_drewN | apply Kd.R_drew)); exact HO292.out) hg hat)
               have n4_ := Aside0.mk (hb)
               have n5_ := Aside0.mk (ho)
               clear BK225
               clear BK259
               clear HO286
               clear HO292
               clear HB
               clear HO289
               have BK225 := n0_
               have BK259 := n1_
               have HO286 := n2_
               have HO292 := n3_
               have HB := n4_
               have HO295 := n5_
               clear n0_ n1_ n2_ n3_ n4_ n5_
               clear ho hb hg hat
               refine hK.out _ _ ⟨(blk_cell BK259.out 0).trans rfl, (blk_cell BK259.out 1).trans rfl, (blk_cell BK259.out 2).trans rfl, (blk_cell BK259.out 3).trans rfl⟩ (fun hHeld => ?_)
               clear hK K
               refine norm_ (a' := ?_) ?_ ?_
               rotate_left
               ·show Act.put _ (some 54) _ = _
                simp only [Act.put, List.setIfInBounds_toArray, List.set_cons_zero, List.set_cons_succ, i64_w, i32_w]
                rfl
               refine one_ (i := 10) (N := some 57) #[true, true, true, true, true, true, true, true, true, true, true, false, true, true, false, false, false] rfl rfl (one_of HT_.out (by kernel_rfl)) (by decide) (fun K hK => ?_)
               refine goes_ Try.func51 (by kernel_rfl) rfl #[.int .i64 ((rd_T72 l0_2 x5_1).f2), .int .i64 4] (by rfl) rfl rfl (by (try simp only [List.map_toArray, List.map_cons, List.map_nil]); first | done | rfl | (simp only [List.length_drop, List.length_take]; rfl)) ?_
               with_reducible refine (strongboxref4_little.calls k1 ((rd_T72 l0_2 x5_1).f2) 4 t296 _ A64.out).mono ?_
               rintro e w83 ⟨v297, rfl, ho0, hb⟩
               refine ⟨_, rfl, ?_⟩
               have n0_ := Aside0.mk (Kd.R_elder' (by (with_reducible repeat (first | apply Kd.R_alloc | apply Kd.R_drewN | apply Kd.R_drew)); exact HO286.out) (Kd.R_base ho0) hb)
               have n1_ := Aside0.mk (Kd.R_elder' (by (with_reducible repeat (first | apply Kd.R_alloc | apply Kd.R_drewN | apply Kd.R_drew)); exact HO292.out) (Kd.R_base ho0) hb)
               have n2_ := Aside0.mk (Kd.R_elder' (by (with_reducible repeat (first | apply Kd.R_alloc | apply Kd.R_drewN | apply Kd.R_drew)); exact HO295.out) (Kd.R_base ho0) hb)
               have n3_ := Aside0.mk (Kd.R_lower (Kd.R_new' (Kd.R_new' (Kd.R_new' ho0 (Kd.R_lt (by (with_reducible repeat (first | apply Kd.R_alloc | apply Kd.R_drewN | apply Kd.R_drew)); exact HO286.out))) (Kd.R_lt (by (with_reducible repeat (first | apply Kd.R_alloc | apply Kd.R_drewN | apply Kd.R_drew)); exact HO292.out))) (Kd.R_lt (by (with_reducible repeat (first | apply Kd.R_alloc | apply Kd.R_drewN | apply Kd.R_drew)); exact HO295.out))) (below_size (by repeat (first | (with_reducible first | exact HB.out | apply below_alloc | apply pw_below_drewN | apply below_drew1 | refine below_set ?_ GE225.out | refine below_set ?_ GE259.out) | exact HB.out))))
               have n4_ := Aside0.mk (blk_below (g := gb225) (o := .cells #[.int .i64 a0_0, .string a0_1, .slice (some ad258) l0_2.length c0_2] 45 (0, 0)) (by (with_reducible repeat (first | refine blk_drewN ?_ _ | refine blk_drew ?_ | refine blk_alloc ?_ _)); exact BK225.out) hb)
               have n5_ := Aside0.mk (blk_below (g := gb259) (o := .cells #[.int .i64 ((rd_T72 l0_2 x5_1).f0), .bool false, .int .i64 ((rd_T72 l0_2 x5_1).f2), .int .u32 ((rd_T72 l0_2 x5_1).f3)] 72 (0, 0)) (by (with_reducible repeat (first | refine blk_drewN ?_ _ | refine blk_drew ?_ | refine blk_alloc ?_ _)); exact BK259.out) hb)
               have n6_ := Aside0.mk (below_step (by repeat (first | (with_reducible first | exact HB.out | apply below_alloc | apply pw_below_drewN | apply below_drew1 | refine below_set ?_ GE225.out | refine below_set ?_ GE259.out) | exact HB.out)) hb)
               clear HO286
               clear HO292
               clear HO295
               clear BK225
               clear BK259
               clear HB
               have HO286 := n0_
               have HO292 := n1_
               have HO295 := n2_
               have HO298 := n3_
               have BK225 := n4_
               have BK259 := n5_
               have HB := n6_
               clear n0_ n1_ n2_ n3_ n4_ n5_ n6_
               (try clear hb)
               (try clear hb2)
               (try clear hk)
               (try clear hi)
               (try clear ho0)
               obtain ⟨Ao85, co85, eo85⟩ := Kd.R_slice HO298.out
               (first | subst eo85 | (injection eo85 with f1_ f2_ f3_; have f4_ := f1_.symm; have f5_ := f3_.symm; clear f1_ f2_ f3_; subst f4_; subst f5_))
               refine hK.out _ _ ⟨(blk_cell BK259.out 0).trans rfl, (blk_cell BK259.out 1).trans rfl, (blk_cell BK259.out 2).trans rfl, (blk_cell BK259.out 3).trans rfl⟩ (fun hHeld => ?_)
               clear hK K
               refine norm_ (a' := ?_) ?_ ?_
               rotate_left
               ·show Act.put _ (some 57) _ = _
                simp only [Act.put, List.setIfInBounds_toArray, List.set_cons_zero, List.set_cons_succ, i64_w, i32_w]
                rfl
               refine one_ (i := 11) (N := some 58) #[true, true, true, true, true, true, true, true, true, true, true, true, true, true, false, false, false] rfl rfl (one_of HT_.out (by kernel_rfl)) (by decide) (fun K hK => ?_)
               refine Kd.R_append_rows_step (Kd.int .u8) (w0 := w) w.heap.size (by rfl) (.tmp 54) (.tmp 57) 22 5 (.int .u8 0) 1 rfl Try.underlying22 info5 rfl (by decide) (by omega) v294 y293 t296 _ _ _ (fun k_ => some k_ ≠ (v285 : Value).ownBlock ∧ some k_ ≠ (.slice Ao82 y290.length co82 : Value).ownBlock ∧ some k_ ≠ (.slice Ao85 t296.length co85 : Value).ownBlock) (fun _ => False) rfl rfl ?aO ?aR (fun _ _ h => h) (fun _ h => h.elim) ?aF ?aB ?aS ?aL ?_
               (case aR => repeat (first | exact (Kd.R_reads' HO298.out).2.2 | (with_reducible refine Kd.C_alloc ?_ _) | (with_reducible refine Kd.C_drewN ?_ _) | (with_reducible refine Kd.C_drew ?_)))
               (case aB => exact (by repeat (first | (with_reducible first | exact HB.out | apply below_alloc | apply pw_below_drewN | apply below_drew1 | refine below_set ?_ GE225.out | refine below_set ?_ GE259.out) | exact HB.out)))
               (case aF => exact (fun k_ hk => ⟨Kd.fresh' (Kd.R_lt (by (with_reducible repeat (first | apply Kd.R_alloc | apply Kd.R_drewN | apply Kd.R_drew)); exact HO286.out)) k_ hk, Kd.fresh' (Kd.R_lt (by (with_reducible repeat (first | apply Kd.R_alloc | apply Kd.R_drewN | apply Kd.R_drew)); exact HO292.out)) k_ hk, Kd.fresh' (Kd.R_lt (by (with_reducible repeat (first | apply Kd.R_alloc | apply Kd.R_drewN | apply Kd.R_drew)); exact HO298.out)) k_ hk⟩))
               (case aO => exact (by (with_reducible repeat (first | apply Kd.R_alloc | apply Kd.R_drewN | apply Kd.R_drew)); exact Kd.R_mono HO295.out (fun _ hk => ⟨hk.1.1, ⟨hk.1.2, hk.2⟩⟩)))
               (case aS => exact (below_size (by repeat (first | (with_reducible first | exact HB.out | apply below_alloc | apply pw_below_drewN | apply below_drew1 | refine below_set ?_ GE225.out | refine below_set ?_ GE259.out) | exact HB.out))))
               (case aL => have := LMc65.out; omega)
               intro v300 w84 ho hb hg hat
               rw [← Ny299.out] at ho
               have n0_ := Aside0.mk (blk_grown (g := gb225) (o := .cells #[.int .i64 a0_0, .string a0_1, .slice (some ad258) l0_2.length c0_2] 45 (0, 0)) (by (with_reducible repeat (first | refine blk_drewN ?_ _ | refine blk_drew ?_ | refine blk_alloc ?_ _)); exact BK225.out) hg (Kd.R_ne HO295.out BK225.out (by decide)))
               have n1_ := Aside0.mk (blk_grown (g := gb259) (o := .cells #[.int .i64 ((rd_T72 l0_2 x5_1).f0), .bool false, .int .i64 ((rd_T72 l0_2 x5_1).f2), .int .u32 ((rd_T72 l0_2 x5_1).f3)] 72 (0, 0)) (by (with_reducible repeat (first | refine blk_drewN ?_ _ | refine blk_drew ?_ | refine blk_alloc ?_ _)); exact BK259.out) hg (Kd.R_ne HO295.out BK259.out (by decide)))
               have n2_ := Aside0.mk (Kd.R_after (ok := (fun k_ => some k_ ≠ (.slice Ao82 y290.length co82 : Value).ownBlock ∧ some k_ ≠ (.slice Ao85 t296.length co85 : Value).ownBlock)) (by (with_reducible repeat (first | apply Kd.R_alloc | apply Kd.R_drewN | apply Kd.R_drew)); exact Kd.R_mono HO286.out (fun _ hk => ⟨⟨hk.1.1, hk.2⟩, hk.1.2⟩)) hg hat)
               have n3_ := Aside0.mk (Kd.R_after (ok := (fun k_ => some k_ ≠ (v285 : Value).ownBlock ∧ some k_ ≠ (.slice Ao85 t296.length co85 : Value).ownBlock)) (by (with_reducible repeat (first | apply Kd.R_alloc | apply Kd.R_drewN | apply Kd.R_drew)); exact Kd.R_mono HO292.out (fun _ hk => ⟨⟨hk.1.1, hk.2⟩, hk.1.2⟩)) hg hat)
               have n4_ := Aside0.mk (Kd.R_after (ok := (fun k_ => some k_ ≠ (v285 : Value).ownBlock ∧ some k_ ≠ (.slice Ao82 y290.length co82 : Value).ownBlock)) (by (with_reducible repeat (first | apply Kd.R_alloc | apply Kd.R_drewN | apply Kd.R_drew)); exact Kd.R_mono HO298.out (fun _ hk => ⟨⟨hk.1.1.2, hk.1.2⟩, hk.2⟩)) hg hat)
               have n5_ := Aside0.mk (hb)
               have n6_ := Aside0.mk (ho)
               clear BK225
               clear BK259
               clear HO286
               clear HO292
               clear HO298
               clear HB
               clear HO295
               have BK225 := n0_
               have BK259 := n1_
               have HO286 := n2_
               have HO292 := n3_
               have HO298 := n4_
               have HB := n5_
               have HO301 := n6_
               clear n0_ n1_ n2_ n3_ n4_ n5_ n6_
               clear ho hb hg hat
               refine hK.out _ _ ⟨(blk_cell BK259.out 0).trans rfl, (blk_cell BK259.out 1).trans rfl, (blk_cell BK259.out 2).trans rfl, (blk_cell BK259.out 3).trans rfl⟩ (fun hHeld => ?_)
               clear hK K
               refine norm_ (a' := ?_) ?_ ?_
               rotate_left
               ·show Act.put _ (some 58) _ = _
                simp only [Act.put, List.setIfInBounds_toArray, List.set_cons_zero, List.set_cons_succ, i64_w, i32_w]
                rfl
               refine one_ (i := 14) (N := some 61) #[true, true, true, true, true, true, true, true, true, true, true, true, true, true, true, false, false] rfl rfl (one_of HT_.out (by kernel_rfl)) (by decide) (fun K hK => ?_)
               refine goes_ Try.func19 (by kernel_rfl) rfl #[.int .u32 ((rd_T72 l0_2 x5_1).f3)] (by rfl) rfl rfl (by (try simp only [List.map_toArray, List.map_cons, List.map_nil]); first | done | rfl | (simp only [List.length_drop, List.length_take]; rfl)) ?_
               with_reducible refine (strongboxref4_Bytes.calls k1 ((rd_T72 l0_2 x5_1).f3) t302 _ A66.out).mono ?_
               rintro e w86 ⟨v303, rfl, ho0, hb⟩
               refine ⟨_, rfl, ?_⟩
               have n0_ := Aside0.mk (Kd.R_elder' (by (with_reducible repeat (first | apply Kd.R_alloc | apply Kd.R_drewN | apply Kd.R_drew)); exact HO286.out) (Kd.R_base ho0) hb)
               have n1_ := Aside0.mk (Kd.R_elder' (by (with_reducible repeat (first | apply Kd.R_alloc | apply Kd.R_drewN | apply Kd.R_drew)); exact HO292.out) (Kd.R_base ho0) hb)
               have n2_ := Aside0.mk (Kd.R_elder' (by (with_reducible repeat (first | apply Kd.R_alloc | apply Kd.R_drewN | apply Kd.R_drew)); exact HO298.out) (Kd.R_base ho0) hb)
               have n3_ := Aside0.mk (Kd.R_elder' (by (with_reducible repeat (first | apply Kd.R_alloc | apply Kd.R_drewN | apply Kd.R_drew)); exact HO301.out) (Kd.R_base ho0) hb)
               have n4_ := Aside0.mk (Kd.R_lower (Kd.R_new' (Kd.R_new' (Kd.R_new' (Kd.R_new' ho0 (Kd.R_lt (by (with_reducible repeat (first | apply Kd.R_alloc | apply Kd.R_drewN | apply Kd.R_drew)); exact HO286.out))) (Kd.R_lt (by (with_reducible repeat (first | apply Kd.R_alloc | apply Kd.R_drewN | apply Kd.R_drew)); exact HO292.out))) (Kd.R_lt (by (with_reducible repeat (first | apply Kd.R_alloc | apply Kd.R_drewN | apply Kd.R_drew)); exact HO298.out))) (Kd.R_lt (by (with_reducible repeat (first | apply Kd.R_alloc | apply Kd.R_drewN | apply Kd.R_drew)); exact HO301.out))) (below_size (by repeat (first | (with_reducible first | exact HB.out | apply below_alloc | apply pw_below_drewN | apply below_drew1 | refine below_set ?_ GE225.out | refine below_set ?_ GE259.out) | exact HB.out))))
               have n5_ := Aside0.mk (blk_below (g := gb225) (o := .cells #[.int .i64 a0_0, .string a0_1, .slice (some ad258) l0_2.length c0_2] 45 (0, 0)) (by (with_reducible repeat (first | refine blk_drewN ?_ _ | refine blk_drew ?_ | refine blk_alloc ?_ _)); exact BK225.out) hb)
               have n6_ := Aside0.mk (blk_below (g := gb259) (o := .cells #[.int .i64 ((rd_T72 l0_2 x5_1).f0), .bool false, .int .i64 ((rd_T72 l0_2 x5_1).f2), .int .u32 ((rd_T72 l0_2 x5_1).f3)] 72 (0, 0)) (by (with_reducible repeat (first | refine blk_drewN ?_ _ | refine blk_drew ?_ | refine blk_alloc ?_ _)); exact BK259.out) hb)
               have n7_ := Aside0.mk (below_step (by repeat (first | (with_reducible first | exact HB.out | apply below_alloc | apply pw_below_drewN | apply below_drew1 | refine below_set ?_ GE225.out | refine below_set ?_ GE259.out) | exact HB.out)) hb)
               clear HO286
               clear HO292
               clear HO298
               clear HO301
               clear BK225
               clear BK259
               clear HB
               have HO286 := n0_
               have HO292 := n1_
               have HO298 := n2_
               have HO301 := n3_
               have HO304 := n4_
               have BK225 := n5_
               have BK259 := n6_
               have HB := n7_
               clear n0_ n1_ n2_ n3_ n4_ n5_ n6_ n7_
               (try clear hb)
               (try clear hb2)
               (try clear hk)
               (try clear hi)
               (try clear ho0)
               obtain ⟨Ao88, co88, eo88⟩ := Kd.R_slice HO304.out
               (first | subst eo88 | (injection eo88 with f1_ f2_ f3_; have f4_ := f1_.symm; have f5_ := f3_.symm; clear f1_ f2_ f3_; subst f4_; subst f5_))
               refine hK.out _ _ ⟨(blk_cell BK259.out 0).trans rfl, (blk_cell BK259.out 1).trans rfl, (blk_cell BK259.out 2).trans rfl, (blk_cell BK259.out 3).trans rfl⟩ (fun hHeld => ?_)
               clear hK K
               refine norm_ (a' := ?_) ?_ ?_
               rotate_left
               ·show Act.put _ (some 61) _ = _
                simp only [Act.put, List.setIfInBounds_toArray, List.set_cons_zero, List.set_cons_succ, i64_w, i32_w]
                rfl
               refine one_ (i := 15) (N := some 62) #[true, true, true, true, true, true, true, true, true, true, true, true, true, true, true, true, false] rfl rfl (one_of HT_.out (by kernel_rfl)) (by decide) (fun K hK => ?_)
               refine Kd.R_append_rows_step (Kd.int .u8) (w0 := w) w.heap.size (by rfl) (.tmp 58) (.tmp 61) 22 5 (.int .u8 0) 1 rfl Try.underlying22 info5 rfl (by decide) (by omega) v300 y299 t302 _ _ _ (fun k_ => some k_ ≠ (v285 : Value).ownBlock ∧ some k_ ≠ (.slice Ao82 y290.length co82 : Value).ownBlock ∧ some k_ ≠ (.slice Ao85 t296.length co85 : Value).ownBlock ∧ some k_ ≠ (.slice Ao88 t302.length co88 : Value).ownBlock) (fun _ => False) rfl rfl ?aO ?aR (fun _ _ h => h) (fun _ h => h.elim) ?aF ?aB ?aS ?aL ?_
               (case aR => repeat (first | exact (Kd.R_reads' HO304.out).2.2 | (with_reducible refine Kd.C_alloc ?_ _) | (with_reducible refine Kd.C_drewN ?_ _) | (with_reducible refine Kd.C_drew ?_)))
               (case aB => exact (by repeat (first | (with_reducible first | exact HB.out | apply below_alloc | apply pw_below_drewN | apply below_drew1 | refine below_set ?_ GE225.out | refine below_set ?_ GE259.out) | exact HB.out)))
               (case aF => exact (fun k_ hk => ⟨Kd.fresh' (Kd.R_lt (by (with_reducible repeat (first | apply Kd.R_alloc | apply Kd.R_drewN | apply Kd.R_drew)); exact HO286.out)) k_ hk, Kd.fresh' (Kd.R_lt (by (with_reducible repeat (first | apply Kd.R_alloc | apply Kd.R_drewN | apply Kd.R_drew)); exact HO292.out)) k_ hk, Kd.fresh' (Kd.R_lt (by (with_reducible repeat (first | apply Kd.R_alloc | apply Kd.R_drewN | apply Kd.R_drew)); exact HO298.out)) k_ hk, Kd.fresh' (Kd.R_lt (by (with_reducible repeat (first | apply Kd.R_alloc | apply Kd.R_drewN | apply Kd.R_drew)); exact HO304.out)) k_ hk⟩))
               (case aO => exact (by (with_reducible repeat (first | apply Kd.R_alloc | apply Kd.R_drewN | apply Kd.R_drew)); exact Kd.R_mono HO301.out (fun _ hk => ⟨hk.1.1, ⟨hk.1.2.1, ⟨hk.1.2.2, hk.2⟩⟩⟩)))
               (case aS => exact (below_size (by repeat (first | (with_reducible first | exact HB.out | apply below_alloc | apply pw_below_drewN | apply below_drew1 | refine below_set ?_ GE225.out | refine below_set ?_ GE259.out) | exact HB.out))))
               (case aL => have := LMc67.out; omega)
               intro v306 w87 ho hb hg hat
               rw [← Ny305.out] at ho
               have n0_ := Aside0.mk (blk_grown (g := gb225) (o := .cells #[.int .i64 a0_0, .string a0_1, .slice (some ad258) l0_2.length c0_2] 45 (0, 0)) (by (with_reducible repeat (first | refine blk_drewN ?_ _ | refine blk_drew ?_ | refine blk_alloc ?_ _)); exact BK225.out) hg (Kd.R_ne HO301.out BK225.out (by decide)))
               have n1_ := Aside0.mk (blk_grown (g := gb259) (o := .cells #[.int .i64 ((rd_T72 l0_2 x5_1).f0), .bool false, .int .i64 ((rd_T72 l0_2 x5_1).f2), .int .u32 ((rd_T72 l0_2 x5_1).f3)] 72 (0, 0)) (by (with_reducible repeat (first | refine blk_drewN ?_ _ | refine blk_drew ?_ | refine blk_alloc ?_ _)); exact BK259.out) hg (Kd.R_ne HO301.out BK259.out (by decide)))
               have n2_ := Aside0.mk (Kd.R_after (ok := (fun k_ => some k_ ≠ (.slice Ao82 y290.length co82 : Value).ownBlock ∧ some k_ ≠ (.slice Ao85 t296.length co85 : Value).ownBlock ∧ some k_ ≠ (.slice Ao88 t302.length co88 : Value).ownBlock)) (by (with_reducible repeat (first | apply Kd.R_alloc | apply Kd.R_drewN | apply Kd.R_drew)); exact Kd.R_mono HO286.out (fun _ hk => ⟨⟨hk.1.1.1, ⟨hk.1.1.2, hk.2⟩⟩, hk.1.2⟩)) hg hat)
               have n3_ := Aside0.mk (Kd.R_after (ok := (fun k_ => some k_ ≠ (v285 : Value).ownBlock ∧ some k_ ≠ (.slice Ao85 t296.length co85 : Value).ownBlock ∧ some k_ ≠ (.slice Ao88 t302.length co88 : Value).ownBlock)) (by (with_reducible repeat (first | apply Kd.R_alloc | apply Kd.R_drewN | apply Kd.R_drew)); exact Kd.R_mono HO292.out (fun _ hk => ⟨⟨hk.1.1.1, ⟨hk.1.1.2, hk.2⟩⟩, hk.1.2⟩)) hg hat)
               have n4_ := Aside0.mk (Kd.R_after (ok := (fun k_ => some k_ ≠ (v285 : Value).ownBlock ∧ some k_ ≠ (.slice Ao82 y290.length co82 : Value).ownBlock ∧ some k_ ≠ (.slice Ao88 t302.length co88 : Value).ownBlock)) (by (with_reducible repeat (first | apply Kd.R_alloc | apply Kd.R_drewN | apply Kd.R_drew)); exact Kd.R_mono HO298.out (fun _ hk => ⟨⟨hk.1.1.1, ⟨hk.1.1.2, hk.2⟩⟩, hk.1.2⟩)) hg hat)
               have n5_ := Aside0.mk (Kd.R_after (ok := (fun k_ => some k_ ≠ (v285 : Value).ownBlock ∧ some k_ ≠ (.slice Ao82 y290.length co82 : Value).ownBlock ∧ some k_ ≠ (.slice Ao85 t296.length co85 : Value).ownBlock)) (by (with_reducible repeat (first | apply Kd.R_alloc | apply Kd.R_drewN | apply Kd.R_drew)); exact Kd.R_mono HO304.out (fun _ hk => ⟨⟨hk.1.1.1.2, ⟨hk.1.1.2, hk.1.2⟩⟩, hk.2⟩)) hg hat)
               have n6_ := Aside0.mk (hb)
               have n7_ := Aside0.mk (ho)
               clear BK225
               clear BK259
               clear HO286
               clear HO292
               clear HO298
               clear HO304
               clear HB
               clear HO301
               have BK225 := n0_
               have BK259 := n1_
               have HO286 := n2_
               have HO292 := n3_
               have HO298 := n4_
               have HO304 := n5_
               have HB := n6_
               have HO307 := n7_
               clear n0_ n1_ n2_ n3_ n4_ n5_ n6_ n7_
               clear ho hb hg hat
               refine hK.out _ _ ⟨(blk_cell BK259.out 0).trans rfl, (blk_cell BK259.out 1).trans rfl, (blk_cell BK259.out 2).trans rfl, (blk_cell BK259.out 3).trans rfl⟩ (fun hHeld => ?_)
               clear hK K
               refine norm_ (a' := ?_) ?_ ?_
               rotate_left
               ·show Act.put _ (some 62) _ = _
                simp only [Act.put, List.setIfInBounds_toArray, List.set_cons_zero, List.set_cons_succ, i64_w, i32_w]
                rfl
               refine pure_ (i := 16) (N := some 4) (v := ?_) (a' := ?_) #[true, true, true, true, true, true, true, true, true, true, true, true, true, true, true, true, true] rfl rfl (any_of HT_.out (by kernel_rfl)) (fun _ _ _ h => h) (Or.inl ⟨by rfl, ?_⟩) ?_ ?_
               rotate_left
               ·intro w'
                go_simp
                with_reducible rfl
               rotate_left
               ·simp only [Act.put, List.setIfInBounds_toArray, List.set_cons_zero, List.set_cons_succ, i64_w, i32_w]
                rfl
               refine done_ (done_of HT_.out (by kernel_rfl)) ?_
               try go_wp2
               go_roundg k1
               case measure => have := HK1.out; omega
               case rel => exact ⟨(y305), (wrap64 (x5_1 + 1)), (by first | rfl | (simp; done) | (simp [*]; done)), H', ⟨by have := HK1.out; omega⟩, ⟨by (with_reducible repeat (first | apply Kd.R_alloc | apply Kd.R_drewN | apply Kd.R_drew)); exact Kd.R_mono HO307.out (fun _ hk => trivial)⟩, ⟨by (with_reducible repeat (first | refine blk_drewN ?_ _ | refine blk_drew ?_ | refine blk_alloc ?_ _)); exact BK225.out⟩, ⟨by repeat (first | (with_reducible first | exact HB.out | apply below_alloc | apply pw_below_drewN | apply below_drew1 | refine below_set ?_ GE225.out | refine below_set ?_ GE259.out) | exact HB.out)⟩⟩
              ·rw [if_neg c67] at H
               exact absurd H (by simp)
             ·rw [if_neg c65] at H
              exact absurd H (by simp)
            ·rw [if_neg c63] at H
             exact absurd H (by simp)
           ·rw [if_neg c62] at H
            exact absurd H (by simp)
         ·rw [if_neg c30] at H
          exact absurd H (by simp)
        ·rw [if_neg c29] at H
         have c29b0 : decide (x5_1 < (l0_2.length : Int)) = false := decide_eq_false c29
         clear c29
         replace H := Option.bind_eq_some_iff.mp H
         obtain ⟨t251, A890, H⟩ := H
         replace H : ((strongboxref4_Bytes.f k1 t251).bind fun t252 => (if x4_1.length + t252.length < 140737488355328 then (some ((x4_1 ++ t252), 0)) else (none))) = some (r1, r2) := H
         have A89 := Aside0.mk A890
         clear A890
         replace H := Option.bind_eq_some_iff.mp H
         obtain ⟨t252, A900, H⟩ := H
         replace H : (if x4_1.length + t252.length < 140737488355328 then (some ((x4_1 ++ t252), 0)) else (none)) = some (r1, r2) := H
         have A90 := Aside0.mk A900
         clear A900
         by_cases c91 : x4_1.length + t252.length < 140737488355328
         ·rw [if_pos c91] at H
          have LMc91 := Aside0.mk c91
          clear c91
          obtain ⟨y255, hy255⟩ : ∃ y_ : List Int, y_ = (x4_1 ++ t252) := ⟨_, rfl⟩
          replace H : (some (y255, 0)) = some (r1, r2) := by first | (rw [hy255]; with_reducible exact H) | (have H2_ := (Option.bind_some _ _).symm.trans H; rw [hy255]; with_reducible exact H2_) | (have H2_ := (Option.bind_some _ _).symm.trans H; with_reducible exact H2_) | with_reducible exact H | (rw [hy255]; exact H) | exact H
          have Ny255 := Aside0.mk hy255
          clear hy255
          simp only [Option.some.injEq, Prod.mk.injEq] at H
          obtain ⟨rfl, rfl⟩ := H
          have hcz92_0 : wr.cell? ⟨gb225, 0, none⟩ = some (.int .i64 a0_0) := (blk_cell BK225.out 0).trans rfl
          have hcz92_1 : wr.cell? ⟨gb225, 1, none⟩ = some (.string a0_1) := (blk_cell BK225.out 1).trans rfl
          have hcz92_2 : wr.cell? ⟨gb225, 2, none⟩ = some (.slice A0_2 l0_2.length c0_2) := (blk_cell BK225.out 2).trans rfl
          have hfz92_0 := blk_frozen BK225.out 0
          have hfz92_1 := blk_frozen BK225.out 1
          have hfz92_2 := blk_frozen BK225.out 2
          obtain ⟨Ao93, co93, eo93⟩ := Kd.R_slice HO_4.out
          subst eo93
          go_wp2_with (first | ((with_reducible refine gate_callee (f := 20) rfl ?_); refine goesL_ (some 65) rfl rfl Try.func20 (by kernel_rfl) rfl #[.slice Ao93 x4_1.length co93] rfl (by (try simp only [List.map_toArray, List.map_cons, List.map_nil]); first | done | rfl | (simp only [List.length_drop, List.length_take]; rfl)) ?_; (with_reducible refine (strongboxref4_Sum.calls k1 _ _ x4_1 t251 _ ?side1 ?side2 A89.out).mono ?_); (case side1 => repeat (first | exact (Kd.R_reads' HO_4.out).2.2 | (with_reducible refine Kd.C_alloc ?_ _) | (with_reducible refine Kd.C_drewN ?_ _) | (with_reducible refine Kd.C_drew ?_))); (case side2 => exact (Kd.R_reads' HO_4.out).2.1); rintro e w' ⟨rfl, ⟨nd, rfl⟩⟩; refine ⟨_, rfl, ?_⟩) | ((with_reducible refine gate_callee (f := 19) rfl ?_); refine goesL_ (some 66) rfl rfl Try.func19 (by kernel_rfl) rfl #[.int .u32 t251] rfl (by (try simp only [List.map_toArray, List.map_cons, List.map_nil]); first | done | rfl | (simp only [List.length_drop, List.length_take]; rfl)) ?_; (with_reducible refine (strongboxref4_Bytes.calls k1 t251 t252 _ A90.out).mono ?_); rintro e w94 ⟨v253, rfl, ho0, hb⟩; refine ⟨_, rfl, ?_⟩; have n0_ := Aside0.mk (Kd.R_elder' (by (with_reducible repeat (first | apply Kd.R_alloc | apply Kd.R_drewN | apply Kd.R_drew)); exact HO_4.out) (Kd.R_base ho0) hb); have n1_ := Aside0.mk (Kd.R_lower (Kd.R_new' ho0 (Kd.R_lt (by (with_reducible repeat (first | apply Kd.R_alloc | apply Kd.R_drewN | apply Kd.R_drew)); exact HO_4.out))) (below_size (by repeat (first | (with_reducible first | exact HB.out | apply below_alloc | apply pw_below_drewN | apply below_drew1 | refine below_set ?_ GE225.out) | exact HB.out)))); have n2_ := Aside0.mk (blk_below (g := gb225) (o := .cells #[.int .i64 a0_0, .string a0_1, .slice A0_2 l0_2.length c0_2] 45 (0, 0)) (by (with_reducible repeat (first | refine blk_drewN ?_ _ | refine blk_drew ?_ | refine blk_alloc ?_ _)); exact BK225.out) hb); have n3_ := Aside0.mk (below_step (by repeat (first | (with_reducible first | exact HB.out | apply below_alloc | apply pw_below_drewN | apply below_drew1 | refine below_set ?_ GE225.out) | exact HB.out)) hb); clear HO_4; clear BK225; clear HB; have HO_4 := n0_; have HO254 := n1_; have BK225 := n2_; have HB := n3_; clear n0_ n1_ n2_ n3_; (try clear hb); (try clear hb2); (try clear hk); (try clear hi); (try clear ho0); obtain ⟨Ao96, co96, eo96⟩ := Kd.R_slice HO254.out; subst eo96) | ((with_reducible refine gate_builtin (b := .append) (xs := #[.tmp 63, .tmp 66]) rfl ?_); at_builtin; refine Kd.R_append_rows (Kd.int .u8) (w0 := w) w.heap.size rfl (.tmp 63) (.tmp 66) 22 5 (.int .u8 0) 1 rfl Try.underlying22 info5 rfl (by decide) (by omega) (.slice Ao93 x4_1.length co93) x4_1 t252 _ _ _ (fun k_ => some k_ ≠ (.slice Ao96 t252.length co96 : Value).ownBlock) (fun _ => False) rfl rfl ?aO ?aR (fun _ _ h => h) (fun _ h => h.elim) ?aF ?aB ?aS ?aL ?_; (case aR => repeat (first | exact (Kd.R_reads' HO254.out).2.2 | (with_reducible refine Kd.C_alloc ?_ _) | (with_reducible refine Kd.C_drewN ?_ _) | (with_reducible refine Kd.C_drew ?_))); (case aB => exact (by repeat (first | (with_reducible first | exact HB.out | apply below_alloc | apply pw_below_drewN | apply below_drew1 | refine below_set ?_ GE225.out) | exact HB.out))); (case aF => exact (fun k_ hk => Kd.fresh' (Kd.R_lt (by (with_reducible repeat (first | apply Kd.R_alloc | apply Kd.R_drewN | apply Kd.R_drew)); exact HO254.out)) k_ hk)); (case aO => exact (by (with_reducible repeat (first | apply Kd.R_alloc | apply Kd.R_drewN | apply Kd.R_drew)); exact Kd.R_mono HO_4.out (fun _ hk => hk.2))); (case aS => exact (below_size (by repeat (first | (with_reducible first | exact HB.out | apply below_alloc | apply pw_below_drewN | apply below_drew1 | refine below_set ?_ GE225.out) | exact HB.out)))); (case aL => have := LMc91.out; omega); intro v256 w95 ho hb hg hat; rw [← Ny255.out] at ho; have n0_ := Aside0.mk (blk_grown (g := gb225) (o := .cells #[.int .i64 a0_0, .string a0_1, .slice A0_2 l0_2.length c0_2] 45 (0, 0)) (by (with_reducible repeat (first | refine blk_drewN ?_ _ | refine blk_drew ?_ | refine blk_alloc ?_ _)); exact BK225.out) hg (Kd.R_ne HO_4.out BK225.out (by decide))); have n1_ := Aside0.mk (Kd.R_after (ok := (fun _ => True)) (by (with_reducible repeat (first | apply Kd.R_alloc | apply Kd.R_drewN | apply Kd.R_drew)); exact HO254.out) hg hat); have n2_ := Aside0.mk (hb); have n3_ := Aside0.mk (ho); clear BK225; clear HO254; clear HB; clear HO_4; have BK225 := n0_; have HO254 := n1_; have HB := n2_; have HO257 := n3_; clear n0_ n1_ n2_ n3_; clear ho hb hg hat))
          go_ret2
          exact ⟨_, by first | rfl | (simp [errW_none, errW_some] <;> rfl) | (simp [*, errW_none, errW_some] <;> rfl), by (with_reducible repeat (first | apply Kd.R_alloc | apply Kd.R_drewN | apply Kd.R_drew)); exact Kd.R_mono HO257.out (fun _ hk => trivial), by repeat (first | (with_reducible first | exact HB.out | apply below_alloc | apply pw_below_drewN | apply below_drew1 | refine below_set ?_ GE225.out) | exact HB.out)⟩
         ·rw [if_neg c91] at H
          exact absurd H (by simp)
     ·rw [if_neg c9] at H
      exact absurd H (by simp)
    ·rw [if_neg c8] at H
     exact absurd H (by simp)
   ·rw [if_neg c7] at H
    exact absurd H (by simp)
  ·rw [if_neg c5] at H
   exact absurd H (by simp)
 ·replace c3 := Bool.eq_false_iff.mpr c3
  subst c3
  have H1 : (some (([] : List Int), 1)) = some (r1, r2) := by rw [if_neg (show ¬ (false = true) by decide)] at H; exact H
  clear H
  have H := H1
  clear H1
  simp only [Option.some.injEq, Prod.mk.injEq] at H
  obtain ⟨rfl, rfl⟩ := H
  go_enter Try.func25, Try.ntmps25
  go_wp2_with (first | ((with_reducible refine gate_dst (N := 1) rfl ?_); refine box_event ?hg (N := 1) ?hd (cs := #[.int .i64 a0_0, .string a0_1, .slice A0_2 l0_2.length c0_2]) (t := 45) ?hr ?_; (case hd => rfl); (case hg => rfl); (case hr => first | (go_simp; done) | (go_simp; rfl)); intro gb225 hg w97 hbox hb; have n0_ := Aside0.mk (below_step (by repeat (first | (with_reducible first | exact HB.out | apply below_alloc | apply pw_below_drewN | apply below_drew1) | exact HB.out)) hb); have n1_ := Aside0.mk (hbox); have n2_ := Aside0.mk ((by rw [hg]; exact (below_size (by repeat (first | (with_reducible first | exact HB.out | apply below_alloc | apply pw_below_drewN | apply below_drew1) | exact HB.out))) : w.heap.size ≤ gb225)); have n3_ := Aside0.mk ((by rw [hg]; exact (below_size (by repeat (first | (with_reducible first | exact HB.out | apply below_alloc | apply pw_below_drewN | apply below_drew1) | exact HB.out))) : w.heap.size ≤ gb225)); clear HB; have HB := n0_; have BK225 := n1_; have GW225 := n2_; have GE225 := n3_; clear n0_ n1_ n2_ n3_; clear hb hbox hg; have hcz98_0 : w97.cell? ⟨gb225, 0, none⟩ = some (.int .i64 a0_0) := (blk_cell BK225.out 0).trans rfl; have hcz98_1 : w97.cell? ⟨gb225, 1, none⟩ = some (.string a0_1) := (blk_cell BK225.out 1).trans rfl; have hcz98_2 : w97.cell? ⟨gb225, 2, none⟩ = some (.slice A0_2 l0_2.length c0_2) := (blk_cell BK225.out 2).trans rfl; have hfz98_0 := blk_frozen BK225.out 0; have hfz98_1 := blk_frozen BK225.out 1; have hfz98_2 := blk_frozen BK225.out 2) | ((with_reducible refine gate_callee (f := 27) rfl ?_); refine goesL_ (some 9) rfl rfl Try.func27 (by kernel_rfl) rfl #[.agg #[.int .i64 a0_0, .string a0_1, .slice A0_2 l0_2.length c0_2]] rfl (by (try simp only [List.map_toArray, List.map_cons, List.map_nil]); first | done | rfl | (simp only [List.length_drop, List.length_take]; rfl)) ?_; (with_reducible refine (strongboxref4_May.calls k a0_0 a0_1 _ _ l0_2 false _ ?side1 ?side2 A2.out).mono ?_); (case side1 => repeat (first | exact (Kd.C_below HR0_2.out HB.out) | (with_reducible refine Kd.C_alloc ?_ _) | (with_reducible refine Kd.C_drewN ?_ _) | (with_reducible refine Kd.C_drew ?_))); (case side2 => exact HC0_2.out); rintro e w99 ⟨rfl, hb⟩; refine ⟨_, rfl, ?_⟩; have n0_ := Aside0.mk (blk_below (g := gb225) (o := .cells #[.int .i64 a0_0, .string a0_1, .slice A0_2 l0_2.length c0_2] 45 (0, 0)) (by (with_reducible repeat (first | refine blk_drewN ?_ _ | refine blk_drew ?_ | refine blk_alloc ?_ _)); exact BK225.out) hb); have n1_ := Aside0.mk (below_step (by repeat (first | (with_reducible first | exact HB.out | apply below_alloc | apply pw_below_drewN | apply below_drew1 | refine below_set ?_ GE225.out) | exact HB.out)) hb); clear BK225; clear HB; have BK225 := n0_; have HB := n1_; clear n0_ n1_; (try clear hb); (try clear hb2); (try clear hk); (try clear hi)))
  go_ret2
  exact ⟨_, by first | rfl | (simp [errW_none, errW_some] <;> rfl) | (simp [*, errW_none, errW_some] <;> rfl), by first | exact Kd.R_nil _ _ _ _ _ | exact Kd.N_nil _ _ _ _ _ | exact Kd.V_nil _ _ _ _ _ | exact Kd.Q_nil _ _ _ _ _ | exact Kd.S_nil _ _ _ _ _, by repeat (first | (with_reducible first | exact HB.out | apply below_alloc | apply pw_below_drewN | apply below_drew1 | refine below_set ?_ GE225.out) | exact HB.out)⟩

end Go.Proofs.Ytnlpipjdpmaggaa.PJournalBursts
