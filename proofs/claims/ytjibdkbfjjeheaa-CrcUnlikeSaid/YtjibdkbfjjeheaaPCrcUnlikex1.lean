/- WRITTEN FOR THIS CLAIM by a program of the prover's own (the kit's printing program, with constructs added): for each Go function that the statement reaches a Lean function with the same answers, and the proof of that. Not trusted: Lean checks it. -/
import Derived.Test.YtjibdkbfjjeheaaPCrcUnlikex0
import Derived.Lib.SlBytesConst
namespace Go.Proofs.Ytjibdkbfjjeheaa.PCrcUnlike
open Go.RowKit Go.Proofs.YtjibdkbfjjeheaaW.PrintWords Go.Proofs.YtjibdkbfjjeheaaW.PrintLast Go.Proofs.YtjibdkbfjjeheaaW.PrintMore
attribute [local go_sem] max2_int min2_int max_two min_two max_three min_three max_four min_four   -- for this text's walks alone
set_option linter.unusedVariables false
set_option linter.unusedSimpArgs false

/-! ### crc_More: function 9 -/
mutual
def crc_More.l0 : Nat → Int → List Int → Int → Int → Option (Int)
  | 0, _, _, _, _ => none
  | k + 1, x0, x10, x11, x12 => if x12 < x11 then (if 0 ≤ x12 then (if x12 < (x10.length : Int) then (crc_More.l1 k (Go.bits .xor .u32 x0 ((rd x10 x12) % 4294967296)) x10 x11 x12 0) else (none)) else (none)) else (some (Go.bits .xor .u32 4294967295 x0))
def crc_More.l1 : Nat → Int → List Int → Int → Int → Int → Option (Int)
  | 0, _, _, _, _, _ => none
  | k + 1, x0, x10, x11, x12, x20 => if x20 < 8 then (if (Go.bits .and .u32 x0 1) = 1 then (crc_More.l1 k (Go.bits .xor .u32 (x0 / 2) 2197175160) x10 x11 x12 (wrap64 (x20 + 1))) else (crc_More.l1 k (x0 / 2) x10 x11 x12 (wrap64 (x20 + 1)))) else (crc_More.l0 k x0 x10 x11 (wrap64 (x12 + 1)))
end
def crc_More.f (k : Nat) (a0 : Int) (l1 : List Int) : Option (Int) := crc_More.l0 k (Go.bits .xor .u32 4294967295 a0) l1 (l1.length : Int) 0
theorem crc_More.mono_l : ∀ k, (∀ y0 y1 y2 y3, LeO (crc_More.l0 k y0 y1 y2 y3) (crc_More.l0 (k + 1) y0 y1 y2 y3)) ∧ (∀ y0 y1 y2 y3 y4, LeO (crc_More.l1 k y0 y1 y2 y3 y4) (crc_More.l1 (k + 1) y0 y1 y2 y3 y4))
  | 0 => ⟨fun _ _ _ _ r h => by simp [crc_More.l0] at h, fun _ _ _ _ _ r h => by simp [crc_More.l1] at h⟩
  | k + 1 => by
    obtain ⟨ih0, ih1⟩ := crc_More.mono_l k
    refine ⟨?_, ?_⟩
    · intro y0 y1 y2 y3
      unfold crc_More.l0
      repeat' first
      | (with_reducible exact ih0 _ _ _ _)
      | (with_reducible exact ih1 _ _ _ _ _)
      | (with_reducible exact LeO.refl _)
      | (with_reducible exact LeO.none _)
      | (with_reducible refine LeO.ite ?_ ?_)
      | (with_reducible refine LeO.bind ?_ (fun _ => ?_))
      | exact ih0 _ _ _ _
      | exact ih1 _ _ _ _ _
      | exact LeO.none _
      | refine LeO.ite ?_ ?_
      | refine LeO.bind ?_ (fun _ => ?_)
    · intro y0 y1 y2 y3 y4
      unfold crc_More.l1
      repeat' first
      | (with_reducible exact ih0 _ _ _ _)
      | (with_reducible exact ih1 _ _ _ _ _)
      | (with_reducible exact LeO.refl _)
      | (with_reducible exact LeO.none _)
      | (with_reducible refine LeO.ite ?_ ?_)
      | (with_reducible refine LeO.bind ?_ (fun _ => ?_))
      | exact ih0 _ _ _ _
      | exact ih1 _ _ _ _ _
      | exact LeO.none _
      | refine LeO.ite ?_ ?_
      | refine LeO.bind ?_ (fun _ => ?_)
theorem crc_More.mono : ∀ a0 a1 k, LeO (crc_More.f k a0 a1) (crc_More.f (k + 1) a0 a1) := by
  intro a0 a1 k
  obtain ⟨ih0, ih1⟩ := crc_More.mono_l k
  unfold crc_More.f
  repeat' first
      | (with_reducible exact ih0 _ _ _ _)
      | (with_reducible exact ih1 _ _ _ _ _)
      | (with_reducible exact LeO.refl _)
      | (with_reducible exact LeO.none _)
      | (with_reducible refine LeO.ite ?_ ?_)
      | (with_reducible refine LeO.bind ?_ (fun _ => ?_))
      | exact ih0 _ _ _ _
      | exact ih1 _ _ _ _ _
      | exact LeO.none _
      | refine LeO.ite ?_ ?_
      | refine LeO.bind ?_ (fun _ => ?_)
set_option maxHeartbeats 8000000 in
set_option maxRecDepth 100000 in
theorem crc_More.calls (k : Nat) (a0 : Int) (A1 : Option Addr) (c1 : Nat) (l1 : List Int) (r : Int) (w : World) (hr1 : Kd.C (Kd.int .u8) w A1 l1.length l1) (hc1 : l1.length ≤ c1) (h : crc_More.f k a0 l1 = some r) :
    Calls Try.prog 9 #[.int .u32 a0, .slice A1 l1.length c1] w fun e w' => e = .returned (.int .u32 r) ∧ Drawn0 w w' := by
  have HR1 := Aside0.mk hr1
  have HC1 := Aside0.mk hc1
  clear hr1 hc1
  have H : (crc_More.l0 k (Go.bits .xor .u32 4294967295 a0) l1 (l1.length : Int) 0) = some r := h
  clear h
  have H' := Aside0.mk H
  clear H
  go_enter Try.func9, Try.ntmps9
  go_wp2
  go_loopg [0, 12] k (fun kq v0 v12 w' => ∃ (x0_1 : Int) (x12_1 : Int), v0 = .int .u32 x0_1 ∧ v12 = .int .i64 x12_1 ∧ Aside0 (crc_More.l0 kq x0_1 l1 (l1.length : Int) x12_1 = some r) ∧ Aside0 (kq ≤ k) ∧ Drawn0 w w')
  case atStart => exact ⟨(Go.bits .xor .u32 4294967295 a0), (0), (by first | rfl | (simp; done) | (simp [*]; done)), (by first | rfl | (simp; done) | (simp [*]; done)), H', ⟨Nat.le_refl _⟩, by repeat (first | exact Drawn0.refl _ | apply Drawn0.step)⟩
  case round =>
    clear H'
    try clear c1
    try clear p2
    obtain ⟨x0_1, x12_1, rfl, rfl, HA, HK1, ⟨m1, rfl⟩⟩ := hrel
    cases gk with
    | zero => exact absurd HA.out (by simp [crc_More.l0])
    | succ k1 =>
      have H := HA.out
      clear HA
      simp only [crc_More.l0] at H
      by_cases c3 : x12_1 < (l1.length : Int)
      · rw [if_pos c3] at H
        have c3b0 : decide (x12_1 < (l1.length : Int)) = true := decide_eq_true c3
        clear c3
        by_cases c4 : 0 ≤ x12_1
        · rw [if_pos c4] at H
          have c4b0 : decide (0 ≤ x12_1) = true := decide_eq_true c4
          clear c4
          by_cases c5 : x12_1 < (l1.length : Int)
          · rw [if_pos c5] at H
            have c5b0 : decide (x12_1 < (l1.length : Int)) = true := decide_eq_true c5
            clear c5
            have H' := Aside0.mk H
            clear H
            have p101 : 0 ≤ (x12_1 : Int) := of_decide_eq_true (by first | (with_reducible assumption) | assumption)
            have q101 : x12_1 < (l1.length : Int) := of_decide_eq_true (by first | (with_reducible assumption) | assumption)
            obtain ⟨ad101, e101, hx101_0⟩ := Kd.at_int HR1.out x12_1 p101 q101
            cases e101
            replace p101 := eq_true p101
            replace q101 := eq_true q101
            go_wp2
            go_loopg [0, 20] k1 (fun kq v0 v20 w' => ∃ (x0_2 : Int) (x20_2 : Int), v0 = .int .u32 x0_2 ∧ v20 = .int .i64 x20_2 ∧ Aside0 (crc_More.l1 kq x0_2 l1 (l1.length : Int) x12_1 x20_2 = some r) ∧ Aside0 (kq ≤ k1) ∧ Drawn0 w w')
            case atStart => exact ⟨(Go.bits .xor .u32 x0_1 ((rd l1 x12_1) % 4294967296)), (0), (by first | rfl | (simp; done) | (simp [*]; done)), (by first | rfl | (simp; done) | (simp [*]; done)), H', ⟨Nat.le_refl _⟩, by repeat (first | exact Drawn0.refl _ | apply Drawn0.step)⟩
            case round =>
              clear H'
              try clear c1
              try clear p1
              try clear q1
              try clear hx1
              try clear p2
              try clear c3
              try clear c3b0
              try clear c4
              try clear c4b0
              try clear c5
              try clear c5b0
              try clear hx101_0
              try clear p101
              try clear p2
              try clear q101
              obtain ⟨x0_2, x20_2, rfl, rfl, HA, HK2, ⟨m2, rfl⟩⟩ := hrel
              cases gk with
              | zero => exact absurd HA.out (by simp [crc_More.l1])
              | succ k2 =>
                have H := HA.out
                clear HA
                simp only [crc_More.l1] at H
                by_cases c6 : x20_2 < 8
                · rw [if_pos c6] at H
                  have c6b0 : decide (x20_2 < 8) = true := decide_eq_true c6
                  clear c6
                  by_cases c7 : (Go.bits .and .u32 x0_2 1) = 1
                  · rw [if_pos c7] at H
                    have c7b0 : ((Go.bits .and .u32 x0_2 1) == 1) = true := beq_iff_eq.mpr c7
                    have c7b1 : ((Go.bits .and .u32 x0_2 1) != 1) = false := bne_eq_false_iff_eq.mpr c7
                    clear c7
                    have H' := Aside0.mk H
                    clear H
                    go_wp2
                    go_roundg k2
                    case measure => have := HK1.out; have := HK2.out; omega
                    case rel => exact ⟨(Go.bits .xor .u32 (x0_2 / 2) 2197175160), (wrap64 (x20_2 + 1)), (by first | rfl | (simp; done) | (simp [*]; done)), (by first | rfl | (simp; done) | (simp [*]; done)), H', ⟨by have := HK1.out; have := HK2.out; omega⟩, by repeat (first | exact Drawn0.refl _ | apply Drawn0.step)⟩
                  · rw [if_neg c7] at H
                    have c7b0 : ((Go.bits .and .u32 x0_2 1) == 1) = false := beq_eq_false_iff_ne.mpr c7
                    have c7b1 : ((Go.bits .and .u32 x0_2 1) != 1) = true := bne_iff_ne.mpr c7
                    have H' := Aside0.mk H
                    clear H
                    go_wp2
                    go_roundg k2
                    case measure => have := HK1.out; have := HK2.out; omega
                    case rel => exact ⟨(x0_2 / 2), (wrap64 (x20_2 + 1)), (by first | rfl | (simp; done) | (simp [*]; done)), (by first | rfl | (simp; done) | (simp [*]; done)), H', ⟨by have := HK1.out; have := HK2.out; omega⟩, by repeat (first | exact Drawn0.refl _ | apply Drawn0.step)⟩
                · rw [if_neg c6] at H
                  have c6b0 : decide (x20_2 < 8) = false := decide_eq_false c6
                  clear c6
                  have H' := Aside0.mk H
                  clear H
                  go_wp2
                  go_roundg k2
                  case measure => have := HK1.out; have := HK2.out; omega
                  case rel => exact ⟨(x0_2), (wrap64 (x12_1 + 1)), (by first | rfl | (simp; done) | (simp [*]; done)), (by first | rfl | (simp; done) | (simp [*]; done)), H', ⟨by have := HK1.out; have := HK2.out; omega⟩, by repeat (first | exact Drawn0.refl _ | apply Drawn0.step)⟩
          · rw [if_neg c5] at H
            exact absurd H (by simp)
        · rw [if_neg c4] at H
          exact absurd H (by simp)
      · rw [if_neg c3] at H
        have c3b0 : decide (x12_1 < (l1.length : Int)) = false := decide_eq_false c3
        clear c3
        obtain rfl := Option.some.inj H
        go_wp2
        go_ret
        exact ⟨by first | rfl | (simp; done) | (simp [*]; done), by repeat (first | exact Drawn0.refl _ | apply Drawn0.step)⟩

/-! ### crc_Sum: function 8 -/
def crc_Sum.f (k : Nat) (l0 : List Int) : Option (Int) := (crc_More.f k 0 l0).bind fun t102 => (some t102)
theorem crc_Sum.mono : ∀ a0 k, LeO (crc_Sum.f k a0) (crc_Sum.f (k + 1) a0) := by
  intro a0 k
  unfold crc_Sum.f
  repeat' first
      | (with_reducible exact crc_More.mono _ _ _)
      | (with_reducible exact LeO.refl _)
      | (with_reducible exact LeO.none _)
      | (with_reducible refine LeO.ite ?_ ?_)
      | (with_reducible refine LeO.bind ?_ (fun _ => ?_))
      | exact crc_More.mono _ _ _
      | exact LeO.none _
      | refine LeO.ite ?_ ?_
      | refine LeO.bind ?_ (fun _ => ?_)
set_option maxHeartbeats 8000000 in
set_option maxRecDepth 100000 in
theorem crc_Sum.calls (k : Nat) (A0 : Option Addr) (c0 : Nat) (l0 : List Int) (r : Int) (w : World) (hr0 : Kd.C (Kd.int .u8) w A0 l0.length l0) (hc0 : l0.length ≤ c0) (h : crc_Sum.f k l0 = some r) :
    Calls Try.prog 8 #[.slice A0 l0.length c0] w fun e w' => e = .returned (.int .u32 r) ∧ Drawn0 w w' := by
  have HR0 := Aside0.mk hr0
  have HC0 := Aside0.mk hc0
  clear hr0 hc0
  have H : ((crc_More.f k 0 l0).bind fun t102 => (some t102)) = some r := h
  clear h
  replace H := Option.bind_eq_some_iff.mp H
  obtain ⟨t102, A20, H⟩ := H
  replace H : (some t102) = some r := H
  have A2 := Aside0.mk A20
  clear A20
  obtain rfl := Option.some.inj H
  go_enter Try.func8, Try.ntmps8
  go_wp2_with (first | ((with_reducible refine gate_callee (f := 9) rfl ?_); refine goesL_ (some 4) rfl rfl Try.func9 (by kernel_rfl) rfl #[.int .u32 0, .slice A0 l0.length c0] rfl (by (try simp only [List.map_toArray, List.map_cons, List.map_nil]); first | done | rfl | (simp only [List.length_drop, List.length_take]; rfl)) ?_; (with_reducible refine (crc_More.calls k 0 _ _ l0 t102 _ ?side1 ?side2 A2.out).mono ?_); (case side1 => repeat (first | exact HR0.out | (with_reducible refine Kd.C_alloc ?_ _) | (with_reducible refine Kd.C_drewN ?_ _) | (with_reducible refine Kd.C_drew ?_))); (case side2 => exact HC0.out); rintro e w' ⟨rfl, ⟨nd, rfl⟩⟩; refine ⟨_, rfl, ?_⟩))
  go_ret
  exact ⟨by first | rfl | (simp; done) | (simp [*]; done), by repeat (first | exact Drawn0.refl _ | apply Drawn0.step)⟩

/-! ### strongboxlaw4_awake: function 7 -/
def strongboxlaw4_awake.f (k : Nat)  : Option (Bool) := (crc_Sum.f k (([49, 50, 51, 52, 53, 54, 55, 56, 57] : List Int))).bind fun t106 => (if t106 = 3808858755 then ((crc_Sum.f k ([] : List Int)).bind fun t107 => (some (t107 == 0))) else (some false))
theorem strongboxlaw4_awake.mono : ∀ k, LeO (strongboxlaw4_awake.f k ) (strongboxlaw4_awake.f (k + 1) ) := by
  intro  k
  unfold strongboxlaw4_awake.f
  repeat' first
      | (with_reducible exact crc_Sum.mono _ _)
      | (with_reducible exact LeO.refl _)
      | (with_reducible exact LeO.none _)
      | (with_reducible refine LeO.ite ?_ ?_)
      | (with_reducible refine LeO.bind ?_ (fun _ => ?_))
      | exact crc_Sum.mono _ _
      | exact LeO.none _
      | refine LeO.ite ?_ ?_
      | refine LeO.bind ?_ (fun _ => ?_)
theorem C_marked (w : World) (xs : List Int) (e : TypeId) (m : Nat × Nat) (hm : xs.length ≤ 9223372036854775807) :
    Kd.C (Kd.int .u8) (w.alloc (.cells (xs.map (Value.int .u8)).toArray e m)) (some ⟨w.heap.size, 0, none⟩) xs.length xs := by
  refine ⟨rfl, hm, fun _ => ⟨_, rfl, ?_⟩⟩
  intro j p hj
  refine ⟨[.int .u8 p], rfl, rfl, ?_⟩
  intro i u hu
  cases i with
  | succ i => simp at hu
  | zero =>
    have hu' : Value.int .u8 p = u := by simpa using hu
    subst hu'
    have e1 : (Kd.int .u8).sz = 1 := rfl
    rw [e1]
    have e2 : ({ block := w.heap.size, off := 0 } : Addr).add (j * 1 + 0) = ⟨w.heap.size, j, none⟩ := by
      simp only [Addr.add]
      split
      · next h => first | (simp; done) | (simp; omega)
      · simp
    rw [e2, World.cell?_alloc_mark]
    simp [hj]
theorem bool_beq_true {a b : Int} (h : a = b) : (a == b) = true := beq_iff_eq.mpr h
set_option maxHeartbeats 400000 in
theorem strongboxlaw4_awake.calls (k : Nat)  (r : Bool) (w : World) (h : strongboxlaw4_awake.f k  = some r) :
    Calls Try.prog 7 #[] w fun e w' => e = .returned (.bool r) ∧ Below w.heap.size w w' := by
  have HB := Aside0.mk (Below.refl w.heap.size w)
  have H : ((crc_Sum.f k (([49, 50, 51, 52, 53, 54, 55, 56, 57] : List Int))).bind fun t106 => (if t106 = 3808858755 then ((crc_Sum.f k ([] : List Int)).bind fun t107 => (some (t107 == 0))) else (some false))) = some r := h
  clear h
  replace H := Option.bind_eq_some_iff.mp H
  obtain ⟨t106, A10, H⟩ := H
  replace H : (if t106 = 3808858755 then ((crc_Sum.f k ([] : List Int)).bind fun t107 => (some (t107 == 0))) else (some false)) = some r := H
  have A1 := Aside0.mk A10
  clear A10
  have kc := fun (w : World) (C : Array Value) (n c : Nat) => Lib.run_convert_bytes_const (P := Try.prog) w 22 5 C n c Try.underlying22 Try.underlying5
  have HC := Aside0.mk (C_marked w [49, 50, 51, 52, 53, 54, 55, 56, 57] 5 (9, 10) (by decide))
  by_cases c2 : t106 = 3808858755
  · rw [if_pos c2] at H
    have c2b0 : (t106 == 3808858755) = true := beq_iff_eq.mpr c2
    have c2b1 : (t106 != 3808858755) = false := bne_eq_false_iff_eq.mpr c2
    clear c2
    replace H := Option.bind_eq_some_iff.mp H
    obtain ⟨t107, A30, H⟩ := H
    replace H : (some (t107 == 0)) = some r := H
    have A3 := Aside0.mk A30
    clear A30
    obtain rfl := Option.some.inj H
    go_enter Try.func7, Try.ntmps7
    go_wp2_with (first | ((with_reducible refine gate_callee (f := 8) rfl ?_); refine goesL_ (some 3) rfl rfl Try.func8 (by kernel_rfl) rfl #[.slice (some ⟨w.heap.size, 0, none⟩) 9 9] rfl (by (try simp only [List.map_toArray, List.map_cons, List.map_nil]); first | done | rfl) ?_; refine (crc_Sum.calls k (some ⟨w.heap.size, 0, none⟩) 9 [49, 50, 51, 52, 53, 54, 55, 56, 57] t106 _ HC.out (by decide) A1.out).mono ?_; rintro e w' ⟨rfl, ⟨nd, rfl⟩⟩; refine ⟨_, rfl, ?_⟩) | (go_at_call 8; (refine (crc_Sum.calls k _ _ ([] : List Int) t107 _ ?side1 ?side2 A3.out).mono ?_); (case side1 => exact Kd.C_nil _ _); (case side2 => exact Nat.le_refl _); rintro e w' ⟨rfl, ⟨nd, rfl⟩⟩))
    go_ret
    exact ⟨by first | rfl | (simp [errW_none, errW_some] <;> rfl) | (simp [*, errW_none, errW_some] <;> rfl), by repeat (first | (with_reducible first | exact HB.out | apply below_alloc | apply pw_below_drewN | apply below_drew1) | exact HB.out)⟩
  · rw [if_neg c2] at H
    have c2b0 : (t106 == 3808858755) = false := beq_eq_false_iff_ne.mpr c2
    have c2b1 : (t106 != 3808858755) = true := bne_iff_ne.mpr c2
    obtain rfl := Option.some.inj H
    go_enter Try.func7, Try.ntmps7
    go_wp2_with (first | ((with_reducible refine gate_callee (f := 8) rfl ?_); refine goesL_ (some 3) rfl rfl Try.func8 (by kernel_rfl) rfl #[.slice (some ⟨w.heap.size, 0, none⟩) 9 9] rfl (by (try simp only [List.map_toArray, List.map_cons, List.map_nil]); first | done | rfl) ?_; refine (crc_Sum.calls k (some ⟨w.heap.size, 0, none⟩) 9 [49, 50, 51, 52, 53, 54, 55, 56, 57] t106 _ HC.out (by decide) A1.out).mono ?_; rintro e w' ⟨rfl, ⟨nd, rfl⟩⟩; refine ⟨_, rfl, ?_⟩))
    go_ret
    exact ⟨by first | rfl | (simp [errW_none, errW_some] <;> rfl) | (simp [*, errW_none, errW_some] <;> rfl), by repeat (first | (with_reducible first | exact HB.out | apply below_alloc | apply pw_below_drewN | apply below_drew1) | exact HB.out)⟩

/-! ### strongboxlaw4_CrcUnlike: function 3 -/
mutual
def strongboxlaw4_CrcUnlike.j0 : Nat → List Int → Int → Int → Bool → Option (Bool)
  | 0, _, _, _, _ => none
  | k + 1, x0, x1, x2, x25 => if x25 = true then (some true) else ((some (([] : List Int) : List Int)).bind fun y109 => (if y109.length + x0.length < 140737488355328 then (if 0 ≤ (x0.length : Int) then (if ((x0.length : Int) : Int).toNat ≤ 281474976710656 then (if (wrap64 ((wrap64 (8 * (x0.length : Int))) - 31)) = 0 then (none) else (strongboxlaw4_CrcUnlike.l0 k x0 x2 (y109 ++ x0) (List.replicate ((x0.length : Int) : Int).toNat 0) (Int.tmod (wrap64 (x1)) (wrap64 ((wrap64 (8 * (x0.length : Int))) - 31))) 0)) else (none)) else (none)) else (none)))
def strongboxlaw4_CrcUnlike.l0 : Nat → List Int → Int → List Int → List Int → Int → Int → Option (Bool)
  | 0, _, _, _, _, _, _ => none
  | k + 1, x0, x2, x7, x8, x9, x10 => if x10 < 32 then (if 0 ≤ (IntKind.u64.wrap (x10)) then (if (Go.bits .and .u32 (shr .u32 x2 (IntKind.u64.wrap (x10))) 1) = 1 then (if 0 ≤ (wrap64 (Int.tdiv (wrap64 (x9 + x10)) 8)) then (if (wrap64 (Int.tdiv (wrap64 (x9 + x10)) 8)) < (x7.length : Int) then (if 0 ≤ (IntKind.u64.wrap (Int.tmod (wrap64 (x9 + x10)) 8)) then (if (wrap64 (Int.tdiv (wrap64 (x9 + x10)) 8)) < (x8.length : Int) then (strongboxlaw4_CrcUnlike.l0 k x0 x2 (x7.set ((wrap64 (Int.tdiv (wrap64 (x9 + x10)) 8)) : Int).toNat (Go.bits .xor .u8 (rd x7 (wrap64 (Int.tdiv (wrap64 (x9 + x10)) 8))) (shl .u8 1 (IntKind.u64.wrap (Int.tmod (wrap64 (x9 + x10)) 8))))) (x8.set ((wrap64 (Int.tdiv (wrap64 (x9 + x10)) 8)) : Int).toNat (Go.bits .xor .u8 (rd x8 (wrap64 (Int.tdiv (wrap64 (x9 + x10)) 8))) (shl .u8 1 (IntKind.u64.wrap (Int.tmod (wrap64 (x9 + x10)) 8))))) x9 (wrap64 (x10 + 1))) else (none)) else (none)) else (none)) else (none)) else (strongboxlaw4_CrcUnlike.l0 k x0 x2 x7 x8 x9 (wrap64 (x10 + 1)))) else (none)) else (if 0 ≤ (x0.length : Int) then (if ((x0.length : Int) : Int).toNat ≤ 281474976710656 then ((crc_Sum.f k (List.replicate ((x0.length : Int) : Int).toNat 0)).bind fun t125 => ((crc_Sum.f k x0).bind fun t126 => ((crc_Sum.f k x7).bind fun t127 => (if t126 = t127 then (some false) else ((crc_Sum.f k x0).bind fun t128 => ((crc_Sum.f k x7).bind fun t129 => ((crc_Sum.f k x8).bind fun t130 => (some ((Go.bits .xor .u32 t128 t129) == (Go.bits .xor .u32 t130 t125)))))))))) else (none)) else (none))
end
def strongboxlaw4_CrcUnlike.f (k : Nat) (l0 : List Int) (a1 : Int) (a2 : Int) : Option (Bool) := (strongboxlaw4_awake.f k).bind fun t108 => (if t108 = true then (if (l0.length : Int) < 4 then (strongboxlaw4_CrcUnlike.j0 k l0 a1 a2 true) else (if (l0.length : Int) > 4000 then (strongboxlaw4_CrcUnlike.j0 k l0 a1 a2 true) else (strongboxlaw4_CrcUnlike.j0 k l0 a1 a2 (a2 == 0)))) else (some false))
theorem strongboxlaw4_CrcUnlike.mono_l : ∀ k, (∀ y0 y1 y2 y3, LeO (strongboxlaw4_CrcUnlike.j0 k y0 y1 y2 y3) (strongboxlaw4_CrcUnlike.j0 (k + 1) y0 y1 y2 y3)) ∧ (∀ y0 y1 y2 y3 y4 y5, LeO (strongboxlaw4_CrcUnlike.l0 k y0 y1 y2 y3 y4 y5) (strongboxlaw4_CrcUnlike.l0 (k + 1) y0 y1 y2 y3 y4 y5))
  | 0 => ⟨fun _ _ _ _ r h => by simp [strongboxlaw4_CrcUnlike.j0] at h, fun _ _ _ _ _ _ r h => by simp [strongboxlaw4_CrcUnlike.l0] at h⟩
  | k + 1 => by
    obtain ⟨ih0, ih1⟩ := strongboxlaw4_CrcUnlike.mono_l k
    refine ⟨?_, ?_⟩
    · intro y0 y1 y2 y3
      unfold strongboxlaw4_CrcUnlike.j0
      repeat' first
      | (with_reducible exact ih0 _ _ _ _)
      | (with_reducible exact ih1 _ _ _ _ _ _)
      | (with_reducible exact crc_Sum.mono _ _)
      | (with_reducible exact strongboxlaw4_awake.mono _)
      | (with_reducible exact LeO.refl _)
      | (with_reducible exact LeO.none _)
      | (with_reducible refine LeO.ite ?_ ?_)
      | (with_reducible refine LeO.bind ?_ (fun _ => ?_))
      | exact ih0 _ _ _ _
      | exact ih1 _ _ _ _ _ _
      | exact crc_Sum.mono _ _
      | exact strongboxlaw4_awake.mono _
      | exact LeO.none _
      | refine LeO.ite ?_ ?_
      | refine LeO.bind ?_ (fun _ => ?_)
    · intro y0 y1 y2 y3 y4 y5
      unfold strongboxlaw4_CrcUnlike.l0
      repeat' first
      | (with_reducible exact ih0 _ _ _ _)
      | (with_reducible exact ih1 _ _ _ _ _ _)
      | (with_reducible exact crc_Sum.mono _ _)
      | (with_reducible exact strongboxlaw4_awake.mono _)
      | (with_reducible exact LeO.refl _)
      | (with_reducible exact LeO.none _)
      | (with_reducible refine LeO.ite ?_ ?_)
      | (with_reducible refine LeO.bind ?_ (fun _ => ?_))
      | exact ih0 _ _ _ _
      | exact ih1 _ _ _ _ _ _
      | exact crc_Sum.mono _ _
      | exact strongboxlaw4_awake.mono _
      | exact LeO.none _
      | refine LeO.ite ?_ ?_
      | refine LeO.bind ?_ (fun _ => ?_)
theorem strongboxlaw4_CrcUnlike.mono : ∀ a0 a1 a2 k, LeO (strongboxlaw4_CrcUnlike.f k a0 a1 a2) (strongboxlaw4_CrcUnlike.f (k + 1) a0 a1 a2) := by
  intro a0 a1 a2 k
  obtain ⟨ih0, ih1⟩ := strongboxlaw4_CrcUnlike.mono_l k
  unfold strongboxlaw4_CrcUnlike.f
  repeat' first
      | (with_reducible exact ih0 _ _ _ _)
      | (with_reducible exact ih1 _ _ _ _ _ _)
      | (with_reducible exact crc_Sum.mono _ _)
      | (with_reducible exact strongboxlaw4_awake.mono _)
      | (with_reducible exact LeO.refl _)
      | (with_reducible exact LeO.none _)
      | (with_reducible refine LeO.ite ?_ ?_)
      | (with_reducible refine LeO.bind ?_ (fun _ => ?_))
      | exact ih0 _ _ _ _
      | exact ih1 _ _ _ _ _ _
      | exact crc_Sum.mono _ _
      | exact strongboxlaw4_awake.mono _
      | exact LeO.none _
      | refine LeO.ite ?_ ?_
      | refine LeO.bind ?_ (fun _ => ?_)
set_option maxHeartbeats 8000000 in
set_option maxRecDepth 100000 in
theorem strongboxlaw4_CrcUnlike.calls (k : Nat) (A0 : Option Addr) (c0 : Nat) (l0 : List Int) (a1 : Int) (a2 : Int) (r : Bool) (w : World) (hr0 : Kd.C (Kd.int .u8) w A0 l0.length l0) (hc0 : l0.length ≤ c0) (h : strongboxlaw4_CrcUnlike.f k l0 a1 a2 = some r) :
    Calls Try.prog 3 #[.slice A0 l0.length c0, .int .u32 a1, .int .u32 a2] w fun e w' => e = .returned (.bool r) ∧ Below w.heap.size w w' := by
  have HR0 := Aside0.mk hr0
  have HC0 := Aside0.mk hc0
  clear hr0 hc0
  have HB := Aside0.mk (Below.refl w.heap.size w)
  have H : ((strongboxlaw4_awake.f k).bind fun t108 => (if t108 = true then (if (l0.length : Int) < 4 then (strongboxlaw4_CrcUnlike.j0 k l0 a1 a2 true) else (if (l0.length : Int) > 4000 then (strongboxlaw4_CrcUnlike.j0 k l0 a1 a2 true) else (strongboxlaw4_CrcUnlike.j0 k l0 a1 a2 (a2 == 0)))) else (some false))) = some r := h
  clear h
  replace H := Option.bind_eq_some_iff.mp H
  obtain ⟨t108, A40, H⟩ := H
  replace H : (if t108 = true then (if (l0.length : Int) < 4 then (strongboxlaw4_CrcUnlike.j0 k l0 a1 a2 true) else (if (l0.length : Int) > 4000 then (strongboxlaw4_CrcUnlike.j0 k l0 a1 a2 true) else (strongboxlaw4_CrcUnlike.j0 k l0 a1 a2 (a2 == 0)))) else (some false)) = some r := H
  have A4 := Aside0.mk A40
  clear A40
  by_cases c5 : t108 = true
  · subst c5
    have H1 : (if (l0.length : Int) < 4 then (strongboxlaw4_CrcUnlike.j0 k l0 a1 a2 true) else (if (l0.length : Int) > 4000 then (strongboxlaw4_CrcUnlike.j0 k l0 a1 a2 true) else (strongboxlaw4_CrcUnlike.j0 k l0 a1 a2 (a2 == 0)))) = some r := by rw [if_pos rfl] at H; exact H
    clear H
    have H := H1
    clear H1
    have HC6 := Aside0.mk H
    clear H
    go_enter Try.func3, Try.ntmps3
    go_upto_region 3 with (first | ((with_reducible refine gate_callee (f := 7) rfl ?_); refine goesL_ (some 12) rfl rfl Try.func7 (by kernel_rfl) rfl #[] rfl (by (try simp only [List.map_toArray, List.map_cons, List.map_nil]); first | done | rfl | (simp only [List.length_drop, List.length_take]; rfl)) ?_; (with_reducible refine (strongboxlaw4_awake.calls k  true _ A4.out).mono ?_); rintro e w7 ⟨rfl, hb⟩; refine ⟨_, rfl, ?_⟩; have n0_ := Aside0.mk (below_step (by repeat (first | (with_reducible first | exact HB.out | apply below_alloc | apply pw_below_drewN | apply below_drew1) | exact HB.out)) hb); clear HB; have HB := n0_; clear n0_; (try clear hb); (try clear hb2); (try clear hk); (try clear hi)))
    (try simp only [Act.put, List.setIfInBounds_toArray, List.set_cons_zero, List.set_cons_succ])
    go_cut [25] (fun v25 wc => ∃ (kq : Nat) (x25_5 : Bool), v25 = .bool x25_5 ∧ Aside0 (strongboxlaw4_CrcUnlike.j0 kq l0 a1 a2 x25_5 = some r) ∧ Aside0 (kq ≤ k) ∧ Aside0 (Below w.heap.size w wc))
    case first =>
      have H := HC6.out
      clear HC6
      by_cases c8 : (l0.length : Int) < 4
      · rw [if_pos c8] at H
        have c8b0 : decide ((l0.length : Int) < 4) = true := decide_eq_true c8
        have c8b1 : decide (l0.length < 4) = true := decide_eq_true (by omega)
        clear c8
        (first | rw [c8b0] | (simp only [i64_w, i32_w]; rw [c8b0]) | skip)
        have H' := Aside0.mk H
        clear H
        go_wp2
        go_meet
        case rel => exact ⟨_, (true), (by first | rfl | (simp; done) | (simp [*]; done)), H', ⟨by first | omega | exact Nat.le_refl _⟩, ⟨by repeat (first | (with_reducible first | exact HB.out | apply below_alloc | apply pw_below_drewN | apply below_drew1) | exact HB.out)⟩⟩
      · rw [if_neg c8] at H
        have c8b0 : decide ((l0.length : Int) < 4) = false := decide_eq_false c8
        have c8b1 : decide (l0.length < 4) = false := decide_eq_false (by omega)
        clear c8
        (first | rw [c8b0] | (simp only [i64_w, i32_w]; rw [c8b0]) | skip)
        by_cases c9 : (l0.length : Int) > 4000
        · rw [if_pos c9] at H
          have c9b0 : decide (4000 < (l0.length : Int)) = true := decide_eq_true c9
          have c9b1 : decide (4000 < l0.length) = true := decide_eq_true (by omega)
          clear c9
          have H' := Aside0.mk H
          clear H
          go_wp2
          go_meet
          case rel => exact ⟨_, (true), (by first | rfl | (simp; done) | (simp [*]; done)), H', ⟨by first | omega | exact Nat.le_refl _⟩, ⟨by repeat (first | (with_reducible first | exact HB.out | apply below_alloc | apply pw_below_drewN | apply below_drew1) | exact HB.out)⟩⟩
        · rw [if_neg c9] at H
          have c9b0 : decide (4000 < (l0.length : Int)) = false := decide_eq_false c9
          have c9b1 : decide (4000 < l0.length) = false := decide_eq_false (by omega)
          clear c9
          have H' := Aside0.mk H
          clear H
          go_wp2
          go_meet
          case rel => exact ⟨_, ((a2 == 0)), (by first | rfl | (simp; done) | (simp [*]; done)), H', ⟨by first | omega | exact Nat.le_refl _⟩, ⟨by repeat (first | (with_reducible first | exact HB.out | apply below_alloc | apply pw_below_drewN | apply below_drew1) | exact HB.out)⟩⟩
    case rest =>
      clear HC6
      try clear p2
      try clear c3
      try clear c5
      try clear c7
      try clear c8
      try clear c8b0
      try clear c8b1
      try clear c9
      try clear c9b0
      try clear c9b1
      obtain ⟨kq, x25_5, rfl, HA, HJ5, HB⟩ := hcut
      cases kq with
      | zero => exact absurd HA.out (by simp [strongboxlaw4_CrcUnlike.j0])
      | succ kj5 =>
        have H := HA.out
        clear HA
        simp only [strongboxlaw4_CrcUnlike.j0] at H
        by_cases c10 : x25_5 = true
        · subst c10
          have H1 : (some true) = some r := by rw [if_pos rfl] at H; exact H
          clear H
          have H := H1
          clear H1
          obtain rfl := Option.some.inj H
          go_wp2
          go_ret
          exact ⟨by first | rfl | (simp [errW_none, errW_some] <;> rfl) | (simp [*, errW_none, errW_some] <;> rfl), by repeat (first | (with_reducible first | exact HB.out | apply below_alloc | apply pw_below_drewN | apply below_drew1) | exact HB.out)⟩
        · replace c10 := Bool.eq_false_iff.mpr c10
          subst c10
          have H1 : ((some (([] : List Int) : List Int)).bind fun y109 => (if y109.length + l0.length < 140737488355328 then (if 0 ≤ (l0.length : Int) then (if ((l0.length : Int) : Int).toNat ≤ 281474976710656 then (if (wrap64 ((wrap64 (8 * (l0.length : Int))) - 31)) = 0 then (none) else (strongboxlaw4_CrcUnlike.l0 kj5 l0 a2 (y109 ++ l0) (List.replicate ((l0.length : Int) : Int).toNat 0) (Int.tmod (wrap64 (a1)) (wrap64 ((wrap64 (8 * (l0.length : Int))) - 31))) 0)) else (none)) else (none)) else (none))) = some r := by rw [if_neg (show ¬ (false = true) by decide)] at H; exact H
          clear H
          have H := H1
          clear H1
          obtain ⟨y109, hy109⟩ : ∃ y_ : List Int, y_ = (([] : List Int)) := ⟨_, rfl⟩
          replace H : (if y109.length + l0.length < 140737488355328 then (if 0 ≤ (l0.length : Int) then (if ((l0.length : Int) : Int).toNat ≤ 281474976710656 then (if (wrap64 ((wrap64 (8 * (l0.length : Int))) - 31)) = 0 then (none) else (strongboxlaw4_CrcUnlike.l0 kj5 l0 a2 (y109 ++ l0) (List.replicate ((l0.length : Int) : Int).toNat 0) (Int.tmod (wrap64 (a1)) (wrap64 ((wrap64 (8 * (l0.length : Int))) - 31))) 0)) else (none)) else (none)) else (none)) = some r := by first | (rw [hy109]; with_reducible exact H) | (have H2_ := (Option.bind_some _ _).symm.trans H; rw [hy109]; with_reducible exact H2_) | (have H2_ := (Option.bind_some _ _).symm.trans H; with_reducible exact H2_) | with_reducible exact H | (rw [hy109]; exact H) | exact H
          have Ny109 := Aside0.mk hy109
          clear hy109
          by_cases c11 : y109.length + l0.length < 140737488355328
          · rw [if_pos c11] at H
            have LMc11 := Aside0.mk c11
            clear c11
            obtain ⟨y112, hy112⟩ : ∃ y_ : List Int, y_ = (y109 ++ l0) := ⟨_, rfl⟩
            replace H : (if 0 ≤ (l0.length : Int) then (if ((l0.length : Int) : Int).toNat ≤ 281474976710656 then (if (wrap64 ((wrap64 (8 * (l0.length : Int))) - 31)) = 0 then (none) else (strongboxlaw4_CrcUnlike.l0 kj5 l0 a2 y112 (List.replicate ((l0.length : Int) : Int).toNat 0) (Int.tmod (wrap64 (a1)) (wrap64 ((wrap64 (8 * (l0.length : Int))) - 31))) 0)) else (none)) else (none)) = some r := by first | (rw [hy112]; with_reducible exact H) | (have H2_ := (Option.bind_some _ _).symm.trans H; rw [hy112]; with_reducible exact H2_) | (have H2_ := (Option.bind_some _ _).symm.trans H; with_reducible exact H2_) | with_reducible exact H | (rw [hy112]; exact H) | exact H
            have Ny112 := Aside0.mk hy112
            clear hy112
            by_cases c12 : 0 ≤ (l0.length : Int)
            · rw [if_pos c12] at H
              have c12b0 := eq_true c12
              have c12b1 : decide (0 ≤ (l0.length : Int)) = true := decide_eq_true c12
              clear c12
              by_cases c13 : ((l0.length : Int) : Int).toNat ≤ 281474976710656
              · rw [if_pos c13] at H
                have c13b0 := eq_true c13
                have c13b1 : decide (((l0.length : Int) : Int).toNat ≤ 281474976710656) = true := decide_eq_true c13
                clear c13
                obtain ⟨y115, hy115⟩ : ∃ y_ : List Int, y_ = (List.replicate ((l0.length : Int) : Int).toNat 0) := ⟨_, rfl⟩
                replace H : (if (wrap64 ((wrap64 (8 * (l0.length : Int))) - 31)) = 0 then (none) else (strongboxlaw4_CrcUnlike.l0 kj5 l0 a2 y112 y115 (Int.tmod (wrap64 (a1)) (wrap64 ((wrap64 (8 * (l0.length : Int))) - 31))) 0)) = some r := by first | (rw [hy115]; with_reducible exact H) | (have H2_ := (Option.bind_some _ _).symm.trans H; rw [hy115]; with_reducible exact H2_) | (have H2_ := (Option.bind_some _ _).symm.trans H; with_reducible exact H2_) | with_reducible exact H | (rw [hy115]; exact H) | exact H
                have Ny115 := Aside0.mk hy115
                clear hy115
                by_cases c14 : (wrap64 ((wrap64 (8 * (l0.length : Int))) - 31)) = 0
                · rw [if_pos c14] at H
                  exact absurd H (by simp)
                · rw [if_neg c14] at H
                  have c14b0 : ((wrap64 ((wrap64 (8 * (l0.length : Int))) - 31)) == 0) = false := beq_eq_false_iff_ne.mpr c14
                  have c14b1 : ((wrap64 ((wrap64 (8 * (l0.length : Int))) - 31)) != 0) = true := bne_iff_ne.mpr c14
                  have H' := Aside0.mk H
                  clear H
                  go_wp2_with (first | ((with_reducible refine gate_dst (N := 26) rfl ?_); (try (refine gate_guard (by rfl) ?_; dsimp only)); refine Kd.R_lit (Kd.int .u8) _ 5 ?hg (N := 26) ?hd (xs := ([] : List Int)) (inner := []) (ok := fun _ => True) (okp := fun _ => True) ?hr ?hp (fun _ hk => hk) trivial (Below.refl _ _) (Nat.le_refl _) (by simp) ?_; (case hd => rfl); (case hg => rfl); (case hr => first | (go_simp; done) | (go_simp; rfl)); (case hp => exact (Reps.none _ _)); intro v110 w15 ho16 hb hg_ hnew_; clear hg_ hnew_; (first | rw [← Ny109.out] at ho16 | (simp only [Int.reduceToNat] at ho16; rw [← Ny109.out] at ho16)); have n0_ := Aside0.mk (Kd.R_lower ho16 (below_size (by repeat (first | (with_reducible first | exact HB.out | apply below_alloc | apply pw_below_drewN | apply below_drew1) | exact HB.out)))); have n1_ := Aside0.mk (below_step (by repeat (first | (with_reducible first | exact HB.out | apply below_alloc | apply pw_below_drewN | apply below_drew1) | exact HB.out)) hb); clear HB; have HO111 := n0_; have HB := n1_; clear n0_ n1_; clear hb ho16) | ((with_reducible refine gate_builtin (b := .append) (xs := #[.tmp 26, .tmp 27]) rfl ?_); (try (refine gate_guard (by rfl) ?_; dsimp only)); at_builtin; refine Kd.R_append_rows (Kd.int .u8) (w0 := w) w.heap.size rfl (.tmp 26) (.tmp 27) 22 5 (.int .u8 0) 1 rfl Try.underlying22 info5 rfl (by decide) (by omega) v110 y109 l0 _ _ _ (fun _ => True) (fun _ => False) rfl rfl ?aO ?aR (fun _ _ h => h) (fun _ h => h.elim) ?aF ?aB ?aS ?aL ?_; (case aR => repeat (first | exact (Kd.C_below HR0.out HB.out) | (with_reducible refine Kd.C_alloc ?_ _) | (with_reducible refine Kd.C_drewN ?_ _) | (with_reducible refine Kd.C_drew ?_))); (case aB => exact (by repeat (first | (with_reducible first | exact HB.out | apply below_alloc | apply pw_below_drewN | apply below_drew1) | exact HB.out))); (case aF => exact (fun _ _ => trivial)); (case aO => exact (by (with_reducible repeat (first | apply Kd.R_alloc | apply Kd.R_drewN | apply Kd.R_drew)); exact HO111.out)); (case aS => exact (below_size (by repeat (first | (with_reducible first | exact HB.out | apply below_alloc | apply pw_below_drewN | apply below_drew1) | exact HB.out)))); (case aL => have := LMc11.out; omega); intro v113 w17 ho hb hg hat; rw [← Ny112.out] at ho; have n0_ := Aside0.mk (hb); have n1_ := Aside0.mk (ho); clear HB; clear HO111; have HB := n0_; have HO114 := n1_; clear n0_ n1_; clear ho hb hg hat) | ((with_reducible refine gate_dst (N := 31) rfl ?_); (try (refine gate_guard (by rfl) ?_; dsimp only)); refine Kd.R_make (Kd.int .u8) _ 5 rfl (N := 31) rfl 22 _ _ rfl (l0.length : Int) rfl rfl Try.underlying22 (.int .u8 0) 1 info5 rfl (by decide) (by omega) 0 (ok := fun _ => True) (okp := fun _ => True) rfl (fun _ hk => hk) trivial (of_decide_eq_true (by first | (with_reducible assumption) | assumption)) (Nat.le_trans (Nat.mul_le_mul_right _ (of_decide_eq_true (by first | (with_reducible assumption) | assumption) : (l0.length : Int).toNat ≤ 281474976710656)) (by omega)) (Below.refl _ _) (Nat.le_refl _) ?_; intro v116 w18 ho19 hb hg_ hnew_; clear hg_ hnew_; (first | rw [← Ny115.out] at ho19 | (simp only [Int.reduceToNat] at ho19; rw [← Ny115.out] at ho19)); have n0_ := Aside0.mk (Kd.R_elder' (by (with_reducible repeat (first | apply Kd.R_alloc | apply Kd.R_drewN | apply Kd.R_drew)); exact HO114.out) (Kd.R_base ho19) hb); have n1_ := Aside0.mk (Kd.R_lower (Kd.R_new' ho19 (Kd.R_lt (by (with_reducible repeat (first | apply Kd.R_alloc | apply Kd.R_drewN | apply Kd.R_drew)); exact HO114.out))) (below_size (by repeat (first | (with_reducible first | exact HB.out | apply below_alloc | apply pw_below_drewN | apply below_drew1) | exact HB.out)))); have n2_ := Aside0.mk (below_step (by repeat (first | (with_reducible first | exact HB.out | apply below_alloc | apply pw_below_drewN | apply below_drew1) | exact HB.out)) hb); clear HO114; clear HB; have HO114 := n0_; have HO117 := n1_; have HB := n2_; clear n0_ n1_ n2_; clear hb ho19))
                  go_loopg [10] kj5 (fun kq v10 w' => ∃ (x7_2 : List Int) (x8_2 : List Int) (x10_2 : Int), v10 = .int .i64 x10_2 ∧ Aside0 (strongboxlaw4_CrcUnlike.l0 kq l0 a2 x7_2 x8_2 (Int.tmod (wrap64 (a1)) (wrap64 ((wrap64 (8 * (l0.length : Int))) - 31))) x10_2 = some r) ∧ Aside0 (kq ≤ kj5) ∧ Aside0 (Kd.R (Kd.int .u8) 5 w' w.heap.size (fun k_ => some k_ ≠ (v116 : Value).ownBlock) v113 x7_2) ∧ Aside0 (Kd.R (Kd.int .u8) 5 w' w.heap.size (fun k_ => some k_ ≠ (v113 : Value).ownBlock) v116 x8_2) ∧ Aside0 (Below w.heap.size w w'))
                  case atStart => exact ⟨(y112), (y115), (0), (by first | rfl | (simp; done) | (simp [*]; done)), H', ⟨Nat.le_refl _⟩, ⟨by (with_reducible repeat (first | apply Kd.R_alloc | apply Kd.R_drewN | apply Kd.R_drew)); exact Kd.R_mono HO114.out (fun _ hk => hk.2)⟩, ⟨by (with_reducible repeat (first | apply Kd.R_alloc | apply Kd.R_drewN | apply Kd.R_drew)); exact Kd.R_mono HO117.out (fun _ hk => hk.2)⟩, ⟨by repeat (first | (with_reducible first | exact HB.out | apply below_alloc | apply pw_below_drewN | apply below_drew1) | exact HB.out)⟩⟩
                  case round =>
                    clear H'
                    try clear c1
                    try clear p2
                    try clear c3
                    try clear c5
                    try clear p6
                    try clear c7
                    try clear c8
                    try clear c8b0
                    try clear c8b1
                    try clear c9
                    try clear c9b0
                    try clear c9b1
                    try clear c10
                    try clear c11
                    try clear c12
                    try clear c12b0
                    try clear c12b1
                    try clear c13
                    try clear c13b0
                    try clear c13b1
                    try clear c14
                    try clear c14b0
                    try clear c14b1
                    try clear p2
                    obtain ⟨x7_2, x8_2, x10_2, rfl, HA, HK2, HO_7, HO_8, HB⟩ := hrel
                    cases gk with
                    | zero => exact absurd HA.out (by simp [strongboxlaw4_CrcUnlike.l0])
                    | succ k2 =>
                      have H := HA.out
                      clear HA
                      simp only [strongboxlaw4_CrcUnlike.l0] at H
                      by_cases c20 : x10_2 < 32
                      · rw [if_pos c20] at H
                        have c20b0 : decide (x10_2 < 32) = true := decide_eq_true c20
                        clear c20
                        obtain ⟨ji21, hji21⟩ : ∃ j_ : Int, (IntKind.u64.wrap (x10_2)) = j_ := ⟨_, rfl⟩
                        replace H : (if 0 ≤ (ji21) then (if (Go.bits .and .u32 (shr .u32 a2 (ji21)) 1) = 1 then (if 0 ≤ (wrap64 (Int.tdiv (wrap64 ((Int.tmod (wrap64 (a1)) (wrap64 ((wrap64 (8 * (l0.length : Int))) - 31))) + x10_2)) 8)) then (if (wrap64 (Int.tdiv (wrap64 ((Int.tmod (wrap64 (a1)) (wrap64 ((wrap64 (8 * (l0.length : Int))) - 31))) + x10_2)) 8)) < (x7_2.length : Int) then (if 0 ≤ (IntKind.u64.wrap (Int.tmod (wrap64 ((Int.tmod (wrap64 (a1)) (wrap64 ((wrap64 (8 * (l0.length : Int))) - 31))) + x10_2)) 8)) then (if (wrap64 (Int.tdiv (wrap64 ((Int.tmod (wrap64 (a1)) (wrap64 ((wrap64 (8 * (l0.length : Int))) - 31))) + x10_2)) 8)) < (x8_2.length : Int) then (strongboxlaw4_CrcUnlike.l0 k2 l0 a2 (x7_2.set ((wrap64 (Int.tdiv (wrap64 ((Int.tmod (wrap64 (a1)) (wrap64 ((wrap64 (8 * (l0.length : Int))) - 31))) + x10_2)) 8)) : Int).toNat (Go.bits .xor .u8 (rd x7_2 (wrap64 (Int.tdiv (wrap64 ((Int.tmod (wrap64 (a1)) (wrap64 ((wrap64 (8 * (l0.length : Int))) - 31))) + x10_2)) 8))) (shl .u8 1 (IntKind.u64.wrap (Int.tmod (wrap64 ((Int.tmod (wrap64 (a1)) (wrap64 ((wrap64 (8 * (l0.length : Int))) - 31))) + x10_2)) 8))))) (x8_2.set ((wrap64 (Int.tdiv (wrap64 ((Int.tmod (wrap64 (a1)) (wrap64 ((wrap64 (8 * (l0.length : Int))) - 31))) + x10_2)) 8)) : Int).toNat (Go.bits .xor .u8 (rd x8_2 (wrap64 (Int.tdiv (wrap64 ((Int.tmod (wrap64 (a1)) (wrap64 ((wrap64 (8 * (l0.length : Int))) - 31))) + x10_2)) 8))) (shl .u8 1 (IntKind.u64.wrap (Int.tmod (wrap64 ((Int.tmod (wrap64 (a1)) (wrap64 ((wrap64 (8 * (l0.length : Int))) - 31))) + x10_2)) 8))))) (Int.tmod (wrap64 (a1)) (wrap64 ((wrap64 (8 * (l0.length : Int))) - 31))) (wrap64 (x10_2 + 1))) else (none)) else (none)) else (none)) else (none)) else (strongboxlaw4_CrcUnlike.l0 k2 l0 a2 x7_2 x8_2 (Int.tmod (wrap64 (a1)) (wrap64 ((wrap64 (8 * (l0.length : Int))) - 31))) (wrap64 (x10_2 + 1)))) else (none)) = some r := by first | (rw [hji21] at H; exact H) | (simp only [hji21] at H ⊢; exact H)
                        by_cases c22 : 0 ≤ (ji21)
                        · rw [if_pos c22] at H
                          have c22b0 := eq_true c22
                          have c22b1 : decide (0 ≤ (ji21)) = true := decide_eq_true c22
                          clear c22
                          obtain ⟨ji23, hji23⟩ : ∃ j_ : Int, (shr .u32 a2 (ji21)) = j_ := ⟨_, rfl⟩
                          replace H : (if (Go.bits .and .u32 (ji23) 1) = 1 then (if 0 ≤ (wrap64 (Int.tdiv (wrap64 ((Int.tmod (wrap64 (a1)) (wrap64 ((wrap64 (8 * (l0.length : Int))) - 31))) + x10_2)) 8)) then (if (wrap64 (Int.tdiv (wrap64 ((Int.tmod (wrap64 (a1)) (wrap64 ((wrap64 (8 * (l0.length : Int))) - 31))) + x10_2)) 8)) < (x7_2.length : Int) then (if 0 ≤ (IntKind.u64.wrap (Int.tmod (wrap64 ((Int.tmod (wrap64 (a1)) (wrap64 ((wrap64 (8 * (l0.length : Int))) - 31))) + x10_2)) 8)) then (if (wrap64 (Int.tdiv (wrap64 ((Int.tmod (wrap64 (a1)) (wrap64 ((wrap64 (8 * (l0.length : Int))) - 31))) + x10_2)) 8)) < (x8_2.length : Int) then (strongboxlaw4_CrcUnlike.l0 k2 l0 a2 (x7_2.set ((wrap64 (Int.tdiv (wrap64 ((Int.tmod (wrap64 (a1)) (wrap64 ((wrap64 (8 * (l0.length : Int))) - 31))) + x10_2)) 8)) : Int).toNat (Go.bits .xor .u8 (rd x7_2 (wrap64 (Int.tdiv (wrap64 ((Int.tmod (wrap64 (a1)) (wrap64 ((wrap64 (8 * (l0.length : Int))) - 31))) + x10_2)) 8))) (shl .u8 1 (IntKind.u64.wrap (Int.tmod (wrap64 ((Int.tmod (wrap64 (a1)) (wrap64 ((wrap64 (8 * (l0.length : Int))) - 31))) + x10_2)) 8))))) (x8_2.set ((wrap64 (Int.tdiv (wrap64 ((Int.tmod (wrap64 (a1)) (wrap64 ((wrap64 (8 * (l0.length : Int))) - 31))) + x10_2)) 8)) : Int).toNat (Go.bits .xor .u8 (rd x8_2 (wrap64 (Int.tdiv (wrap64 ((Int.tmod (wrap64 (a1)) (wrap64 ((wrap64 (8 * (l0.length : Int))) - 31))) + x10_2)) 8))) (shl .u8 1 (IntKind.u64.wrap (Int.tmod (wrap64 ((Int.tmod (wrap64 (a1)) (wrap64 ((wrap64 (8 * (l0.length : Int))) - 31))) + x10_2)) 8))))) (Int.tmod (wrap64 (a1)) (wrap64 ((wrap64 (8 * (l0.length : Int))) - 31))) (wrap64 (x10_2 + 1))) else (none)) else (none)) else (none)) else (none)) else (strongboxlaw4_CrcUnlike.l0 k2 l0 a2 x7_2 x8_2 (Int.tmod (wrap64 (a1)) (wrap64 ((wrap64 (8 * (l0.length : Int))) - 31))) (wrap64 (x10_2 + 1)))) = some r := by first | (rw [hji23] at H; exact H) | (simp only [hji23] at H ⊢; exact H)
                          have hji23_ : (a2 / 2 ^ min (ji21).toNat 32) = ji23 := hji23
                          have hji23z : (ji21) ≤ 32 → (a2 / 2 ^ (ji21).toNat) = ji23 := shr_small hji23
                          by_cases c24 : (Go.bits .and .u32 (ji23) 1) = 1
                          · rw [if_pos c24] at H
                            have c24b0 : ((Go.bits .and .u32 (ji23) 1) == 1) = true := beq_iff_eq.mpr c24
                            have c24b1 : ((Go.bits .and .u32 (ji23) 1) != 1) = false := bne_eq_false_iff_eq.mpr c24
                            clear c24
                            obtain ⟨ji25, hji25⟩ : ∃ j_ : Int, (wrap64 (Int.tdiv (wrap64 ((Int.tmod (wrap64 (a1)) (wrap64 ((wrap64 (8 * (l0.length : Int))) - 31))) + x10_2)) 8)) = j_ := ⟨_, rfl⟩
                            replace H : (if 0 ≤ (ji25) then (if (ji25) < (x7_2.length : Int) then (if 0 ≤ (IntKind.u64.wrap (Int.tmod (wrap64 ((Int.tmod (wrap64 (a1)) (wrap64 ((wrap64 (8 * (l0.length : Int))) - 31))) + x10_2)) 8)) then (if (ji25) < (x8_2.length : Int) then (strongboxlaw4_CrcUnlike.l0 k2 l0 a2 (x7_2.set ((ji25) : Int).toNat (Go.bits .xor .u8 (rd x7_2 (ji25)) (shl .u8 1 (IntKind.u64.wrap (Int.tmod (wrap64 ((Int.tmod (wrap64 (a1)) (wrap64 ((wrap64 (8 * (l0.length : Int))) - 31))) + x10_2)) 8))))) (x8_2.set ((ji25) : Int).toNat (Go.bits .xor .u8 (rd x8_2 (ji25)) (shl .u8 1 (IntKind.u64.wrap (Int.tmod (wrap64 ((Int.tmod (wrap64 (a1)) (wrap64 ((wrap64 (8 * (l0.length : Int))) - 31))) + x10_2)) 8))))) (Int.tmod (wrap64 (a1)) (wrap64 ((wrap64 (8 * (l0.length : Int))) - 31))) (wrap64 (x10_2 + 1))) else (none)) else (none)) else (none)) else (none)) = some r := by first | (rw [hji25] at H; exact H) | (simp only [hji25] at H ⊢; exact H)
                            have hji25w : (IntKind.i64.wrap (Int.tdiv (wrap64 ((Int.tmod (wrap64 (a1)) (wrap64 ((wrap64 (8 * (l0.length : Int))) - 31))) + x10_2)) 8)) = ji25 := (i64_w _).trans hji25
                            by_cases c26 : 0 ≤ (ji25)
                            · rw [if_pos c26] at H
                              have c26b0 : decide (0 ≤ (ji25)) = true := decide_eq_true c26
                              clear c26
                              by_cases c27 : (ji25) < (x7_2.length : Int)
                              · rw [if_pos c27] at H
                                have c27b0 : decide ((ji25) < (x7_2.length : Int)) = true := decide_eq_true c27
                                clear c27
                                obtain ⟨ji28, hji28⟩ : ∃ j_ : Int, (IntKind.u64.wrap (Int.tmod (wrap64 ((Int.tmod (wrap64 (a1)) (wrap64 ((wrap64 (8 * (l0.length : Int))) - 31))) + x10_2)) 8)) = j_ := ⟨_, rfl⟩
                                replace H : (if 0 ≤ (ji28) then (if (ji25) < (x8_2.length : Int) then (strongboxlaw4_CrcUnlike.l0 k2 l0 a2 (x7_2.set ((ji25) : Int).toNat (Go.bits .xor .u8 (rd x7_2 (ji25)) (shl .u8 1 (ji28)))) (x8_2.set ((ji25) : Int).toNat (Go.bits .xor .u8 (rd x8_2 (ji25)) (shl .u8 1 (ji28)))) (Int.tmod (wrap64 (a1)) (wrap64 ((wrap64 (8 * (l0.length : Int))) - 31))) (wrap64 (x10_2 + 1))) else (none)) else (none)) = some r := by first | (rw [hji28] at H; exact H) | (simp only [hji28] at H ⊢; exact H)
                                by_cases c29 : 0 ≤ (ji28)
                                · rw [if_pos c29] at H
                                  have c29b0 := eq_true c29
                                  have c29b1 : decide (0 ≤ (ji28)) = true := decide_eq_true c29
                                  clear c29
                                  obtain ⟨ji30, hji30⟩ : ∃ j_ : Int, (shl .u8 1 (ji28)) = j_ := ⟨_, rfl⟩
                                  replace H : (if (ji25) < (x8_2.length : Int) then (strongboxlaw4_CrcUnlike.l0 k2 l0 a2 (x7_2.set ((ji25) : Int).toNat (Go.bits .xor .u8 (rd x7_2 (ji25)) (ji30))) (x8_2.set ((ji25) : Int).toNat (Go.bits .xor .u8 (rd x8_2 (ji25)) (ji30))) (Int.tmod (wrap64 (a1)) (wrap64 ((wrap64 (8 * (l0.length : Int))) - 31))) (wrap64 (x10_2 + 1))) else (none)) = some r := by first | (rw [hji30] at H; exact H) | (simp only [hji30] at H ⊢; exact H)
                                  have hji30_ : (IntKind.u8.wrap (1 * 2 ^ min (ji28).toNat 8)) = ji30 := hji30
                                  have hji30z : (ji28) ≤ 8 → (IntKind.u8.wrap (1 * 2 ^ (ji28).toNat)) = ji30 := shl_small hji30
                                  have hji30u : (IntKind.u8.wrap (2 ^ min (ji28).toNat 8)) = ji30 := by have h_ := hji30_; rw [Int.one_mul] at h_; exact h_
                                  have hji30v : (ji28) ≤ 8 → (IntKind.u8.wrap (2 ^ (ji28).toNat)) = ji30 := fun hle_ => by have h_ := hji30z hle_; rw [Int.one_mul] at h_; exact h_
                                  obtain ⟨y119, hy119⟩ : ∃ y_ : List Int, y_ = (x7_2.set ((ji25) : Int).toNat (Go.bits .xor .u8 (rd x7_2 (ji25)) (ji30))) := ⟨_, rfl⟩
                                  replace H : (if (ji25) < (x8_2.length : Int) then (strongboxlaw4_CrcUnlike.l0 k2 l0 a2 y119 (x8_2.set ((ji25) : Int).toNat (Go.bits .xor .u8 (rd x8_2 (ji25)) (ji30))) (Int.tmod (wrap64 (a1)) (wrap64 ((wrap64 (8 * (l0.length : Int))) - 31))) (wrap64 (x10_2 + 1))) else (none)) = some r := by first | (rw [hy119]; with_reducible exact H) | (have H2_ := (Option.bind_some _ _).symm.trans H; rw [hy119]; with_reducible exact H2_) | (have H2_ := (Option.bind_some _ _).symm.trans H; with_reducible exact H2_) | with_reducible exact H | (rw [hy119]; exact H) | exact H
                                  have Ny119 := Aside0.mk hy119
                                  clear hy119
                                  by_cases c32 : (ji25) < (x8_2.length : Int)
                                  · rw [if_pos c32] at H
                                    have c32b0 : decide ((ji25) < (x8_2.length : Int)) = true := decide_eq_true c32
                                    clear c32
                                    have c33b0 := eq_true (of_decide_eq_true (by first | (with_reducible assumption) | assumption) : 0 ≤ (ji28))
                                    obtain ⟨y121, hy121⟩ : ∃ y_ : List Int, y_ = (x8_2.set ((ji25) : Int).toNat (Go.bits .xor .u8 (rd x8_2 (ji25)) (ji30))) := ⟨_, rfl⟩
                                    replace H : (strongboxlaw4_CrcUnlike.l0 k2 l0 a2 y119 y121 (Int.tmod (wrap64 (a1)) (wrap64 ((wrap64 (8 * (l0.length : Int))) - 31))) (wrap64 (x10_2 + 1))) = some r := by first | (rw [hy121]; with_reducible exact H) | (have H2_ := (Option.bind_some _ _).symm.trans H; rw [hy121]; with_reducible exact H2_) | (have H2_ := (Option.bind_some _ _).symm.trans H; with_reducible exact H2_) | with_reducible exact H | (rw [hy121]; exact H) | exact H
                                    have Ny121 := Aside0.mk hy121
                                    clear hy121
                                    have H' := Aside0.mk H
                                    clear H
                                    obtain ⟨Ao35, co35, eo35⟩ := Kd.R_slice HO_7.out
                                    subst eo35
                                    have p118 : 0 ≤ ((ji25) : Int) := of_decide_eq_true (by first | (with_reducible assumption) | assumption)
                                    have q118 : (ji25) < (x7_2.length : Int) := of_decide_eq_true (by first | (with_reducible assumption) | assumption)
                                    obtain ⟨ad118, e118, hx118_0⟩ := Kd.at_int (Kd.R_reads' HO_7.out).2.2 (ji25) p118 q118
                                    cases e118
                                    replace p118 := eq_true p118
                                    replace q118 := eq_true q118
                                    have p31 : 0 ≤ ((ji25) : Int) := of_decide_eq_true (by first | (with_reducible assumption) | assumption)
                                    have q31 : ((ji25) : Int) < ((x7_2.length : Int) : Int) := of_decide_eq_true (by first | (with_reducible assumption) | assumption)
                                    obtain ⟨go31, co31, eo31, gb31, gl31, cl31, HG31⟩ := Kd.R_form HO_7.out (by omega)
                                    (first | cases eo31 | (injection eo31 with ea_ en_ ec_; (first | subst ea_ | (injection ea_ with ea_; subst ea_)); subst ec_; clear en_))
                                    have GB31 := Aside0.mk gb31
                                    have GG31 := Aside0.mk HG31
                                    clear gb31 gl31 HG31
                                    (first | simp only [add_plain] at hx118_0 | skip)
                                    obtain ⟨hx31_0, hf31_0⟩ := Kd.R_celln 0 HO_7.out ((ji25) : Int) p31 q31
                                    replace p31 := eq_true p31
                                    replace q31 := eq_true q31
                                    have HP36 := Kd.R_putg HO_7.out ((ji25) : Int) (Go.bits .xor .u8 (rd x7_2 (ji25)) (ji30))
                                    go_wp2_with (first | ((with_reducible refine gate_store (t := 5) (p := 63) rfl ?_); refine store_event (t := 5) (p := 63) (v := ?vo_w37) (w1 := (wr.setCell ⟨go31, ((ji25) : Int).toNat, none⟩ (.int .u8 (Go.bits .xor .u8 (rd x7_2 (ji25)) (ji30))))) ?hg ?ho ?hn ?hr ?_; (case ho => rfl); (case hg => rfl); (case hn => rfl); (case hr => first | (go_simp; done) | (go_simp; rfl)); intro w37 hw; have hg : wr.grownBy w37 (some go31) := (by rw [hw]; exact HP36.2); have hp_ : Kd.R (Kd.int .u8) 5 w37 w.heap.size (fun k_ => some k_ ≠ (v116 : Value).ownBlock) (.slice (some ⟨go31, 0, none⟩) x7_2.length co35) y119 := (by rw [hw, Ny119.out]; exact HP36.1); clear HP36; have n0_ := Aside0.mk (hp_); have n1_ := Aside0.mk (Kd.R_after (v := (.slice (some ⟨go31, 0, none⟩) x7_2.length co35)) (v1 := (.slice (some ⟨go31, 0, none⟩) x7_2.length co35)) (ok := (fun _ => True)) (by (with_reducible repeat (first | apply Kd.R_alloc | apply Kd.R_drewN | apply Kd.R_drew)); exact Kd.R_mono HO_8.out (fun _ hk => ⟨trivial, hk⟩)) hg (.inl rfl)); have n2_ := Aside0.mk ((by rw [hw]; exact below_set (HB.out) GB31.out : Below w.heap.size w w37)); clear HO_7; clear HO_8; clear HB; have HO_7 := n0_; have HO_8 := n1_; have HB := n2_; clear n0_ n1_ n2_; clear hg hw hp_; obtain ⟨Ao38, co38, eo38⟩ := Kd.R_slice HO_8.out; subst eo38; have p120 : 0 ≤ ((ji25) : Int) := of_decide_eq_true (by first | (with_reducible assumption) | assumption); have q120 : (ji25) < (x8_2.length : Int) := of_decide_eq_true (by first | (with_reducible assumption) | assumption); obtain ⟨ad120, e120, hx120_0⟩ := Kd.at_int (Kd.R_reads' HO_8.out).2.2 (ji25) p120 q120; cases e120; replace p120 := eq_true p120; replace q120 := eq_true q120; have p34 : 0 ≤ ((ji25) : Int) := of_decide_eq_true (by first | (with_reducible assumption) | assumption); have q34 : ((ji25) : Int) < ((x8_2.length : Int) : Int) := of_decide_eq_true (by first | (with_reducible assumption) | assumption); obtain ⟨go34, co34, eo34, gb34, gl34, cl34, HG34⟩ := Kd.R_form HO_8.out (by omega); (first | cases eo34 | (injection eo34 with ea_ en_ ec_; (first | subst ea_ | (injection ea_ with ea_; subst ea_)); subst ec_; clear en_)); have GB34 := Aside0.mk gb34; have GG34 := Aside0.mk HG34; clear gb34 gl34 HG34; (first | simp only [add_plain] at hx120_0 | skip); obtain ⟨hx34_0, hf34_0⟩ := Kd.R_celln 0 HO_8.out ((ji25) : Int) p34 q34; replace p34 := eq_true p34; replace q34 := eq_true q34; have n_ := Aside0.mk (Kd.R_mono (ok' := (fun k_ => some k_ ≠ (.slice (some ⟨go31, 0, none⟩) x7_2.length co35 : Value).ownBlock)) HO_8.out (fun k_ hk => hk.2)); clear HO_8; have HO_8 := n_; clear n_; obtain ⟨hy39_, hz39_⟩ := Kd.R_celln 0 HO_8.out ((ji25) : Int) (of_decide_eq_true (by first | (with_reducible assumption) | assumption)) (of_decide_eq_true (by first | (with_reducible assumption) | assumption)); have HP39 := Kd.R_putg HO_8.out ((ji25) : Int) (Go.bits .xor .u8 (rd x8_2 (ji25)) (ji30))) | ((with_reducible refine gate_store (t := 5) (p := 78) rfl ?_); refine store_event (t := 5) (p := 78) (v := ?vo_w40) (w1 := (w37.setCell ⟨go34, ((ji25) : Int).toNat, none⟩ (.int .u8 (Go.bits .xor .u8 (rd x8_2 (ji25)) (ji30))))) ?hg ?ho ?hn ?hr ?_; (case ho => rfl); (case hg => rfl); (case hn => rfl); (case hr => first | (go_simp; done) | (go_simp; rfl)); intro w40 hw; have hg : w37.grownBy w40 (some go34) := (by rw [hw]; exact HP39.2); have hp_ : Kd.R (Kd.int .u8) 5 w40 w.heap.size (fun k_ => some k_ ≠ (.slice (some ⟨go31, 0, none⟩) x7_2.length co35 : Value).ownBlock) (.slice (some ⟨go34, 0, none⟩) x8_2.length co38) y121 := (by rw [hw, Ny121.out]; exact HP39.1); clear HP39; have n0_ := Aside0.mk (Kd.R_after (v := (.slice (some ⟨go34, 0, none⟩) x8_2.length co38)) (v1 := (.slice (some ⟨go34, 0, none⟩) x8_2.length co38)) (ok := (fun _ => True)) (by (with_reducible repeat (first | apply Kd.R_alloc | apply Kd.R_drewN | apply Kd.R_drew)); exact Kd.R_mono HO_7.out (fun _ hk => ⟨trivial, hk⟩)) hg (.inl rfl)); have n1_ := Aside0.mk (hp_); have n2_ := Aside0.mk ((by rw [hw]; exact below_set (HB.out) GB34.out : Below w.heap.size w w40)); clear HO_7; clear HO_8; clear HB; have HO_7 := n0_; have HO_8 := n1_; have HB := n2_; clear n0_ n1_ n2_; clear hg hw hp_))
                                    go_roundg k2
                                    case measure => have := HJ5.out; have := HK2.out; omega
                                    case rel => exact ⟨(y119), (y121), (wrap64 (x10_2 + 1)), (by first | rfl | (simp; done) | (simp [*]; done)), H', ⟨by have := HJ5.out; have := HK2.out; omega⟩, ⟨by (with_reducible repeat (first | apply Kd.R_alloc | apply Kd.R_drewN | apply Kd.R_drew)); exact Kd.R_mono HO_7.out (fun _ hk => hk.2)⟩, ⟨by (with_reducible repeat (first | apply Kd.R_alloc | apply Kd.R_drewN | apply Kd.R_drew)); exact HO_8.out⟩, ⟨by repeat (first | (with_reducible first | exact HB.out | apply below_alloc | apply pw_below_drewN | apply below_drew1) | exact HB.out)⟩⟩
                                  · rw [if_neg c32] at H
                                    exact absurd H (by simp)
                                · rw [if_neg c29] at H
                                  exact absurd H (by simp)
                              · rw [if_neg c27] at H
                                exact absurd H (by simp)
                            · rw [if_neg c26] at H
                              exact absurd H (by simp)
                          · rw [if_neg c24] at H
                            have c24b0 : ((Go.bits .and .u32 (ji23) 1) == 1) = false := beq_eq_false_iff_ne.mpr c24
                            have c24b1 : ((Go.bits .and .u32 (ji23) 1) != 1) = true := bne_iff_ne.mpr c24
                            have H' := Aside0.mk H
                            clear H
                            go_wp2
                            go_roundg k2
                            case measure => have := HJ5.out; have := HK2.out; omega
                            case rel => exact ⟨(x7_2), (x8_2), (wrap64 (x10_2 + 1)), (by first | rfl | (simp; done) | (simp [*]; done)), H', ⟨by have := HJ5.out; have := HK2.out; omega⟩, ⟨by (with_reducible repeat (first | apply Kd.R_alloc | apply Kd.R_drewN | apply Kd.R_drew)); exact HO_7.out⟩, ⟨by (with_reducible repeat (first | apply Kd.R_alloc | apply Kd.R_drewN | apply Kd.R_drew)); exact HO_8.out⟩, ⟨by repeat (first | (with_reducible first | exact HB.out | apply below_alloc | apply pw_below_drewN | apply below_drew1) | exact HB.out)⟩⟩
                        · rw [if_neg c22] at H
                          exact absurd H (by simp)
                      · rw [if_neg c20] at H
                        have c20b0 : decide (x10_2 < 32) = false := decide_eq_false c20
                        clear c20
                        by_cases c41 : 0 ≤ (l0.length : Int)
                        · rw [if_pos c41] at H
                          have c41b0 := eq_true c41
                          have c41b1 : decide (0 ≤ (l0.length : Int)) = true := decide_eq_true c41
                          clear c41
                          by_cases c42 : ((l0.length : Int) : Int).toNat ≤ 281474976710656
                          · rw [if_pos c42] at H
                            have c42b0 := eq_true c42
                            have c42b1 : decide (((l0.length : Int) : Int).toNat ≤ 281474976710656) = true := decide_eq_true c42
                            clear c42
                            obtain ⟨y122, hy122⟩ : ∃ y_ : List Int, y_ = (List.replicate ((l0.length : Int) : Int).toNat 0) := ⟨_, rfl⟩
                            replace H : ((crc_Sum.f k2 y122).bind fun t125 => ((crc_Sum.f k2 l0).bind fun t126 => ((crc_Sum.f k2 x7_2).bind fun t127 => (if t126 = t127 then (some false) else ((crc_Sum.f k2 l0).bind fun t128 => ((crc_Sum.f k2 x7_2).bind fun t129 => ((crc_Sum.f k2 x8_2).bind fun t130 => (some ((Go.bits .xor .u32 t128 t129) == (Go.bits .xor .u32 t130 t125)))))))))) = some r := by first | (rw [hy122]; with_reducible exact H) | (have H2_ := (Option.bind_some _ _).symm.trans H; rw [hy122]; with_reducible exact H2_) | (have H2_ := (Option.bind_some _ _).symm.trans H; with_reducible exact H2_) | with_reducible exact H | (rw [hy122]; exact H) | exact H
                            have Ny122 := Aside0.mk hy122
                            clear hy122
                            replace H := Option.bind_eq_some_iff.mp H
                            obtain ⟨t125, A430, H⟩ := H
                            replace H : ((crc_Sum.f k2 l0).bind fun t126 => ((crc_Sum.f k2 x7_2).bind fun t127 => (if t126 = t127 then (some false) else ((crc_Sum.f k2 l0).bind fun t128 => ((crc_Sum.f k2 x7_2).bind fun t129 => ((crc_Sum.f k2 x8_2).bind fun t130 => (some ((Go.bits .xor .u32 t128 t129) == (Go.bits .xor .u32 t130 t125))))))))) = some r := H
                            have A43 := Aside0.mk A430
                            clear A430
                            replace H := Option.bind_eq_some_iff.mp H
                            obtain ⟨t126, A440, H⟩ := H
                            replace H : ((crc_Sum.f k2 x7_2).bind fun t127 => (if t126 = t127 then (some false) else ((crc_Sum.f k2 l0).bind fun t128 => ((crc_Sum.f k2 x7_2).bind fun t129 => ((crc_Sum.f k2 x8_2).bind fun t130 => (some ((Go.bits .xor .u32 t128 t129) == (Go.bits .xor .u32 t130 t125)))))))) = some r := H
                            have A44 := Aside0.mk A440
                            clear A440
                            replace H := Option.bind_eq_some_iff.mp H
                            obtain ⟨t127, A450, H⟩ := H
                            replace H : (if t126 = t127 then (some false) else ((crc_Sum.f k2 l0).bind fun t128 => ((crc_Sum.f k2 x7_2).bind fun t129 => ((crc_Sum.f k2 x8_2).bind fun t130 => (some ((Go.bits .xor .u32 t128 t129) == (Go.bits .xor .u32 t130 t125))))))) = some r := H
                            have A45 := Aside0.mk A450
                            clear A450
                            by_cases c46 : t126 = t127
                            · rw [if_pos c46] at H
                              have c46b0 : (t126 == t127) = true := beq_iff_eq.mpr c46
                              have c46b1 : (t126 != t127) = false := bne_eq_false_iff_eq.mpr c46
                              clear c46
                              obtain rfl := Option.some.inj H
                              go_wp2_with (first | ((with_reducible refine gate_dst (N := 81) rfl ?_); (try (refine gate_guard (by rfl) ?_; dsimp only)); refine Kd.R_make (Kd.int .u8) _ 5 rfl (N := 81) rfl 22 _ _ rfl (l0.length : Int) rfl rfl Try.underlying22 (.int .u8 0) 1 info5 rfl (by decide) (by omega) 0 (ok := fun _ => True) (okp := fun _ => True) rfl (fun _ hk => hk) trivial (of_decide_eq_true (by first | (with_reducible assumption) | assumption)) (Nat.le_trans (Nat.mul_le_mul_right _ (of_decide_eq_true (by first | (with_reducible assumption) | assumption) : (l0.length : Int).toNat ≤ 281474976710656)) (by omega)) (Below.refl _ _) (Nat.le_refl _) ?_; intro v123 w47 ho48 hb hg_ hnew_; clear hg_ hnew_; (first | rw [← Ny122.out] at ho48 | (simp only [Int.reduceToNat] at ho48; rw [← Ny122.out] at ho48)); have n0_ := Aside0.mk (Kd.R_elder' (by (with_reducible repeat (first | apply Kd.R_alloc | apply Kd.R_drewN | apply Kd.R_drew)); exact HO_7.out) (Kd.R_base ho48) hb); have n1_ := Aside0.mk (Kd.R_elder' (by (with_reducible repeat (first | apply Kd.R_alloc | apply Kd.R_drewN | apply Kd.R_drew)); exact HO_8.out) (Kd.R_base ho48) hb); have n2_ := Aside0.mk (Kd.R_lower (Kd.R_new' (Kd.R_new' ho48 (Kd.R_lt (by (with_reducible repeat (first | apply Kd.R_alloc | apply Kd.R_drewN | apply Kd.R_drew)); exact HO_7.out))) (Kd.R_lt (by (with_reducible repeat (first | apply Kd.R_alloc | apply Kd.R_drewN | apply Kd.R_drew)); exact HO_8.out))) (below_size (by repeat (first | (with_reducible first | exact HB.out | apply below_alloc | apply pw_below_drewN | apply below_drew1) | exact HB.out)))); have n3_ := Aside0.mk (below_step (by repeat (first | (with_reducible first | exact HB.out | apply below_alloc | apply pw_below_drewN | apply below_drew1) | exact HB.out)) hb); clear HO_7; clear HO_8; clear HB; have HO_7 := n0_; have HO_8 := n1_; have HO124 := n2_; have HB := n3_; clear n0_ n1_ n2_ n3_; clear hb ho48; obtain ⟨Ao49, co49, eo49⟩ := Kd.R_slice HO124.out; subst eo49) | ((with_reducible refine gate_callee (f := 8) rfl ?_); refine goesL_ (some 82) rfl rfl Try.func8 (by kernel_rfl) rfl #[.slice Ao49 y122.length co49] rfl (by (try simp only [List.map_toArray, List.map_cons, List.map_nil]); first | done | rfl | (simp only [List.length_drop, List.length_take]; rfl)) ?_; (with_reducible refine (crc_Sum.calls k2 _ _ y122 t125 _ ?side1 ?side2 A43.out).mono ?_); (case side1 => repeat (first | exact (Kd.R_reads' HO124.out).2.2 | (with_reducible refine Kd.C_alloc ?_ _) | (with_reducible refine Kd.C_drewN ?_ _) | (with_reducible refine Kd.C_drew ?_))); (case side2 => exact (Kd.R_reads' HO124.out).2.1); rintro e w' ⟨rfl, ⟨nd, rfl⟩⟩; refine ⟨_, rfl, ?_⟩) | ((with_reducible refine gate_callee (f := 8) rfl ?_); refine goesL_ (some 84) rfl rfl Try.func8 (by kernel_rfl) rfl #[.slice A0 l0.length c0] rfl (by (try simp only [List.map_toArray, List.map_cons, List.map_nil]); first | done | rfl | (simp only [List.length_drop, List.length_take]; rfl)) ?_; (with_reducible refine (crc_Sum.calls k2 _ _ l0 t126 _ ?side1 ?side2 A44.out).mono ?_); (case side1 => repeat (first | exact (Kd.C_below HR0.out (by repeat (first | (with_reducible first | exact HB.out | apply below_alloc | apply pw_below_drewN | apply below_drew1) | exact HB.out))) | (with_reducible refine Kd.C_alloc ?_ _) | (with_reducible refine Kd.C_drewN ?_ _) | (with_reducible refine Kd.C_drew ?_))); (case side2 => exact HC0.out); rintro e w' ⟨rfl, ⟨nd, rfl⟩⟩; refine ⟨_, rfl, ?_⟩; obtain ⟨Ao50, co50, eo50⟩ := Kd.R_slice HO_7.out; subst eo50) | ((with_reducible refine gate_callee (f := 8) rfl ?_); refine goesL_ (some 86) rfl rfl Try.func8 (by kernel_rfl) rfl #[.slice Ao50 x7_2.length co50] rfl (by (try simp only [List.map_toArray, List.map_cons, List.map_nil]); first | done | rfl | (simp only [List.length_drop, List.length_take]; rfl)) ?_; (with_reducible refine (crc_Sum.calls k2 _ _ x7_2 t127 _ ?side1 ?side2 A45.out).mono ?_); (case side1 => repeat (first | exact (Kd.R_reads' HO_7.out).2.2 | (with_reducible refine Kd.C_alloc ?_ _) | (with_reducible refine Kd.C_drewN ?_ _) | (with_reducible refine Kd.C_drew ?_))); (case side2 => exact (Kd.R_reads' HO_7.out).2.1); rintro e w' ⟨rfl, ⟨nd, rfl⟩⟩; refine ⟨_, rfl, ?_⟩))
                              go_ret
                              exact ⟨by first | rfl | (simp [errW_none, errW_some] <;> rfl) | (simp [*, errW_none, errW_some] <;> rfl), by repeat (first | (with_reducible first | exact HB.out | apply below_alloc | apply pw_below_drewN | apply below_drew1) | exact HB.out)⟩
                            · rw [if_neg c46] at H
                              have c46b0 : (t126 == t127) = false := beq_eq_false_iff_ne.mpr c46
                              have c46b1 : (t126 != t127) = true := bne_iff_ne.mpr c46
                              replace H := Option.bind_eq_some_iff.mp H
                              obtain ⟨t128, A510, H⟩ := H
                              replace H : ((crc_Sum.f k2 x7_2).bind fun t129 => ((crc_Sum.f k2 x8_2).bind fun t130 => (some ((Go.bits .xor .u32 t128 t129) == (Go.bits .xor .u32 t130 t125))))) = some r := H
                              have A51 := Aside0.mk A510
                              clear A510
                              replace H := Option.bind_eq_some_iff.mp H
                              obtain ⟨t129, A520, H⟩ := H
                              replace H : ((crc_Sum.f k2 x8_2).bind fun t130 => (some ((Go.bits .xor .u32 t128 t129) == (Go.bits .xor .u32 t130 t125)))) = some r := H
                              have A52 := Aside0.mk A520
                              clear A520
                              replace H := Option.bind_eq_some_iff.mp H
                              obtain ⟨t130, A530, H⟩ := H
                              replace H : (some ((Go.bits .xor .u32 t128 t129) == (Go.bits .xor .u32 t130 t125))) = some r := H
                              have A53 := Aside0.mk A530
                              clear A530
                              obtain rfl := Option.some.inj H
                              go_wp2_with (first | ((with_reducible refine gate_dst (N := 81) rfl ?_); (try (refine gate_guard (by rfl) ?_; dsimp only)); refine Kd.R_make (Kd.int .u8) _ 5 rfl (N := 81) rfl 22 _ _ rfl (l0.length : Int) rfl rfl Try.underlying22 (.int .u8 0) 1 info5 rfl (by decide) (by omega) 0 (ok := fun _ => True) (okp := fun _ => True) rfl (fun _ hk => hk) trivial (of_decide_eq_true (by first | (with_reducible assumption) | assumption)) (Nat.le_trans (Nat.mul_le_mul_right _ (of_decide_eq_true (by first | (with_reducible assumption) | assumption) : (l0.length : Int).toNat ≤ 281474976710656)) (by omega)) (Below.refl _ _) (Nat.le_refl _) ?_; intro v123 w54 ho55 hb hg_ hnew_; clear hg_ hnew_; (first | rw [← Ny122.out] at ho55 | (simp only [Int.reduceToNat] at ho55; rw [← Ny122.out] at ho55)); have n0_ := Aside0.mk (Kd.R_elder' (by (with_reducible repeat (first | apply Kd.R_alloc | apply Kd.R_drewN | apply Kd.R_drew)); exact HO_7.out) (Kd.R_base ho55) hb); have n1_ := Aside0.mk (Kd.R_elder' (by (with_reducible repeat (first | apply Kd.R_alloc | apply Kd.R_drewN | apply Kd.R_drew)); exact HO_8.out) (Kd.R_base ho55) hb); have n2_ := Aside0.mk (Kd.R_lower (Kd.R_new' (Kd.R_new' ho55 (Kd.R_lt (by (with_reducible repeat (first | apply Kd.R_alloc | apply Kd.R_drewN | apply Kd.R_drew)); exact HO_7.out))) (Kd.R_lt (by (with_reducible repeat (first | apply Kd.R_alloc | apply Kd.R_drewN | apply Kd.R_drew)); exact HO_8.out))) (below_size (by repeat (first | (with_reducible first | exact HB.out | apply below_alloc | apply pw_below_drewN | apply below_drew1) | exact HB.out)))); have n3_ := Aside0.mk (below_step (by repeat (first | (with_reducible first | exact HB.out | apply below_alloc | apply pw_below_drewN | apply below_drew1) | exact HB.out)) hb); clear HO_7; clear HO_8; clear HB; have HO_7 := n0_; have HO_8 := n1_; have HO124 := n2_; have HB := n3_; clear n0_ n1_ n2_ n3_; clear hb ho55; obtain ⟨Ao56, co56, eo56⟩ := Kd.R_slice HO124.out; subst eo56) | ((with_reducible refine gate_callee (f := 8) rfl ?_); refine goesL_ (some 82) rfl rfl Try.func8 (by kernel_rfl) rfl #[.slice Ao56 y122.length co56] rfl (by (try simp only [List.map_toArray, List.map_cons, List.map_nil]); first | done | rfl | (simp only [List.length_drop, List.length_take]; rfl)) ?_; (with_reducible refine (crc_Sum.calls k2 _ _ y122 t125 _ ?side1 ?side2 A43.out).mono ?_); (case side1 => repeat (first | exact (Kd.R_reads' HO124.out).2.2 | (with_reducible refine Kd.C_alloc ?_ _) | (with_reducible refine Kd.C_drewN ?_ _) | (with_reducible refine Kd.C_drew ?_))); (case side2 => exact (Kd.R_reads' HO124.out).2.1); rintro e w' ⟨rfl, ⟨nd, rfl⟩⟩; refine ⟨_, rfl, ?_⟩) | ((with_reducible refine gate_callee (f := 8) rfl ?_); refine goesL_ (some 84) rfl rfl Try.func8 (by kernel_rfl) rfl #[.slice A0 l0.length c0] rfl (by (try simp only [List.map_toArray, List.map_cons, List.map_nil]); first | done | rfl | (simp only [List.length_drop, List.length_take]; rfl)) ?_; (with_reducible refine (crc_Sum.calls k2 _ _ l0 t126 _ ?side1 ?side2 A44.out).mono ?_); (case side1 => repeat (first | exact (Kd.C_below HR0.out (by repeat (first | (with_reducible first | exact HB.out | apply below_alloc | apply pw_below_drewN | apply below_drew1) | exact HB.out))) | (with_reducible refine Kd.C_alloc ?_ _) | (with_reducible refine Kd.C_drewN ?_ _) | (with_reducible refine Kd.C_drew ?_))); (case side2 => exact HC0.out); rintro e w' ⟨rfl, ⟨nd, rfl⟩⟩; refine ⟨_, rfl, ?_⟩; obtain ⟨Ao57, co57, eo57⟩ := Kd.R_slice HO_7.out; subst eo57) | ((with_reducible refine gate_callee (f := 8) rfl ?_); refine goesL_ (some 86) rfl rfl Try.func8 (by kernel_rfl) rfl #[.slice Ao57 x7_2.length co57] rfl (by (try simp only [List.map_toArray, List.map_cons, List.map_nil]); first | done | rfl | (simp only [List.length_drop, List.length_take]; rfl)) ?_; (with_reducible refine (crc_Sum.calls k2 _ _ x7_2 t127 _ ?side1 ?side2 A45.out).mono ?_); (case side1 => repeat (first | exact (Kd.R_reads' HO_7.out).2.2 | (with_reducible refine Kd.C_alloc ?_ _) | (with_reducible refine Kd.C_drewN ?_ _) | (with_reducible refine Kd.C_drew ?_))); (case side2 => exact (Kd.R_reads' HO_7.out).2.1); rintro e w' ⟨rfl, ⟨nd, rfl⟩⟩; refine ⟨_, rfl, ?_⟩) | (go_at_call 8; (with_reducible refine (crc_Sum.calls k2 _ _ l0 t128 _ ?side1 ?side2 A51.out).mono ?_); (case side1 => repeat (first | exact (Kd.C_below HR0.out (by repeat (first | (with_reducible first | exact HB.out | apply below_alloc | apply pw_below_drewN | apply below_drew1) | exact HB.out))) | (with_reducible refine Kd.C_alloc ?_ _) | (with_reducible refine Kd.C_drewN ?_ _) | (with_reducible refine Kd.C_drew ?_))); (case side2 => exact HC0.out); rintro e w' ⟨rfl, ⟨nd, rfl⟩⟩) | (go_at_call 8; (with_reducible refine (crc_Sum.calls k2 _ _ x7_2 t129 _ ?side1 ?side2 A52.out).mono ?_); (case side1 => repeat (first | exact (Kd.R_reads' HO_7.out).2.2 | (with_reducible refine Kd.C_alloc ?_ _) | (with_reducible refine Kd.C_drewN ?_ _) | (with_reducible refine Kd.C_drew ?_))); (case side2 => exact (Kd.R_reads' HO_7.out).2.1); rintro e w' ⟨rfl, ⟨nd, rfl⟩⟩; obtain ⟨Ao58, co58, eo58⟩ := Kd.R_slice HO_8.out; subst eo58) | (go_at_call 8; (with_reducible refine (crc_Sum.calls k2 _ _ x8_2 t130 _ ?side1 ?side2 A53.out).mono ?_); (case side1 => repeat (first | exact (Kd.R_reads' HO_8.out).2.2 | (with_reducible refine Kd.C_alloc ?_ _) | (with_reducible refine Kd.C_drewN ?_ _) | (with_reducible refine Kd.C_drew ?_))); (case side2 => exact (Kd.R_reads' HO_8.out).2.1); rintro e w' ⟨rfl, ⟨nd, rfl⟩⟩))
                              go_ret
                              exact ⟨by first | rfl | (simp [errW_none, errW_some] <;> rfl) | (simp [*, errW_none, errW_some] <;> rfl), by repeat (first | (with_reducible first | exact HB.out | apply below_alloc | apply pw_below_drewN | apply below_drew1) | exact HB.out)⟩
                          · rw [if_neg c42] at H
                            exact absurd H (by simp)
                        · rw [if_neg c41] at H
                          exact absurd H (by simp)
              · rw [if_neg c13] at H
                exact absurd H (by simp)
            · rw [if_neg c12] at H
              exact absurd H (by simp)
          · rw [if_neg c11] at H
            exact absurd H (by simp)
  · replace c5 := Bool.eq_false_iff.mpr c5
    subst c5
    have H1 : (some false) = some r := by rw [if_neg (show ¬ (false = true) by decide)] at H; exact H
    clear H
    have H := H1
    clear H1
    obtain rfl := Option.some.inj H
    go_enter Try.func3, Try.ntmps3
    go_wp2_with (first | ((with_reducible refine gate_callee (f := 7) rfl ?_); refine goesL_ (some 12) rfl rfl Try.func7 (by kernel_rfl) rfl #[] rfl (by (try simp only [List.map_toArray, List.map_cons, List.map_nil]); first | done | rfl | (simp only [List.length_drop, List.length_take]; rfl)) ?_; (with_reducible refine (strongboxlaw4_awake.calls k  false _ A4.out).mono ?_); rintro e w59 ⟨rfl, hb⟩; refine ⟨_, rfl, ?_⟩; have n0_ := Aside0.mk (below_step (by repeat (first | (with_reducible first | exact HB.out | apply below_alloc | apply pw_below_drewN | apply below_drew1) | exact HB.out)) hb); clear HB; have HB := n0_; clear n0_; (try clear hb); (try clear hb2); (try clear hk); (try clear hi)))
    go_ret
    exact ⟨by first | rfl | (simp [errW_none, errW_some] <;> rfl) | (simp [*, errW_none, errW_some] <;> rfl), by repeat (first | (with_reducible first | exact HB.out | apply below_alloc | apply pw_below_drewN | apply below_drew1) | exact HB.out)⟩

/-- THE ONE PURE STATEMENT of strongboxlaw4_CrcUnlike: yours. -/
def strongboxlaw4_CrcUnlike.Pure : Prop := ∀ (l0 : List Int) (a1 : Int) (a2 : Int), l0.length ≤ maxLen → l0.length * 1 ≤ 140737488351232 → (∀ x ∈ l0, (Lit.int .u8 x).wf = true) → (Lit.int .u32 a1).wf = true → (Lit.int .u32 a2).wf = true → ∃ k, strongboxlaw4_CrcUnlike.f k l0 a1 a2 = some true
theorem strongboxlaw4_CrcUnlike.walk (P : strongboxlaw4_CrcUnlike.Pure) (a0 : Option Addr) (len0 cap0 : Nat) (z0 : List Int) (a1 : Int) (a2 : Int) (w : World) (w0 : (a0 = none ∧ len0 = 0 ∧ cap0 = 0 ∧ z0 = []) ∨ ∃ x, a0 = some x ∧ len0 ≤ cap0 ∧ cap0 ≤ maxLen ∧ z0.length = cap0 ∧ (∀ i, i < z0.length → w.cell? (x.add i) = some (.int .u8 (z0.getD i 0))) ∧ ∀ n ∈ z0, (Lit.int .u8 n).wf = true) (y0 : len0 * 1 ≤ 140737488351232) (w1 : (Lit.int .u32 a1).wf = true) (w2 : (Lit.int .u32 a2).wf = true) :
    Calls Try.prog 3 #[.slice a0 len0 cap0, .int .u32 a1, .int .u32 a2] w fun e w' => e = .returned (.bool true) ∧ Below w.heap.size w w' := by
  obtain ⟨l0, rfl, hr0, hm0, hw0, hc0⟩ := ReadsInt.ofRowC w0
  obtain ⟨k, h⟩ := P l0 a1 a2 hm0 y0 hw0 w1 w2
  refine (strongboxlaw4_CrcUnlike.calls k _ _ l0 a1 a2 true w (Kd.C_of_reads (d := (0 : Int)) (h1 := fun _ => rfl) hr0) hc0 h).mono ?_
  rintro e w' ⟨rfl, hd⟩
  exact ⟨rfl, hd⟩

end Go.Proofs.Ytjibdkbfjjeheaa.PCrcUnlike
