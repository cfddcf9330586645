/- WRITTEN FOR THIS CLAIM by a program of the prover's own (the kit's printing program, with constructs added): for each Go function that the statement reaches a Lean function with the same answers, and the proof of that. Not trusted: Lean checks it. -/
import Derived.Test.YtjibdkbfjjeheaaPCrcPartsx0
import Derived.Lib.SlBytesConst
namespace Go.Proofs.Ytjibdkbfjjeheaa.PCrcParts
open Go.RowKit Go.Proofs.YtjibdkbfjjeheaaW.PrintWords Go.Proofs.YtjibdkbfjjeheaaW.PrintLast Go.Proofs.YtjibdkbfjjeheaaW.PrintMore
attribute [local go_sem] max2_int min2_int max_two min_two max_three min_three max_four min_four   -- for this text's walks alone
set_option linter.unusedVariables false
set_option linter.unusedSimpArgs false

/-! ### crc_More: function 9 -/
mutual
def crc_More.l0 : Nat → Int → List Int → Int → Int → Option (Int)
  | 0, _, _, _, _ => none
  | k + 1, x0, x10, x11, x12 => if x12 < x11 then (if 0 ≤ x12 then (if x12 < (x10.length : Int) then (crc_More.l1 k (Go.bits .xor .u32 x0 ((rd x10 x12) % 4294967296)) x10 x11 x12 0) else (none)) else (none)) else (some (Go.bits .xor .u32 4294967295 x0))
def crc_More.l1 : Nat → Int → List Int → Int → Int → Int → Option (Int)
  | 0, _, _, _, _, _ => none
  | k + 1, x0, x10, x11, x12, x20 => if x20 < 8 then (if (Go.bits .and .u32 x0 1) = 1 then (crc_More.l1 k (Go.bits .xor .u32 (x0 / 2) 2197175160) x10 x11 x12 (wrap64 (x20 + 1))) else (crc_More.l1 k (x0 / 2) x10 x11 x12 (wrap64 (x20 + 1)))) else (crc_More.l0 k x0 x10 x11 (wrap64 (x12 + 1)))
end
def crc_More.f (k : Nat) (a0 : Int) (l1 : List Int) : Option (Int) := crc_More.l0 k (Go.bits .xor .u32 4294967295 a0) l1 (l1.length : Int) 0
theorem crc_More.mono_l : ∀ k, (∀ y0 y1 y2 y3, LeO (crc_More.l0 k y0 y1 y2 y3) (crc_More.l0 (k + 1) y0 y1 y2 y3)) ∧ (∀ y0 y1 y2 y3 y4, LeO (crc_More.l1 k y0 y1 y2 y3 y4) (crc_More.l1 (k + 1) y0 y1 y2 y3 y4))
  | 0 => ⟨fun _ _ _ _ r h => by simp [crc_More.l0] at h, fun _ _ _ _ _ r h => by simp [crc_More.l1] at h⟩
  | k + 1 => by
    obtain ⟨ih0, ih1⟩ := crc_More.mono_l k
    refine ⟨?_, ?_⟩
    · intro y0 y1 y2 y3
      unfold crc_More.l0
      repeat' first
      | (with_reducible exact ih0 _ _ _ _)
      | (with_reducible exact ih1 _ _ _ _ _)
      | (with_reducible exact LeO.refl _)
      | (with_reducible exact LeO.none _)
      | (with_reducible refine LeO.ite ?_ ?_)
      | (with_reducible refine LeO.bind ?_ (fun _ => ?_))
      | exact ih0 _ _ _ _
      | exact ih1 _ _ _ _ _
      | exact LeO.none _
      | refine LeO.ite ?_ ?_
      | refine LeO.bind ?_ (fun _ => ?_)
    · intro y0 y1 y2 y3 y4
      unfold crc_More.l1
      repeat' first
      | (with_reducible exact ih0 _ _ _ _)
      | (with_reducible exact ih1 _ _ _ _ _)
      | (with_reducible exact LeO.refl _)
      | (with_reducible exact LeO.none _)
      | (with_reducible refine LeO.ite ?_ ?_)
      | (with_reducible refine LeO.bind ?_ (fun _ => ?_))
      | exact ih0 _ _ _ _
      | exact ih1 _ _ _ _ _
      | exact LeO.none _
      | refine LeO.ite ?_ ?_
      | refine LeO.bind ?_ (fun _ => ?_)
theorem crc_More.mono : ∀ a0 a1 k, LeO (crc_More.f k a0 a1) (crc_More.f (k + 1) a0 a1) := by
  intro a0 a1 k
  obtain ⟨ih0, ih1⟩ := crc_More.mono_l k
  unfold crc_More.f
  repeat' first
      | (with_reducible exact ih0 _ _ _ _)
      | (with_reducible exact ih1 _ _ _ _ _)
      | (with_reducible exact LeO.refl _)
      | (with_reducible exact LeO.none _)
      | (with_reducible refine LeO.ite ?_ ?_)
      | (with_reducible refine LeO.bind ?_ (fun _ => ?_))
      | exact ih0 _ _ _ _
      | exact ih1 _ _ _ _ _
      | exact LeO.none _
      | refine LeO.ite ?_ ?_
      | refine LeO.bind ?_ (fun _ => ?_)
set_option maxHeartbeats 8000000 in
set_option maxRecDepth 100000 in
theorem crc_More.calls (k : Nat) (a0 : Int) (A1 : Option Addr) (c1 : Nat) (l1 : List Int) (r : Int) (w : World) (hr1 : Kd.C (Kd.int .u8) w A1 l1.length l1) (hc1 : l1.length ≤ c1) (h : crc_More.f k a0 l1 = some r) :
    Calls Try.prog 9 #[.int .u32 a0, .slice A1 l1.length c1] w fun e w' => e = .returned (.int .u32 r) ∧ Drawn0 w w' := by
  have HR1 := Aside0.mk hr1
  have HC1 := Aside0.mk hc1
  clear hr1 hc1
  have H : (crc_More.l0 k (Go.bits .xor .u32 4294967295 a0) l1 (l1.length : Int) 0) = some r := h
  clear h
  have H' := Aside0.mk H
  clear H
  go_enter Try.func9, Try.ntmps9
  go_wp2
  go_loopg [0, 12] k (fun kq v0 v12 w' => ∃ (x0_1 : Int) (x12_1 : Int), v0 = .int .u32 x0_1 ∧ v12 = .int .i64 x12_1 ∧ Aside0 (crc_More.l0 kq x0_1 l1 (l1.length : Int) x12_1 = some r) ∧ Aside0 (kq ≤ k) ∧ Drawn0 w w')
  case atStart => exact ⟨(Go.bits .xor .u32 4294967295 a0), (0), (by first | rfl | (simp; done) | (simp [*]; done)), (by first | rfl | (simp; done) | (simp [*]; done)), H', ⟨Nat.le_refl _⟩, by repeat (first | exact Drawn0.refl _ | apply Drawn0.step)⟩
  case round =>
    clear H'
    try clear c1
    try clear p2
    obtain ⟨x0_1, x12_1, rfl, rfl, HA, HK1, ⟨m1, rfl⟩⟩ := hrel
    cases gk with
    | zero => exact absurd HA.out (by simp [crc_More.l0])
    | succ k1 =>
      have H := HA.out
      clear HA
      simp only [crc_More.l0] at H
      by_cases c3 : x12_1 < (l1.length : Int)
      · rw [if_pos c3] at H
        have c3b0 : decide (x12_1 < (l1.length : Int)) = true := decide_eq_true c3
        clear c3
        by_cases c4 : 0 ≤ x12_1
        · rw [if_pos c4] at H
          have c4b0 : decide (0 ≤ x12_1) = true := decide_eq_true c4
          clear c4
          by_cases c5 : x12_1 < (l1.length : Int)
          · rw [if_pos c5] at H
            have c5b0 : decide (x12_1 < (l1.length : Int)) = true := decide_eq_true c5
            clear c5
            have H' := Aside0.mk H
            clear H
            have p101 : 0 ≤ (x12_1 : Int) := of_decide_eq_true (by first | (with_reducible assumption) | assumption)
            have q101 : x12_1 < (l1.length : Int) := of_decide_eq_true (by first | (with_reducible assumption) | assumption)
            obtain ⟨ad101, e101, hx101_0⟩ := Kd.at_int HR1.out x12_1 p101 q101
            cases e101
            replace p101 := eq_true p101
            replace q101 := eq_true q101
            go_wp2
            go_loopg [0, 20] k1 (fun kq v0 v20 w' => ∃ (x0_2 : Int) (x20_2 : Int), v0 = .int .u32 x0_2 ∧ v20 = .int .i64 x20_2 ∧ Aside0 (crc_More.l1 kq x0_2 l1 (l1.length : Int) x12_1 x20_2 = some r) ∧ Aside0 (kq ≤ k1) ∧ Drawn0 w w')
            case atStart => exact ⟨(Go.bits .xor .u32 x0_1 ((rd l1 x12_1) % 4294967296)), (0), (by first | rfl | (simp; done) | (simp [*]; done)), (by first | rfl | (simp; done) | (simp [*]; done)), H', ⟨Nat.le_refl _⟩, by repeat (first | exact Drawn0.refl _ | apply Drawn0.step)⟩
            case round =>
              clear H'
              try clear c1
              try clear p1
              try clear q1
              try clear hx1
              try clear p2
              try clear c3
              try clear c3b0
              try clear c4
              try clear c4b0
              try clear c5
              try clear c5b0
              try clear hx101_0
              try clear p101
              try clear p2
              try clear q101
              obtain ⟨x0_2, x20_2, rfl, rfl, HA, HK2, ⟨m2, rfl⟩⟩ := hrel
              cases gk with
              | zero => exact absurd HA.out (by simp [crc_More.l1])
              | succ k2 =>
                have H := HA.out
                clear HA
                simp only [crc_More.l1] at H
                by_cases c6 : x20_2 < 8
                · rw [if_pos c6] at H
                  have c6b0 : decide (x20_2 < 8) = true := decide_eq_true c6
                  clear c6
                  by_cases c7 : (Go.bits .and .u32 x0_2 1) = 1
                  · rw [if_pos c7] at H
                    have c7b0 : ((Go.bits .and .u32 x0_2 1) == 1) = true := beq_iff_eq.mpr c7
                    have c7b1 : ((Go.bits .and .u32 x0_2 1) != 1) = false := bne_eq_false_iff_eq.mpr c7
                    clear c7
                    have H' := Aside0.mk H
                    clear H
                    go_wp2
                    go_roundg k2
                    case measure => have := HK1.out; have := HK2.out; omega
                    case rel => exact ⟨(Go.bits .xor .u32 (x0_2 / 2) 2197175160), (wrap64 (x20_2 + 1)), (by first | rfl | (simp; done) | (simp [*]; done)), (by first | rfl | (simp; done) | (simp [*]; done)), H', ⟨by have := HK1.out; have := HK2.out; omega⟩, by repeat (first | exact Drawn0.refl _ | apply Drawn0.step)⟩
                  · rw [if_neg c7] at H
                    have c7b0 : ((Go.bits .and .u32 x0_2 1) == 1) = false := beq_eq_false_iff_ne.mpr c7
                    have c7b1 : ((Go.bits .and .u32 x0_2 1) != 1) = true := bne_iff_ne.mpr c7
                    have H' := Aside0.mk H
                    clear H
                    go_wp2
                    go_roundg k2
                    case measure => have := HK1.out; have := HK2.out; omega
                    case rel => exact ⟨(x0_2 / 2), (wrap64 (x20_2 + 1)), (by first | rfl | (simp; done) | (simp [*]; done)), (by first | rfl | (simp; done) | (simp [*]; done)), H', ⟨by have := HK1.out; have := HK2.out; omega⟩, by repeat (first | exact Drawn0.refl _ | apply Drawn0.step)⟩
                · rw [if_neg c6] at H
                  have c6b0 : decide (x20_2 < 8) = false := decide_eq_false c6
                  clear c6
                  have H' := Aside0.mk H
                  clear H
                  go_wp2
                  go_roundg k2
                  case measure => have := HK1.out; have := HK2.out; omega
                  case rel => exact ⟨(x0_2), (wrap64 (x12_1 + 1)), (by first | rfl | (simp; done) | (simp [*]; done)), (by first | rfl | (simp; done) | (simp [*]; done)), H', ⟨by have := HK1.out; have := HK2.out; omega⟩, by repeat (first | exact Drawn0.refl _ | apply Drawn0.step)⟩
          · rw [if_neg c5] at H
            exact absurd H (by simp)
        · rw [if_neg c4] at H
          exact absurd H (by simp)
      · rw [if_neg c3] at H
        have c3b0 : decide (x12_1 < (l1.length : Int)) = false := decide_eq_false c3
        clear c3
        obtain rfl := Option.some.inj H
        go_wp2
        go_ret
        exact ⟨by first | rfl | (simp; done) | (simp [*]; done), by repeat (first | exact Drawn0.refl _ | apply Drawn0.step)⟩

/-! ### crc_Sum: function 8 -/
def crc_Sum.f (k : Nat) (l0 : List Int) : Option (Int) := (crc_More.f k 0 l0).bind fun t102 => (some t102)
theorem crc_Sum.mono : ∀ a0 k, LeO (crc_Sum.f k a0) (crc_Sum.f (k + 1) a0) := by
  intro a0 k
  unfold crc_Sum.f
  repeat' first
      | (with_reducible exact crc_More.mono _ _ _)
      | (with_reducible exact LeO.refl _)
      | (with_reducible exact LeO.none _)
      | (with_reducible refine LeO.ite ?_ ?_)
      | (with_reducible refine LeO.bind ?_ (fun _ => ?_))
      | exact crc_More.mono _ _ _
      | exact LeO.none _
      | refine LeO.ite ?_ ?_
      | refine LeO.bind ?_ (fun _ => ?_)
set_option maxHeartbeats 8000000 in
set_option maxRecDepth 100000 in
theorem crc_Sum.calls (k : Nat) (A0 : Option Addr) (c0 : Nat) (l0 : List Int) (r : Int) (w : World) (hr0 : Kd.C (Kd.int .u8) w A0 l0.length l0) (hc0 : l0.length ≤ c0) (h : crc_Sum.f k l0 = some r) :
    Calls Try.prog 8 #[.slice A0 l0.length c0] w fun e w' => e = .returned (.int .u32 r) ∧ Drawn0 w w' := by
  have HR0 := Aside0.mk hr0
  have HC0 := Aside0.mk hc0
  clear hr0 hc0
  have H : ((crc_More.f k 0 l0).bind fun t102 => (some t102)) = some r := h
  clear h
  replace H := Option.bind_eq_some_iff.mp H
  obtain ⟨t102, A20, H⟩ := H
  replace H : (some t102) = some r := H
  have A2 := Aside0.mk A20
  clear A20
  obtain rfl := Option.some.inj H
  go_enter Try.func8, Try.ntmps8
  go_wp2_with (first | ((with_reducible refine gate_callee (f := 9) rfl ?_); refine goesL_ (some 4) rfl rfl Try.func9 (by kernel_rfl) rfl #[.int .u32 0, .slice A0 l0.length c0] rfl (by (try simp only [List.map_toArray, List.map_cons, List.map_nil]); first | done | rfl | (simp only [List.length_drop, List.length_take]; rfl)) ?_; (with_reducible refine (crc_More.calls k 0 _ _ l0 t102 _ ?side1 ?side2 A2.out).mono ?_); (case side1 => repeat (first | exact HR0.out | (with_reducible refine Kd.C_alloc ?_ _) | (with_reducible refine Kd.C_drewN ?_ _) | (with_reducible refine Kd.C_drew ?_))); (case side2 => exact HC0.out); rintro e w' ⟨rfl, ⟨nd, rfl⟩⟩; refine ⟨_, rfl, ?_⟩))
  go_ret
  exact ⟨by first | rfl | (simp; done) | (simp [*]; done), by repeat (first | exact Drawn0.refl _ | apply Drawn0.step)⟩

/-! ### strongboxlaw4_awake: function 7 -/
def strongboxlaw4_awake.f (k : Nat)  : Option (Bool) := (crc_Sum.f k (([49, 50, 51, 52, 53, 54, 55, 56, 57] : List Int))).bind fun t106 => (if t106 = 3808858755 then ((crc_Sum.f k ([] : List Int)).bind fun t107 => (some (t107 == 0))) else (some false))
theorem strongboxlaw4_awake.mono : ∀ k, LeO (strongboxlaw4_awake.f k ) (strongboxlaw4_awake.f (k + 1) ) := by
  intro  k
  unfold strongboxlaw4_awake.f
  repeat' first
      | (with_reducible exact crc_Sum.mono _ _)
      | (with_reducible exact LeO.refl _)
      | (with_reducible exact LeO.none _)
      | (with_reducible refine LeO.ite ?_ ?_)
      | (with_reducible refine LeO.bind ?_ (fun _ => ?_))
      | exact crc_Sum.mono _ _
      | exact LeO.none _
      | refine LeO.ite ?_ ?_
      | refine LeO.bind ?_ (fun _ => ?_)
theorem C_marked (w : World) (xs : List Int) (e : TypeId) (m : Nat × Nat) (hm : xs.length ≤ 9223372036854775807) :
    Kd.C (Kd.int .u8) (w.alloc (.cells (xs.map (Value.int .u8)).toArray e m)) (some ⟨w.heap.size, 0, none⟩) xs.length xs := by
  refine ⟨rfl, hm, fun _ => ⟨_, rfl, ?_⟩⟩
  intro j p hj
  refine ⟨[.int .u8 p], rfl, rfl, ?_⟩
  intro i u hu
  cases i with
  | succ i => simp at hu
  | zero =>
    have hu' : Value.int .u8 p = u := by simpa using hu
    subst hu'
    have e1 : (Kd.int .u8).sz = 1 := rfl
    rw [e1]
    have e2 : ({ block := w.heap.size, off := 0 } : Addr).add (j * 1 + 0) = ⟨w.heap.size, j, none⟩ := by
      simp only [Addr.add]
      split
      · next h => first | (simp; done) | (simp; omega)
      · simp
    rw [e2, World.cell?_alloc_mark]
    simp [hj]
theorem bool_beq_true {a b : Int} (h : a = b) : (a == b) = true := beq_iff_eq.mpr h
set_option maxHeartbeats 400000 in
theorem strongboxlaw4_awake.calls (k : Nat)  (r : Bool) (w : World) (h : strongboxlaw4_awake.f k  = some r) :
    Calls Try.prog 7 #[] w fun e w' => e = .returned (.bool r) ∧ Below w.heap.size w w' := by
  have HB := Aside0.mk (Below.refl w.heap.size w)
  have H : ((crc_Sum.f k (([49, 50, 51, 52, 53, 54, 55, 56, 57] : List Int))).bind fun t106 => (if t106 = 3808858755 then ((crc_Sum.f k ([] : List Int)).bind fun t107 => (some (t107 == 0))) else (some false))) = some r := h
  clear h
  replace H := Option.bind_eq_some_iff.mp H
  obtain ⟨t106, A10, H⟩ := H
  replace H : (if t106 = 3808858755 then ((crc_Sum.f k ([] : List Int)).bind fun t107 => (some (t107 == 0))) else (some false)) = some r := H
  have A1 := Aside0.mk A10
  clear A10
  have kc := fun (w : World) (C : Array Value) (n c : Nat) => Lib.run_convert_bytes_const (P := Try.prog) w 22 5 C n c Try.underlying22 Try.underlying5
  have HC := Aside0.mk (C_marked w [49, 50, 51, 52, 53, 54, 55, 56, 57] 5 (9, 10) (by decide))
  by_cases c2 : t106 = 3808858755
  · rw [if_pos c2] at H
    have c2b0 : (t106 == 3808858755) = true := beq_iff_eq.mpr c2
    have c2b1 : (t106 != 3808858755) = false := bne_eq_false_iff_eq.mpr c2
    clear c2
    replace H := Option.bind_eq_some_iff.mp H
    obtain ⟨t107, A30, H⟩ := H
    replace H : (some (t107 == 0)) = some r := H
    have A3 := Aside0.mk A30
    clear A30
    obtain rfl := Option.some.inj H
    go_enter Try.func7, Try.ntmps7
    go_wp2_with (first | ((with_reducible refine gate_callee (f := 8) rfl ?_); refine goesL_ (some 3) rfl rfl Try.func8 (by kernel_rfl) rfl #[.slice (some ⟨w.heap.size, 0, none⟩) 9 9] rfl (by (try simp only [List.map_toArray, List.map_cons, List.map_nil]); first | done | rfl) ?_; refine (crc_Sum.calls k (some ⟨w.heap.size, 0, none⟩) 9 [49, 50, 51, 52, 53, 54, 55, 56, 57] t106 _ HC.out (by decide) A1.out).mono ?_; rintro e w' ⟨rfl, ⟨nd, rfl⟩⟩; refine ⟨_, rfl, ?_⟩) | (go_at_call 8; (refine (crc_Sum.calls k _ _ ([] : List Int) t107 _ ?side1 ?side2 A3.out).mono ?_); (case side1 => exact Kd.C_nil _ _); (case side2 => exact Nat.le_refl _); rintro e w' ⟨rfl, ⟨nd, rfl⟩⟩))
    go_ret
    exact ⟨by first | rfl | (simp [errW_none, errW_some] <;> rfl) | (simp [*, errW_none, errW_some] <;> rfl), by repeat (first | (with_reducible first | exact HB.out | apply below_alloc | apply pw_below_drewN | apply below_drew1) | exact HB.out)⟩
  · rw [if_neg c2] at H
    have c2b0 : (t106 == 3808858755) = false := beq_eq_false_iff_ne.mpr c2
    have c2b1 : (t106 != 3808858755) = true := bne_iff_ne.mpr c2
    obtain rfl := Option.some.inj H
    go_enter Try.func7, Try.ntmps7
    go_wp2_with (first | ((with_reducible refine gate_callee (f := 8) rfl ?_); refine goesL_ (some 3) rfl rfl Try.func8 (by kernel_rfl) rfl #[.slice (some ⟨w.heap.size, 0, none⟩) 9 9] rfl (by (try simp only [List.map_toArray, List.map_cons, List.map_nil]); first | done | rfl) ?_; refine (crc_Sum.calls k (some ⟨w.heap.size, 0, none⟩) 9 [49, 50, 51, 52, 53, 54, 55, 56, 57] t106 _ HC.out (by decide) A1.out).mono ?_; rintro e w' ⟨rfl, ⟨nd, rfl⟩⟩; refine ⟨_, rfl, ?_⟩))
    go_ret
    exact ⟨by first | rfl | (simp [errW_none, errW_some] <;> rfl) | (simp [*, errW_none, errW_some] <;> rfl), by repeat (first | (with_reducible first | exact HB.out | apply below_alloc | apply pw_below_drewN | apply below_drew1) | exact HB.out)⟩

/-! ### strongboxlaw4_CrcParts: function 4 -/
mutual
def strongboxlaw4_CrcParts.j0 : Nat → List Int → List Int → Bool → Option (Bool)
  | 0, _, _, _ => none
  | k + 1, x0, x1, x18 => if x18 = true then (some true) else ((crc_Sum.f k ([] : List Int)).bind fun t109 => (strongboxlaw4_CrcParts.l0 k x0 x1 t109 0 0))
def strongboxlaw4_CrcParts.l0 : Nat → List Int → List Int → Int → Int → Int → Option (Bool)
  | 0, _, _, _, _, _ => none
  | k + 1, x0, x1, x5, x6, x7 => if x7 < (x1.length : Int) then (if 0 ≤ x7 then (if 0 ≤ x6 then (if x6 ≤ (wrap64 (x6 + (mn (wrap64 (rd x1 x7)) (wrap64 ((x0.length : Int) - x6))))) then (if (wrap64 (x6 + (mn (wrap64 (rd x1 x7)) (wrap64 ((x0.length : Int) - x6))))) ≤ (x0.length : Int) then ((crc_More.f k x5 ((x0.take ((wrap64 (x6 + (mn (wrap64 (rd x1 x7)) (wrap64 ((x0.length : Int) - x6))))) : Int).toNat).drop (x6 : Int).toNat)).bind fun t112 => (strongboxlaw4_CrcParts.l0 k x0 x1 t112 (wrap64 (x6 + (mn (wrap64 (rd x1 x7)) (wrap64 ((x0.length : Int) - x6))))) (wrap64 (x7 + 1)))) else (none)) else (none)) else (none)) else (none)) else (if 0 ≤ x6 then (if x6 ≤ (x0.length : Int) then ((crc_More.f k x5 (x0.drop (x6 : Int).toNat)).bind fun t114 => ((crc_Sum.f k x0).bind fun t115 => (if t114 = t115 then ((crc_More.f k t114 ([] : List Int)).bind fun t116 => (some (t116 == t114))) else (some false)))) else (none)) else (none))
end
def strongboxlaw4_CrcParts.f (k : Nat) (l0 : List Int) (l1 : List Int) : Option (Bool) := (strongboxlaw4_awake.f k).bind fun t108 => (if t108 = true then (if (l0.length : Int) > 4000 then (strongboxlaw4_CrcParts.j0 k l0 l1 true) else (strongboxlaw4_CrcParts.j0 k l0 l1 (decide ((l1.length : Int) > 100)))) else (some false))
theorem strongboxlaw4_CrcParts.mono_l : ∀ k, (∀ y0 y1 y2, LeO (strongboxlaw4_CrcParts.j0 k y0 y1 y2) (strongboxlaw4_CrcParts.j0 (k + 1) y0 y1 y2)) ∧ (∀ y0 y1 y2 y3 y4, LeO (strongboxlaw4_CrcParts.l0 k y0 y1 y2 y3 y4) (strongboxlaw4_CrcParts.l0 (k + 1) y0 y1 y2 y3 y4))
  | 0 => ⟨fun _ _ _ r h => by simp [strongboxlaw4_CrcParts.j0] at h, fun _ _ _ _ _ r h => by simp [strongboxlaw4_CrcParts.l0] at h⟩
  | k + 1 => by
    obtain ⟨ih0, ih1⟩ := strongboxlaw4_CrcParts.mono_l k
    refine ⟨?_, ?_⟩
    · intro y0 y1 y2
      unfold strongboxlaw4_CrcParts.j0
      repeat' first
      | (with_reducible exact ih0 _ _ _)
      | (with_reducible exact ih1 _ _ _ _ _)
      | (with_reducible exact crc_More.mono _ _ _)
      | (with_reducible exact crc_Sum.mono _ _)
      | (with_reducible exact strongboxlaw4_awake.mono _)
      | (with_reducible exact LeO.refl _)
      | (with_reducible exact LeO.none _)
      | (with_reducible refine LeO.ite ?_ ?_)
      | (with_reducible refine LeO.bind ?_ (fun _ => ?_))
      | exact ih0 _ _ _
      | exact ih1 _ _ _ _ _
      | exact crc_More.mono _ _ _
      | exact crc_Sum.mono _ _
      | exact strongboxlaw4_awake.mono _
      | exact LeO.none _
      | refine LeO.ite ?_ ?_
      | refine LeO.bind ?_ (fun _ => ?_)
    · intro y0 y1 y2 y3 y4
      unfold strongboxlaw4_CrcParts.l0
      repeat' first
      | (with_reducible exact ih0 _ _ _)
      | (with_reducible exact ih1 _ _ _ _ _)
      | (with_reducible exact crc_More.mono _ _ _)
      | (with_reducible exact crc_Sum.mono _ _)
      | (with_reducible exact strongboxlaw4_awake.mono _)
      | (with_reducible exact LeO.refl _)
      | (with_reducible exact LeO.none _)
      | (with_reducible refine LeO.ite ?_ ?_)
      | (with_reducible refine LeO.bind ?_ (fun _ => ?_))
      | exact ih0 _ _ _
      | exact ih1 _ _ _ _ _
      | exact crc_More.mono _ _ _
      | exact crc_Sum.mono _ _
      | exact strongboxlaw4_awake.mono _
      | exact LeO.none _
      | refine LeO.ite ?_ ?_
      | refine LeO.bind ?_ (fun _ => ?_)
theorem strongboxlaw4_CrcParts.mono : ∀ a0 a1 k, LeO (strongboxlaw4_CrcParts.f k a0 a1) (strongboxlaw4_CrcParts.f (k + 1) a0 a1) := by
  intro a0 a1 k
  obtain ⟨ih0, ih1⟩ := strongboxlaw4_CrcParts.mono_l k
  unfold strongboxlaw4_CrcParts.f
  repeat' first
      | (with_reducible exact ih0 _ _ _)
      | (with_reducible exact ih1 _ _ _ _ _)
      | (with_reducible exact crc_More.mono _ _ _)
      | (with_reducible exact crc_Sum.mono _ _)
      | (with_reducible exact strongboxlaw4_awake.mono _)
      | (with_reducible exact LeO.refl _)
      | (with_reducible exact LeO.none _)
      | (with_reducible refine LeO.ite ?_ ?_)
      | (with_reducible refine LeO.bind ?_ (fun _ => ?_))
      | exact ih0 _ _ _
      | exact ih1 _ _ _ _ _
      | exact crc_More.mono _ _ _
      | exact crc_Sum.mono _ _
      | exact strongboxlaw4_awake.mono _
      | exact LeO.none _
      | refine LeO.ite ?_ ?_
      | refine LeO.bind ?_ (fun _ => ?_)
set_option maxHeartbeats 8000000 in
set_option maxRecDepth 100000 in
theorem strongboxlaw4_CrcParts.calls (k : Nat) (A0 : Option Addr) (c0 : Nat) (l0 : List Int) (A1 : Option Addr) (c1 : Nat) (l1 : List Int) (r : Bool) (w : World) (hr0 : Kd.C (Kd.int .u8) w A0 l0.length l0) (hc0 : l0.length ≤ c0) (hr1 : Kd.C (Kd.int .u8) w A1 l1.length l1) (hc1 : l1.length ≤ c1) (h : strongboxlaw4_CrcParts.f k l0 l1 = some r) :
    Calls Try.prog 4 #[.slice A0 l0.length c0, .slice A1 l1.length c1] w fun e w' => e = .returned (.bool r) ∧ Below w.heap.size w w' := by
  have HR0 := Aside0.mk hr0
  have HC0 := Aside0.mk hc0
  clear hr0 hc0
  have HR1 := Aside0.mk hr1
  have HC1 := Aside0.mk hc1
  clear hr1 hc1
  have HB := Aside0.mk (Below.refl w.heap.size w)
  have H : ((strongboxlaw4_awake.f k).bind fun t108 => (if t108 = true then (if (l0.length : Int) > 4000 then (strongboxlaw4_CrcParts.j0 k l0 l1 true) else (strongboxlaw4_CrcParts.j0 k l0 l1 (decide ((l1.length : Int) > 100)))) else (some false))) = some r := h
  clear h
  replace H := Option.bind_eq_some_iff.mp H
  obtain ⟨t108, A30, H⟩ := H
  replace H : (if t108 = true then (if (l0.length : Int) > 4000 then (strongboxlaw4_CrcParts.j0 k l0 l1 true) else (strongboxlaw4_CrcParts.j0 k l0 l1 (decide ((l1.length : Int) > 100)))) else (some false)) = some r := H
  have A3 := Aside0.mk A30
  clear A30
  by_cases c4 : t108 = true
  · subst c4
    have H1 : (if (l0.length : Int) > 4000 then (strongboxlaw4_CrcParts.j0 k l0 l1 true) else (strongboxlaw4_CrcParts.j0 k l0 l1 (decide ((l1.length : Int) > 100)))) = some r := by rw [if_pos rfl] at H; exact H
    clear H
    have H := H1
    clear H1
    have HC5 := Aside0.mk H
    clear H
    go_enter Try.func4, Try.ntmps4
    go_upto_region 3 with (first | ((with_reducible refine gate_callee (f := 7) rfl ?_); refine goesL_ (some 9) rfl rfl Try.func7 (by kernel_rfl) rfl #[] rfl (by (try simp only [List.map_toArray, List.map_cons, List.map_nil]); first | done | rfl | (simp only [List.length_drop, List.length_take]; rfl)) ?_; (with_reducible refine (strongboxlaw4_awake.calls k  true _ A3.out).mono ?_); rintro e w6 ⟨rfl, hb⟩; refine ⟨_, rfl, ?_⟩; have n0_ := Aside0.mk (below_step (by repeat (first | (with_reducible first | exact HB.out | apply below_alloc | apply pw_below_drewN | apply below_drew1) | exact HB.out)) hb); clear HB; have HB := n0_; clear n0_; (try clear hb); (try clear hb2); (try clear hk); (try clear hi)))
    (try simp only [Act.put, List.setIfInBounds_toArray, List.set_cons_zero, List.set_cons_succ])
    go_cut [18] (fun v18 wc => ∃ (kq : Nat) (x18_4 : Bool), v18 = .bool x18_4 ∧ Aside0 (strongboxlaw4_CrcParts.j0 kq l0 l1 x18_4 = some r) ∧ Aside0 (kq ≤ k) ∧ Aside0 (Below w.heap.size w wc))
    case first =>
      have H := HC5.out
      clear HC5
      by_cases c7 : (l0.length : Int) > 4000
      · rw [if_pos c7] at H
        have c7b0 : decide (4000 < (l0.length : Int)) = true := decide_eq_true c7
        have c7b1 : decide (4000 < l0.length) = true := decide_eq_true (by omega)
        clear c7
        (first | rw [c7b0] | (simp only [i64_w, i32_w]; rw [c7b0]) | skip)
        have H' := Aside0.mk H
        clear H
        go_wp2
        go_meet
        case rel => exact ⟨_, (true), (by first | rfl | (simp; done) | (simp [*]; done)), H', ⟨by first | omega | exact Nat.le_refl _⟩, ⟨by repeat (first | (with_reducible first | exact HB.out | apply below_alloc | apply pw_below_drewN | apply below_drew1) | exact HB.out)⟩⟩
      · rw [if_neg c7] at H
        have c7b0 : decide (4000 < (l0.length : Int)) = false := decide_eq_false c7
        have c7b1 : decide (4000 < l0.length) = false := decide_eq_false (by omega)
        clear c7
        (first | rw [c7b0] | (simp only [i64_w, i32_w]; rw [c7b0]) | skip)
        have H' := Aside0.mk H
        clear H
        go_wp2
        go_meet
        case rel => exact ⟨_, (decide ((l1.length : Int) > 100)), (by first | rfl | (simp; done) | (simp [*]; done)), H', ⟨by first | omega | exact Nat.le_refl _⟩, ⟨by repeat (first | (with_reducible first | exact HB.out | apply below_alloc | apply pw_below_drewN | apply below_drew1) | exact HB.out)⟩⟩
    case rest =>
      clear HC5
      try clear c1
      try clear p2
      try clear c4
      try clear c7
      try clear c7b0
      try clear c7b1
      obtain ⟨kq, x18_4, rfl, HA, HJ4, HB⟩ := hcut
      cases kq with
      | zero => exact absurd HA.out (by simp [strongboxlaw4_CrcParts.j0])
      | succ kj4 =>
        have H := HA.out
        clear HA
        simp only [strongboxlaw4_CrcParts.j0] at H
        by_cases c8 : x18_4 = true
        · subst c8
          have H1 : (some true) = some r := by rw [if_pos rfl] at H; exact H
          clear H
          have H := H1
          clear H1
          obtain rfl := Option.some.inj H
          go_wp2
          go_ret
          exact ⟨by first | rfl | (simp [errW_none, errW_some] <;> rfl) | (simp [*, errW_none, errW_some] <;> rfl), by repeat (first | (with_reducible first | exact HB.out | apply below_alloc | apply pw_below_drewN | apply below_drew1) | exact HB.out)⟩
        · replace c8 := Bool.eq_false_iff.mpr c8
          subst c8
          have H1 : ((crc_Sum.f kj4 ([] : List Int)).bind fun t109 => (strongboxlaw4_CrcParts.l0 kj4 l0 l1 t109 0 0)) = some r := by rw [if_neg (show ¬ (false = true) by decide)] at H; exact H
          clear H
          have H := H1
          clear H1
          replace H := Option.bind_eq_some_iff.mp H
          obtain ⟨t109, A90, H⟩ := H
          replace H : (strongboxlaw4_CrcParts.l0 kj4 l0 l1 t109 0 0) = some r := H
          have A9 := Aside0.mk A90
          clear A90
          have H' := Aside0.mk H
          clear H
          go_wp2_with (first | ((with_reducible refine gate_callee (f := 8) rfl ?_); refine goesL_ (some 19) rfl rfl Try.func8 (by kernel_rfl) rfl #[.slice none 0 0] rfl (by (try simp only [List.map_toArray, List.map_cons, List.map_nil]); first | done | rfl | (simp only [List.length_drop, List.length_take]; rfl)) ?_; (refine (crc_Sum.calls kj4 _ _ ([] : List Int) t109 _ ?side1 ?side2 A9.out).mono ?_); (case side1 => exact Kd.C_nil _ _); (case side2 => exact Nat.le_refl _); rintro e w' ⟨rfl, ⟨nd, rfl⟩⟩; refine ⟨_, rfl, ?_⟩))
          go_loopg [5, 6, 7] kj4 (fun kq v5 v6 v7 w' => ∃ (x5_2 : Int) (x6_2 : Int) (x7_2 : Int), v5 = .int .u32 x5_2 ∧ v6 = .int .i64 x6_2 ∧ v7 = .int .i64 x7_2 ∧ Aside0 (strongboxlaw4_CrcParts.l0 kq l0 l1 x5_2 x6_2 x7_2 = some r) ∧ Aside0 (kq ≤ kj4) ∧ Aside0 (Below w.heap.size w w'))
          case atStart => exact ⟨(t109), (0), (0), (by first | rfl | (simp; done) | (simp [*]; done)), (by first | rfl | (simp; done) | (simp [*]; done)), (by first | rfl | (simp; done) | (simp [*]; done)), H', ⟨Nat.le_refl _⟩, ⟨by repeat (first | (with_reducible first | exact HB.out | apply below_alloc | apply pw_below_drewN | apply below_drew1) | exact HB.out)⟩⟩
          case round =>
            clear H'
            try clear c1
            try clear p2
            try clear c4
            try clear c7
            try clear c7b0
            try clear c7b1
            try clear c8
            try clear p2
            obtain ⟨x5_2, x6_2, x7_2, rfl, rfl, rfl, HA, HK2, HB⟩ := hrel
            cases gk with
            | zero => exact absurd HA.out (by simp [strongboxlaw4_CrcParts.l0])
            | succ k2 =>
              have H := HA.out
              clear HA
              simp only [strongboxlaw4_CrcParts.l0] at H
              by_cases c10 : x7_2 < (l1.length : Int)
              · rw [if_pos c10] at H
                have c10b0 : decide (x7_2 < (l1.length : Int)) = true := decide_eq_true c10
                clear c10
                by_cases c11 : 0 ≤ x7_2
                · rw [if_pos c11] at H
                  have c11b0 : decide (0 ≤ x7_2) = true := decide_eq_true c11
                  clear c11
                  obtain ⟨ji12, hji12⟩ : ∃ j_ : Int, (mn (wrap64 (rd l1 x7_2)) (wrap64 ((l0.length : Int) - x6_2))) = j_ := ⟨_, rfl⟩
                  replace H : (if 0 ≤ x6_2 then (if x6_2 ≤ (wrap64 (x6_2 + (ji12))) then (if (wrap64 (x6_2 + (ji12))) ≤ (l0.length : Int) then ((crc_More.f k2 x5_2 ((l0.take ((wrap64 (x6_2 + (ji12))) : Int).toNat).drop (x6_2 : Int).toNat)).bind fun t112 => (strongboxlaw4_CrcParts.l0 k2 l0 l1 t112 (wrap64 (x6_2 + (ji12))) (wrap64 (x7_2 + 1)))) else (none)) else (none)) else (none)) = some r := by first | (rw [hji12] at H; exact H) | (simp only [hji12] at H ⊢; exact H)
                  have hji12_ : (if (wrap64 ((l0.length : Int) - x6_2)) < (wrap64 (rd l1 x7_2)) then (wrap64 ((l0.length : Int) - x6_2)) else (wrap64 (rd l1 x7_2))) = ji12 := hji12
                  by_cases c13 : 0 ≤ x6_2
                  · rw [if_pos c13] at H
                    have c13b0 := eq_true c13
                    have c13b1 : decide (0 ≤ x6_2) = true := decide_eq_true c13
                    clear c13
                    by_cases c14 : x6_2 ≤ (wrap64 (x6_2 + (ji12)))
                    · rw [if_pos c14] at H
                      have c14b0 := eq_true c14
                      have c14b1 : decide (x6_2 ≤ (wrap64 (x6_2 + (ji12)))) = true := decide_eq_true c14
                      by_cases c15 : (wrap64 (x6_2 + (ji12))) ≤ (l0.length : Int)
                      · rw [if_pos c15] at H
                        have c15b0 := eq_true c15
                        have c15b1 : decide ((wrap64 (x6_2 + (ji12))) ≤ (l0.length : Int)) = true := decide_eq_true c15
                        replace H := Option.bind_eq_some_iff.mp H
                        obtain ⟨t112, A160, H⟩ := H
                        replace H : (strongboxlaw4_CrcParts.l0 k2 l0 l1 t112 (wrap64 (x6_2 + (ji12))) (wrap64 (x7_2 + 1))) = some r := H
                        have A16 := Aside0.mk A160
                        clear A160
                        have H' := Aside0.mk H
                        clear H
                        have p110 : 0 ≤ (x7_2 : Int) := of_decide_eq_true (by first | (with_reducible assumption) | assumption)
                        have q110 : x7_2 < (l1.length : Int) := of_decide_eq_true (by first | (with_reducible assumption) | assumption)
                        obtain ⟨ad110, e110, hx110_0⟩ := Kd.at_int HR1.out x7_2 p110 q110
                        cases e110
                        replace hx110_0 := (HB.out.cell (World.block_lt_of_cell? w _ hx110_0)).trans hx110_0
                        replace p110 := eq_true p110
                        replace q110 := eq_true q110
                        obtain ⟨i017, hi017, _, hsz17, _⟩ := info_parts info5
                        obtain ⟨A17, hcut17, hA17, hC17⟩ := print_mid_of (P := Try.prog) (Value.int .u8) 0 22 5 .i64 .i64 Try.underlying22 hi017 hsz17 A0 c0 l0 x6_2 (wrap64 (x6_2 + (ji12))) (of_decide_eq_true (by first | (with_reducible assumption) | assumption)) (by first | omega | exact of_decide_eq_true (by first | (with_reducible assumption) | assumption)) (of_decide_eq_true (by first | (with_reducible assumption) | assumption)) HC0.out
                        have HR111 := Aside0.mk (Kd.C_of_reads (h1 := fun _ => rfl) (hA17 _ (Kd.reads_of_C HR0.out)))
                        have HC111 := Aside0.mk hC17
                        clear hA17 hC17 hi017 hsz17
                        go_wp2_with (first | ((with_reducible refine gate_callee (f := 9) rfl ?_); refine goesL_ (some 43) rfl rfl Try.func9 (by kernel_rfl) rfl #[.int .u32 x5_2, .slice A17 ((l0.take ((wrap64 (x6_2 + (ji12))) : Int).toNat).drop (x6_2 : Int).toNat).length (c0 - x6_2.toNat)] rfl (by (try simp only [List.map_toArray, List.map_cons, List.map_nil]); first | done | (rw [show ((l0.take ((wrap64 (x6_2 + (ji12))) : Int).toNat).drop (x6_2 : Int).toNat).length = ((wrap64 (x6_2 + (ji12))).toNat - x6_2.toNat) from (by rw [List.length_drop, List.length_take]; have h_ : ((wrap64 (x6_2 + (ji12))) : Int) ≤ (l0.length : Int) := of_decide_eq_true (by first | (with_reducible assumption) | assumption); omega)] <;> rfl) | (simp only [hji12]; rfl) | rfl | (simp only [List.length_drop, List.length_take]; rfl)) ?_; (with_reducible refine (crc_More.calls k2 x5_2 _ _ ((l0.take ((wrap64 (x6_2 + (ji12))) : Int).toNat).drop (x6_2 : Int).toNat) t112 _ ?side1 ?side2 A16.out).mono ?_); (case side1 => repeat (first | exact (Kd.C_below HR111.out HB.out) | (with_reducible refine Kd.C_alloc ?_ _) | (with_reducible refine Kd.C_drewN ?_ _) | (with_reducible refine Kd.C_drew ?_))); (case side2 => exact HC111.out); rintro e w' ⟨rfl, ⟨nd, rfl⟩⟩; refine ⟨_, rfl, ?_⟩))
                        go_roundg k2
                        case measure => have := HJ4.out; have := HK2.out; omega
                        case rel => exact ⟨(t112), (wrap64 (x6_2 + (ji12))), (wrap64 (x7_2 + 1)), (by first | rfl | (simp; done) | (simp [*]; done)), (by first | rfl | (simp; done) | (simp only [← hji12] <;> (first | rfl | simp)) | (simp [*]; done)), (by first | rfl | (simp; done) | (simp [*]; done)), H', ⟨by have := HJ4.out; have := HK2.out; omega⟩, ⟨by repeat (first | (with_reducible first | exact HB.out | apply below_alloc | apply pw_below_drewN | apply below_drew1) | exact HB.out)⟩⟩
                      · rw [if_neg c15] at H
                        exact absurd H (by simp)
                    · rw [if_neg c14] at H
                      exact absurd H (by simp)
                  · rw [if_neg c13] at H
                    exact absurd H (by simp)
                · rw [if_neg c11] at H
                  exact absurd H (by simp)
              · rw [if_neg c10] at H
                have c10b0 : decide (x7_2 < (l1.length : Int)) = false := decide_eq_false c10
                clear c10
                by_cases c18 : 0 ≤ x6_2
                · rw [if_pos c18] at H
                  have c18b0 := eq_true c18
                  have c18b1 : decide (0 ≤ x6_2) = true := decide_eq_true c18
                  clear c18
                  by_cases c19 : x6_2 ≤ (l0.length : Int)
                  · rw [if_pos c19] at H
                    have c19b0 := eq_true c19
                    have c19b1 : decide (x6_2 ≤ (l0.length : Int)) = true := decide_eq_true c19
                    clear c19
                    replace H := Option.bind_eq_some_iff.mp H
                    obtain ⟨t114, A200, H⟩ := H
                    replace H : ((crc_Sum.f k2 l0).bind fun t115 => (if t114 = t115 then ((crc_More.f k2 t114 ([] : List Int)).bind fun t116 => (some (t116 == t114))) else (some false))) = some r := H
                    have A20 := Aside0.mk A200
                    clear A200
                    replace H := Option.bind_eq_some_iff.mp H
                    obtain ⟨t115, A210, H⟩ := H
                    replace H : (if t114 = t115 then ((crc_More.f k2 t114 ([] : List Int)).bind fun t116 => (some (t116 == t114))) else (some false)) = some r := H
                    have A21 := Aside0.mk A210
                    clear A210
                    by_cases c22 : t114 = t115
                    · rw [if_pos c22] at H
                      have c22b0 : (t114 == t115) = true := beq_iff_eq.mpr c22
                      have c22b1 : (t114 != t115) = false := bne_eq_false_iff_eq.mpr c22
                      clear c22
                      replace H := Option.bind_eq_some_iff.mp H
                      obtain ⟨t116, A230, H⟩ := H
                      replace H : (some (t116 == t114)) = some r := H
                      have A23 := Aside0.mk A230
                      clear A230
                      obtain rfl := Option.some.inj H
                      obtain ⟨i024, hi024, _, hsz24, _⟩ := info_parts info5
                      obtain ⟨A24, hcut24, hA24, hC24⟩ := print_drop_of (P := Try.prog) (Value.int .u8) 0 22 5 .i64 Try.underlying22 hi024 hsz24 A0 c0 l0 x6_2 (of_decide_eq_true (by first | (with_reducible assumption) | assumption)) (of_decide_eq_true (by first | (with_reducible assumption) | assumption)) HC0.out
                      have HR113 := Aside0.mk (Kd.C_of_reads (h1 := fun _ => rfl) (hA24 _ (Kd.reads_of_C HR0.out)))
                      have HC113 := Aside0.mk hC24
                      clear hA24 hC24 hi024 hsz24
                      go_wp2_with (first | ((with_reducible refine gate_callee (f := 9) rfl ?_); refine goesL_ (some 51) rfl rfl Try.func9 (by kernel_rfl) rfl #[.int .u32 x5_2, .slice A24 (l0.drop (x6_2 : Int).toNat).length (c0 - x6_2.toNat)] rfl (by (try simp only [List.map_toArray, List.map_cons, List.map_nil]); first | done | (rw [show (l0.drop (x6_2 : Int).toNat).length = (l0.length - x6_2.toNat) from List.length_drop] <;> rfl) | rfl | (simp only [List.length_drop, List.length_take]; rfl)) ?_; (with_reducible refine (crc_More.calls k2 x5_2 _ _ (l0.drop (x6_2 : Int).toNat) t114 _ ?side1 ?side2 A20.out).mono ?_); (case side1 => repeat (first | exact (Kd.C_below HR113.out HB.out) | (with_reducible refine Kd.C_alloc ?_ _) | (with_reducible refine Kd.C_drewN ?_ _) | (with_reducible refine Kd.C_drew ?_))); (case side2 => exact HC113.out); rintro e w' ⟨rfl, ⟨nd, rfl⟩⟩; refine ⟨_, rfl, ?_⟩) | ((with_reducible refine gate_callee (f := 8) rfl ?_); refine goesL_ (some 54) rfl rfl Try.func8 (by kernel_rfl) rfl #[.slice A0 l0.length c0] rfl (by (try simp only [List.map_toArray, List.map_cons, List.map_nil]); first | done | rfl | (simp only [List.length_drop, List.length_take]; rfl)) ?_; (with_reducible refine (crc_Sum.calls k2 _ _ l0 t115 _ ?side1 ?side2 A21.out).mono ?_); (case side1 => repeat (first | exact (Kd.C_below HR0.out (by repeat (first | (with_reducible first | exact HB.out | apply below_alloc | apply pw_below_drewN | apply below_drew1) | exact HB.out))) | (with_reducible refine Kd.C_alloc ?_ _) | (with_reducible refine Kd.C_drewN ?_ _) | (with_reducible refine Kd.C_drew ?_))); (case side2 => exact HC0.out); rintro e w' ⟨rfl, ⟨nd, rfl⟩⟩; refine ⟨_, rfl, ?_⟩) | (go_at_call 9; (refine (crc_More.calls k2 t114 _ _ ([] : List Int) t116 _ ?side1 ?side2 A23.out).mono ?_); (case side1 => exact Kd.C_nil _ _); (case side2 => exact Nat.le_refl _); rintro e w' ⟨rfl, ⟨nd, rfl⟩⟩))
                      go_ret
                      exact ⟨by first | rfl | (simp [errW_none, errW_some] <;> rfl) | (simp [*, errW_none, errW_some] <;> rfl), by repeat (first | (with_reducible first | exact HB.out | apply below_alloc | apply pw_below_drewN | apply below_drew1) | exact HB.out)⟩
                    · rw [if_neg c22] at H
                      have c22b0 : (t114 == t115) = false := beq_eq_false_iff_ne.mpr c22
                      have c22b1 : (t114 != t115) = true := bne_iff_ne.mpr c22
                      obtain rfl := Option.some.inj H
                      obtain ⟨i025, hi025, _, hsz25, _⟩ := info_parts info5
                      obtain ⟨A25, hcut25, hA25, hC25⟩ := print_drop_of (P := Try.prog) (Value.int .u8) 0 22 5 .i64 Try.underlying22 hi025 hsz25 A0 c0 l0 x6_2 (of_decide_eq_true (by first | (with_reducible assumption) | assumption)) (of_decide_eq_true (by first | (with_reducible assumption) | assumption)) HC0.out
                      have HR113 := Aside0.mk (Kd.C_of_reads (h1 := fun _ => rfl) (hA25 _ (Kd.reads_of_C HR0.out)))
                      have HC113 := Aside0.mk hC25
                      clear hA25 hC25 hi025 hsz25
                      go_wp2_with (first | ((with_reducible refine gate_callee (f := 9) rfl ?_); refine goesL_ (some 51) rfl rfl Try.func9 (by kernel_rfl) rfl #[.int .u32 x5_2, .slice A25 (l0.drop (x6_2 : Int).toNat).length (c0 - x6_2.toNat)] rfl (by (try simp only [List.map_toArray, List.map_cons, List.map_nil]); first | done | (rw [show (l0.drop (x6_2 : Int).toNat).length = (l0.length - x6_2.toNat) from List.length_drop] <;> rfl) | rfl | (simp only [List.length_drop, List.length_take]; rfl)) ?_; (with_reducible refine (crc_More.calls k2 x5_2 _ _ (l0.drop (x6_2 : Int).toNat) t114 _ ?side1 ?side2 A20.out).mono ?_); (case side1 => repeat (first | exact (Kd.C_below HR113.out HB.out) | (with_reducible refine Kd.C_alloc ?_ _) | (with_reducible refine Kd.C_drewN ?_ _) | (with_reducible refine Kd.C_drew ?_))); (case side2 => exact HC113.out); rintro e w' ⟨rfl, ⟨nd, rfl⟩⟩; refine ⟨_, rfl, ?_⟩) | ((with_reducible refine gate_callee (f := 8) rfl ?_); refine goesL_ (some 54) rfl rfl Try.func8 (by kernel_rfl) rfl #[.slice A0 l0.length c0] rfl (by (try simp only [List.map_toArray, List.map_cons, List.map_nil]); first | done | rfl | (simp only [List.length_drop, List.length_take]; rfl)) ?_; (with_reducible refine (crc_Sum.calls k2 _ _ l0 t115 _ ?side1 ?side2 A21.out).mono ?_); (case side1 => repeat (first | exact (Kd.C_below HR0.out (by repeat (first | (with_reducible first | exact HB.out | apply below_alloc | apply pw_below_drewN | apply below_drew1) | exact HB.out))) | (with_reducible refine Kd.C_alloc ?_ _) | (with_reducible refine Kd.C_drewN ?_ _) | (with_reducible refine Kd.C_drew ?_))); (case side2 => exact HC0.out); rintro e w' ⟨rfl, ⟨nd, rfl⟩⟩; refine ⟨_, rfl, ?_⟩))
                      go_ret
                      exact ⟨by first | rfl | (simp [errW_none, errW_some] <;> rfl) | (simp [*, errW_none, errW_some] <;> rfl), by repeat (first | (with_reducible first | exact HB.out | apply below_alloc | apply pw_below_drewN | apply below_drew1) | exact HB.out)⟩
                  · rw [if_neg c19] at H
                    exact absurd H (by simp)
                · rw [if_neg c18] at H
                  exact absurd H (by simp)
  · replace c4 := Bool.eq_false_iff.mpr c4
    subst c4
    have H1 : (some false) = some r := by rw [if_neg (show ¬ (false = true) by decide)] at H; exact H
    clear H
    have H := H1
    clear H1
    obtain rfl := Option.some.inj H
    go_enter Try.func4, Try.ntmps4
    go_wp2_with (first | ((with_reducible refine gate_callee (f := 7) rfl ?_); refine goesL_ (some 9) rfl rfl Try.func7 (by kernel_rfl) rfl #[] rfl (by (try simp only [List.map_toArray, List.map_cons, List.map_nil]); first | done | rfl | (simp only [List.length_drop, List.length_take]; rfl)) ?_; (with_reducible refine (strongboxlaw4_awake.calls k  false _ A3.out).mono ?_); rintro e w26 ⟨rfl, hb⟩; refine ⟨_, rfl, ?_⟩; have n0_ := Aside0.mk (below_step (by repeat (first | (with_reducible first | exact HB.out | apply below_alloc | apply pw_below_drewN | apply below_drew1) | exact HB.out)) hb); clear HB; have HB := n0_; clear n0_; (try clear hb); (try clear hb2); (try clear hk); (try clear hi)))
    go_ret
    exact ⟨by first | rfl | (simp [errW_none, errW_some] <;> rfl) | (simp [*, errW_none, errW_some] <;> rfl), by repeat (first | (with_reducible first | exact HB.out | apply below_alloc | apply pw_below_drewN | apply below_drew1) | exact HB.out)⟩

/-- THE ONE PURE STATEMENT of strongboxlaw4_CrcParts: yours. -/
def strongboxlaw4_CrcParts.Pure : Prop := ∀ (l0 : List Int) (l1 : List Int), l0.length ≤ maxLen → l0.length * 1 ≤ 140737488351232 → (∀ x ∈ l0, (Lit.int .u8 x).wf = true) → l1.length ≤ maxLen → l1.length * 1 ≤ 140737488351232 → (∀ x ∈ l1, (Lit.int .u8 x).wf = true) → ∃ k, strongboxlaw4_CrcParts.f k l0 l1 = some true
theorem strongboxlaw4_CrcParts.walk (P : strongboxlaw4_CrcParts.Pure) (a0 : Option Addr) (len0 cap0 : Nat) (z0 : List Int) (a1 : Option Addr) (len1 cap1 : Nat) (z1 : List Int) (w : World) (w0 : (a0 = none ∧ len0 = 0 ∧ cap0 = 0 ∧ z0 = []) ∨ ∃ x, a0 = some x ∧ len0 ≤ cap0 ∧ cap0 ≤ maxLen ∧ z0.length = cap0 ∧ (∀ i, i < z0.length → w.cell? (x.add i) = some (.int .u8 (z0.getD i 0))) ∧ ∀ n ∈ z0, (Lit.int .u8 n).wf = true) (y0 : len0 * 1 ≤ 140737488351232) (w1 : (a1 = none ∧ len1 = 0 ∧ cap1 = 0 ∧ z1 = []) ∨ ∃ x, a1 = some x ∧ len1 ≤ cap1 ∧ cap1 ≤ maxLen ∧ z1.length = cap1 ∧ (∀ i, i < z1.length → w.cell? (x.add i) = some (.int .u8 (z1.getD i 0))) ∧ ∀ n ∈ z1, (Lit.int .u8 n).wf = true) (y1 : len1 * 1 ≤ 140737488351232) :
    Calls Try.prog 4 #[.slice a0 len0 cap0, .slice a1 len1 cap1] w fun e w' => e = .returned (.bool true) ∧ Below w.heap.size w w' := by
  obtain ⟨l0, rfl, hr0, hm0, hw0, hc0⟩ := ReadsInt.ofRowC w0
  obtain ⟨l1, rfl, hr1, hm1, hw1, hc1⟩ := ReadsInt.ofRowC w1
  obtain ⟨k, h⟩ := P l0 l1 hm0 y0 hw0 hm1 y1 hw1
  refine (strongboxlaw4_CrcParts.calls k _ _ l0 _ _ l1 true w (Kd.C_of_reads (d := (0 : Int)) (h1 := fun _ => rfl) hr0) hc0 (Kd.C_of_reads (d := (0 : Int)) (h1 := fun _ => rfl) hr1) hc1 h).mono ?_
  rintro e w' ⟨rfl, hd⟩
  exact ⟨rfl, hd⟩

end Go.Proofs.Ytjibdkbfjjeheaa.PCrcParts
