/- The writer's small steps: may data come. Typed by hand. -/
import Derived.Test.YtnlpipjdpmaggaaPShardWritesx2
import Derived.Test.YtnlpipjdpmaggaaMore
set_option linter.unusedVariables false
set_option linter.unusedSimpArgs false
namespace Go.Proofs.Ytnlpipjdpmaggaa.PShardWrites
open Go.RowKit Go.Proofs.YtnlpipjdpmaggaaW.PrintWords Go.Proofs.YtnlpipjdpmaggaaW.PrintLast Go.Proofs.YtnlpipjdpmaggaaW.PrintMore
attribute [local go_sem] max2_int min2_int max_two min_two max_three min_three max_four min_four   -- for this text's walks alone
def shard_Writer_open.f (k : Nat) (a0_0 : Int) (a0_1 : Int) (a0_2 : Int) (a0_3 : Int) (a0_4 : Int) (a0_5 : Int) (l0_6 : List Int) (l0_7 : List Int) (a0_8 : Int) (a0_9 : Bool) : Option (Bool) := if a0_9 = true then (some false) else ((shard_May.f k a0_0 a0_1 a0_2 a0_3 a0_4 a0_5).bind fun t327 => (some t327))
theorem shard_Writer_open.mono : ∀ a0 a1 a2 a3 a4 a5 a6 a7 a8 a9 k, LeO (shard_Writer_open.f k a0 a1 a2 a3 a4 a5 a6 a7 a8 a9) (shard_Writer_open.f (k + 1) a0 a1 a2 a3 a4 a5 a6 a7 a8 a9) := by
  intro a0 a1 a2 a3 a4 a5 a6 a7 a8 a9 k
  unfold shard_Writer_open.f
  repeat' first
      | (with_reducible exact shard_May.mono _ _ _ _ _ _ _)
      | (with_reducible exact LeO.refl _)
      | (with_reducible exact LeO.none _)
      | (with_reducible refine LeO.ite ?_ ?_)
      | (with_reducible refine LeO.bind ?_ (fun _ => ?_))
      | exact shard_May.mono _ _ _ _ _ _ _
      | exact LeO.none _
      | refine LeO.ite ?_ ?_
      | refine LeO.bind ?_ (fun _ => ?_)
set_option maxHeartbeats 1000000 in
set_option maxRecDepth 100000 in
theorem shard_Writer_open.callsP (k : Nat) (g : Nat) (a0 a1 a2 a3 a4 a5 : Int) (vb vp : Value) (l6 l7 : List Int) (sz : Int) (en : Bool) (r : Bool) (w : World)
    (bk : w.heap[g]? = some (.cells #[.int .i64 a0, .int .i64 a1, .int .i64 a2, .int .i64 a3, .int .i64 a4, .int .i64 a5, vb, vp, .int .i64 sz, .bool en] 105 (0, 0)))
    (h : shard_Writer_open.f k a0 a1 a2 a3 a4 a5 l6 l7 sz en = some r) :
    Calls Try.prog 63 #[.pointer (some ⟨g, 0, none⟩)] w fun e w' => e = .returned (.bool r) ∧ Below w.heap.size w w' := by
  have hu105 := Try.underlying105
  have hu32 := Try.underlying32
  have BK := Aside0.mk bk
  have hc0 : w.cell? ⟨g, 0, none⟩ = some (.int .i64 a0) := (blk_cell bk 0).trans rfl
  have hc1 : w.cell? ⟨g, 1, none⟩ = some (.int .i64 a1) := (blk_cell bk 1).trans rfl
  have hc2 : w.cell? ⟨g, 2, none⟩ = some (.int .i64 a2) := (blk_cell bk 2).trans rfl
  have hc3 : w.cell? ⟨g, 3, none⟩ = some (.int .i64 a3) := (blk_cell bk 3).trans rfl
  have hc4 : w.cell? ⟨g, 4, none⟩ = some (.int .i64 a4) := (blk_cell bk 4).trans rfl
  have hc5 : w.cell? ⟨g, 5, none⟩ = some (.int .i64 a5) := (blk_cell bk 5).trans rfl
  have hc9 : w.cell? ⟨g, 9, none⟩ = some (.bool en) := (blk_cell bk 9).trans rfl
  clear bk
  unfold shard_Writer_open.f at h
  cases en with
  | true =>
    rw [if_pos rfl] at h
    obtain rfl := Option.some.inj h
    go_enter Try.func63, Try.ntmps63
    go_wp2
    go_ret
    exact ⟨rfl, Below.refl _ _⟩
  | false =>
    rw [if_neg (by decide)] at h
    obtain ⟨m, hm, h⟩ := Option.bind_eq_some_iff.mp h
    obtain rfl := Option.some.inj h
    have A := Aside0.mk hm
    clear hm
    go_enter Try.func63, Try.ntmps63
    go_wp2_with (first | ((with_reducible refine gate_callee (f := 33) rfl ?_); (try (refine gate_guard (by rfl) ?_; dsimp only)); refine goesL_ (some 17) rfl rfl Try.func33 (by kernel_rfl) rfl #[.agg #[.int .i64 a0, .int .i64 a1, .int .i64 a2, .int .i64 a3, .int .i64 a4, .int .i64 a5]] rfl (by (try simp only [List.map_toArray, List.map_cons, List.map_nil]); first | done | rfl) ?_; (with_reducible refine (shard_May.calls k a0 a1 a2 a3 a4 a5 m _ A.out).mono ?_); rintro e w1 ⟨rfl, hb⟩; refine ⟨_, rfl, ?_⟩))
    go_ret
    exact ⟨by simp, hb⟩
end Go.Proofs.Ytnlpipjdpmaggaa.PShardWrites
