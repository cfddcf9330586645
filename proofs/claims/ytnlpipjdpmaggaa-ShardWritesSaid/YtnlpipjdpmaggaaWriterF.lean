/- The writer's second End: of a writer that is ended, not open, or short: nothing is written. Typed by hand. -/
import Derived.Test.YtnlpipjdpmaggaaPShardWritesx0
import Derived.Test.YtnlpipjdpmaggaaWriterA
set_option linter.unusedVariables false
set_option linter.unusedSimpArgs false
namespace Go.Proofs.Ytnlpipjdpmaggaa.PShardWrites
open Go.RowKit Go.Proofs.YtnlpipjdpmaggaaW.PrintWords Go.Proofs.YtnlpipjdpmaggaaW.PrintLast Go.Proofs.YtnlpipjdpmaggaaW.PrintMore
attribute [local go_sem] max2_int min2_int max_two min_two max_three min_three max_four min_four   -- for this text's walks alone
set_option maxHeartbeats 1000000 in
set_option maxRecDepth 100000 in
theorem shard_Writer_End.quiet (k : Nat) (gb : Nat) (a0 a1 a2 a3 a4 a5 : Int) (vb vp : Value) (l6 l7 : List Int) (sz : Int) (en : Bool) (m : Bool) (w : World)
    (bk : w.heap[gb]? = some (.cells #[.int .i64 a0, .int .i64 a1, .int .i64 a2, .int .i64 a3, .int .i64 a4, .int .i64 a5, vb, vp, .int .i64 sz, .bool en] 105 (0, 0)))
    (h : shard_Writer_open.f k a0 a1 a2 a3 a4 a5 l6 l7 sz en = some m) (hq : m = true → sz < a4) :
    Calls Try.prog 37 #[.pointer (some ⟨gb, 0, none⟩)] w fun e w' => e = .returned (.tuple #[.slice none 0 0, .int .i64 (if m = true then 2 else 1)]) ∧ Below w.heap.size w w' := by
  have hu105 := Try.underlying105
  have hu32 := Try.underlying32
  have BK := Aside0.mk bk
  have A := Aside0.mk h
  clear bk h
  have cells : ∀ w1 : World, w1.heap[gb]? = some (.cells #[.int .i64 a0, .int .i64 a1, .int .i64 a2, .int .i64 a3, .int .i64 a4, .int .i64 a5, vb, vp, .int .i64 sz, .bool en] 105 (0, 0)) → w1.cell? ⟨gb, 4, none⟩ = some (.int .i64 a4) ∧ w1.cell? ⟨gb, 8, none⟩ = some (.int .i64 sz) := fun w1 h1 => ⟨(blk_cell h1 4).trans rfl, (blk_cell h1 8).trans rfl⟩
  have Cs := Aside0.mk cells
  clear cells
  cases m with
  | true =>
    have c2 := hq rfl
    have c2b0 : decide (sz < a4) = true := decide_eq_true c2
    clear c2 hq
    go_enter Try.func37, Try.ntmps37
    go_wp2_with (first | (go_at_call 63; (refine (shard_Writer_open.callsP k gb a0 a1 a2 a3 a4 a5 _ _ l6 l7 sz en true _ (by (with_reducible repeat (first | refine blk_drewN ?_ _ | refine blk_drew ?_ | refine blk_alloc ?_ _)); exact BK.out) A.out).mono ?_); rintro e w16 ⟨rfl, hb⟩; have BK2 := Aside0.mk (blk_below (by (with_reducible repeat (first | refine blk_drewN ?_ _ | refine blk_drew ?_ | refine blk_alloc ?_ _)); exact BK.out) hb); have hb2 := Aside0.mk hb; clear hb; have hz := Cs.out _ BK2.out; obtain ⟨hz4, hz8⟩ := hz))
    repeat (go_quiet (first | (go_at_call 63; fail)); go_wp2)
    refine bodyPost_ret (results_tmp2 (fn := Try.f37) rfl _ _ _) rfl ?_
    exact ⟨rfl, by repeat (first | (with_reducible first | exact hb2.out | apply below_alloc | apply pw_below_drewN | apply below_drew1) | exact hb2.out)⟩
  | false =>
    clear hq
    go_enter Try.func37, Try.ntmps37
    go_wp2_with (first | (go_at_call 63; (refine (shard_Writer_open.callsP k gb a0 a1 a2 a3 a4 a5 _ _ l6 l7 sz en false _ (by (with_reducible repeat (first | refine blk_drewN ?_ _ | refine blk_drew ?_ | refine blk_alloc ?_ _)); exact BK.out) A.out).mono ?_); rintro e w16 ⟨rfl, hb⟩; have hb2 := Aside0.mk hb; clear hb))
    refine bodyPost_ret (results_tmp2 (fn := Try.f37) rfl _ _ _) rfl ?_
    exact ⟨rfl, by repeat (first | (with_reducible first | exact hb2.out | apply below_alloc | apply pw_below_drewN | apply below_drew1) | exact hb2.out)⟩
end Go.Proofs.Ytnlpipjdpmaggaa.PShardWrites
