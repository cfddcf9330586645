import Derived.RangeFuncBox
import Derived.RangeFuncLeaves
import Derived.Shelf.Abstract
import Derived.WalkKit
import Derived.OwnWalkIn
import Derived.TacticsInMore
import Derived.LoopNIn
import Derived.LoopIn
import Derived.RegionTactic
import Derived.Deep.QuietTactic
import Derived.BigQuiet
import Derived.Sort.QuietIn

import Derived.Lib.Hide
import Derived.Test.YtnlpipjdpmaggaaProg
namespace Go.Proofs.Ytnlpipjdpmaggaa.Chunk
open Go.RowKit Go.Shelf

attribute [local go_sem] Oper.semAt_some

/-- What the iterator reads between two rounds lies as it lay: its two boxes. -/
def Two (p q : Nat) (A B : World) : Prop := B.heap[p]? = A.heap[p]? ∧ B.heap[q]? = A.heap[q]?
theorem Two.refl (p q : Nat) (A : World) : Two p q A A := ⟨rfl, rfl⟩
theorem Two.trans {p q : Nat} {A B C : World} (h : Two p q A B) (k : Two p q B C) : Two p q A C := ⟨k.1.trans h.1, k.2.trans h.2⟩
theorem Two.drewN {p q : Nat} {A B : World} (h : Two p q A B) (m : Nat) : Two p q A (B.drewN m) := h
theorem cell_block {A B : World} {p : Nat} (h : B.heap[p]? = A.heap[p]?) (o : Nat) : B.cell? ⟨p, o, none⟩ = A.cell? ⟨p, o, none⟩ := by simp [World.cell?, h]
theorem Two.book {p q : Nat} {w : World} (hp : p < w.heap.size) (hq : q < w.heap.size) (W : World) (l : Nat) (o o' : Obj) (hl : w.heap.size ≤ l) (_ : W.heap[l]? = some o) (_ : o.isCells = false) (_ : o.isWalk = false) : Two p q W (W.putObj l o') :=
  ⟨World.putObj_heap_other (by omega), World.putObj_heap_other (by omega)⟩

set_option maxRecDepth 100000 in
set_option maxHeartbeats 2000000 in
theorem closure_in (nn : Nat) (hn : 1 ≤ nn) (l Bs Bn : Nat) (ad : Addr) (len cap n : Nat) (hn1 : 1 ≤ n) (hnB : n ≤ 1099511627776) (hlc : len ≤ cap) (hreach : len ≤ 140737488351232) (J Jx : List {i : Nat // i * n < len} → World → Prop) (hJd : ∀ s W m, J s W → J s (W.drewN m))
    (hY : ∀ pre x W, J pre W → pre.length < len → YieldAt Fence.wide (nn - 1) Try.prog l #[.slice (some (ad.add (x.1 * n))) (min n (len - x.1 * n)) (min n (len - x.1 * n))] W fun e W' =>
      (e = .returned (.bool true) ∧ J (pre ++ [x]) W' ∧ Two Bs Bn W W') ∨ (e = .returned (.bool false) ∧ Jx (pre ++ [x]) W'))
    (W : World) (hBs : W.cell? ⟨Bs, 0, none⟩ = some (.slice (some ad) len cap)) (hBn : W.cell? ⟨Bn, 0, none⟩ = some (.int .i64 n)) (h0 : J [] W) :
    CallsIn Fence.wide nn Try.prog 70 #[.func (.yield l) #[] #[], .pointer (some ⟨Bs, 0, none⟩), .pointer (some ⟨Bn, 0, none⟩)] W fun e W' => (∃ v, e = .returned v) ∧
      ((∃ ys, (∃ k, ys.map (·.1) = List.range k ∧ len ≤ k * n) ∧ J ys W') ∨ (∃ pre, (∃ k, pre.map (·.1) = List.range (k + 1) ∧ k * n < len) ∧ Jx pre W')) := by
  refine callsIn_of_wp Try.func70 rfl (by trivial) ?_ rfl
  simp only [Try.ntmps70, List.size_toArray, List.length_cons, List.length_nil, Nat.reduceAdd, Nat.reduceSub, Array.replicate_succ, Array.replicate_zero, List.push_toArray, List.append_toArray, List.nil_append, List.cons_append]
  gi_wp2
  gi_loopw [4] (fun iv wr => ∃ (k i : Nat) (pre : List {i : Nat // i * n < len}), i = k * n ∧ i < len + n ∧ iv = .int .i64 i ∧ pre.map (·.1) = List.range k ∧ J pre wr ∧ Two Bs Bn W wr)
    (fun iv _ => len + n - (intOf iv).toNat)
  case atStart => exact ⟨0, 0, [], by simp, by omega, rfl, rfl, h0, Two.refl _ _ _⟩
  case round =>
    obtain ⟨k, i, pre, hki, hib, rfl, hpre, hJs, hnx⟩ := hrel
    have hcs : wr.cell? ⟨Bs, 0, none⟩ = some (.slice (some ad) len cap) := (cell_block hnx.1 0).trans hBs
    have hcn : wr.cell? ⟨Bn, 0, none⟩ = some (.int .i64 n) := (cell_block hnx.2 0).trans hBn
    have Hki := Lib.hid hki
    clear hki
    by_cases hlt : i < len
    · have hkn : k * n < len := by rw [← Hki.out]; exact hlt
      have hpl : pre.length = k := by have := congrArg List.length hpre; simpa using this
      have hkl : pre.length < len := by
        rw [hpl]
        have : k * 1 ≤ k * n := Nat.mul_le_mul_left k hn1
        omega
      have HY := Lib.hid hY
      clear hY
      have Hpl := Lib.hid hpl
      clear hpl
      have hcne : ¬ cap = i := by omega
      have hile : i ≤ len := by omega
      rcases Nat.lt_or_ge (len - i) n with hmn | hmn
      · have h1 : ((len : Int) - (i : Int)) < (n : Int) := by omega
        gi_wp2
        gi_quiet (fail)
        have hY1 := HY.out pre ⟨k, hkn⟩ (wr.drewN nq) (hJd _ _ nq hJs) hkl
        dsimp only at hY1
        rw [← Hki.out, Nat.min_eq_right (by omega)] at hY1
        clear HY
        obtain ⟨fn, tmps, assign, body, hy, hR⟩ := hY1
        gi_wp2
        refine hR.mono ?_
        rintro e W3 (⟨rfl, hJ3, hk3⟩ | ⟨rfl, hJx3⟩)
        · have hcn3 : W3.cell? ⟨Bn, 0, none⟩ = some (.int .i64 n) := (cell_block hk3.2 0).trans hcn
          gi_wp2
          go_roundw
          case rel => exact ⟨k + 1, i + n, pre ++ [⟨k, hkn⟩], by rw [Nat.add_mul, Nat.one_mul, ← Hki.out], by omega, by go_num, by rw [List.map_append, hpre, List.range_succ]; rfl, hJ3, (hnx.drewN nq).trans hk3⟩
          case measure => simp [intOf]; omega
        · gi_wp2
          refine bodyPost_ret (results_none rfl _ _ _) rfl ?_
          exact ⟨⟨_, rfl⟩, .inr ⟨_, ⟨k, by rw [List.map_append, hpre, List.range_succ]; rfl, hkn⟩, hJx3⟩⟩
      · have h1 : ¬ ((len : Int) - (i : Int)) < (n : Int) := by omega
        gi_wp2
        gi_quiet (fail)
        have hY1 := HY.out pre ⟨k, hkn⟩ (wr.drewN nq) (hJd _ _ nq hJs) hkl
        dsimp only at hY1
        rw [← Hki.out, Nat.min_eq_left (by omega)] at hY1
        clear HY
        obtain ⟨fn, tmps, assign, body, hy, hR⟩ := hY1
        gi_wp2
        refine hR.mono ?_
        rintro e W3 (⟨rfl, hJ3, hk3⟩ | ⟨rfl, hJx3⟩)
        · have hcn3 : W3.cell? ⟨Bn, 0, none⟩ = some (.int .i64 n) := (cell_block hk3.2 0).trans hcn
          gi_wp2
          go_roundw
          case rel => exact ⟨k + 1, i + n, pre ++ [⟨k, hkn⟩], by rw [Nat.add_mul, Nat.one_mul, ← Hki.out], by omega, by go_num, by rw [List.map_append, hpre, List.range_succ]; rfl, hJ3, (hnx.drewN nq).trans hk3⟩
          case measure => simp [intOf]; omega
        · gi_wp2
          refine bodyPost_ret (results_none rfl _ _ _) rfl ?_
          exact ⟨⟨_, rfl⟩, .inr ⟨_, ⟨k, by rw [List.map_append, hpre, List.range_succ]; rfl, hkn⟩, hJx3⟩⟩
    · gi_wp2
      go_end0
      exact ⟨⟨_, rfl⟩, .inl ⟨_, ⟨k, hpre, by rw [← Hki.out]; omega⟩, hJs⟩⟩

set_option maxRecDepth 100000 in
set_option maxHeartbeats 1000000 in
theorem closure_nil (nn l Bs Bn n : Nat) (a : Option Addr) (cap : Nat) (J : List {i : Nat // i * n < 0} → World → Prop) (W : World)
    (hBs : W.cell? ⟨Bs, 0, none⟩ = some (.slice a 0 cap)) (h0 : J [] W) :
    CallsIn Fence.wide nn Try.prog 70 #[.func (.yield l) #[] #[], .pointer (some ⟨Bs, 0, none⟩), .pointer (some ⟨Bn, 0, none⟩)] W fun e W' => (∃ v, e = .returned v) ∧ J [] W' := by
  refine callsIn_of_wp Try.func70 rfl (by trivial) ?_ rfl
  simp only [Try.ntmps70, List.size_toArray, List.length_cons, List.length_nil, Nat.reduceAdd, Nat.reduceSub, Array.replicate_succ, Array.replicate_zero, List.push_toArray, List.append_toArray, List.nil_append, List.cons_append]
  gi_wp2
  gi_loopw [4] (fun iv wr => iv = .int .i64 0 ∧ J [] wr ∧ wr = W) (fun _ _ => 0)
  case atStart => exact ⟨rfl, h0, rfl⟩
  case round =>
    obtain ⟨rfl, hJs, rfl⟩ := hrel
    gi_wp2
    go_end0
    exact ⟨⟨_, rfl⟩, hJs⟩

set_option maxHeartbeats 1000000 in
theorem chunk_in (nn : Nat) (a : Option Addr) (len cap n : Nat) (hn1 : 1 ≤ n) (w : World) :
    CallsIn Fence.wide nn Try.prog 48 #[.slice a len cap, .int .i64 n] w fun e w' => e = .returned (.func (.func 70) #[] #[.pointer (some ⟨w.heap.size, 0, none⟩), .pointer (some ⟨w.heap.size + 1, 0, none⟩)]) ∧ w' = (w.alloc (.cells #[.slice a len cap] 22)).alloc (.cells #[.int .i64 n] 3) := by
  refine callsIn_of_wp Try.func48 rfl (by trivial) ?_ rfl
  simp only [Try.ntmps48, List.size_toArray, List.length_cons, List.length_nil, Nat.reduceAdd, Nat.reduceSub, Array.replicate_succ, Array.replicate_zero, List.push_toArray, List.append_toArray, List.nil_append, List.cons_append]
  have h1 : ¬ ((n : Int) < 1) := by omega
  gi_wp2
  go_ret
  exact ⟨rfl, rfl⟩

/-- **slices.Chunk(s, n) HANDS BACK A VALUE THAT 'SeqStopsK', AT 'Kp := Two'**: the pieces of s in order, by their numbers. -/
theorem stops (nn : Nat) (hn : 1 ≤ nn) (Bs Bn : Nat) (A : Option Addr) (len cap n : Nat) (hA : 0 < len → ∃ ad, A = some ad) (hn1 : 1 ≤ n) (hnB : n ≤ 1099511627776) (hlc : len ≤ cap) (hreach : len ≤ 140737488351232) (w : World)
    (hBs0 : Bs < w.heap.size) (hBn0 : Bn < w.heap.size) (hBs : w.cell? ⟨Bs, 0, none⟩ = some (.slice A len cap)) (hBn : w.cell? ⟨Bn, 0, none⟩ = some (.int .i64 n)) :
    SeqStopsK Fence.wide nn Try.prog 70 #[.pointer (some ⟨Bs, 0, none⟩), .pointer (some ⟨Bn, 0, none⟩)] (fun x : {i : Nat // i * n < len} => #[.slice (some ((A.getD default).add (x.1 * n))) (min n (len - x.1 * n)) (min n (len - x.1 * n))]) (Two Bs Bn)
      (fun ys => ∃ k, ys.map (·.1) = List.range k ∧ len ≤ k * n) (fun pre => ∃ k, pre.map (·.1) = List.range (k + 1) ∧ k * n < len) len w := fun l J Jx W hW hJ _ hY h0 => by
  have cs := (hW.cell (p := ⟨Bs, 0, none⟩) (by show Bs < _; omega)).trans hBs
  have cn := (hW.cell (p := ⟨Bn, 0, none⟩) (by show Bn < _; omega)).trans hBn
  rcases Nat.eq_zero_or_pos len with rfl | hpos
  · refine (closure_nil nn l Bs Bn n A cap J W cs h0).mono ?_
    rintro e W' ⟨he, hj⟩
    exact ⟨he, .inl ⟨[], ⟨0, rfl, by omega⟩, hj⟩⟩
  · obtain ⟨ad, rfl⟩ := hA hpos
    have hd : ∀ s W m, J s W → J s (W.drewN m) := fun s X m hs => hJ s X (X.drewN m) none hs ⟨rfl, rfl, rfl, Nat.le_refl _, fun _ _ _ => rfl⟩ (fun r e => by cases e)
    exact closure_in nn hn l Bs Bn ad len cap n hn1 hnB hlc hreach J Jx hd hY W cs cn h0
end Go.Proofs.Ytnlpipjdpmaggaa.Chunk
