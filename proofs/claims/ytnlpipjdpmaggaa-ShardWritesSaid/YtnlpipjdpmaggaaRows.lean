/-
  No cell of these rows narrows 'for every input' (looked for: loops, veiled, ifaces, maps, wideKeys, modest, calm, conditions, laid).
  DERIVED. THE GIVEN ROWS OF THIS SEAT. 11 by the template 'for every input the law returns true; each argument reads behind the call as it read before'; 0 by the template 'total and deterministic' (their statements: YtnlpipjdpmaggaaTotals.lean).
  GIVEN WITH THE SEED: the statements are not yours to turn. If you find one false, say at which input.
  Laid BY PROGRAM, IN A SANDBOX (cutbox-rows.mjs): the forced cells as the released guide's own fill.sh prints them over the translation 8f71fc6b63093f4b… (all of the seat's roots in one cut). By AI agents, Wed Nov 11 2026. No macro, syntax, notation, axiom, sorry.
-/
import Derived.Test.YtnlpipjdpmaggaaChecked
import GoSem.Claim
import GoSem.ClaimJoined
import GoSem.ClaimMapViews
import Derived.JoinedTies
import Derived.KernelRfl
namespace Go.Proofs.Ytnlpipjdpmaggaa
/- THE CELL 'sum', in the pinned program and in every row, IS THE sha256 OF THE DUMP (.gsa) THAT YtnlpipjdpmaggaaProg.lean LOADS. Nothing in Lean hashes anything: it is a label: what it is worth is what the hold of that sum in a sandbox is worth. -/
noncomputable def Try.pinned : Pinned := { name := "ytnlpipjdpmaggaa", sum := "8f71fc6b63093f4bd297c04700837e2aec7e72e7f6c29dcfd5599531d9626b7b", checked := Try.checked }
namespace Rows
def none {H : Type} : Left H := { results := [], args := [] }

/-- 'strongboxlaw5.ShardBursts': WHATEVER THE INPUT: true; the input reads as it did. -/
def shardBurstsSpec : ChangeSpec := { name := "shardBursts", fn := fun _ => fun
  | [d1, d2, d3] => { results := [.lit (.bool true)], args := [d1, d2, d3] }
  | _ => none }
def shardBurstsRow : OpenClaim := { program := "ytnlpipjdpmaggaa", sum := "8f71fc6b63093f4bd297c04700837e2aec7e72e7f6c29dcfd5599531d9626b7b", func := "strongbox/strongboxlaw5.ShardBursts", spec := "shardBursts", unfollowed := true, recurses := true, apart := false }
def ShardBurstsSaid : Prop := shardBurstsRow.holds Try.pinned (OpenSpec.ofChange shardBurstsSpec)

/-- ITS FALSE NEIGHBOUR: 'it returns false'. Refute it at one input. -/
def shardBurstsWrong : ChangeSpec := { name := "shardBursts", fn := fun _ => fun
  | [d1, d2, d3] => { results := [.lit (.bool false)], args := [d1, d2, d3] }
  | _ => none }
def ShardBurstsWrongFalsely : Prop := shardBurstsRow.holds Try.pinned (OpenSpec.ofChange shardBurstsWrong)

/-- 'strongboxlaw5.ShardCuts': WHATEVER THE INPUT: true; the input reads as it did. -/
def shardCutsSpec : ChangeSpec := { name := "shardCuts", fn := fun _ => fun
  | [d1, d2, d3] => { results := [.lit (.bool true)], args := [d1, d2, d3] }
  | _ => none }
def shardCutsRow : OpenClaim := { program := "ytnlpipjdpmaggaa", sum := "8f71fc6b63093f4bd297c04700837e2aec7e72e7f6c29dcfd5599531d9626b7b", func := "strongbox/strongboxlaw5.ShardCuts", spec := "shardCuts", unfollowed := true, recurses := true, apart := false }
def ShardCutsSaid : Prop := shardCutsRow.holds Try.pinned (OpenSpec.ofChange shardCutsSpec)

/-- ITS FALSE NEIGHBOUR: 'it returns false'. Refute it at one input. -/
def shardCutsWrong : ChangeSpec := { name := "shardCuts", fn := fun _ => fun
  | [d1, d2, d3] => { results := [.lit (.bool false)], args := [d1, d2, d3] }
  | _ => none }
def ShardCutsWrongFalsely : Prop := shardCutsRow.holds Try.pinned (OpenSpec.ofChange shardCutsWrong)

/-- 'strongboxlaw5.ShardBlocks': WHATEVER THE INPUT: true; the input reads as it did. -/
def shardBlocksSpec : ChangeSpec := { name := "shardBlocks", fn := fun _ => fun
  | [d1, d2] => { results := [.lit (.bool true)], args := [d1, d2] }
  | _ => none }
def shardBlocksRow : OpenClaim := { program := "ytnlpipjdpmaggaa", sum := "8f71fc6b63093f4bd297c04700837e2aec7e72e7f6c29dcfd5599531d9626b7b", func := "strongbox/strongboxlaw5.ShardBlocks", spec := "shardBlocks", unfollowed := true, recurses := true, apart := false }
def ShardBlocksSaid : Prop := shardBlocksRow.holds Try.pinned (OpenSpec.ofChange shardBlocksSpec)

/-- ITS FALSE NEIGHBOUR: 'it returns false'. Refute it at one input. -/
def shardBlocksWrong : ChangeSpec := { name := "shardBlocks", fn := fun _ => fun
  | [d1, d2] => { results := [.lit (.bool false)], args := [d1, d2] }
  | _ => none }
def ShardBlocksWrongFalsely : Prop := shardBlocksRow.holds Try.pinned (OpenSpec.ofChange shardBlocksWrong)

/-- 'strongboxlaw7.JournalWrites': WHATEVER THE INPUT: true; the input reads as it did. -/
def journalWritesSpec : ChangeSpec := { name := "journalWrites", fn := fun _ => fun
  | [d] => { results := [.lit (.bool true)], args := [d] }
  | _ => none }
def journalWritesRow : OpenClaim := { program := "ytnlpipjdpmaggaa", sum := "8f71fc6b63093f4bd297c04700837e2aec7e72e7f6c29dcfd5599531d9626b7b", func := "strongbox/strongboxlaw7.JournalWrites", spec := "journalWrites", unfollowed := true, recurses := true, apart := false }
def JournalWritesSaid : Prop := journalWritesRow.holds Try.pinned (OpenSpec.ofChange journalWritesSpec)

/-- ITS FALSE NEIGHBOUR: 'it returns false'. Refute it at one input. -/
def journalWritesWrong : ChangeSpec := { name := "journalWrites", fn := fun _ => fun
  | [d] => { results := [.lit (.bool false)], args := [d] }
  | _ => none }
def JournalWritesWrongFalsely : Prop := journalWritesRow.holds Try.pinned (OpenSpec.ofChange journalWritesWrong)

/-- 'strongboxlaw7.JournalReads': WHATEVER THE INPUT: true; the input reads as it did. -/
def journalReadsSpec : ChangeSpec := { name := "journalReads", fn := fun _ => fun
  | [d] => { results := [.lit (.bool true)], args := [d] }
  | _ => none }
def journalReadsRow : OpenClaim := { program := "ytnlpipjdpmaggaa", sum := "8f71fc6b63093f4bd297c04700837e2aec7e72e7f6c29dcfd5599531d9626b7b", func := "strongbox/strongboxlaw7.JournalReads", spec := "journalReads", unfollowed := true, recurses := true, apart := false }
def JournalReadsSaid : Prop := journalReadsRow.holds Try.pinned (OpenSpec.ofChange journalReadsSpec)

/-- ITS FALSE NEIGHBOUR: 'it returns false'. Refute it at one input. -/
def journalReadsWrong : ChangeSpec := { name := "journalReads", fn := fun _ => fun
  | [d] => { results := [.lit (.bool false)], args := [d] }
  | _ => none }
def JournalReadsWrongFalsely : Prop := journalReadsRow.holds Try.pinned (OpenSpec.ofChange journalReadsWrong)

/-- 'strongboxlaw7.JournalBack': WHATEVER THE INPUT: true; the input reads as it did. -/
def journalBackSpec : ChangeSpec := { name := "journalBack", fn := fun _ => fun
  | [d1, d2] => { results := [.lit (.bool true)], args := [d1, d2] }
  | _ => none }
def journalBackRow : OpenClaim := { program := "ytnlpipjdpmaggaa", sum := "8f71fc6b63093f4bd297c04700837e2aec7e72e7f6c29dcfd5599531d9626b7b", func := "strongbox/strongboxlaw7.JournalBack", spec := "journalBack", unfollowed := true, recurses := true, apart := false }
def JournalBackSaid : Prop := journalBackRow.holds Try.pinned (OpenSpec.ofChange journalBackSpec)

/-- ITS FALSE NEIGHBOUR: 'it returns false'. Refute it at one input. -/
def journalBackWrong : ChangeSpec := { name := "journalBack", fn := fun _ => fun
  | [d1, d2] => { results := [.lit (.bool false)], args := [d1, d2] }
  | _ => none }
def JournalBackWrongFalsely : Prop := journalBackRow.holds Try.pinned (OpenSpec.ofChange journalBackWrong)

/-- 'strongboxlaw7.JournalBursts': WHATEVER THE INPUT: true; the input reads as it did. -/
def journalBurstsSpec : ChangeSpec := { name := "journalBursts", fn := fun _ => fun
  | [d1, d2, d3] => { results := [.lit (.bool true)], args := [d1, d2, d3] }
  | _ => none }
def journalBurstsRow : OpenClaim := { program := "ytnlpipjdpmaggaa", sum := "8f71fc6b63093f4bd297c04700837e2aec7e72e7f6c29dcfd5599531d9626b7b", func := "strongbox/strongboxlaw7.JournalBursts", spec := "journalBursts", unfollowed := true, recurses := true, apart := false }
def JournalBurstsSaid : Prop := journalBurstsRow.holds Try.pinned (OpenSpec.ofChange journalBurstsSpec)

/-- ITS FALSE NEIGHBOUR: 'it returns false'. Refute it at one input. -/
def journalBurstsWrong : ChangeSpec := { name := "journalBursts", fn := fun _ => fun
  | [d1, d2, d3] => { results := [.lit (.bool false)], args := [d1, d2, d3] }
  | _ => none }
def JournalBurstsWrongFalsely : Prop := journalBurstsRow.holds Try.pinned (OpenSpec.ofChange journalBurstsWrong)

/-- 'strongboxlaw5.ShardWrites': WHATEVER THE INPUT: true; the input reads as it did. -/
def shardWritesSpec : ChangeSpec := { name := "shardWrites", fn := fun _ => fun
  | [d1, d2, d3] => { results := [.lit (.bool true)], args := [d1, d2, d3] }
  | _ => none }
def shardWritesRow : OpenClaim := { program := "ytnlpipjdpmaggaa", sum := "8f71fc6b63093f4bd297c04700837e2aec7e72e7f6c29dcfd5599531d9626b7b", func := "strongbox/strongboxlaw5.ShardWrites", spec := "shardWrites", unfollowed := true, recurses := true, apart := false }
def ShardWritesSaid : Prop := shardWritesRow.holds Try.pinned (OpenSpec.ofChange shardWritesSpec)

/-- ITS FALSE NEIGHBOUR: 'it returns false'. Refute it at one input. -/
def shardWritesWrong : ChangeSpec := { name := "shardWrites", fn := fun _ => fun
  | [d1, d2, d3] => { results := [.lit (.bool false)], args := [d1, d2, d3] }
  | _ => none }
def ShardWritesWrongFalsely : Prop := shardWritesRow.holds Try.pinned (OpenSpec.ofChange shardWritesWrong)

/-- 'strongboxlaw7.JournalFull': WHATEVER THE INPUT: true; the input reads as it did. -/
def journalFullSpec : ChangeSpec := { name := "journalFull", fn := fun _ => fun
  | [] => { results := [.lit (.bool true)], args := [] }
  | _ => none }
def journalFullRow : OpenClaim := { program := "ytnlpipjdpmaggaa", sum := "8f71fc6b63093f4bd297c04700837e2aec7e72e7f6c29dcfd5599531d9626b7b", func := "strongbox/strongboxlaw7.JournalFull", spec := "journalFull", unfollowed := true, recurses := true, apart := false }
def JournalFullSaid : Prop := journalFullRow.holds Try.pinned (OpenSpec.ofChange journalFullSpec)

/-- ITS FALSE NEIGHBOUR: 'it returns false'. Refute it at one input. -/
def journalFullWrong : ChangeSpec := { name := "journalFull", fn := fun _ => fun
  | [] => { results := [.lit (.bool false)], args := [] }
  | _ => none }
def JournalFullWrongFalsely : Prop := journalFullRow.holds Try.pinned (OpenSpec.ofChange journalFullWrong)

/-- 'strongboxlaw7.JournalAdds': WHATEVER THE INPUT: true; the input reads as it did. -/
def journalAddsSpec : ChangeSpec := { name := "journalAdds", fn := fun _ => fun
  | [d1, d2] => { results := [.lit (.bool true)], args := [d1, d2] }
  | _ => none }
def journalAddsRow : OpenClaim := { program := "ytnlpipjdpmaggaa", sum := "8f71fc6b63093f4bd297c04700837e2aec7e72e7f6c29dcfd5599531d9626b7b", func := "strongbox/strongboxlaw7.JournalAdds", spec := "journalAdds", unfollowed := true, recurses := true, apart := false }
def JournalAddsSaid : Prop := journalAddsRow.holds Try.pinned (OpenSpec.ofChange journalAddsSpec)

/-- ITS FALSE NEIGHBOUR: 'it returns false'. Refute it at one input. -/
def journalAddsWrong : ChangeSpec := { name := "journalAdds", fn := fun _ => fun
  | [d1, d2] => { results := [.lit (.bool false)], args := [d1, d2] }
  | _ => none }
def JournalAddsWrongFalsely : Prop := journalAddsRow.holds Try.pinned (OpenSpec.ofChange journalAddsWrong)

/-- 'strongboxlaw7.JournalChanges': WHATEVER THE INPUT: true; the input reads as it did. -/
def journalChangesSpec : ChangeSpec := { name := "journalChanges", fn := fun _ => fun
  | [d1, d2, d3] => { results := [.lit (.bool true)], args := [d1, d2, d3] }
  | _ => none }
def journalChangesRow : OpenClaim := { program := "ytnlpipjdpmaggaa", sum := "8f71fc6b63093f4bd297c04700837e2aec7e72e7f6c29dcfd5599531d9626b7b", func := "strongbox/strongboxlaw7.JournalChanges", spec := "journalChanges", unfollowed := true, recurses := true, apart := false }
def JournalChangesSaid : Prop := journalChangesRow.holds Try.pinned (OpenSpec.ofChange journalChangesSpec)

/-- ITS FALSE NEIGHBOUR: 'it returns false'. Refute it at one input. -/
def journalChangesWrong : ChangeSpec := { name := "journalChanges", fn := fun _ => fun
  | [d1, d2, d3] => { results := [.lit (.bool false)], args := [d1, d2, d3] }
  | _ => none }
def JournalChangesWrongFalsely : Prop := journalChangesRow.holds Try.pinned (OpenSpec.ofChange journalChangesWrong)

/- THE SECOND FORM. 'bulk': how many values and letters a reading holds, each counted each time it is reached (what is shared counts as often as it is met; a slice's spare places count too). A statement '..UptoSaid' is the law's where the arguments, and the package variables that the reading takes, are together of bulk at most 1048576: NARROWER than '..Said'. Prove '..Said' where nothing that the law and all that it calls make is longer than what came in: it says more and counts as full. Else prove '..UptoSaid'. A law counts once. -/
mutual
def uptoBulk {H : Type} : DataW H → Nat
  | .lit (.string bytes) => bytes.length + 1
  | .lit _ => 1
  | .nil => 1
  | .ptr d => uptoBulk d + 1
  | .slice elems spare => uptoBulkAll elems + uptoBulkAll spare + 1
  | .agg parts => uptoBulkAll parts + 1
  | .iface _ d => uptoBulk d + 1
  | .map entries => uptoBulkEntries entries + 1
  | .held _ => 1
def uptoBulkAll {H : Type} : List (DataW H) → Nat
  | [] => 0
  | d :: r => uptoBulk d + uptoBulkAll r
def uptoBulkEntries {H : Type} : List (Lit × DataW H) → Nat
  | [] => 0
  | x :: r => uptoBulkEntry x + uptoBulkEntries r
def uptoBulkEntry {H : Type} : Lit × DataW H → Nat
  | (.string bytes, d) => bytes.length + uptoBulk d + 1
  | (_, d) => uptoBulk d + 1
 end
def uptoSmall : (H : Type) → List (DataW H) → Bool := fun _ ds => decide (uptoBulkAll ds ≤ 1048576)
def OpenSpec.upto (s : _root_.Go.ChangeSpec) : _root_.Go.OpenSpec := { _root_.Go.OpenSpec.ofChange s with cond := some uptoSmall }

/-- 'strongboxlaw5.ShardBursts', WHERE WHAT IT READS IS OF BULK AT MOST 1048576: true; the input reads as it did. -/
def shardBurstsUptoRow : OpenClaim := { program := "ytnlpipjdpmaggaa", sum := "8f71fc6b63093f4bd297c04700837e2aec7e72e7f6c29dcfd5599531d9626b7b", func := "strongbox/strongboxlaw5.ShardBursts", spec := "shardBursts", unfollowed := true, recurses := true, apart := false, narrowed := true }
def ShardBurstsUptoSaid : Prop := shardBurstsUptoRow.holds Try.pinned (OpenSpec.upto shardBurstsSpec)

/-- 'strongboxlaw5.ShardCuts', WHERE WHAT IT READS IS OF BULK AT MOST 1048576: true; the input reads as it did. -/
def shardCutsUptoRow : OpenClaim := { program := "ytnlpipjdpmaggaa", sum := "8f71fc6b63093f4bd297c04700837e2aec7e72e7f6c29dcfd5599531d9626b7b", func := "strongbox/strongboxlaw5.ShardCuts", spec := "shardCuts", unfollowed := true, recurses := true, apart := false, narrowed := true }
def ShardCutsUptoSaid : Prop := shardCutsUptoRow.holds Try.pinned (OpenSpec.upto shardCutsSpec)

/-- 'strongboxlaw5.ShardBlocks', WHERE WHAT IT READS IS OF BULK AT MOST 1048576: true; the input reads as it did. -/
def shardBlocksUptoRow : OpenClaim := { program := "ytnlpipjdpmaggaa", sum := "8f71fc6b63093f4bd297c04700837e2aec7e72e7f6c29dcfd5599531d9626b7b", func := "strongbox/strongboxlaw5.ShardBlocks", spec := "shardBlocks", unfollowed := true, recurses := true, apart := false, narrowed := true }
def ShardBlocksUptoSaid : Prop := shardBlocksUptoRow.holds Try.pinned (OpenSpec.upto shardBlocksSpec)

/-- 'strongboxlaw7.JournalWrites', WHERE WHAT IT READS IS OF BULK AT MOST 1048576: true; the input reads as it did. -/
def journalWritesUptoRow : OpenClaim := { program := "ytnlpipjdpmaggaa", sum := "8f71fc6b63093f4bd297c04700837e2aec7e72e7f6c29dcfd5599531d9626b7b", func := "strongbox/strongboxlaw7.JournalWrites", spec := "journalWrites", unfollowed := true, recurses := true, apart := false, narrowed := true }
def JournalWritesUptoSaid : Prop := journalWritesUptoRow.holds Try.pinned (OpenSpec.upto journalWritesSpec)

/-- 'strongboxlaw7.JournalReads', WHERE WHAT IT READS IS OF BULK AT MOST 1048576: true; the input reads as it did. -/
def journalReadsUptoRow : OpenClaim := { program := "ytnlpipjdpmaggaa", sum := "8f71fc6b63093f4bd297c04700837e2aec7e72e7f6c29dcfd5599531d9626b7b", func := "strongbox/strongboxlaw7.JournalReads", spec := "journalReads", unfollowed := true, recurses := true, apart := false, narrowed := true }
def JournalReadsUptoSaid : Prop := journalReadsUptoRow.holds Try.pinned (OpenSpec.upto journalReadsSpec)

/-- 'strongboxlaw7.JournalBack', WHERE WHAT IT READS IS OF BULK AT MOST 1048576: true; the input reads as it did. -/
def journalBackUptoRow : OpenClaim := { program := "ytnlpipjdpmaggaa", sum := "8f71fc6b63093f4bd297c04700837e2aec7e72e7f6c29dcfd5599531d9626b7b", func := "strongbox/strongboxlaw7.JournalBack", spec := "journalBack", unfollowed := true, recurses := true, apart := false, narrowed := true }
def JournalBackUptoSaid : Prop := journalBackUptoRow.holds Try.pinned (OpenSpec.upto journalBackSpec)

/-- 'strongboxlaw7.JournalBursts', WHERE WHAT IT READS IS OF BULK AT MOST 1048576: true; the input reads as it did. -/
def journalBurstsUptoRow : OpenClaim := { program := "ytnlpipjdpmaggaa", sum := "8f71fc6b63093f4bd297c04700837e2aec7e72e7f6c29dcfd5599531d9626b7b", func := "strongbox/strongboxlaw7.JournalBursts", spec := "journalBursts", unfollowed := true, recurses := true, apart := false, narrowed := true }
def JournalBurstsUptoSaid : Prop := journalBurstsUptoRow.holds Try.pinned (OpenSpec.upto journalBurstsSpec)

/-- 'strongboxlaw5.ShardWrites', WHERE WHAT IT READS IS OF BULK AT MOST 1048576: true; the input reads as it did. -/
def shardWritesUptoRow : OpenClaim := { program := "ytnlpipjdpmaggaa", sum := "8f71fc6b63093f4bd297c04700837e2aec7e72e7f6c29dcfd5599531d9626b7b", func := "strongbox/strongboxlaw5.ShardWrites", spec := "shardWrites", unfollowed := true, recurses := true, apart := false, narrowed := true }
def ShardWritesUptoSaid : Prop := shardWritesUptoRow.holds Try.pinned (OpenSpec.upto shardWritesSpec)

/-- 'strongboxlaw7.JournalFull', WHERE WHAT IT READS IS OF BULK AT MOST 1048576: true; the input reads as it did. -/
def journalFullUptoRow : OpenClaim := { program := "ytnlpipjdpmaggaa", sum := "8f71fc6b63093f4bd297c04700837e2aec7e72e7f6c29dcfd5599531d9626b7b", func := "strongbox/strongboxlaw7.JournalFull", spec := "journalFull", unfollowed := true, recurses := true, apart := false, narrowed := true }
def JournalFullUptoSaid : Prop := journalFullUptoRow.holds Try.pinned (OpenSpec.upto journalFullSpec)

/-- 'strongboxlaw7.JournalAdds', WHERE WHAT IT READS IS OF BULK AT MOST 1048576: true; the input reads as it did. -/
def journalAddsUptoRow : OpenClaim := { program := "ytnlpipjdpmaggaa", sum := "8f71fc6b63093f4bd297c04700837e2aec7e72e7f6c29dcfd5599531d9626b7b", func := "strongbox/strongboxlaw7.JournalAdds", spec := "journalAdds", unfollowed := true, recurses := true, apart := false, narrowed := true }
def JournalAddsUptoSaid : Prop := journalAddsUptoRow.holds Try.pinned (OpenSpec.upto journalAddsSpec)

/-- 'strongboxlaw7.JournalChanges', WHERE WHAT IT READS IS OF BULK AT MOST 1048576: true; the input reads as it did. -/
def journalChangesUptoRow : OpenClaim := { program := "ytnlpipjdpmaggaa", sum := "8f71fc6b63093f4bd297c04700837e2aec7e72e7f6c29dcfd5599531d9626b7b", func := "strongbox/strongboxlaw7.JournalChanges", spec := "journalChanges", unfollowed := true, recurses := true, apart := false, narrowed := true }
def JournalChangesUptoSaid : Prop := journalChangesUptoRow.holds Try.pinned (OpenSpec.upto journalChangesSpec)

end Rows
end Go.Proofs.Ytnlpipjdpmaggaa
