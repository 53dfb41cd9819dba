/-
  No cell of these rows narrows 'for every input' (looked for: loops, veiled, ifaces, maps, wideKeys, modest, calm, conditions, laid).
  DERIVED. THE GIVEN ROWS OF THIS SEAT. 10 by the template 'for every input the law returns true; each argument reads behind the call as it read before'; 0 by the template 'total and deterministic' (their statements: YtgcjhenfggcbmaaTotals.lean).
  GIVEN WITH THE SEED: the statements are not yours to turn. If you find one false, say at which input.
  Laid BY PROGRAM, IN A SANDBOX (cutbox-rows.mjs): the forced cells as the released guide's own fill.sh prints them over the translation decec6459e8811ef… (all of the seat's roots in one cut). By AI agents, Wed Nov 11 2026. No macro, syntax, notation, axiom, sorry.
-/
import Derived.Test.YtgcjhenfggcbmaaChecked
import GoSem.Claim
import GoSem.ClaimJoined
import GoSem.ClaimMapViews
import Derived.JoinedTies
import Derived.KernelRfl
namespace Go.Proofs.Ytgcjhenfggcbmaa
/- THE CELL 'sum', in the pinned program and in every row, IS THE sha256 OF THE DUMP (.gsa) THAT YtgcjhenfggcbmaaProg.lean LOADS. Nothing in Lean hashes anything: it is a label: what it is worth is what the hold of that sum in a sandbox is worth. -/
noncomputable def Try.pinned : Pinned := { name := "ytgcjhenfggcbmaa", sum := "decec6459e8811ef6453c702f62c3a001bb7d7fa6cce43b3d900cdce5625a23b", checked := Try.checked }
namespace Rows
def none {H : Type} : Left H := { results := [], args := [] }

/-- 'laws.FnSpansPut': WHATEVER THE INPUT: true; the input reads as it did. -/
def fnSpansPutSpec : ChangeSpec := { name := "fnSpansPut", fn := fun _ => fun
  | [d] => { results := [.lit (.bool true)], args := [d] }
  | _ => none }
def fnSpansPutRow : OpenClaim := { program := "ytgcjhenfggcbmaa", sum := "decec6459e8811ef6453c702f62c3a001bb7d7fa6cce43b3d900cdce5625a23b", func := "loop.example/colophon/laws.FnSpansPut", spec := "fnSpansPut", unfollowed := true, recurses := true, apart := false }
def FnSpansPutSaid : Prop := fnSpansPutRow.holds Try.pinned (OpenSpec.ofChange fnSpansPutSpec)

/-- ITS FALSE NEIGHBOUR: 'it returns false'. Refute it at one input. -/
def fnSpansPutWrong : ChangeSpec := { name := "fnSpansPut", fn := fun _ => fun
  | [d] => { results := [.lit (.bool false)], args := [d] }
  | _ => none }
def FnSpansPutWrongFalsely : Prop := fnSpansPutRow.holds Try.pinned (OpenSpec.ofChange fnSpansPutWrong)

/-- 'laws.FnExactClusterAt': WHATEVER THE INPUT: true; the input reads as it did. -/
def fnExactClusterAtSpec : ChangeSpec := { name := "fnExactClusterAt", fn := fun _ => fun
  | [d1, d2] => { results := [.lit (.bool true)], args := [d1, d2] }
  | _ => none }
def fnExactClusterAtRow : OpenClaim := { program := "ytgcjhenfggcbmaa", sum := "decec6459e8811ef6453c702f62c3a001bb7d7fa6cce43b3d900cdce5625a23b", func := "loop.example/colophon/laws.FnExactClusterAt", spec := "fnExactClusterAt", unfollowed := true, recurses := true, apart := false }
def FnExactClusterAtSaid : Prop := fnExactClusterAtRow.holds Try.pinned (OpenSpec.ofChange fnExactClusterAtSpec)

/-- ITS FALSE NEIGHBOUR: 'it returns false'. Refute it at one input. -/
def fnExactClusterAtWrong : ChangeSpec := { name := "fnExactClusterAt", fn := fun _ => fun
  | [d1, d2] => { results := [.lit (.bool false)], args := [d1, d2] }
  | _ => none }
def FnExactClusterAtWrongFalsely : Prop := fnExactClusterAtRow.holds Try.pinned (OpenSpec.ofChange fnExactClusterAtWrong)

/-- 'laws.FnExactLevelBase': WHATEVER THE INPUT: true; the input reads as it did. -/
def fnExactLevelBaseSpec : ChangeSpec := { name := "fnExactLevelBase", fn := fun _ => fun
  | [d] => { results := [.lit (.bool true)], args := [d] }
  | _ => none }
def fnExactLevelBaseRow : OpenClaim := { program := "ytgcjhenfggcbmaa", sum := "decec6459e8811ef6453c702f62c3a001bb7d7fa6cce43b3d900cdce5625a23b", func := "loop.example/colophon/laws.FnExactLevelBase", spec := "fnExactLevelBase", unfollowed := true, recurses := true, apart := false }
def FnExactLevelBaseSaid : Prop := fnExactLevelBaseRow.holds Try.pinned (OpenSpec.ofChange fnExactLevelBaseSpec)

/-- ITS FALSE NEIGHBOUR: 'it returns false'. Refute it at one input. -/
def fnExactLevelBaseWrong : ChangeSpec := { name := "fnExactLevelBase", fn := fun _ => fun
  | [d] => { results := [.lit (.bool false)], args := [d] }
  | _ => none }
def FnExactLevelBaseWrongFalsely : Prop := fnExactLevelBaseRow.holds Try.pinned (OpenSpec.ofChange fnExactLevelBaseWrong)

/-- 'laws.FnRuneTables': WHATEVER THE INPUT: true; the input reads as it did. -/
def fnRuneTablesSpec : ChangeSpec := { name := "fnRuneTables", fn := fun _ => fun
  | [d] => { results := [.lit (.bool true)], args := [d] }
  | _ => none }
def fnRuneTablesRow : OpenClaim := { program := "ytgcjhenfggcbmaa", sum := "decec6459e8811ef6453c702f62c3a001bb7d7fa6cce43b3d900cdce5625a23b", func := "loop.example/colophon/laws.FnRuneTables", spec := "fnRuneTables", unfollowed := true, recurses := true, apart := false }
def FnRuneTablesSaid : Prop := fnRuneTablesRow.holds Try.pinned (OpenSpec.ofChange fnRuneTablesSpec)

/-- ITS FALSE NEIGHBOUR: 'it returns false'. Refute it at one input. -/
def fnRuneTablesWrong : ChangeSpec := { name := "fnRuneTables", fn := fun _ => fun
  | [d] => { results := [.lit (.bool false)], args := [d] }
  | _ => none }
def FnRuneTablesWrongFalsely : Prop := fnRuneTablesRow.holds Try.pinned (OpenSpec.ofChange fnRuneTablesWrong)

/-- 'laws.FnExactClusterStarts': WHATEVER THE INPUT: true; the input reads as it did. -/
def fnExactClusterStartsSpec : ChangeSpec := { name := "fnExactClusterStarts", fn := fun _ => fun
  | [d] => { results := [.lit (.bool true)], args := [d] }
  | _ => none }
def fnExactClusterStartsRow : OpenClaim := { program := "ytgcjhenfggcbmaa", sum := "decec6459e8811ef6453c702f62c3a001bb7d7fa6cce43b3d900cdce5625a23b", func := "loop.example/colophon/laws.FnExactClusterStarts", spec := "fnExactClusterStarts", unfollowed := true, recurses := true, apart := false }
def FnExactClusterStartsSaid : Prop := fnExactClusterStartsRow.holds Try.pinned (OpenSpec.ofChange fnExactClusterStartsSpec)

/-- ITS FALSE NEIGHBOUR: 'it returns false'. Refute it at one input. -/
def fnExactClusterStartsWrong : ChangeSpec := { name := "fnExactClusterStarts", fn := fun _ => fun
  | [d] => { results := [.lit (.bool false)], args := [d] }
  | _ => none }
def FnExactClusterStartsWrongFalsely : Prop := fnExactClusterStartsRow.holds Try.pinned (OpenSpec.ofChange fnExactClusterStartsWrong)

/-- 'laws.FnExactLineWide': WHATEVER THE INPUT: true; the input reads as it did. -/
def fnExactLineWideSpec : ChangeSpec := { name := "fnExactLineWide", fn := fun _ => fun
  | [d1, d2, d3, d4] => { results := [.lit (.bool true)], args := [d1, d2, d3, d4] }
  | _ => none }
def fnExactLineWideRow : OpenClaim := { program := "ytgcjhenfggcbmaa", sum := "decec6459e8811ef6453c702f62c3a001bb7d7fa6cce43b3d900cdce5625a23b", func := "loop.example/colophon/laws.FnExactLineWide", spec := "fnExactLineWide", unfollowed := true, recurses := true, apart := false }
def FnExactLineWideSaid : Prop := fnExactLineWideRow.holds Try.pinned (OpenSpec.ofChange fnExactLineWideSpec)

/-- ITS FALSE NEIGHBOUR: 'it returns false'. Refute it at one input. -/
def fnExactLineWideWrong : ChangeSpec := { name := "fnExactLineWide", fn := fun _ => fun
  | [d1, d2, d3, d4] => { results := [.lit (.bool false)], args := [d1, d2, d3, d4] }
  | _ => none }
def FnExactLineWideWrongFalsely : Prop := fnExactLineWideRow.holds Try.pinned (OpenSpec.ofChange fnExactLineWideWrong)

/-- 'laws.FnLevelPlain': WHATEVER THE INPUT: true; the input reads as it did. -/
def fnLevelPlainSpec : ChangeSpec := { name := "fnLevelPlain", fn := fun _ => fun
  | [d] => { results := [.lit (.bool true)], args := [d] }
  | _ => none }
def fnLevelPlainRow : OpenClaim := { program := "ytgcjhenfggcbmaa", sum := "decec6459e8811ef6453c702f62c3a001bb7d7fa6cce43b3d900cdce5625a23b", func := "loop.example/colophon/laws.FnLevelPlain", spec := "fnLevelPlain", unfollowed := true, recurses := true, apart := false }
def FnLevelPlainSaid : Prop := fnLevelPlainRow.holds Try.pinned (OpenSpec.ofChange fnLevelPlainSpec)

/-- ITS FALSE NEIGHBOUR: 'it returns false'. Refute it at one input. -/
def fnLevelPlainWrong : ChangeSpec := { name := "fnLevelPlain", fn := fun _ => fun
  | [d] => { results := [.lit (.bool false)], args := [d] }
  | _ => none }
def FnLevelPlainWrongFalsely : Prop := fnLevelPlainRow.holds Try.pinned (OpenSpec.ofChange fnLevelPlainWrong)

/-- 'laws.FnExactClusterWide': WHATEVER THE INPUT: true; the input reads as it did. -/
def fnExactClusterWideSpec : ChangeSpec := { name := "fnExactClusterWide", fn := fun _ => fun
  | [d1, d2] => { results := [.lit (.bool true)], args := [d1, d2] }
  | _ => none }
def fnExactClusterWideRow : OpenClaim := { program := "ytgcjhenfggcbmaa", sum := "decec6459e8811ef6453c702f62c3a001bb7d7fa6cce43b3d900cdce5625a23b", func := "loop.example/colophon/laws.FnExactClusterWide", spec := "fnExactClusterWide", unfollowed := true, recurses := true, apart := false }
def FnExactClusterWideSaid : Prop := fnExactClusterWideRow.holds Try.pinned (OpenSpec.ofChange fnExactClusterWideSpec)

/-- ITS FALSE NEIGHBOUR: 'it returns false'. Refute it at one input. -/
def fnExactClusterWideWrong : ChangeSpec := { name := "fnExactClusterWide", fn := fun _ => fun
  | [d1, d2] => { results := [.lit (.bool false)], args := [d1, d2] }
  | _ => none }
def FnExactClusterWideWrongFalsely : Prop := fnExactClusterWideRow.holds Try.pinned (OpenSpec.ofChange fnExactClusterWideWrong)

/-- 'laws.FnLevelBase': WHATEVER THE INPUT: true; the input reads as it did. -/
def fnLevelBaseSpec : ChangeSpec := { name := "fnLevelBase", fn := fun _ => fun
  | [d] => { results := [.lit (.bool true)], args := [d] }
  | _ => none }
def fnLevelBaseRow : OpenClaim := { program := "ytgcjhenfggcbmaa", sum := "decec6459e8811ef6453c702f62c3a001bb7d7fa6cce43b3d900cdce5625a23b", func := "loop.example/colophon/laws.FnLevelBase", spec := "fnLevelBase", unfollowed := true, recurses := true, apart := false }
def FnLevelBaseSaid : Prop := fnLevelBaseRow.holds Try.pinned (OpenSpec.ofChange fnLevelBaseSpec)

/-- ITS FALSE NEIGHBOUR: 'it returns false'. Refute it at one input. -/
def fnLevelBaseWrong : ChangeSpec := { name := "fnLevelBase", fn := fun _ => fun
  | [d] => { results := [.lit (.bool false)], args := [d] }
  | _ => none }
def FnLevelBaseWrongFalsely : Prop := fnLevelBaseRow.holds Try.pinned (OpenSpec.ofChange fnLevelBaseWrong)

/-- 'laws.FnClusters': WHATEVER THE INPUT: true; the input reads as it did. -/
def fnClustersSpec : ChangeSpec := { name := "fnClusters", fn := fun _ => fun
  | [d] => { results := [.lit (.bool true)], args := [d] }
  | _ => none }
def fnClustersRow : OpenClaim := { program := "ytgcjhenfggcbmaa", sum := "decec6459e8811ef6453c702f62c3a001bb7d7fa6cce43b3d900cdce5625a23b", func := "loop.example/colophon/laws.FnClusters", spec := "fnClusters", unfollowed := true, recurses := true, apart := false }
def FnClustersSaid : Prop := fnClustersRow.holds Try.pinned (OpenSpec.ofChange fnClustersSpec)

/-- ITS FALSE NEIGHBOUR: 'it returns false'. Refute it at one input. -/
def fnClustersWrong : ChangeSpec := { name := "fnClusters", fn := fun _ => fun
  | [d] => { results := [.lit (.bool false)], args := [d] }
  | _ => none }
def FnClustersWrongFalsely : Prop := fnClustersRow.holds Try.pinned (OpenSpec.ofChange fnClustersWrong)

/- THE SECOND FORM. 'bulk': how many values and letters a reading holds, each counted each time it is reached (what is shared counts as often as it is met; a slice's spare places count too). A statement '..UptoSaid' is the law's where the arguments, and the package variables that the reading takes, are together of bulk at most 1048576: NARROWER than '..Said'. Prove '..Said' where nothing that the law and all that it calls make is longer than what came in: it says more and counts as full. Else prove '..UptoSaid'. A law counts once. -/
mutual
def uptoBulk {H : Type} : DataW H → Nat
  | .lit (.string bytes) => bytes.length + 1
  | .lit _ => 1
  | .nil => 1
  | .ptr d => uptoBulk d + 1
  | .slice elems spare => uptoBulkAll elems + uptoBulkAll spare + 1
  | .agg parts => uptoBulkAll parts + 1
  | .iface _ d => uptoBulk d + 1
  | .map entries => uptoBulkEntries entries + 1
  | .held _ => 1
def uptoBulkAll {H : Type} : List (DataW H) → Nat
  | [] => 0
  | d :: r => uptoBulk d + uptoBulkAll r
def uptoBulkEntries {H : Type} : List (Lit × DataW H) → Nat
  | [] => 0
  | x :: r => uptoBulkEntry x + uptoBulkEntries r
def uptoBulkEntry {H : Type} : Lit × DataW H → Nat
  | (.string bytes, d) => bytes.length + uptoBulk d + 1
  | (_, d) => uptoBulk d + 1
 end
def uptoSmall : (H : Type) → List (DataW H) → Bool := fun _ ds => decide (uptoBulkAll ds ≤ 1048576)
def OpenSpec.upto (s : _root_.Go.ChangeSpec) : _root_.Go.OpenSpec := { _root_.Go.OpenSpec.ofChange s with cond := some uptoSmall }

/-- 'laws.FnSpansPut', WHERE WHAT IT READS IS OF BULK AT MOST 1048576: true; the input reads as it did. -/
def fnSpansPutUptoRow : OpenClaim := { program := "ytgcjhenfggcbmaa", sum := "decec6459e8811ef6453c702f62c3a001bb7d7fa6cce43b3d900cdce5625a23b", func := "loop.example/colophon/laws.FnSpansPut", spec := "fnSpansPut", unfollowed := true, recurses := true, apart := false, narrowed := true }
def FnSpansPutUptoSaid : Prop := fnSpansPutUptoRow.holds Try.pinned (OpenSpec.upto fnSpansPutSpec)

/-- 'laws.FnExactClusterAt', WHERE WHAT IT READS IS OF BULK AT MOST 1048576: true; the input reads as it did. -/
def fnExactClusterAtUptoRow : OpenClaim := { program := "ytgcjhenfggcbmaa", sum := "decec6459e8811ef6453c702f62c3a001bb7d7fa6cce43b3d900cdce5625a23b", func := "loop.example/colophon/laws.FnExactClusterAt", spec := "fnExactClusterAt", unfollowed := true, recurses := true, apart := false, narrowed := true }
def FnExactClusterAtUptoSaid : Prop := fnExactClusterAtUptoRow.holds Try.pinned (OpenSpec.upto fnExactClusterAtSpec)

/-- 'laws.FnExactLevelBase', WHERE WHAT IT READS IS OF BULK AT MOST 1048576: true; the input reads as it did. -/
def fnExactLevelBaseUptoRow : OpenClaim := { program := "ytgcjhenfggcbmaa", sum := "decec6459e8811ef6453c702f62c3a001bb7d7fa6cce43b3d900cdce5625a23b", func := "loop.example/colophon/laws.FnExactLevelBase", spec := "fnExactLevelBase", unfollowed := true, recurses := true, apart := false, narrowed := true }
def FnExactLevelBaseUptoSaid : Prop := fnExactLevelBaseUptoRow.holds Try.pinned (OpenSpec.upto fnExactLevelBaseSpec)

/-- 'laws.FnRuneTables', WHERE WHAT IT READS IS OF BULK AT MOST 1048576: true; the input reads as it did. -/
def fnRuneTablesUptoRow : OpenClaim := { program := "ytgcjhenfggcbmaa", sum := "decec6459e8811ef6453c702f62c3a001bb7d7fa6cce43b3d900cdce5625a23b", func := "loop.example/colophon/laws.FnRuneTables", spec := "fnRuneTables", unfollowed := true, recurses := true, apart := false, narrowed := true }
def FnRuneTablesUptoSaid : Prop := fnRuneTablesUptoRow.holds Try.pinned (OpenSpec.upto fnRuneTablesSpec)

/-- 'laws.FnExactClusterStarts', WHERE WHAT IT READS IS OF BULK AT MOST 1048576: true; the input reads as it did. -/
def fnExactClusterStartsUptoRow : OpenClaim := { program := "ytgcjhenfggcbmaa", sum := "decec6459e8811ef6453c702f62c3a001bb7d7fa6cce43b3d900cdce5625a23b", func := "loop.example/colophon/laws.FnExactClusterStarts", spec := "fnExactClusterStarts", unfollowed := true, recurses := true, apart := false, narrowed := true }
def FnExactClusterStartsUptoSaid : Prop := fnExactClusterStartsUptoRow.holds Try.pinned (OpenSpec.upto fnExactClusterStartsSpec)

/-- 'laws.FnExactLineWide', WHERE WHAT IT READS IS OF BULK AT MOST 1048576: true; the input reads as it did. -/
def fnExactLineWideUptoRow : OpenClaim := { program := "ytgcjhenfggcbmaa", sum := "decec6459e8811ef6453c702f62c3a001bb7d7fa6cce43b3d900cdce5625a23b", func := "loop.example/colophon/laws.FnExactLineWide", spec := "fnExactLineWide", unfollowed := true, recurses := true, apart := false, narrowed := true }
def FnExactLineWideUptoSaid : Prop := fnExactLineWideUptoRow.holds Try.pinned (OpenSpec.upto fnExactLineWideSpec)

/-- 'laws.FnLevelPlain', WHERE WHAT IT READS IS OF BULK AT MOST 1048576: true; the input reads as it did. -/
def fnLevelPlainUptoRow : OpenClaim := { program := "ytgcjhenfggcbmaa", sum := "decec6459e8811ef6453c702f62c3a001bb7d7fa6cce43b3d900cdce5625a23b", func := "loop.example/colophon/laws.FnLevelPlain", spec := "fnLevelPlain", unfollowed := true, recurses := true, apart := false, narrowed := true }
def FnLevelPlainUptoSaid : Prop := fnLevelPlainUptoRow.holds Try.pinned (OpenSpec.upto fnLevelPlainSpec)

/-- 'laws.FnExactClusterWide', WHERE WHAT IT READS IS OF BULK AT MOST 1048576: true; the input reads as it did. -/
def fnExactClusterWideUptoRow : OpenClaim := { program := "ytgcjhenfggcbmaa", sum := "decec6459e8811ef6453c702f62c3a001bb7d7fa6cce43b3d900cdce5625a23b", func := "loop.example/colophon/laws.FnExactClusterWide", spec := "fnExactClusterWide", unfollowed := true, recurses := true, apart := false, narrowed := true }
def FnExactClusterWideUptoSaid : Prop := fnExactClusterWideUptoRow.holds Try.pinned (OpenSpec.upto fnExactClusterWideSpec)

/-- 'laws.FnLevelBase', WHERE WHAT IT READS IS OF BULK AT MOST 1048576: true; the input reads as it did. -/
def fnLevelBaseUptoRow : OpenClaim := { program := "ytgcjhenfggcbmaa", sum := "decec6459e8811ef6453c702f62c3a001bb7d7fa6cce43b3d900cdce5625a23b", func := "loop.example/colophon/laws.FnLevelBase", spec := "fnLevelBase", unfollowed := true, recurses := true, apart := false, narrowed := true }
def FnLevelBaseUptoSaid : Prop := fnLevelBaseUptoRow.holds Try.pinned (OpenSpec.upto fnLevelBaseSpec)

/-- 'laws.FnClusters', WHERE WHAT IT READS IS OF BULK AT MOST 1048576: true; the input reads as it did. -/
def fnClustersUptoRow : OpenClaim := { program := "ytgcjhenfggcbmaa", sum := "decec6459e8811ef6453c702f62c3a001bb7d7fa6cce43b3d900cdce5625a23b", func := "loop.example/colophon/laws.FnClusters", spec := "fnClusters", unfollowed := true, recurses := true, apart := false, narrowed := true }
def FnClustersUptoSaid : Prop := fnClustersUptoRow.holds Try.pinned (OpenSpec.upto fnClustersSpec)

end Rows
end Go.Proofs.Ytgcjhenfggcbmaa
