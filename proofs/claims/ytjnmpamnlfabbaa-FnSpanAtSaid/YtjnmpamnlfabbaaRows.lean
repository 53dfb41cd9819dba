/-
  No cell of these rows narrows 'for every input' (looked for: loops, veiled, ifaces, maps, wideKeys, modest, calm, conditions, laid).
  DERIVED. THE GIVEN ROWS OF THIS SEAT. 12 by the template 'for every input the law returns true; each argument reads behind the call as it read before'; 0 by the template 'total and deterministic' (their statements: YtjnmpamnlfabbaaTotals.lean).
  GIVEN WITH THE SEED: the statements are not yours to turn. If you find one false, say at which input.
  Laid BY PROGRAM, IN A SANDBOX (cutbox-rows.mjs): the forced cells as the released guide's own fill.sh prints them over the translation f653670ecaf0bc9e… (all of the seat's roots in one cut). By AI agents, Wed Nov 11 2026. No macro, syntax, notation, axiom, sorry.
-/
import Derived.Test.YtjnmpamnlfabbaaChecked
import GoSem.Claim
import GoSem.ClaimJoined
import GoSem.ClaimMapViews
import Derived.JoinedTies
import Derived.KernelRfl
namespace Go.Proofs.Ytjnmpamnlfabbaa
/- THE CELL 'sum', in the pinned program and in every row, IS THE sha256 OF THE DUMP (.gsa) THAT YtjnmpamnlfabbaaProg.lean LOADS. Nothing in Lean hashes anything: it is a label: what it is worth is what the hold of that sum in a sandbox is worth. -/
noncomputable def Try.pinned : Pinned := { name := "ytjnmpamnlfabbaa", sum := "f653670ecaf0bc9ee358422547a355058a7f2695a13317fe7e4d38a2f24ed8b9", checked := Try.checked }
namespace Rows
def none {H : Type} : Left H := { results := [], args := [] }

/-- 'laws.FnExactConstants': WHATEVER THE INPUT: true; the input reads as it did. -/
def fnExactConstantsSpec : ChangeSpec := { name := "fnExactConstants", fn := fun _ => fun
  | [] => { results := [.lit (.bool true)], args := [] }
  | _ => none }
def fnExactConstantsRow : OpenClaim := { program := "ytjnmpamnlfabbaa", sum := "f653670ecaf0bc9ee358422547a355058a7f2695a13317fe7e4d38a2f24ed8b9", func := "loop.example/colophon/laws.FnExactConstants", spec := "fnExactConstants", apart := false }
def FnExactConstantsSaid : Prop := fnExactConstantsRow.holds Try.pinned (OpenSpec.ofChange fnExactConstantsSpec)

/-- ITS FALSE NEIGHBOUR: 'it returns false'. Refute it at one input. -/
def fnExactConstantsWrong : ChangeSpec := { name := "fnExactConstants", fn := fun _ => fun
  | [] => { results := [.lit (.bool false)], args := [] }
  | _ => none }
def FnExactConstantsWrongFalsely : Prop := fnExactConstantsRow.holds Try.pinned (OpenSpec.ofChange fnExactConstantsWrong)

/-- 'laws.FnExactRuneMate': WHATEVER THE INPUT: true; the input reads as it did. -/
def fnExactRuneMateSpec : ChangeSpec := { name := "fnExactRuneMate", fn := fun _ => fun
  | [d] => { results := [.lit (.bool true)], args := [d] }
  | _ => none }
def fnExactRuneMateRow : OpenClaim := { program := "ytjnmpamnlfabbaa", sum := "f653670ecaf0bc9ee358422547a355058a7f2695a13317fe7e4d38a2f24ed8b9", func := "loop.example/colophon/laws.FnExactRuneMate", spec := "fnExactRuneMate", apart := false }
def FnExactRuneMateSaid : Prop := fnExactRuneMateRow.holds Try.pinned (OpenSpec.ofChange fnExactRuneMateSpec)

/-- ITS FALSE NEIGHBOUR: 'it returns false'. Refute it at one input. -/
def fnExactRuneMateWrong : ChangeSpec := { name := "fnExactRuneMate", fn := fun _ => fun
  | [d] => { results := [.lit (.bool false)], args := [d] }
  | _ => none }
def FnExactRuneMateWrongFalsely : Prop := fnExactRuneMateRow.holds Try.pinned (OpenSpec.ofChange fnExactRuneMateWrong)

/-- 'laws.FnExactRuneMirror': WHATEVER THE INPUT: true; the input reads as it did. -/
def fnExactRuneMirrorSpec : ChangeSpec := { name := "fnExactRuneMirror", fn := fun _ => fun
  | [d] => { results := [.lit (.bool true)], args := [d] }
  | _ => none }
def fnExactRuneMirrorRow : OpenClaim := { program := "ytjnmpamnlfabbaa", sum := "f653670ecaf0bc9ee358422547a355058a7f2695a13317fe7e4d38a2f24ed8b9", func := "loop.example/colophon/laws.FnExactRuneMirror", spec := "fnExactRuneMirror", apart := false }
def FnExactRuneMirrorSaid : Prop := fnExactRuneMirrorRow.holds Try.pinned (OpenSpec.ofChange fnExactRuneMirrorSpec)

/-- ITS FALSE NEIGHBOUR: 'it returns false'. Refute it at one input. -/
def fnExactRuneMirrorWrong : ChangeSpec := { name := "fnExactRuneMirror", fn := fun _ => fun
  | [d] => { results := [.lit (.bool false)], args := [d] }
  | _ => none }
def FnExactRuneMirrorWrongFalsely : Prop := fnExactRuneMirrorRow.holds Try.pinned (OpenSpec.ofChange fnExactRuneMirrorWrong)

/-- 'laws.FnExactSpansOk': WHATEVER THE INPUT: true; the input reads as it did. -/
def fnExactSpansOkSpec : ChangeSpec := { name := "fnExactSpansOk", fn := fun _ => fun
  | [d1, d2] => { results := [.lit (.bool true)], args := [d1, d2] }
  | _ => none }
def fnExactSpansOkRow : OpenClaim := { program := "ytjnmpamnlfabbaa", sum := "f653670ecaf0bc9ee358422547a355058a7f2695a13317fe7e4d38a2f24ed8b9", func := "loop.example/colophon/laws.FnExactSpansOk", spec := "fnExactSpansOk", apart := false }
def FnExactSpansOkSaid : Prop := fnExactSpansOkRow.holds Try.pinned (OpenSpec.ofChange fnExactSpansOkSpec)

/-- ITS FALSE NEIGHBOUR: 'it returns false'. Refute it at one input. -/
def fnExactSpansOkWrong : ChangeSpec := { name := "fnExactSpansOk", fn := fun _ => fun
  | [d1, d2] => { results := [.lit (.bool false)], args := [d1, d2] }
  | _ => none }
def FnExactSpansOkWrongFalsely : Prop := fnExactSpansOkRow.holds Try.pinned (OpenSpec.ofChange fnExactSpansOkWrong)

/-- 'laws.FnRuns': WHATEVER THE INPUT: true; the input reads as it did. -/
def fnRunsSpec : ChangeSpec := { name := "fnRuns", fn := fun _ => fun
  | [d] => { results := [.lit (.bool true)], args := [d] }
  | _ => none }
def fnRunsRow : OpenClaim := { program := "ytjnmpamnlfabbaa", sum := "f653670ecaf0bc9ee358422547a355058a7f2695a13317fe7e4d38a2f24ed8b9", func := "loop.example/colophon/laws.FnRuns", spec := "fnRuns", unfollowed := true, recurses := true, apart := false }
def FnRunsSaid : Prop := fnRunsRow.holds Try.pinned (OpenSpec.ofChange fnRunsSpec)

/-- ITS FALSE NEIGHBOUR: 'it returns false'. Refute it at one input. -/
def fnRunsWrong : ChangeSpec := { name := "fnRuns", fn := fun _ => fun
  | [d] => { results := [.lit (.bool false)], args := [d] }
  | _ => none }
def FnRunsWrongFalsely : Prop := fnRunsRow.holds Try.pinned (OpenSpec.ofChange fnRunsWrong)

/-- 'laws.FnExactSpanAt': WHATEVER THE INPUT: true; the input reads as it did. -/
def fnExactSpanAtSpec : ChangeSpec := { name := "fnExactSpanAt", fn := fun _ => fun
  | [d1, d2] => { results := [.lit (.bool true)], args := [d1, d2] }
  | _ => none }
def fnExactSpanAtRow : OpenClaim := { program := "ytjnmpamnlfabbaa", sum := "f653670ecaf0bc9ee358422547a355058a7f2695a13317fe7e4d38a2f24ed8b9", func := "loop.example/colophon/laws.FnExactSpanAt", spec := "fnExactSpanAt", apart := false }
def FnExactSpanAtSaid : Prop := fnExactSpanAtRow.holds Try.pinned (OpenSpec.ofChange fnExactSpanAtSpec)

/-- ITS FALSE NEIGHBOUR: 'it returns false'. Refute it at one input. -/
def fnExactSpanAtWrong : ChangeSpec := { name := "fnExactSpanAt", fn := fun _ => fun
  | [d1, d2] => { results := [.lit (.bool false)], args := [d1, d2] }
  | _ => none }
def FnExactSpanAtWrongFalsely : Prop := fnExactSpanAtRow.holds Try.pinned (OpenSpec.ofChange fnExactSpanAtWrong)

/-- 'laws.FnExactUtf8Put': WHATEVER THE INPUT: true; the input reads as it did. -/
def fnExactUtf8PutSpec : ChangeSpec := { name := "fnExactUtf8Put", fn := fun _ => fun
  | [d] => { results := [.lit (.bool true)], args := [d] }
  | _ => none }
def fnExactUtf8PutRow : OpenClaim := { program := "ytjnmpamnlfabbaa", sum := "f653670ecaf0bc9ee358422547a355058a7f2695a13317fe7e4d38a2f24ed8b9", func := "loop.example/colophon/laws.FnExactUtf8Put", spec := "fnExactUtf8Put", unfollowed := true, recurses := true, apart := false }
def FnExactUtf8PutSaid : Prop := fnExactUtf8PutRow.holds Try.pinned (OpenSpec.ofChange fnExactUtf8PutSpec)

/-- ITS FALSE NEIGHBOUR: 'it returns false'. Refute it at one input. -/
def fnExactUtf8PutWrong : ChangeSpec := { name := "fnExactUtf8Put", fn := fun _ => fun
  | [d] => { results := [.lit (.bool false)], args := [d] }
  | _ => none }
def FnExactUtf8PutWrongFalsely : Prop := fnExactUtf8PutRow.holds Try.pinned (OpenSpec.ofChange fnExactUtf8PutWrong)

/-- 'laws.FnExactRuneBidi': WHATEVER THE INPUT: true; the input reads as it did. -/
def fnExactRuneBidiSpec : ChangeSpec := { name := "fnExactRuneBidi", fn := fun _ => fun
  | [d] => { results := [.lit (.bool true)], args := [d] }
  | _ => none }
def fnExactRuneBidiRow : OpenClaim := { program := "ytjnmpamnlfabbaa", sum := "f653670ecaf0bc9ee358422547a355058a7f2695a13317fe7e4d38a2f24ed8b9", func := "loop.example/colophon/laws.FnExactRuneBidi", spec := "fnExactRuneBidi", unfollowed := true, recurses := true, apart := false }
def FnExactRuneBidiSaid : Prop := fnExactRuneBidiRow.holds Try.pinned (OpenSpec.ofChange fnExactRuneBidiSpec)

/-- ITS FALSE NEIGHBOUR: 'it returns false'. Refute it at one input. -/
def fnExactRuneBidiWrong : ChangeSpec := { name := "fnExactRuneBidi", fn := fun _ => fun
  | [d] => { results := [.lit (.bool false)], args := [d] }
  | _ => none }
def FnExactRuneBidiWrongFalsely : Prop := fnExactRuneBidiRow.holds Try.pinned (OpenSpec.ofChange fnExactRuneBidiWrong)

/-- 'laws.FnSpanAt': WHATEVER THE INPUT: true; the input reads as it did. -/
def fnSpanAtSpec : ChangeSpec := { name := "fnSpanAt", fn := fun _ => fun
  | [d] => { results := [.lit (.bool true)], args := [d] }
  | _ => none }
def fnSpanAtRow : OpenClaim := { program := "ytjnmpamnlfabbaa", sum := "f653670ecaf0bc9ee358422547a355058a7f2695a13317fe7e4d38a2f24ed8b9", func := "loop.example/colophon/laws.FnSpanAt", spec := "fnSpanAt", apart := false }
def FnSpanAtSaid : Prop := fnSpanAtRow.holds Try.pinned (OpenSpec.ofChange fnSpanAtSpec)

/-- ITS FALSE NEIGHBOUR: 'it returns false'. Refute it at one input. -/
def fnSpanAtWrong : ChangeSpec := { name := "fnSpanAt", fn := fun _ => fun
  | [d] => { results := [.lit (.bool false)], args := [d] }
  | _ => none }
def FnSpanAtWrongFalsely : Prop := fnSpanAtRow.holds Try.pinned (OpenSpec.ofChange fnSpanAtWrong)

/-- 'laws.FnExactOrderOf': WHATEVER THE INPUT: true; the input reads as it did. -/
def fnExactOrderOfSpec : ChangeSpec := { name := "fnExactOrderOf", fn := fun _ => fun
  | [d] => { results := [.lit (.bool true)], args := [d] }
  | _ => none }
def fnExactOrderOfRow : OpenClaim := { program := "ytjnmpamnlfabbaa", sum := "f653670ecaf0bc9ee358422547a355058a7f2695a13317fe7e4d38a2f24ed8b9", func := "loop.example/colophon/laws.FnExactOrderOf", spec := "fnExactOrderOf", unfollowed := true, recurses := true, apart := false }
def FnExactOrderOfSaid : Prop := fnExactOrderOfRow.holds Try.pinned (OpenSpec.ofChange fnExactOrderOfSpec)

/-- ITS FALSE NEIGHBOUR: 'it returns false'. Refute it at one input. -/
def fnExactOrderOfWrong : ChangeSpec := { name := "fnExactOrderOf", fn := fun _ => fun
  | [d] => { results := [.lit (.bool false)], args := [d] }
  | _ => none }
def FnExactOrderOfWrongFalsely : Prop := fnExactOrderOfRow.holds Try.pinned (OpenSpec.ofChange fnExactOrderOfWrong)

/-- 'laws.FnExactRunsOf': WHATEVER THE INPUT: true; the input reads as it did. -/
def fnExactRunsOfSpec : ChangeSpec := { name := "fnExactRunsOf", fn := fun _ => fun
  | [d] => { results := [.lit (.bool true)], args := [d] }
  | _ => none }
def fnExactRunsOfRow : OpenClaim := { program := "ytjnmpamnlfabbaa", sum := "f653670ecaf0bc9ee358422547a355058a7f2695a13317fe7e4d38a2f24ed8b9", func := "loop.example/colophon/laws.FnExactRunsOf", spec := "fnExactRunsOf", unfollowed := true, recurses := true, apart := false }
def FnExactRunsOfSaid : Prop := fnExactRunsOfRow.holds Try.pinned (OpenSpec.ofChange fnExactRunsOfSpec)

/-- ITS FALSE NEIGHBOUR: 'it returns false'. Refute it at one input. -/
def fnExactRunsOfWrong : ChangeSpec := { name := "fnExactRunsOf", fn := fun _ => fun
  | [d] => { results := [.lit (.bool false)], args := [d] }
  | _ => none }
def FnExactRunsOfWrongFalsely : Prop := fnExactRunsOfRow.holds Try.pinned (OpenSpec.ofChange fnExactRunsOfWrong)

/-- 'laws.FnRuneMirror': WHATEVER THE INPUT: true; the input reads as it did. -/
def fnRuneMirrorSpec : ChangeSpec := { name := "fnRuneMirror", fn := fun _ => fun
  | [d] => { results := [.lit (.bool true)], args := [d] }
  | _ => none }
def fnRuneMirrorRow : OpenClaim := { program := "ytjnmpamnlfabbaa", sum := "f653670ecaf0bc9ee358422547a355058a7f2695a13317fe7e4d38a2f24ed8b9", func := "loop.example/colophon/laws.FnRuneMirror", spec := "fnRuneMirror", unfollowed := true, recurses := true, apart := false }
def FnRuneMirrorSaid : Prop := fnRuneMirrorRow.holds Try.pinned (OpenSpec.ofChange fnRuneMirrorSpec)

/-- ITS FALSE NEIGHBOUR: 'it returns false'. Refute it at one input. -/
def fnRuneMirrorWrong : ChangeSpec := { name := "fnRuneMirror", fn := fun _ => fun
  | [d] => { results := [.lit (.bool false)], args := [d] }
  | _ => none }
def FnRuneMirrorWrongFalsely : Prop := fnRuneMirrorRow.holds Try.pinned (OpenSpec.ofChange fnRuneMirrorWrong)

/- THE SECOND FORM. 'bulk': how many values and letters a reading holds, each counted each time it is reached (what is shared counts as often as it is met; a slice's spare places count too). A statement '..UptoSaid' is the law's where the arguments, and the package variables that the reading takes, are together of bulk at most 1048576: NARROWER than '..Said'. Prove '..Said' where nothing that the law and all that it calls make is longer than what came in: it says more and counts as full. Else prove '..UptoSaid'. A law counts once. -/
mutual
def uptoBulk {H : Type} : DataW H → Nat
  | .lit (.string bytes) => bytes.length + 1
  | .lit _ => 1
  | .nil => 1
  | .ptr d => uptoBulk d + 1
  | .slice elems spare => uptoBulkAll elems + uptoBulkAll spare + 1
  | .agg parts => uptoBulkAll parts + 1
  | .iface _ d => uptoBulk d + 1
  | .map entries => uptoBulkEntries entries + 1
  | .held _ => 1
def uptoBulkAll {H : Type} : List (DataW H) → Nat
  | [] => 0
  | d :: r => uptoBulk d + uptoBulkAll r
def uptoBulkEntries {H : Type} : List (Lit × DataW H) → Nat
  | [] => 0
  | x :: r => uptoBulkEntry x + uptoBulkEntries r
def uptoBulkEntry {H : Type} : Lit × DataW H → Nat
  | (.string bytes, d) => bytes.length + uptoBulk d + 1
  | (_, d) => uptoBulk d + 1
 end
def uptoSmall : (H : Type) → List (DataW H) → Bool := fun _ ds => decide (uptoBulkAll ds ≤ 1048576)
def OpenSpec.upto (s : _root_.Go.ChangeSpec) : _root_.Go.OpenSpec := { _root_.Go.OpenSpec.ofChange s with cond := some uptoSmall }

/-- 'laws.FnExactConstants', WHERE WHAT IT READS IS OF BULK AT MOST 1048576: true; the input reads as it did. -/
def fnExactConstantsUptoRow : OpenClaim := { program := "ytjnmpamnlfabbaa", sum := "f653670ecaf0bc9ee358422547a355058a7f2695a13317fe7e4d38a2f24ed8b9", func := "loop.example/colophon/laws.FnExactConstants", spec := "fnExactConstants", apart := false, narrowed := true }
def FnExactConstantsUptoSaid : Prop := fnExactConstantsUptoRow.holds Try.pinned (OpenSpec.upto fnExactConstantsSpec)

/-- 'laws.FnExactRuneMate', WHERE WHAT IT READS IS OF BULK AT MOST 1048576: true; the input reads as it did. -/
def fnExactRuneMateUptoRow : OpenClaim := { program := "ytjnmpamnlfabbaa", sum := "f653670ecaf0bc9ee358422547a355058a7f2695a13317fe7e4d38a2f24ed8b9", func := "loop.example/colophon/laws.FnExactRuneMate", spec := "fnExactRuneMate", apart := false, narrowed := true }
def FnExactRuneMateUptoSaid : Prop := fnExactRuneMateUptoRow.holds Try.pinned (OpenSpec.upto fnExactRuneMateSpec)

/-- 'laws.FnExactRuneMirror', WHERE WHAT IT READS IS OF BULK AT MOST 1048576: true; the input reads as it did. -/
def fnExactRuneMirrorUptoRow : OpenClaim := { program := "ytjnmpamnlfabbaa", sum := "f653670ecaf0bc9ee358422547a355058a7f2695a13317fe7e4d38a2f24ed8b9", func := "loop.example/colophon/laws.FnExactRuneMirror", spec := "fnExactRuneMirror", apart := false, narrowed := true }
def FnExactRuneMirrorUptoSaid : Prop := fnExactRuneMirrorUptoRow.holds Try.pinned (OpenSpec.upto fnExactRuneMirrorSpec)

/-- 'laws.FnExactSpansOk', WHERE WHAT IT READS IS OF BULK AT MOST 1048576: true; the input reads as it did. -/
def fnExactSpansOkUptoRow : OpenClaim := { program := "ytjnmpamnlfabbaa", sum := "f653670ecaf0bc9ee358422547a355058a7f2695a13317fe7e4d38a2f24ed8b9", func := "loop.example/colophon/laws.FnExactSpansOk", spec := "fnExactSpansOk", apart := false, narrowed := true }
def FnExactSpansOkUptoSaid : Prop := fnExactSpansOkUptoRow.holds Try.pinned (OpenSpec.upto fnExactSpansOkSpec)

/-- 'laws.FnRuns', WHERE WHAT IT READS IS OF BULK AT MOST 1048576: true; the input reads as it did. -/
def fnRunsUptoRow : OpenClaim := { program := "ytjnmpamnlfabbaa", sum := "f653670ecaf0bc9ee358422547a355058a7f2695a13317fe7e4d38a2f24ed8b9", func := "loop.example/colophon/laws.FnRuns", spec := "fnRuns", unfollowed := true, recurses := true, apart := false, narrowed := true }
def FnRunsUptoSaid : Prop := fnRunsUptoRow.holds Try.pinned (OpenSpec.upto fnRunsSpec)

/-- 'laws.FnExactSpanAt', WHERE WHAT IT READS IS OF BULK AT MOST 1048576: true; the input reads as it did. -/
def fnExactSpanAtUptoRow : OpenClaim := { program := "ytjnmpamnlfabbaa", sum := "f653670ecaf0bc9ee358422547a355058a7f2695a13317fe7e4d38a2f24ed8b9", func := "loop.example/colophon/laws.FnExactSpanAt", spec := "fnExactSpanAt", apart := false, narrowed := true }
def FnExactSpanAtUptoSaid : Prop := fnExactSpanAtUptoRow.holds Try.pinned (OpenSpec.upto fnExactSpanAtSpec)

/-- 'laws.FnExactUtf8Put', WHERE WHAT IT READS IS OF BULK AT MOST 1048576: true; the input reads as it did. -/
def fnExactUtf8PutUptoRow : OpenClaim := { program := "ytjnmpamnlfabbaa", sum := "f653670ecaf0bc9ee358422547a355058a7f2695a13317fe7e4d38a2f24ed8b9", func := "loop.example/colophon/laws.FnExactUtf8Put", spec := "fnExactUtf8Put", unfollowed := true, recurses := true, apart := false, narrowed := true }
def FnExactUtf8PutUptoSaid : Prop := fnExactUtf8PutUptoRow.holds Try.pinned (OpenSpec.upto fnExactUtf8PutSpec)

/-- 'laws.FnExactRuneBidi', WHERE WHAT IT READS IS OF BULK AT MOST 1048576: true; the input reads as it did. -/
def fnExactRuneBidiUptoRow : OpenClaim := { program := "ytjnmpamnlfabbaa", sum := "f653670ecaf0bc9ee358422547a355058a7f2695a13317fe7e4d38a2f24ed8b9", func := "loop.example/colophon/laws.FnExactRuneBidi", spec := "fnExactRuneBidi", unfollowed := true, recurses := true, apart := false, narrowed := true }
def FnExactRuneBidiUptoSaid : Prop := fnExactRuneBidiUptoRow.holds Try.pinned (OpenSpec.upto fnExactRuneBidiSpec)

/-- 'laws.FnSpanAt', WHERE WHAT IT READS IS OF BULK AT MOST 1048576: true; the input reads as it did. -/
def fnSpanAtUptoRow : OpenClaim := { program := "ytjnmpamnlfabbaa", sum := "f653670ecaf0bc9ee358422547a355058a7f2695a13317fe7e4d38a2f24ed8b9", func := "loop.example/colophon/laws.FnSpanAt", spec := "fnSpanAt", apart := false, narrowed := true }
def FnSpanAtUptoSaid : Prop := fnSpanAtUptoRow.holds Try.pinned (OpenSpec.upto fnSpanAtSpec)

/-- 'laws.FnExactOrderOf', WHERE WHAT IT READS IS OF BULK AT MOST 1048576: true; the input reads as it did. -/
def fnExactOrderOfUptoRow : OpenClaim := { program := "ytjnmpamnlfabbaa", sum := "f653670ecaf0bc9ee358422547a355058a7f2695a13317fe7e4d38a2f24ed8b9", func := "loop.example/colophon/laws.FnExactOrderOf", spec := "fnExactOrderOf", unfollowed := true, recurses := true, apart := false, narrowed := true }
def FnExactOrderOfUptoSaid : Prop := fnExactOrderOfUptoRow.holds Try.pinned (OpenSpec.upto fnExactOrderOfSpec)

/-- 'laws.FnExactRunsOf', WHERE WHAT IT READS IS OF BULK AT MOST 1048576: true; the input reads as it did. -/
def fnExactRunsOfUptoRow : OpenClaim := { program := "ytjnmpamnlfabbaa", sum := "f653670ecaf0bc9ee358422547a355058a7f2695a13317fe7e4d38a2f24ed8b9", func := "loop.example/colophon/laws.FnExactRunsOf", spec := "fnExactRunsOf", unfollowed := true, recurses := true, apart := false, narrowed := true }
def FnExactRunsOfUptoSaid : Prop := fnExactRunsOfUptoRow.holds Try.pinned (OpenSpec.upto fnExactRunsOfSpec)

/-- 'laws.FnRuneMirror', WHERE WHAT IT READS IS OF BULK AT MOST 1048576: true; the input reads as it did. -/
def fnRuneMirrorUptoRow : OpenClaim := { program := "ytjnmpamnlfabbaa", sum := "f653670ecaf0bc9ee358422547a355058a7f2695a13317fe7e4d38a2f24ed8b9", func := "loop.example/colophon/laws.FnRuneMirror", spec := "fnRuneMirror", unfollowed := true, recurses := true, apart := false, narrowed := true }
def FnRuneMirrorUptoSaid : Prop := fnRuneMirrorUptoRow.holds Try.pinned (OpenSpec.upto fnRuneMirrorSpec)

end Rows
end Go.Proofs.Ytjnmpamnlfabbaa
