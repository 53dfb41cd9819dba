/-
  No cell of these rows narrows 'for every input' (looked for: loops, veiled, ifaces, maps, wideKeys, modest, calm, conditions, laid).
  DERIVED. THE GIVEN ROWS OF THIS SEAT. 11 by the template 'for every input the law returns true; each argument reads behind the call as it read before'; 0 by the template 'total and deterministic' (their statements: YtmjhdgofepdgkaaTotals.lean).
  GIVEN WITH THE SEED: the statements are not yours to turn. If you find one false, say at which input.
  Laid BY PROGRAM, IN A SANDBOX (cutbox-rows.mjs): the forced cells as the released guide's own fill.sh prints them over the translation d78d223cad7f7efe… (all of the seat's roots in one cut). By AI agents, Wed Nov 11 2026. No macro, syntax, notation, axiom, sorry.
-/
import Derived.Test.YtmjhdgofepdgkaaChecked
import GoSem.Claim
import GoSem.ClaimJoined
import GoSem.ClaimMapViews
import Derived.JoinedTies
import Derived.KernelRfl
namespace Go.Proofs.Ytmjhdgofepdgkaa
/- THE CELL 'sum', in the pinned program and in every row, IS THE sha256 OF THE DUMP (.gsa) THAT YtmjhdgofepdgkaaProg.lean LOADS. Nothing in Lean hashes anything: it is a label: what it is worth is what the hold of that sum in a sandbox is worth. -/
noncomputable def Try.pinned : Pinned := { name := "ytmjhdgofepdgkaa", sum := "d78d223cad7f7efede2d394f0e0a04bc01d3ab45a22732c967ce306a381d5c06", checked := Try.checked }
namespace Rows
def none {H : Type} : Left H := { results := [], args := [] }

/-- 'laws.FnExactWidesOf': WHATEVER THE INPUT: true; the input reads as it did. -/
def fnExactWidesOfSpec : ChangeSpec := { name := "fnExactWidesOf", fn := fun _ => fun
  | [d1, d2] => { results := [.lit (.bool true)], args := [d1, d2] }
  | _ => none }
def fnExactWidesOfRow : OpenClaim := { program := "ytmjhdgofepdgkaa", sum := "d78d223cad7f7efede2d394f0e0a04bc01d3ab45a22732c967ce306a381d5c06", func := "loop.example/colophon/laws.FnExactWidesOf", spec := "fnExactWidesOf", unfollowed := true, recurses := true, apart := false }
def FnExactWidesOfSaid : Prop := fnExactWidesOfRow.holds Try.pinned (OpenSpec.ofChange fnExactWidesOfSpec)

/-- ITS FALSE NEIGHBOUR: 'it returns false'. Refute it at one input. -/
def fnExactWidesOfWrong : ChangeSpec := { name := "fnExactWidesOf", fn := fun _ => fun
  | [d1, d2] => { results := [.lit (.bool false)], args := [d1, d2] }
  | _ => none }
def FnExactWidesOfWrongFalsely : Prop := fnExactWidesOfRow.holds Try.pinned (OpenSpec.ofChange fnExactWidesOfWrong)

/-- 'laws.FnWides': WHATEVER THE INPUT: true; the input reads as it did. -/
def fnWidesSpec : ChangeSpec := { name := "fnWides", fn := fun _ => fun
  | [d] => { results := [.lit (.bool true)], args := [d] }
  | _ => none }
def fnWidesRow : OpenClaim := { program := "ytmjhdgofepdgkaa", sum := "d78d223cad7f7efede2d394f0e0a04bc01d3ab45a22732c967ce306a381d5c06", func := "loop.example/colophon/laws.FnWides", spec := "fnWides", unfollowed := true, recurses := true, apart := false }
def FnWidesSaid : Prop := fnWidesRow.holds Try.pinned (OpenSpec.ofChange fnWidesSpec)

/-- ITS FALSE NEIGHBOUR: 'it returns false'. Refute it at one input. -/
def fnWidesWrong : ChangeSpec := { name := "fnWides", fn := fun _ => fun
  | [d] => { results := [.lit (.bool false)], args := [d] }
  | _ => none }
def FnWidesWrongFalsely : Prop := fnWidesRow.holds Try.pinned (OpenSpec.ofChange fnWidesWrong)

/-- 'laws.FnLineWide': WHATEVER THE INPUT: true; the input reads as it did. -/
def fnLineWideSpec : ChangeSpec := { name := "fnLineWide", fn := fun _ => fun
  | [d] => { results := [.lit (.bool true)], args := [d] }
  | _ => none }
def fnLineWideRow : OpenClaim := { program := "ytmjhdgofepdgkaa", sum := "d78d223cad7f7efede2d394f0e0a04bc01d3ab45a22732c967ce306a381d5c06", func := "loop.example/colophon/laws.FnLineWide", spec := "fnLineWide", unfollowed := true, recurses := true, apart := false }
def FnLineWideSaid : Prop := fnLineWideRow.holds Try.pinned (OpenSpec.ofChange fnLineWideSpec)

/-- ITS FALSE NEIGHBOUR: 'it returns false'. Refute it at one input. -/
def fnLineWideWrong : ChangeSpec := { name := "fnLineWide", fn := fun _ => fun
  | [d] => { results := [.lit (.bool false)], args := [d] }
  | _ => none }
def FnLineWideWrongFalsely : Prop := fnLineWideRow.holds Try.pinned (OpenSpec.ofChange fnLineWideWrong)

/-- 'laws.FnExactBreaksOf': WHATEVER THE INPUT: true; the input reads as it did. -/
def fnExactBreaksOfSpec : ChangeSpec := { name := "fnExactBreaksOf", fn := fun _ => fun
  | [d] => { results := [.lit (.bool true)], args := [d] }
  | _ => none }
def fnExactBreaksOfRow : OpenClaim := { program := "ytmjhdgofepdgkaa", sum := "d78d223cad7f7efede2d394f0e0a04bc01d3ab45a22732c967ce306a381d5c06", func := "loop.example/colophon/laws.FnExactBreaksOf", spec := "fnExactBreaksOf", unfollowed := true, recurses := true, apart := false }
def FnExactBreaksOfSaid : Prop := fnExactBreaksOfRow.holds Try.pinned (OpenSpec.ofChange fnExactBreaksOfSpec)

/-- ITS FALSE NEIGHBOUR: 'it returns false'. Refute it at one input. -/
def fnExactBreaksOfWrong : ChangeSpec := { name := "fnExactBreaksOf", fn := fun _ => fun
  | [d] => { results := [.lit (.bool false)], args := [d] }
  | _ => none }
def FnExactBreaksOfWrongFalsely : Prop := fnExactBreaksOfRow.holds Try.pinned (OpenSpec.ofChange fnExactBreaksOfWrong)

/-- 'laws.FnExactWordsOf': WHATEVER THE INPUT: true; the input reads as it did. -/
def fnExactWordsOfSpec : ChangeSpec := { name := "fnExactWordsOf", fn := fun _ => fun
  | [d] => { results := [.lit (.bool true)], args := [d] }
  | _ => none }
def fnExactWordsOfRow : OpenClaim := { program := "ytmjhdgofepdgkaa", sum := "d78d223cad7f7efede2d394f0e0a04bc01d3ab45a22732c967ce306a381d5c06", func := "loop.example/colophon/laws.FnExactWordsOf", spec := "fnExactWordsOf", unfollowed := true, recurses := true, apart := false }
def FnExactWordsOfSaid : Prop := fnExactWordsOfRow.holds Try.pinned (OpenSpec.ofChange fnExactWordsOfSpec)

/-- ITS FALSE NEIGHBOUR: 'it returns false'. Refute it at one input. -/
def fnExactWordsOfWrong : ChangeSpec := { name := "fnExactWordsOf", fn := fun _ => fun
  | [d] => { results := [.lit (.bool false)], args := [d] }
  | _ => none }
def FnExactWordsOfWrongFalsely : Prop := fnExactWordsOfRow.holds Try.pinned (OpenSpec.ofChange fnExactWordsOfWrong)

/-- 'laws.FnBreakWords': WHATEVER THE INPUT: true; the input reads as it did. -/
def fnBreakWordsSpec : ChangeSpec := { name := "fnBreakWords", fn := fun _ => fun
  | [d] => { results := [.lit (.bool true)], args := [d] }
  | _ => none }
def fnBreakWordsRow : OpenClaim := { program := "ytmjhdgofepdgkaa", sum := "d78d223cad7f7efede2d394f0e0a04bc01d3ab45a22732c967ce306a381d5c06", func := "loop.example/colophon/laws.FnBreakWords", spec := "fnBreakWords", unfollowed := true, recurses := true, apart := false }
def FnBreakWordsSaid : Prop := fnBreakWordsRow.holds Try.pinned (OpenSpec.ofChange fnBreakWordsSpec)

/-- ITS FALSE NEIGHBOUR: 'it returns false'. Refute it at one input. -/
def fnBreakWordsWrong : ChangeSpec := { name := "fnBreakWords", fn := fun _ => fun
  | [d] => { results := [.lit (.bool false)], args := [d] }
  | _ => none }
def FnBreakWordsWrongFalsely : Prop := fnBreakWordsRow.holds Try.pinned (OpenSpec.ofChange fnBreakWordsWrong)

/-- 'laws.FnWords': WHATEVER THE INPUT: true; the input reads as it did. -/
def fnWordsSpec : ChangeSpec := { name := "fnWords", fn := fun _ => fun
  | [d] => { results := [.lit (.bool true)], args := [d] }
  | _ => none }
def fnWordsRow : OpenClaim := { program := "ytmjhdgofepdgkaa", sum := "d78d223cad7f7efede2d394f0e0a04bc01d3ab45a22732c967ce306a381d5c06", func := "loop.example/colophon/laws.FnWords", spec := "fnWords", unfollowed := true, recurses := true, apart := false }
def FnWordsSaid : Prop := fnWordsRow.holds Try.pinned (OpenSpec.ofChange fnWordsSpec)

/-- ITS FALSE NEIGHBOUR: 'it returns false'. Refute it at one input. -/
def fnWordsWrong : ChangeSpec := { name := "fnWords", fn := fun _ => fun
  | [d] => { results := [.lit (.bool false)], args := [d] }
  | _ => none }
def FnWordsWrongFalsely : Prop := fnWordsRow.holds Try.pinned (OpenSpec.ofChange fnWordsWrong)

/-- 'laws.FnBreaks': WHATEVER THE INPUT: true; the input reads as it did. -/
def fnBreaksSpec : ChangeSpec := { name := "fnBreaks", fn := fun _ => fun
  | [d] => { results := [.lit (.bool true)], args := [d] }
  | _ => none }
def fnBreaksRow : OpenClaim := { program := "ytmjhdgofepdgkaa", sum := "d78d223cad7f7efede2d394f0e0a04bc01d3ab45a22732c967ce306a381d5c06", func := "loop.example/colophon/laws.FnBreaks", spec := "fnBreaks", unfollowed := true, recurses := true, apart := false }
def FnBreaksSaid : Prop := fnBreaksRow.holds Try.pinned (OpenSpec.ofChange fnBreaksSpec)

/-- ITS FALSE NEIGHBOUR: 'it returns false'. Refute it at one input. -/
def fnBreaksWrong : ChangeSpec := { name := "fnBreaks", fn := fun _ => fun
  | [d] => { results := [.lit (.bool false)], args := [d] }
  | _ => none }
def FnBreaksWrongFalsely : Prop := fnBreaksRow.holds Try.pinned (OpenSpec.ofChange fnBreaksWrong)

/-- 'laws.FnExactLevelMates': WHATEVER THE INPUT: true; the input reads as it did. -/
def fnExactLevelMatesSpec : ChangeSpec := { name := "fnExactLevelMates", fn := fun _ => fun
  | [d1, d2] => { results := [.lit (.bool true)], args := [d1, d2] }
  | _ => none }
def fnExactLevelMatesRow : OpenClaim := { program := "ytmjhdgofepdgkaa", sum := "d78d223cad7f7efede2d394f0e0a04bc01d3ab45a22732c967ce306a381d5c06", func := "loop.example/colophon/laws.FnExactLevelMates", spec := "fnExactLevelMates", unfollowed := true, recurses := true, apart := false }
def FnExactLevelMatesSaid : Prop := fnExactLevelMatesRow.holds Try.pinned (OpenSpec.ofChange fnExactLevelMatesSpec)

/-- ITS FALSE NEIGHBOUR: 'it returns false'. Refute it at one input. -/
def fnExactLevelMatesWrong : ChangeSpec := { name := "fnExactLevelMates", fn := fun _ => fun
  | [d1, d2] => { results := [.lit (.bool false)], args := [d1, d2] }
  | _ => none }
def FnExactLevelMatesWrongFalsely : Prop := fnExactLevelMatesRow.holds Try.pinned (OpenSpec.ofChange fnExactLevelMatesWrong)

/-- 'laws.FnLevelMates': WHATEVER THE INPUT: true; the input reads as it did. -/
def fnLevelMatesSpec : ChangeSpec := { name := "fnLevelMates", fn := fun _ => fun
  | [d] => { results := [.lit (.bool true)], args := [d] }
  | _ => none }
def fnLevelMatesRow : OpenClaim := { program := "ytmjhdgofepdgkaa", sum := "d78d223cad7f7efede2d394f0e0a04bc01d3ab45a22732c967ce306a381d5c06", func := "loop.example/colophon/laws.FnLevelMates", spec := "fnLevelMates", unfollowed := true, recurses := true, apart := false }
def FnLevelMatesSaid : Prop := fnLevelMatesRow.holds Try.pinned (OpenSpec.ofChange fnLevelMatesSpec)

/-- ITS FALSE NEIGHBOUR: 'it returns false'. Refute it at one input. -/
def fnLevelMatesWrong : ChangeSpec := { name := "fnLevelMates", fn := fun _ => fun
  | [d] => { results := [.lit (.bool false)], args := [d] }
  | _ => none }
def FnLevelMatesWrongFalsely : Prop := fnLevelMatesRow.holds Try.pinned (OpenSpec.ofChange fnLevelMatesWrong)

/-- 'laws.FnExactFillCost': WHATEVER THE INPUT: true; the input reads as it did. -/
def fnExactFillCostSpec : ChangeSpec := { name := "fnExactFillCost", fn := fun _ => fun
  | [d1, d2, d3, d4] => { results := [.lit (.bool true)], args := [d1, d2, d3, d4] }
  | _ => none }
def fnExactFillCostRow : OpenClaim := { program := "ytmjhdgofepdgkaa", sum := "d78d223cad7f7efede2d394f0e0a04bc01d3ab45a22732c967ce306a381d5c06", func := "loop.example/colophon/laws.FnExactFillCost", spec := "fnExactFillCost", unfollowed := true, recurses := true, apart := false }
def FnExactFillCostSaid : Prop := fnExactFillCostRow.holds Try.pinned (OpenSpec.ofChange fnExactFillCostSpec)

/-- ITS FALSE NEIGHBOUR: 'it returns false'. Refute it at one input. -/
def fnExactFillCostWrong : ChangeSpec := { name := "fnExactFillCost", fn := fun _ => fun
  | [d1, d2, d3, d4] => { results := [.lit (.bool false)], args := [d1, d2, d3, d4] }
  | _ => none }
def FnExactFillCostWrongFalsely : Prop := fnExactFillCostRow.holds Try.pinned (OpenSpec.ofChange fnExactFillCostWrong)

/- THE SECOND FORM. 'bulk': how many values and letters a reading holds, each counted each time it is reached (what is shared counts as often as it is met; a slice's spare places count too). A statement '..UptoSaid' is the law's where the arguments, and the package variables that the reading takes, are together of bulk at most 1048576: NARROWER than '..Said'. Prove '..Said' where nothing that the law and all that it calls make is longer than what came in: it says more and counts as full. Else prove '..UptoSaid'. A law counts once. -/
mutual
def uptoBulk {H : Type} : DataW H → Nat
  | .lit (.string bytes) => bytes.length + 1
  | .lit _ => 1
  | .nil => 1
  | .ptr d => uptoBulk d + 1
  | .slice elems spare => uptoBulkAll elems + uptoBulkAll spare + 1
  | .agg parts => uptoBulkAll parts + 1
  | .iface _ d => uptoBulk d + 1
  | .map entries => uptoBulkEntries entries + 1
  | .held _ => 1
def uptoBulkAll {H : Type} : List (DataW H) → Nat
  | [] => 0
  | d :: r => uptoBulk d + uptoBulkAll r
def uptoBulkEntries {H : Type} : List (Lit × DataW H) → Nat
  | [] => 0
  | x :: r => uptoBulkEntry x + uptoBulkEntries r
def uptoBulkEntry {H : Type} : Lit × DataW H → Nat
  | (.string bytes, d) => bytes.length + uptoBulk d + 1
  | (_, d) => uptoBulk d + 1
 end
def uptoSmall : (H : Type) → List (DataW H) → Bool := fun _ ds => decide (uptoBulkAll ds ≤ 1048576)
def OpenSpec.upto (s : _root_.Go.ChangeSpec) : _root_.Go.OpenSpec := { _root_.Go.OpenSpec.ofChange s with cond := some uptoSmall }

/-- 'laws.FnExactWidesOf', WHERE WHAT IT READS IS OF BULK AT MOST 1048576: true; the input reads as it did. -/
def fnExactWidesOfUptoRow : OpenClaim := { program := "ytmjhdgofepdgkaa", sum := "d78d223cad7f7efede2d394f0e0a04bc01d3ab45a22732c967ce306a381d5c06", func := "loop.example/colophon/laws.FnExactWidesOf", spec := "fnExactWidesOf", unfollowed := true, recurses := true, apart := false, narrowed := true }
def FnExactWidesOfUptoSaid : Prop := fnExactWidesOfUptoRow.holds Try.pinned (OpenSpec.upto fnExactWidesOfSpec)

/-- 'laws.FnWides', WHERE WHAT IT READS IS OF BULK AT MOST 1048576: true; the input reads as it did. -/
def fnWidesUptoRow : OpenClaim := { program := "ytmjhdgofepdgkaa", sum := "d78d223cad7f7efede2d394f0e0a04bc01d3ab45a22732c967ce306a381d5c06", func := "loop.example/colophon/laws.FnWides", spec := "fnWides", unfollowed := true, recurses := true, apart := false, narrowed := true }
def FnWidesUptoSaid : Prop := fnWidesUptoRow.holds Try.pinned (OpenSpec.upto fnWidesSpec)

/-- 'laws.FnLineWide', WHERE WHAT IT READS IS OF BULK AT MOST 1048576: true; the input reads as it did. -/
def fnLineWideUptoRow : OpenClaim := { program := "ytmjhdgofepdgkaa", sum := "d78d223cad7f7efede2d394f0e0a04bc01d3ab45a22732c967ce306a381d5c06", func := "loop.example/colophon/laws.FnLineWide", spec := "fnLineWide", unfollowed := true, recurses := true, apart := false, narrowed := true }
def FnLineWideUptoSaid : Prop := fnLineWideUptoRow.holds Try.pinned (OpenSpec.upto fnLineWideSpec)

/-- 'laws.FnExactBreaksOf', WHERE WHAT IT READS IS OF BULK AT MOST 1048576: true; the input reads as it did. -/
def fnExactBreaksOfUptoRow : OpenClaim := { program := "ytmjhdgofepdgkaa", sum := "d78d223cad7f7efede2d394f0e0a04bc01d3ab45a22732c967ce306a381d5c06", func := "loop.example/colophon/laws.FnExactBreaksOf", spec := "fnExactBreaksOf", unfollowed := true, recurses := true, apart := false, narrowed := true }
def FnExactBreaksOfUptoSaid : Prop := fnExactBreaksOfUptoRow.holds Try.pinned (OpenSpec.upto fnExactBreaksOfSpec)

/-- 'laws.FnExactWordsOf', WHERE WHAT IT READS IS OF BULK AT MOST 1048576: true; the input reads as it did. -/
def fnExactWordsOfUptoRow : OpenClaim := { program := "ytmjhdgofepdgkaa", sum := "d78d223cad7f7efede2d394f0e0a04bc01d3ab45a22732c967ce306a381d5c06", func := "loop.example/colophon/laws.FnExactWordsOf", spec := "fnExactWordsOf", unfollowed := true, recurses := true, apart := false, narrowed := true }
def FnExactWordsOfUptoSaid : Prop := fnExactWordsOfUptoRow.holds Try.pinned (OpenSpec.upto fnExactWordsOfSpec)

/-- 'laws.FnBreakWords', WHERE WHAT IT READS IS OF BULK AT MOST 1048576: true; the input reads as it did. -/
def fnBreakWordsUptoRow : OpenClaim := { program := "ytmjhdgofepdgkaa", sum := "d78d223cad7f7efede2d394f0e0a04bc01d3ab45a22732c967ce306a381d5c06", func := "loop.example/colophon/laws.FnBreakWords", spec := "fnBreakWords", unfollowed := true, recurses := true, apart := false, narrowed := true }
def FnBreakWordsUptoSaid : Prop := fnBreakWordsUptoRow.holds Try.pinned (OpenSpec.upto fnBreakWordsSpec)

/-- 'laws.FnWords', WHERE WHAT IT READS IS OF BULK AT MOST 1048576: true; the input reads as it did. -/
def fnWordsUptoRow : OpenClaim := { program := "ytmjhdgofepdgkaa", sum := "d78d223cad7f7efede2d394f0e0a04bc01d3ab45a22732c967ce306a381d5c06", func := "loop.example/colophon/laws.FnWords", spec := "fnWords", unfollowed := true, recurses := true, apart := false, narrowed := true }
def FnWordsUptoSaid : Prop := fnWordsUptoRow.holds Try.pinned (OpenSpec.upto fnWordsSpec)

/-- 'laws.FnBreaks', WHERE WHAT IT READS IS OF BULK AT MOST 1048576: true; the input reads as it did. -/
def fnBreaksUptoRow : OpenClaim := { program := "ytmjhdgofepdgkaa", sum := "d78d223cad7f7efede2d394f0e0a04bc01d3ab45a22732c967ce306a381d5c06", func := "loop.example/colophon/laws.FnBreaks", spec := "fnBreaks", unfollowed := true, recurses := true, apart := false, narrowed := true }
def FnBreaksUptoSaid : Prop := fnBreaksUptoRow.holds Try.pinned (OpenSpec.upto fnBreaksSpec)

/-- 'laws.FnExactLevelMates', WHERE WHAT IT READS IS OF BULK AT MOST 1048576: true; the input reads as it did. -/
def fnExactLevelMatesUptoRow : OpenClaim := { program := "ytmjhdgofepdgkaa", sum := "d78d223cad7f7efede2d394f0e0a04bc01d3ab45a22732c967ce306a381d5c06", func := "loop.example/colophon/laws.FnExactLevelMates", spec := "fnExactLevelMates", unfollowed := true, recurses := true, apart := false, narrowed := true }
def FnExactLevelMatesUptoSaid : Prop := fnExactLevelMatesUptoRow.holds Try.pinned (OpenSpec.upto fnExactLevelMatesSpec)

/-- 'laws.FnLevelMates', WHERE WHAT IT READS IS OF BULK AT MOST 1048576: true; the input reads as it did. -/
def fnLevelMatesUptoRow : OpenClaim := { program := "ytmjhdgofepdgkaa", sum := "d78d223cad7f7efede2d394f0e0a04bc01d3ab45a22732c967ce306a381d5c06", func := "loop.example/colophon/laws.FnLevelMates", spec := "fnLevelMates", unfollowed := true, recurses := true, apart := false, narrowed := true }
def FnLevelMatesUptoSaid : Prop := fnLevelMatesUptoRow.holds Try.pinned (OpenSpec.upto fnLevelMatesSpec)

/-- 'laws.FnExactFillCost', WHERE WHAT IT READS IS OF BULK AT MOST 1048576: true; the input reads as it did. -/
def fnExactFillCostUptoRow : OpenClaim := { program := "ytmjhdgofepdgkaa", sum := "d78d223cad7f7efede2d394f0e0a04bc01d3ab45a22732c967ce306a381d5c06", func := "loop.example/colophon/laws.FnExactFillCost", spec := "fnExactFillCost", unfollowed := true, recurses := true, apart := false, narrowed := true }
def FnExactFillCostUptoSaid : Prop := fnExactFillCostUptoRow.holds Try.pinned (OpenSpec.upto fnExactFillCostSpec)

end Rows
end Go.Proofs.Ytmjhdgofepdgkaa
