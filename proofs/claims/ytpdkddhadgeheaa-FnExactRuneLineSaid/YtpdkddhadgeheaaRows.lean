/-
  No cell of these rows narrows 'for every input' (looked for: loops, veiled, ifaces, maps, wideKeys, modest, calm, conditions, laid).
  DERIVED. THE GIVEN ROWS OF THIS SEAT. 12 by the template 'for every input the law returns true; each argument reads behind the call as it read before'; 0 by the template 'total and deterministic' (their statements: YtpdkddhadgeheaaTotals.lean).
  GIVEN WITH THE SEED: the statements are not yours to turn. If you find one false, say at which input.
  Laid BY PROGRAM, IN A SANDBOX (cutbox-rows.mjs): the forced cells as the released guide's own fill.sh prints them over the translation 4367ade929aa1874… (all of the seat's roots in one cut). By AI agents, Wed Nov 11 2026. No macro, syntax, notation, axiom, sorry.
-/
import Derived.Test.YtpdkddhadgeheaaChecked
import GoSem.Claim
import GoSem.ClaimJoined
import GoSem.ClaimMapViews
import Derived.JoinedTies
import Derived.KernelRfl
namespace Go.Proofs.Ytpdkddhadgeheaa
/- THE CELL 'sum', in the pinned program and in every row, IS THE sha256 OF THE DUMP (.gsa) THAT YtpdkddhadgeheaaProg.lean LOADS. Nothing in Lean hashes anything: it is a label: what it is worth is what the hold of that sum in a sandbox is worth. -/
noncomputable def Try.pinned : Pinned := { name := "ytpdkddhadgeheaa", sum := "4367ade929aa18746fc76f339b734434da580b11fdb23eaede1dfdfc73c447c0", checked := Try.checked }
namespace Rows
def none {H : Type} : Left H := { results := [], args := [] }

/-- 'laws.FnExactLevelMates': WHATEVER THE INPUT: true; the input reads as it did. -/
def fnExactLevelMatesSpec : ChangeSpec := { name := "fnExactLevelMates", fn := fun _ => fun
  | [d1, d2] => { results := [.lit (.bool true)], args := [d1, d2] }
  | _ => none }
def fnExactLevelMatesRow : OpenClaim := { program := "ytpdkddhadgeheaa", sum := "4367ade929aa18746fc76f339b734434da580b11fdb23eaede1dfdfc73c447c0", func := "loop.example/colophon/laws.FnExactLevelMates", spec := "fnExactLevelMates", unfollowed := true, recurses := true, apart := false }
def FnExactLevelMatesSaid : Prop := fnExactLevelMatesRow.holds Try.pinned (OpenSpec.ofChange fnExactLevelMatesSpec)

/-- ITS FALSE NEIGHBOUR: 'it returns false'. Refute it at one input. -/
def fnExactLevelMatesWrong : ChangeSpec := { name := "fnExactLevelMates", fn := fun _ => fun
  | [d1, d2] => { results := [.lit (.bool false)], args := [d1, d2] }
  | _ => none }
def FnExactLevelMatesWrongFalsely : Prop := fnExactLevelMatesRow.holds Try.pinned (OpenSpec.ofChange fnExactLevelMatesWrong)

/-- 'laws.FnWords': WHATEVER THE INPUT: true; the input reads as it did. -/
def fnWordsSpec : ChangeSpec := { name := "fnWords", fn := fun _ => fun
  | [d] => { results := [.lit (.bool true)], args := [d] }
  | _ => none }
def fnWordsRow : OpenClaim := { program := "ytpdkddhadgeheaa", sum := "4367ade929aa18746fc76f339b734434da580b11fdb23eaede1dfdfc73c447c0", func := "loop.example/colophon/laws.FnWords", spec := "fnWords", unfollowed := true, recurses := true, apart := false }
def FnWordsSaid : Prop := fnWordsRow.holds Try.pinned (OpenSpec.ofChange fnWordsSpec)

/-- ITS FALSE NEIGHBOUR: 'it returns false'. Refute it at one input. -/
def fnWordsWrong : ChangeSpec := { name := "fnWords", fn := fun _ => fun
  | [d] => { results := [.lit (.bool false)], args := [d] }
  | _ => none }
def FnWordsWrongFalsely : Prop := fnWordsRow.holds Try.pinned (OpenSpec.ofChange fnWordsWrong)

/-- 'laws.FnOrderUp': WHATEVER THE INPUT: true; the input reads as it did. -/
def fnOrderUpSpec : ChangeSpec := { name := "fnOrderUp", fn := fun _ => fun
  | [d] => { results := [.lit (.bool true)], args := [d] }
  | _ => none }
def fnOrderUpRow : OpenClaim := { program := "ytpdkddhadgeheaa", sum := "4367ade929aa18746fc76f339b734434da580b11fdb23eaede1dfdfc73c447c0", func := "loop.example/colophon/laws.FnOrderUp", spec := "fnOrderUp", unfollowed := true, recurses := true, apart := false }
def FnOrderUpSaid : Prop := fnOrderUpRow.holds Try.pinned (OpenSpec.ofChange fnOrderUpSpec)

/-- ITS FALSE NEIGHBOUR: 'it returns false'. Refute it at one input. -/
def fnOrderUpWrong : ChangeSpec := { name := "fnOrderUp", fn := fun _ => fun
  | [d] => { results := [.lit (.bool false)], args := [d] }
  | _ => none }
def FnOrderUpWrongFalsely : Prop := fnOrderUpRow.holds Try.pinned (OpenSpec.ofChange fnOrderUpWrong)

/-- 'laws.FnExactOrderBack': WHATEVER THE INPUT: true; the input reads as it did. -/
def fnExactOrderBackSpec : ChangeSpec := { name := "fnExactOrderBack", fn := fun _ => fun
  | [d] => { results := [.lit (.bool true)], args := [d] }
  | _ => none }
def fnExactOrderBackRow : OpenClaim := { program := "ytpdkddhadgeheaa", sum := "4367ade929aa18746fc76f339b734434da580b11fdb23eaede1dfdfc73c447c0", func := "loop.example/colophon/laws.FnExactOrderBack", spec := "fnExactOrderBack", unfollowed := true, recurses := true, apart := false }
def FnExactOrderBackSaid : Prop := fnExactOrderBackRow.holds Try.pinned (OpenSpec.ofChange fnExactOrderBackSpec)

/-- ITS FALSE NEIGHBOUR: 'it returns false'. Refute it at one input. -/
def fnExactOrderBackWrong : ChangeSpec := { name := "fnExactOrderBack", fn := fun _ => fun
  | [d] => { results := [.lit (.bool false)], args := [d] }
  | _ => none }
def FnExactOrderBackWrongFalsely : Prop := fnExactOrderBackRow.holds Try.pinned (OpenSpec.ofChange fnExactOrderBackWrong)

/-- 'laws.FnExactRuneWide': WHATEVER THE INPUT: true; the input reads as it did. -/
def fnExactRuneWideSpec : ChangeSpec := { name := "fnExactRuneWide", fn := fun _ => fun
  | [d] => { results := [.lit (.bool true)], args := [d] }
  | _ => none }
def fnExactRuneWideRow : OpenClaim := { program := "ytpdkddhadgeheaa", sum := "4367ade929aa18746fc76f339b734434da580b11fdb23eaede1dfdfc73c447c0", func := "loop.example/colophon/laws.FnExactRuneWide", spec := "fnExactRuneWide", unfollowed := true, recurses := true, apart := false }
def FnExactRuneWideSaid : Prop := fnExactRuneWideRow.holds Try.pinned (OpenSpec.ofChange fnExactRuneWideSpec)

/-- ITS FALSE NEIGHBOUR: 'it returns false'. Refute it at one input. -/
def fnExactRuneWideWrong : ChangeSpec := { name := "fnExactRuneWide", fn := fun _ => fun
  | [d] => { results := [.lit (.bool false)], args := [d] }
  | _ => none }
def FnExactRuneWideWrongFalsely : Prop := fnExactRuneWideRow.holds Try.pinned (OpenSpec.ofChange fnExactRuneWideWrong)

/-- 'laws.FnExactRuneLine': WHATEVER THE INPUT: true; the input reads as it did. -/
def fnExactRuneLineSpec : ChangeSpec := { name := "fnExactRuneLine", fn := fun _ => fun
  | [d] => { results := [.lit (.bool true)], args := [d] }
  | _ => none }
def fnExactRuneLineRow : OpenClaim := { program := "ytpdkddhadgeheaa", sum := "4367ade929aa18746fc76f339b734434da580b11fdb23eaede1dfdfc73c447c0", func := "loop.example/colophon/laws.FnExactRuneLine", spec := "fnExactRuneLine", unfollowed := true, recurses := true, apart := false }
def FnExactRuneLineSaid : Prop := fnExactRuneLineRow.holds Try.pinned (OpenSpec.ofChange fnExactRuneLineSpec)

/-- ITS FALSE NEIGHBOUR: 'it returns false'. Refute it at one input. -/
def fnExactRuneLineWrong : ChangeSpec := { name := "fnExactRuneLine", fn := fun _ => fun
  | [d] => { results := [.lit (.bool false)], args := [d] }
  | _ => none }
def FnExactRuneLineWrongFalsely : Prop := fnExactRuneLineRow.holds Try.pinned (OpenSpec.ofChange fnExactRuneLineWrong)

/-- 'laws.FnOrderSide': WHATEVER THE INPUT: true; the input reads as it did. -/
def fnOrderSideSpec : ChangeSpec := { name := "fnOrderSide", fn := fun _ => fun
  | [d] => { results := [.lit (.bool true)], args := [d] }
  | _ => none }
def fnOrderSideRow : OpenClaim := { program := "ytpdkddhadgeheaa", sum := "4367ade929aa18746fc76f339b734434da580b11fdb23eaede1dfdfc73c447c0", func := "loop.example/colophon/laws.FnOrderSide", spec := "fnOrderSide", unfollowed := true, recurses := true, apart := false }
def FnOrderSideSaid : Prop := fnOrderSideRow.holds Try.pinned (OpenSpec.ofChange fnOrderSideSpec)

/-- ITS FALSE NEIGHBOUR: 'it returns false'. Refute it at one input. -/
def fnOrderSideWrong : ChangeSpec := { name := "fnOrderSide", fn := fun _ => fun
  | [d] => { results := [.lit (.bool false)], args := [d] }
  | _ => none }
def FnOrderSideWrongFalsely : Prop := fnOrderSideRow.holds Try.pinned (OpenSpec.ofChange fnOrderSideWrong)

/-- 'laws.FnOrder': WHATEVER THE INPUT: true; the input reads as it did. -/
def fnOrderSpec : ChangeSpec := { name := "fnOrder", fn := fun _ => fun
  | [d] => { results := [.lit (.bool true)], args := [d] }
  | _ => none }
def fnOrderRow : OpenClaim := { program := "ytpdkddhadgeheaa", sum := "4367ade929aa18746fc76f339b734434da580b11fdb23eaede1dfdfc73c447c0", func := "loop.example/colophon/laws.FnOrder", spec := "fnOrder", unfollowed := true, recurses := true, apart := false }
def FnOrderSaid : Prop := fnOrderRow.holds Try.pinned (OpenSpec.ofChange fnOrderSpec)

/-- ITS FALSE NEIGHBOUR: 'it returns false'. Refute it at one input. -/
def fnOrderWrong : ChangeSpec := { name := "fnOrder", fn := fun _ => fun
  | [d] => { results := [.lit (.bool false)], args := [d] }
  | _ => none }
def FnOrderWrongFalsely : Prop := fnOrderRow.holds Try.pinned (OpenSpec.ofChange fnOrderWrong)

/-- 'laws.FnExactLevelPlain': WHATEVER THE INPUT: true; the input reads as it did. -/
def fnExactLevelPlainSpec : ChangeSpec := { name := "fnExactLevelPlain", fn := fun _ => fun
  | [d1, d2, d3, d4] => { results := [.lit (.bool true)], args := [d1, d2, d3, d4] }
  | _ => none }
def fnExactLevelPlainRow : OpenClaim := { program := "ytpdkddhadgeheaa", sum := "4367ade929aa18746fc76f339b734434da580b11fdb23eaede1dfdfc73c447c0", func := "loop.example/colophon/laws.FnExactLevelPlain", spec := "fnExactLevelPlain", unfollowed := true, recurses := true, apart := false }
def FnExactLevelPlainSaid : Prop := fnExactLevelPlainRow.holds Try.pinned (OpenSpec.ofChange fnExactLevelPlainSpec)

/-- ITS FALSE NEIGHBOUR: 'it returns false'. Refute it at one input. -/
def fnExactLevelPlainWrong : ChangeSpec := { name := "fnExactLevelPlain", fn := fun _ => fun
  | [d1, d2, d3, d4] => { results := [.lit (.bool false)], args := [d1, d2, d3, d4] }
  | _ => none }
def FnExactLevelPlainWrongFalsely : Prop := fnExactLevelPlainRow.holds Try.pinned (OpenSpec.ofChange fnExactLevelPlainWrong)

/-- 'laws.FnExactSpansPlain': WHATEVER THE INPUT: true; the input reads as it did. -/
def fnExactSpansPlainSpec : ChangeSpec := { name := "fnExactSpansPlain", fn := fun _ => fun
  | [d1, d2] => { results := [.lit (.bool true)], args := [d1, d2] }
  | _ => none }
def fnExactSpansPlainRow : OpenClaim := { program := "ytpdkddhadgeheaa", sum := "4367ade929aa18746fc76f339b734434da580b11fdb23eaede1dfdfc73c447c0", func := "loop.example/colophon/laws.FnExactSpansPlain", spec := "fnExactSpansPlain", unfollowed := true, recurses := true, apart := false }
def FnExactSpansPlainSaid : Prop := fnExactSpansPlainRow.holds Try.pinned (OpenSpec.ofChange fnExactSpansPlainSpec)

/-- ITS FALSE NEIGHBOUR: 'it returns false'. Refute it at one input. -/
def fnExactSpansPlainWrong : ChangeSpec := { name := "fnExactSpansPlain", fn := fun _ => fun
  | [d1, d2] => { results := [.lit (.bool false)], args := [d1, d2] }
  | _ => none }
def FnExactSpansPlainWrongFalsely : Prop := fnExactSpansPlainRow.holds Try.pinned (OpenSpec.ofChange fnExactSpansPlainWrong)

/-- 'laws.FnSpansPlain': WHATEVER THE INPUT: true; the input reads as it did. -/
def fnSpansPlainSpec : ChangeSpec := { name := "fnSpansPlain", fn := fun _ => fun
  | [d] => { results := [.lit (.bool true)], args := [d] }
  | _ => none }
def fnSpansPlainRow : OpenClaim := { program := "ytpdkddhadgeheaa", sum := "4367ade929aa18746fc76f339b734434da580b11fdb23eaede1dfdfc73c447c0", func := "loop.example/colophon/laws.FnSpansPlain", spec := "fnSpansPlain", unfollowed := true, recurses := true, apart := false }
def FnSpansPlainSaid : Prop := fnSpansPlainRow.holds Try.pinned (OpenSpec.ofChange fnSpansPlainSpec)

/-- ITS FALSE NEIGHBOUR: 'it returns false'. Refute it at one input. -/
def fnSpansPlainWrong : ChangeSpec := { name := "fnSpansPlain", fn := fun _ => fun
  | [d] => { results := [.lit (.bool false)], args := [d] }
  | _ => none }
def FnSpansPlainWrongFalsely : Prop := fnSpansPlainRow.holds Try.pinned (OpenSpec.ofChange fnSpansPlainWrong)

/-- 'laws.FnExactSpansPut': WHATEVER THE INPUT: true; the input reads as it did. -/
def fnExactSpansPutSpec : ChangeSpec := { name := "fnExactSpansPut", fn := fun _ => fun
  | [d1, d2, d3] => { results := [.lit (.bool true)], args := [d1, d2, d3] }
  | _ => none }
def fnExactSpansPutRow : OpenClaim := { program := "ytpdkddhadgeheaa", sum := "4367ade929aa18746fc76f339b734434da580b11fdb23eaede1dfdfc73c447c0", func := "loop.example/colophon/laws.FnExactSpansPut", spec := "fnExactSpansPut", unfollowed := true, recurses := true, apart := false }
def FnExactSpansPutSaid : Prop := fnExactSpansPutRow.holds Try.pinned (OpenSpec.ofChange fnExactSpansPutSpec)

/-- ITS FALSE NEIGHBOUR: 'it returns false'. Refute it at one input. -/
def fnExactSpansPutWrong : ChangeSpec := { name := "fnExactSpansPut", fn := fun _ => fun
  | [d1, d2, d3] => { results := [.lit (.bool false)], args := [d1, d2, d3] }
  | _ => none }
def FnExactSpansPutWrongFalsely : Prop := fnExactSpansPutRow.holds Try.pinned (OpenSpec.ofChange fnExactSpansPutWrong)

/- THE SECOND FORM. 'bulk': how many values and letters a reading holds, each counted each time it is reached (what is shared counts as often as it is met; a slice's spare places count too). A statement '..UptoSaid' is the law's where the arguments, and the package variables that the reading takes, are together of bulk at most 1048576: NARROWER than '..Said'. Prove '..Said' where nothing that the law and all that it calls make is longer than what came in: it says more and counts as full. Else prove '..UptoSaid'. A law counts once. -/
mutual
def uptoBulk {H : Type} : DataW H → Nat
  | .lit (.string bytes) => bytes.length + 1
  | .lit _ => 1
  | .nil => 1
  | .ptr d => uptoBulk d + 1
  | .slice elems spare => uptoBulkAll elems + uptoBulkAll spare + 1
  | .agg parts => uptoBulkAll parts + 1
  | .iface _ d => uptoBulk d + 1
  | .map entries => uptoBulkEntries entries + 1
  | .held _ => 1
def uptoBulkAll {H : Type} : List (DataW H) → Nat
  | [] => 0
  | d :: r => uptoBulk d + uptoBulkAll r
def uptoBulkEntries {H : Type} : List (Lit × DataW H) → Nat
  | [] => 0
  | x :: r => uptoBulkEntry x + uptoBulkEntries r
def uptoBulkEntry {H : Type} : Lit × DataW H → Nat
  | (.string bytes, d) => bytes.length + uptoBulk d + 1
  | (_, d) => uptoBulk d + 1
 end
def uptoSmall : (H : Type) → List (DataW H) → Bool := fun _ ds => decide (uptoBulkAll ds ≤ 1048576)
def OpenSpec.upto (s : _root_.Go.ChangeSpec) : _root_.Go.OpenSpec := { _root_.Go.OpenSpec.ofChange s with cond := some uptoSmall }

/-- 'laws.FnExactLevelMates', WHERE WHAT IT READS IS OF BULK AT MOST 1048576: true; the input reads as it did. -/
def fnExactLevelMatesUptoRow : OpenClaim := { program := "ytpdkddhadgeheaa", sum := "4367ade929aa18746fc76f339b734434da580b11fdb23eaede1dfdfc73c447c0", func := "loop.example/colophon/laws.FnExactLevelMates", spec := "fnExactLevelMates", unfollowed := true, recurses := true, apart := false, narrowed := true }
def FnExactLevelMatesUptoSaid : Prop := fnExactLevelMatesUptoRow.holds Try.pinned (OpenSpec.upto fnExactLevelMatesSpec)

/-- 'laws.FnWords', WHERE WHAT IT READS IS OF BULK AT MOST 1048576: true; the input reads as it did. -/
def fnWordsUptoRow : OpenClaim := { program := "ytpdkddhadgeheaa", sum := "4367ade929aa18746fc76f339b734434da580b11fdb23eaede1dfdfc73c447c0", func := "loop.example/colophon/laws.FnWords", spec := "fnWords", unfollowed := true, recurses := true, apart := false, narrowed := true }
def FnWordsUptoSaid : Prop := fnWordsUptoRow.holds Try.pinned (OpenSpec.upto fnWordsSpec)

/-- 'laws.FnOrderUp', WHERE WHAT IT READS IS OF BULK AT MOST 1048576: true; the input reads as it did. -/
def fnOrderUpUptoRow : OpenClaim := { program := "ytpdkddhadgeheaa", sum := "4367ade929aa18746fc76f339b734434da580b11fdb23eaede1dfdfc73c447c0", func := "loop.example/colophon/laws.FnOrderUp", spec := "fnOrderUp", unfollowed := true, recurses := true, apart := false, narrowed := true }
def FnOrderUpUptoSaid : Prop := fnOrderUpUptoRow.holds Try.pinned (OpenSpec.upto fnOrderUpSpec)

/-- 'laws.FnExactOrderBack', WHERE WHAT IT READS IS OF BULK AT MOST 1048576: true; the input reads as it did. -/
def fnExactOrderBackUptoRow : OpenClaim := { program := "ytpdkddhadgeheaa", sum := "4367ade929aa18746fc76f339b734434da580b11fdb23eaede1dfdfc73c447c0", func := "loop.example/colophon/laws.FnExactOrderBack", spec := "fnExactOrderBack", unfollowed := true, recurses := true, apart := false, narrowed := true }
def FnExactOrderBackUptoSaid : Prop := fnExactOrderBackUptoRow.holds Try.pinned (OpenSpec.upto fnExactOrderBackSpec)

/-- 'laws.FnExactRuneWide', WHERE WHAT IT READS IS OF BULK AT MOST 1048576: true; the input reads as it did. -/
def fnExactRuneWideUptoRow : OpenClaim := { program := "ytpdkddhadgeheaa", sum := "4367ade929aa18746fc76f339b734434da580b11fdb23eaede1dfdfc73c447c0", func := "loop.example/colophon/laws.FnExactRuneWide", spec := "fnExactRuneWide", unfollowed := true, recurses := true, apart := false, narrowed := true }
def FnExactRuneWideUptoSaid : Prop := fnExactRuneWideUptoRow.holds Try.pinned (OpenSpec.upto fnExactRuneWideSpec)

/-- 'laws.FnExactRuneLine', WHERE WHAT IT READS IS OF BULK AT MOST 1048576: true; the input reads as it did. -/
def fnExactRuneLineUptoRow : OpenClaim := { program := "ytpdkddhadgeheaa", sum := "4367ade929aa18746fc76f339b734434da580b11fdb23eaede1dfdfc73c447c0", func := "loop.example/colophon/laws.FnExactRuneLine", spec := "fnExactRuneLine", unfollowed := true, recurses := true, apart := false, narrowed := true }
def FnExactRuneLineUptoSaid : Prop := fnExactRuneLineUptoRow.holds Try.pinned (OpenSpec.upto fnExactRuneLineSpec)

/-- 'laws.FnOrderSide', WHERE WHAT IT READS IS OF BULK AT MOST 1048576: true; the input reads as it did. -/
def fnOrderSideUptoRow : OpenClaim := { program := "ytpdkddhadgeheaa", sum := "4367ade929aa18746fc76f339b734434da580b11fdb23eaede1dfdfc73c447c0", func := "loop.example/colophon/laws.FnOrderSide", spec := "fnOrderSide", unfollowed := true, recurses := true, apart := false, narrowed := true }
def FnOrderSideUptoSaid : Prop := fnOrderSideUptoRow.holds Try.pinned (OpenSpec.upto fnOrderSideSpec)

/-- 'laws.FnOrder', WHERE WHAT IT READS IS OF BULK AT MOST 1048576: true; the input reads as it did. -/
def fnOrderUptoRow : OpenClaim := { program := "ytpdkddhadgeheaa", sum := "4367ade929aa18746fc76f339b734434da580b11fdb23eaede1dfdfc73c447c0", func := "loop.example/colophon/laws.FnOrder", spec := "fnOrder", unfollowed := true, recurses := true, apart := false, narrowed := true }
def FnOrderUptoSaid : Prop := fnOrderUptoRow.holds Try.pinned (OpenSpec.upto fnOrderSpec)

/-- 'laws.FnExactLevelPlain', WHERE WHAT IT READS IS OF BULK AT MOST 1048576: true; the input reads as it did. -/
def fnExactLevelPlainUptoRow : OpenClaim := { program := "ytpdkddhadgeheaa", sum := "4367ade929aa18746fc76f339b734434da580b11fdb23eaede1dfdfc73c447c0", func := "loop.example/colophon/laws.FnExactLevelPlain", spec := "fnExactLevelPlain", unfollowed := true, recurses := true, apart := false, narrowed := true }
def FnExactLevelPlainUptoSaid : Prop := fnExactLevelPlainUptoRow.holds Try.pinned (OpenSpec.upto fnExactLevelPlainSpec)

/-- 'laws.FnExactSpansPlain', WHERE WHAT IT READS IS OF BULK AT MOST 1048576: true; the input reads as it did. -/
def fnExactSpansPlainUptoRow : OpenClaim := { program := "ytpdkddhadgeheaa", sum := "4367ade929aa18746fc76f339b734434da580b11fdb23eaede1dfdfc73c447c0", func := "loop.example/colophon/laws.FnExactSpansPlain", spec := "fnExactSpansPlain", unfollowed := true, recurses := true, apart := false, narrowed := true }
def FnExactSpansPlainUptoSaid : Prop := fnExactSpansPlainUptoRow.holds Try.pinned (OpenSpec.upto fnExactSpansPlainSpec)

/-- 'laws.FnSpansPlain', WHERE WHAT IT READS IS OF BULK AT MOST 1048576: true; the input reads as it did. -/
def fnSpansPlainUptoRow : OpenClaim := { program := "ytpdkddhadgeheaa", sum := "4367ade929aa18746fc76f339b734434da580b11fdb23eaede1dfdfc73c447c0", func := "loop.example/colophon/laws.FnSpansPlain", spec := "fnSpansPlain", unfollowed := true, recurses := true, apart := false, narrowed := true }
def FnSpansPlainUptoSaid : Prop := fnSpansPlainUptoRow.holds Try.pinned (OpenSpec.upto fnSpansPlainSpec)

/-- 'laws.FnExactSpansPut', WHERE WHAT IT READS IS OF BULK AT MOST 1048576: true; the input reads as it did. -/
def fnExactSpansPutUptoRow : OpenClaim := { program := "ytpdkddhadgeheaa", sum := "4367ade929aa18746fc76f339b734434da580b11fdb23eaede1dfdfc73c447c0", func := "loop.example/colophon/laws.FnExactSpansPut", spec := "fnExactSpansPut", unfollowed := true, recurses := true, apart := false, narrowed := true }
def FnExactSpansPutUptoSaid : Prop := fnExactSpansPutUptoRow.holds Try.pinned (OpenSpec.upto fnExactSpansPutSpec)

end Rows
end Go.Proofs.Ytpdkddhadgeheaa
