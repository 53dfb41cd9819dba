/-
  No cell of these rows narrows 'for every input' (looked for: loops, veiled, ifaces, maps, wideKeys, modest, calm, conditions, laid).
  DERIVED. THE GIVEN ROWS OF THIS SEAT. 10 by the template 'for every input the law returns true; each argument reads behind the call as it read before'; 0 by the template 'total and deterministic' (their statements: YtkapjhlcmicpnaaTotals.lean).
  GIVEN WITH THE SEED: the statements are not yours to turn. If you find one false, say at which input.
  Laid BY PROGRAM, IN A SANDBOX (cutbox-rows.mjs): the forced cells as the released guide's own fill.sh prints them over the translation c97c49a89b922906… (all of the seat's roots in one cut). By AI agents, Wed Nov 11 2026. No macro, syntax, notation, axiom, sorry.
-/
import Derived.Test.YtkapjhlcmicpnaaChecked
import GoSem.Claim
import GoSem.ClaimJoined
import GoSem.ClaimMapViews
import Derived.JoinedTies
import Derived.KernelRfl
namespace Go.Proofs.Ytkapjhlcmicpnaa
/- THE CELL 'sum', in the pinned program and in every row, IS THE sha256 OF THE DUMP (.gsa) THAT YtkapjhlcmicpnaaProg.lean LOADS. Nothing in Lean hashes anything: it is a label: what it is worth is what the hold of that sum in a sandbox is worth. -/
noncomputable def Try.pinned : Pinned := { name := "ytkapjhlcmicpnaa", sum := "c97c49a89b922906f9c9a1921a0e842fb5f76590b61d6d49862ac32d60096912", checked := Try.checked }
namespace Rows
def none {H : Type} : Left H := { results := [], args := [] }

/-- 'laws.FnExactLevelPlain': WHATEVER THE INPUT: true; the input reads as it did. -/
def fnExactLevelPlainSpec : ChangeSpec := { name := "fnExactLevelPlain", fn := fun _ => fun
  | [d1, d2, d3, d4] => { results := [.lit (.bool true)], args := [d1, d2, d3, d4] }
  | _ => none }
def fnExactLevelPlainRow : OpenClaim := { program := "ytkapjhlcmicpnaa", sum := "c97c49a89b922906f9c9a1921a0e842fb5f76590b61d6d49862ac32d60096912", func := "loop.example/colophon/laws.FnExactLevelPlain", spec := "fnExactLevelPlain", unfollowed := true, recurses := true, apart := false }
def FnExactLevelPlainSaid : Prop := fnExactLevelPlainRow.holds Try.pinned (OpenSpec.ofChange fnExactLevelPlainSpec)

/-- ITS FALSE NEIGHBOUR: 'it returns false'. Refute it at one input. -/
def fnExactLevelPlainWrong : ChangeSpec := { name := "fnExactLevelPlain", fn := fun _ => fun
  | [d1, d2, d3, d4] => { results := [.lit (.bool false)], args := [d1, d2, d3, d4] }
  | _ => none }
def FnExactLevelPlainWrongFalsely : Prop := fnExactLevelPlainRow.holds Try.pinned (OpenSpec.ofChange fnExactLevelPlainWrong)

/-- 'laws.FnLevelPlain': WHATEVER THE INPUT: true; the input reads as it did. -/
def fnLevelPlainSpec : ChangeSpec := { name := "fnLevelPlain", fn := fun _ => fun
  | [d] => { results := [.lit (.bool true)], args := [d] }
  | _ => none }
def fnLevelPlainRow : OpenClaim := { program := "ytkapjhlcmicpnaa", sum := "c97c49a89b922906f9c9a1921a0e842fb5f76590b61d6d49862ac32d60096912", func := "loop.example/colophon/laws.FnLevelPlain", spec := "fnLevelPlain", unfollowed := true, recurses := true, apart := false }
def FnLevelPlainSaid : Prop := fnLevelPlainRow.holds Try.pinned (OpenSpec.ofChange fnLevelPlainSpec)

/-- ITS FALSE NEIGHBOUR: 'it returns false'. Refute it at one input. -/
def fnLevelPlainWrong : ChangeSpec := { name := "fnLevelPlain", fn := fun _ => fun
  | [d] => { results := [.lit (.bool false)], args := [d] }
  | _ => none }
def FnLevelPlainWrongFalsely : Prop := fnLevelPlainRow.holds Try.pinned (OpenSpec.ofChange fnLevelPlainWrong)

/-- 'laws.FnExactLevelBase': WHATEVER THE INPUT: true; the input reads as it did. -/
def fnExactLevelBaseSpec : ChangeSpec := { name := "fnExactLevelBase", fn := fun _ => fun
  | [d] => { results := [.lit (.bool true)], args := [d] }
  | _ => none }
def fnExactLevelBaseRow : OpenClaim := { program := "ytkapjhlcmicpnaa", sum := "c97c49a89b922906f9c9a1921a0e842fb5f76590b61d6d49862ac32d60096912", func := "loop.example/colophon/laws.FnExactLevelBase", spec := "fnExactLevelBase", unfollowed := true, recurses := true, apart := false }
def FnExactLevelBaseSaid : Prop := fnExactLevelBaseRow.holds Try.pinned (OpenSpec.ofChange fnExactLevelBaseSpec)

/-- ITS FALSE NEIGHBOUR: 'it returns false'. Refute it at one input. -/
def fnExactLevelBaseWrong : ChangeSpec := { name := "fnExactLevelBase", fn := fun _ => fun
  | [d] => { results := [.lit (.bool false)], args := [d] }
  | _ => none }
def FnExactLevelBaseWrongFalsely : Prop := fnExactLevelBaseRow.holds Try.pinned (OpenSpec.ofChange fnExactLevelBaseWrong)

/-- 'laws.FnLevelBase': WHATEVER THE INPUT: true; the input reads as it did. -/
def fnLevelBaseSpec : ChangeSpec := { name := "fnLevelBase", fn := fun _ => fun
  | [d] => { results := [.lit (.bool true)], args := [d] }
  | _ => none }
def fnLevelBaseRow : OpenClaim := { program := "ytkapjhlcmicpnaa", sum := "c97c49a89b922906f9c9a1921a0e842fb5f76590b61d6d49862ac32d60096912", func := "loop.example/colophon/laws.FnLevelBase", spec := "fnLevelBase", unfollowed := true, recurses := true, apart := false }
def FnLevelBaseSaid : Prop := fnLevelBaseRow.holds Try.pinned (OpenSpec.ofChange fnLevelBaseSpec)

/-- ITS FALSE NEIGHBOUR: 'it returns false'. Refute it at one input. -/
def fnLevelBaseWrong : ChangeSpec := { name := "fnLevelBase", fn := fun _ => fun
  | [d] => { results := [.lit (.bool false)], args := [d] }
  | _ => none }
def FnLevelBaseWrongFalsely : Prop := fnLevelBaseRow.holds Try.pinned (OpenSpec.ofChange fnLevelBaseWrong)

/-- 'laws.FnExactSpansPlain': WHATEVER THE INPUT: true; the input reads as it did. -/
def fnExactSpansPlainSpec : ChangeSpec := { name := "fnExactSpansPlain", fn := fun _ => fun
  | [d1, d2] => { results := [.lit (.bool true)], args := [d1, d2] }
  | _ => none }
def fnExactSpansPlainRow : OpenClaim := { program := "ytkapjhlcmicpnaa", sum := "c97c49a89b922906f9c9a1921a0e842fb5f76590b61d6d49862ac32d60096912", func := "loop.example/colophon/laws.FnExactSpansPlain", spec := "fnExactSpansPlain", unfollowed := true, recurses := true, apart := false }
def FnExactSpansPlainSaid : Prop := fnExactSpansPlainRow.holds Try.pinned (OpenSpec.ofChange fnExactSpansPlainSpec)

/-- ITS FALSE NEIGHBOUR: 'it returns false'. Refute it at one input. -/
def fnExactSpansPlainWrong : ChangeSpec := { name := "fnExactSpansPlain", fn := fun _ => fun
  | [d1, d2] => { results := [.lit (.bool false)], args := [d1, d2] }
  | _ => none }
def FnExactSpansPlainWrongFalsely : Prop := fnExactSpansPlainRow.holds Try.pinned (OpenSpec.ofChange fnExactSpansPlainWrong)

/-- 'laws.FnSpansPlain': WHATEVER THE INPUT: true; the input reads as it did. -/
def fnSpansPlainSpec : ChangeSpec := { name := "fnSpansPlain", fn := fun _ => fun
  | [d] => { results := [.lit (.bool true)], args := [d] }
  | _ => none }
def fnSpansPlainRow : OpenClaim := { program := "ytkapjhlcmicpnaa", sum := "c97c49a89b922906f9c9a1921a0e842fb5f76590b61d6d49862ac32d60096912", func := "loop.example/colophon/laws.FnSpansPlain", spec := "fnSpansPlain", unfollowed := true, recurses := true, apart := false }
def FnSpansPlainSaid : Prop := fnSpansPlainRow.holds Try.pinned (OpenSpec.ofChange fnSpansPlainSpec)

/-- ITS FALSE NEIGHBOUR: 'it returns false'. Refute it at one input. -/
def fnSpansPlainWrong : ChangeSpec := { name := "fnSpansPlain", fn := fun _ => fun
  | [d] => { results := [.lit (.bool false)], args := [d] }
  | _ => none }
def FnSpansPlainWrongFalsely : Prop := fnSpansPlainRow.holds Try.pinned (OpenSpec.ofChange fnSpansPlainWrong)

/-- 'laws.FnExactSpansPut': WHATEVER THE INPUT: true; the input reads as it did. -/
def fnExactSpansPutSpec : ChangeSpec := { name := "fnExactSpansPut", fn := fun _ => fun
  | [d1, d2, d3] => { results := [.lit (.bool true)], args := [d1, d2, d3] }
  | _ => none }
def fnExactSpansPutRow : OpenClaim := { program := "ytkapjhlcmicpnaa", sum := "c97c49a89b922906f9c9a1921a0e842fb5f76590b61d6d49862ac32d60096912", func := "loop.example/colophon/laws.FnExactSpansPut", spec := "fnExactSpansPut", unfollowed := true, recurses := true, apart := false }
def FnExactSpansPutSaid : Prop := fnExactSpansPutRow.holds Try.pinned (OpenSpec.ofChange fnExactSpansPutSpec)

/-- ITS FALSE NEIGHBOUR: 'it returns false'. Refute it at one input. -/
def fnExactSpansPutWrong : ChangeSpec := { name := "fnExactSpansPut", fn := fun _ => fun
  | [d1, d2, d3] => { results := [.lit (.bool false)], args := [d1, d2, d3] }
  | _ => none }
def FnExactSpansPutWrongFalsely : Prop := fnExactSpansPutRow.holds Try.pinned (OpenSpec.ofChange fnExactSpansPutWrong)

/-- 'laws.FnSpansPut': WHATEVER THE INPUT: true; the input reads as it did. -/
def fnSpansPutSpec : ChangeSpec := { name := "fnSpansPut", fn := fun _ => fun
  | [d] => { results := [.lit (.bool true)], args := [d] }
  | _ => none }
def fnSpansPutRow : OpenClaim := { program := "ytkapjhlcmicpnaa", sum := "c97c49a89b922906f9c9a1921a0e842fb5f76590b61d6d49862ac32d60096912", func := "loop.example/colophon/laws.FnSpansPut", spec := "fnSpansPut", unfollowed := true, recurses := true, apart := false }
def FnSpansPutSaid : Prop := fnSpansPutRow.holds Try.pinned (OpenSpec.ofChange fnSpansPutSpec)

/-- ITS FALSE NEIGHBOUR: 'it returns false'. Refute it at one input. -/
def fnSpansPutWrong : ChangeSpec := { name := "fnSpansPut", fn := fun _ => fun
  | [d] => { results := [.lit (.bool false)], args := [d] }
  | _ => none }
def FnSpansPutWrongFalsely : Prop := fnSpansPutRow.holds Try.pinned (OpenSpec.ofChange fnSpansPutWrong)

/-- 'laws.FnExactUtf8Put': WHATEVER THE INPUT: true; the input reads as it did. -/
def fnExactUtf8PutSpec : ChangeSpec := { name := "fnExactUtf8Put", fn := fun _ => fun
  | [d] => { results := [.lit (.bool true)], args := [d] }
  | _ => none }
def fnExactUtf8PutRow : OpenClaim := { program := "ytkapjhlcmicpnaa", sum := "c97c49a89b922906f9c9a1921a0e842fb5f76590b61d6d49862ac32d60096912", func := "loop.example/colophon/laws.FnExactUtf8Put", spec := "fnExactUtf8Put", unfollowed := true, recurses := true, apart := false }
def FnExactUtf8PutSaid : Prop := fnExactUtf8PutRow.holds Try.pinned (OpenSpec.ofChange fnExactUtf8PutSpec)

/-- ITS FALSE NEIGHBOUR: 'it returns false'. Refute it at one input. -/
def fnExactUtf8PutWrong : ChangeSpec := { name := "fnExactUtf8Put", fn := fun _ => fun
  | [d] => { results := [.lit (.bool false)], args := [d] }
  | _ => none }
def FnExactUtf8PutWrongFalsely : Prop := fnExactUtf8PutRow.holds Try.pinned (OpenSpec.ofChange fnExactUtf8PutWrong)

/-- 'laws.FnExactLineWide': WHATEVER THE INPUT: true; the input reads as it did. -/
def fnExactLineWideSpec : ChangeSpec := { name := "fnExactLineWide", fn := fun _ => fun
  | [d1, d2, d3, d4] => { results := [.lit (.bool true)], args := [d1, d2, d3, d4] }
  | _ => none }
def fnExactLineWideRow : OpenClaim := { program := "ytkapjhlcmicpnaa", sum := "c97c49a89b922906f9c9a1921a0e842fb5f76590b61d6d49862ac32d60096912", func := "loop.example/colophon/laws.FnExactLineWide", spec := "fnExactLineWide", unfollowed := true, recurses := true, apart := false }
def FnExactLineWideSaid : Prop := fnExactLineWideRow.holds Try.pinned (OpenSpec.ofChange fnExactLineWideSpec)

/-- ITS FALSE NEIGHBOUR: 'it returns false'. Refute it at one input. -/
def fnExactLineWideWrong : ChangeSpec := { name := "fnExactLineWide", fn := fun _ => fun
  | [d1, d2, d3, d4] => { results := [.lit (.bool false)], args := [d1, d2, d3, d4] }
  | _ => none }
def FnExactLineWideWrongFalsely : Prop := fnExactLineWideRow.holds Try.pinned (OpenSpec.ofChange fnExactLineWideWrong)

/- THE SECOND FORM. 'bulk': how many values and letters a reading holds, each counted each time it is reached (what is shared counts as often as it is met; a slice's spare places count too). A statement '..UptoSaid' is the law's where the arguments, and the package variables that the reading takes, are together of bulk at most 1048576: NARROWER than '..Said'. Prove '..Said' where nothing that the law and all that it calls make is longer than what came in: it says more and counts as full. Else prove '..UptoSaid'. A law counts once. -/
mutual
def uptoBulk {H : Type} : DataW H → Nat
  | .lit (.string bytes) => bytes.length + 1
  | .lit _ => 1
  | .nil => 1
  | .ptr d => uptoBulk d + 1
  | .slice elems spare => uptoBulkAll elems + uptoBulkAll spare + 1
  | .agg parts => uptoBulkAll parts + 1
  | .iface _ d => uptoBulk d + 1
  | .map entries => uptoBulkEntries entries + 1
  | .held _ => 1
def uptoBulkAll {H : Type} : List (DataW H) → Nat
  | [] => 0
  | d :: r => uptoBulk d + uptoBulkAll r
def uptoBulkEntries {H : Type} : List (Lit × DataW H) → Nat
  | [] => 0
  | x :: r => uptoBulkEntry x + uptoBulkEntries r
def uptoBulkEntry {H : Type} : Lit × DataW H → Nat
  | (.string bytes, d) => bytes.length + uptoBulk d + 1
  | (_, d) => uptoBulk d + 1
 end
def uptoSmall : (H : Type) → List (DataW H) → Bool := fun _ ds => decide (uptoBulkAll ds ≤ 1048576)
def OpenSpec.upto (s : _root_.Go.ChangeSpec) : _root_.Go.OpenSpec := { _root_.Go.OpenSpec.ofChange s with cond := some uptoSmall }

/-- 'laws.FnExactLevelPlain', WHERE WHAT IT READS IS OF BULK AT MOST 1048576: true; the input reads as it did. -/
def fnExactLevelPlainUptoRow : OpenClaim := { program := "ytkapjhlcmicpnaa", sum := "c97c49a89b922906f9c9a1921a0e842fb5f76590b61d6d49862ac32d60096912", func := "loop.example/colophon/laws.FnExactLevelPlain", spec := "fnExactLevelPlain", unfollowed := true, recurses := true, apart := false, narrowed := true }
def FnExactLevelPlainUptoSaid : Prop := fnExactLevelPlainUptoRow.holds Try.pinned (OpenSpec.upto fnExactLevelPlainSpec)

/-- 'laws.FnLevelPlain', WHERE WHAT IT READS IS OF BULK AT MOST 1048576: true; the input reads as it did. -/
def fnLevelPlainUptoRow : OpenClaim := { program := "ytkapjhlcmicpnaa", sum := "c97c49a89b922906f9c9a1921a0e842fb5f76590b61d6d49862ac32d60096912", func := "loop.example/colophon/laws.FnLevelPlain", spec := "fnLevelPlain", unfollowed := true, recurses := true, apart := false, narrowed := true }
def FnLevelPlainUptoSaid : Prop := fnLevelPlainUptoRow.holds Try.pinned (OpenSpec.upto fnLevelPlainSpec)

/-- 'laws.FnExactLevelBase', WHERE WHAT IT READS IS OF BULK AT MOST 1048576: true; the input reads as it did. -/
def fnExactLevelBaseUptoRow : OpenClaim := { program := "ytkapjhlcmicpnaa", sum := "c97c49a89b922906f9c9a1921a0e842fb5f76590b61d6d49862ac32d60096912", func := "loop.example/colophon/laws.FnExactLevelBase", spec := "fnExactLevelBase", unfollowed := true, recurses := true, apart := false, narrowed := true }
def FnExactLevelBaseUptoSaid : Prop := fnExactLevelBaseUptoRow.holds Try.pinned (OpenSpec.upto fnExactLevelBaseSpec)

/-- 'laws.FnLevelBase', WHERE WHAT IT READS IS OF BULK AT MOST 1048576: true; the input reads as it did. -/
def fnLevelBaseUptoRow : OpenClaim := { program := "ytkapjhlcmicpnaa", sum := "c97c49a89b922906f9c9a1921a0e842fb5f76590b61d6d49862ac32d60096912", func := "loop.example/colophon/laws.FnLevelBase", spec := "fnLevelBase", unfollowed := true, recurses := true, apart := false, narrowed := true }
def FnLevelBaseUptoSaid : Prop := fnLevelBaseUptoRow.holds Try.pinned (OpenSpec.upto fnLevelBaseSpec)

/-- 'laws.FnExactSpansPlain', WHERE WHAT IT READS IS OF BULK AT MOST 1048576: true; the input reads as it did. -/
def fnExactSpansPlainUptoRow : OpenClaim := { program := "ytkapjhlcmicpnaa", sum := "c97c49a89b922906f9c9a1921a0e842fb5f76590b61d6d49862ac32d60096912", func := "loop.example/colophon/laws.FnExactSpansPlain", spec := "fnExactSpansPlain", unfollowed := true, recurses := true, apart := false, narrowed := true }
def FnExactSpansPlainUptoSaid : Prop := fnExactSpansPlainUptoRow.holds Try.pinned (OpenSpec.upto fnExactSpansPlainSpec)

/-- 'laws.FnSpansPlain', WHERE WHAT IT READS IS OF BULK AT MOST 1048576: true; the input reads as it did. -/
def fnSpansPlainUptoRow : OpenClaim := { program := "ytkapjhlcmicpnaa", sum := "c97c49a89b922906f9c9a1921a0e842fb5f76590b61d6d49862ac32d60096912", func := "loop.example/colophon/laws.FnSpansPlain", spec := "fnSpansPlain", unfollowed := true, recurses := true, apart := false, narrowed := true }
def FnSpansPlainUptoSaid : Prop := fnSpansPlainUptoRow.holds Try.pinned (OpenSpec.upto fnSpansPlainSpec)

/-- 'laws.FnExactSpansPut', WHERE WHAT IT READS IS OF BULK AT MOST 1048576: true; the input reads as it did. -/
def fnExactSpansPutUptoRow : OpenClaim := { program := "ytkapjhlcmicpnaa", sum := "c97c49a89b922906f9c9a1921a0e842fb5f76590b61d6d49862ac32d60096912", func := "loop.example/colophon/laws.FnExactSpansPut", spec := "fnExactSpansPut", unfollowed := true, recurses := true, apart := false, narrowed := true }
def FnExactSpansPutUptoSaid : Prop := fnExactSpansPutUptoRow.holds Try.pinned (OpenSpec.upto fnExactSpansPutSpec)

/-- 'laws.FnSpansPut', WHERE WHAT IT READS IS OF BULK AT MOST 1048576: true; the input reads as it did. -/
def fnSpansPutUptoRow : OpenClaim := { program := "ytkapjhlcmicpnaa", sum := "c97c49a89b922906f9c9a1921a0e842fb5f76590b61d6d49862ac32d60096912", func := "loop.example/colophon/laws.FnSpansPut", spec := "fnSpansPut", unfollowed := true, recurses := true, apart := false, narrowed := true }
def FnSpansPutUptoSaid : Prop := fnSpansPutUptoRow.holds Try.pinned (OpenSpec.upto fnSpansPutSpec)

/-- 'laws.FnExactUtf8Put', WHERE WHAT IT READS IS OF BULK AT MOST 1048576: true; the input reads as it did. -/
def fnExactUtf8PutUptoRow : OpenClaim := { program := "ytkapjhlcmicpnaa", sum := "c97c49a89b922906f9c9a1921a0e842fb5f76590b61d6d49862ac32d60096912", func := "loop.example/colophon/laws.FnExactUtf8Put", spec := "fnExactUtf8Put", unfollowed := true, recurses := true, apart := false, narrowed := true }
def FnExactUtf8PutUptoSaid : Prop := fnExactUtf8PutUptoRow.holds Try.pinned (OpenSpec.upto fnExactUtf8PutSpec)

/-- 'laws.FnExactLineWide', WHERE WHAT IT READS IS OF BULK AT MOST 1048576: true; the input reads as it did. -/
def fnExactLineWideUptoRow : OpenClaim := { program := "ytkapjhlcmicpnaa", sum := "c97c49a89b922906f9c9a1921a0e842fb5f76590b61d6d49862ac32d60096912", func := "loop.example/colophon/laws.FnExactLineWide", spec := "fnExactLineWide", unfollowed := true, recurses := true, apart := false, narrowed := true }
def FnExactLineWideUptoSaid : Prop := fnExactLineWideUptoRow.holds Try.pinned (OpenSpec.upto fnExactLineWideSpec)

end Rows
end Go.Proofs.Ytkapjhlcmicpnaa
