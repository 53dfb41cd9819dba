/-
  DERIVED. GIVEN WITH THE SEED: THE CARDS: each row of YtfpmeahdfipeeaaDoorRows.lean that lists a variable, with what it lists TIED to the program's text (the seventh form; the later family's looks); each row that meets fmt, with fmt's text TOLD by the authors' own Lean function (tested against real Go, not proved from fmt's source: count such statements apart). THE CARD IS WHAT COUNTS. Prove the row's statement (the work); the ties are given (YtfpmeahdfipeeaaDoorTie.lean); close each card by the builder's one call (the guide's Derived/Test/ToyasCard.lean, 'card_holds'). Laid BY PROGRAM, IN A SANDBOX (cutbox-door.mjs). By AI agents, Wed Nov 11 2026. No macro, syntax, notation, axiom, sorry.
-/
import Derived.Test.YtfpmeahdfipeeaaDoorRows
import GoSem.ClaimSeven
namespace Go.Proofs.YtfpmeahdfipeeaaDoor
namespace Rows

/-- THE TIED CARD OF 'laws.FnUtf8Cut'. -/
def fnUtf8CutCard : Claim7 := { stood := { row := fnUtf8CutRow, standIns := [], harness := (true, "6647a7b827f64e37c7345321ef59bdc19a17a8460dc504e1014a9fcb27284049"), looks := false }, kinds := [], alts := [], laidByText := true, laidKinds := [.data, .pinned], laidTests := true, laidLooks := .later }
def FnUtf8CutCardSaid : Prop := Claim7.holds Tryd.pinned (.plain (OpenSpec.ofChange fnUtf8CutSpec)) fnUtf8CutCard

/-- THE TIED CARD OF 'laws.FnUtf8Text'. -/
def fnUtf8TextCard : Claim7 := { stood := { row := fnUtf8TextRow, standIns := [], harness := (true, "6647a7b827f64e37c7345321ef59bdc19a17a8460dc504e1014a9fcb27284049"), looks := false }, kinds := [], alts := [], laidByText := true, laidKinds := [.data, .pinned], laidTests := true, laidLooks := .later }
def FnUtf8TextCardSaid : Prop := Claim7.holds Tryd.pinned (.plain (OpenSpec.ofChange fnUtf8TextSpec)) fnUtf8TextCard

/-- THE SECOND FORM's CARD OF 'laws.FnUtf8Cut'. -/
def fnUtf8CutUptoCard : Claim7 := { stood := { row := fnUtf8CutUptoRow, standIns := [], harness := (true, "6647a7b827f64e37c7345321ef59bdc19a17a8460dc504e1014a9fcb27284049"), looks := false }, kinds := [], alts := [], laidByText := true, laidKinds := [.data, .pinned], laidTests := true, laidLooks := .later }
def FnUtf8CutUptoCardSaid : Prop := Claim7.holds Tryd.pinned (.plain (OpenSpec.upto fnUtf8CutSpec)) fnUtf8CutUptoCard

/-- THE SECOND FORM's CARD OF 'laws.FnUtf8Text'. -/
def fnUtf8TextUptoCard : Claim7 := { stood := { row := fnUtf8TextUptoRow, standIns := [], harness := (true, "6647a7b827f64e37c7345321ef59bdc19a17a8460dc504e1014a9fcb27284049"), looks := false }, kinds := [], alts := [], laidByText := true, laidKinds := [.data, .pinned], laidTests := true, laidLooks := .later }
def FnUtf8TextUptoCardSaid : Prop := Claim7.holds Tryd.pinned (.plain (OpenSpec.upto fnUtf8TextSpec)) fnUtf8TextUptoCard
end Rows
end Go.Proofs.YtfpmeahdfipeeaaDoor
