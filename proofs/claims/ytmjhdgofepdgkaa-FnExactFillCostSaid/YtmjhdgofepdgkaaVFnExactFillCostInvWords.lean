import Derived.Test.YtmjhdgofepdgkaaVFnExactFillCostInv
import Derived.Test.YtmjhdgofepdgkaaVFnExactFillCostFootNe
namespace Go.Proofs.YtmjhdgofepdgkaaW.PrintWords
open Go.RowKit
end Go.Proofs.YtmjhdgofepdgkaaW.PrintWords
namespace Go.Proofs.YtmjhdgofepdgkaaW.PrintLast
section
variable {ops : Array Oper} {a : Act} {o og : Oper} {g : Nat} {t : Tmp} {u : Bool}
end
end Go.Proofs.YtmjhdgofepdgkaaW.PrintLast
