import Derived.Test.YtaiaapjlpbhlbaaDoorZWInv
import Derived.Test.YtaiaapjlpbhlbaaDoorZWFootNe
namespace Go.Proofs.YtaiaapjlpbhlbaaDoorW.PrintWords
open Go.RowKit
end Go.Proofs.YtaiaapjlpbhlbaaDoorW.PrintWords
namespace Go.Proofs.YtaiaapjlpbhlbaaDoorW.PrintLast
section
variable {ops : Array Oper} {a : Act} {o og : Oper} {g : Nat} {t : Tmp} {u : Bool}
end
end Go.Proofs.YtaiaapjlpbhlbaaDoorW.PrintLast

