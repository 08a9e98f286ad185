-- Cut by prune.py, a program of this session, out of a text that the kit's print.sh printed: the declarations that the claims' texts reach, each as it was printed.
import Derived.Test.YtffkgdaookidbaaWInv
import Derived.Test.YtffkgdaookidbaaWFootNe
namespace Go.Proofs.YtffkgdaookidbaaW.PrintWords
open Go.RowKit
end Go.Proofs.YtffkgdaookidbaaW.PrintWords
namespace Go.Proofs.YtffkgdaookidbaaW.PrintLast
section
variable {ops : Array Oper} {a : Act} {o og : Oper} {g : Nat} {t : Tmp} {u : Bool}
end
end Go.Proofs.YtffkgdaookidbaaW.PrintLast
