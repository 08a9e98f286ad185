-- Cut by prune.py, a program of this session, out of a text that the kit's print.sh printed: the declarations that the claims' texts reach, each as it was printed.
import Derived.Test.YtffkgdaookidbaaWTab
/-! ### 56. Four, five, six operations that may come up next, in any order -/
namespace Go.Proofs.YtffkgdaookidbaaW.PrintLast
section
variable {P : Program} {ops : Array Oper} {Q : Exit → Act → World → Prop} {md : Region.Mode} {S : World → Prop} {ds : List Nat} {T : Bool × List (List Nat × List Nat)}
end
end Go.Proofs.YtffkgdaookidbaaW.PrintLast
