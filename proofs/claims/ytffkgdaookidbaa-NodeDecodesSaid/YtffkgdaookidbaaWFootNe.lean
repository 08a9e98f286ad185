-- Cut by prune.py, a program of this session, out of a text that the kit's print.sh printed: the declarations that the claims' texts reach, each as it was printed.
import Derived.Test.YtffkgdaookidbaaWN
/-! ### 52. A row that stays read whatever happens to a block (a set of blocks) doesn't lie there -/
namespace Go.Proofs.YtffkgdaookidbaaW.PrintWords
open Go.RowKit
namespace Kd
section
variable {α : Type} {d : Kd α} {W : World} {g n : Nat} {S ok : Nat → Prop} {A : Option Addr} {ad : Addr} {xs : List α}
end
end Kd
end Go.Proofs.YtffkgdaookidbaaW.PrintWords
