/-
The example of the chapter holds of the program: awake answers true.
-/
import Derived.Test.YtffkgdaookidbaaXNx13
set_option linter.unusedVariables false
namespace Go.Proofs.Ytffkgdaookidbaa.Pure
open Go.RowKit Go.Proofs.Ytffkgdaookidbaa.XNx Go.Proofs.YtffkgdaookidbaaW.PrintWords Go.Proofs.YtffkgdaookidbaaW.PrintLast Go.Proofs.YtffkgdaookidbaaW.PrintMore

set_option maxRecDepth 100000 in
theorem awake_ev : Ev (fun k => dasdlaw20_awake.f k) true :=
  Ev.of dasdlaw20_awake.mono (k := 60) (by decide +kernel)
end Go.Proofs.Ytffkgdaookidbaa.Pure
