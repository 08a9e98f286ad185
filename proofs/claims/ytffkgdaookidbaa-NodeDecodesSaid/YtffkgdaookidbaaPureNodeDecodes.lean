/-
The plain law NodeDecodes: the program's Decode answers as the reference's, for any bytes.
-/
import Derived.Test.YtffkgdaookidbaaXNx27
import Derived.Test.YtffkgdaookidbaaForm5
import Derived.Test.YtffkgdaookidbaaAwake
set_option linter.unusedVariables false
namespace Go.Proofs.Ytffkgdaookidbaa.Pure
open Go.RowKit Go.Proofs.Ytffkgdaookidbaa.XNx Go.Proofs.Ytffkgdaookidbaa.Base Go.Proofs.Ytffkgdaookidbaa.Form Go.Proofs.YtffkgdaookidbaaW.PrintWords Go.Proofs.YtffkgdaookidbaaW.PrintLast Go.Proofs.YtffkgdaookidbaaW.PrintMore

theorem NodeDecodes : dasdlaw20_NodeDecodes.Pure := by
  intro a0 a1 w0 w1
  apply Ev.rounds
  unfold dasdlaw20_NodeDecodes.f
  refine Ev.bind awake_ev ?_
  refine Ev.congr (fun k => if_pos rfl) ?_
  by_cases hs : (a1.size : Int) > 600
  · exact Ev.congr (fun k => if_pos hs) (Ev.now _)
  refine Ev.congr (fun k => if_neg hs) ?_
  refine Ev.bind (dec_ev a0 a1) ?_
  refine Ev.bind (rdec_ev a0 a1) ?_
  have hl : (decP a0 a1).2.2.1.length ≤ 9223372036854775807 := by
    rcases decP_cases a0 a1 with ⟨a, b, l, h, _, hl⟩ | ⟨c, _, h⟩
    · rw [h]
      exact Nat.le_trans hl (by decide)
    · rw [h]
      exact Nat.zero_le _
  refine Ev.bind (same_ev _ _ _ hl) ?_
  refine Ev.congr (fun k => if_pos rfl) ?_
  rw [beq_self_eq_true]
  exact Ev.now _
end Go.Proofs.Ytffkgdaookidbaa.Pure
