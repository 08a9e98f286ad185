/-
The plain law NodeEncodes: the program's Encode, Size and Valid answer as the reference's, for any node.
-/
import Derived.Test.YtffkgdaookidbaaXNx30
import Derived.Test.YtffkgdaookidbaaForm2
import Derived.Test.YtffkgdaookidbaaAwake
import Derived.Test.YtffkgdaookidbaaFewL
set_option linter.unusedVariables false
namespace Go.Proofs.Ytffkgdaookidbaa.Pure
open Go.RowKit Go.Proofs.Ytffkgdaookidbaa.XNx Go.Proofs.Ytffkgdaookidbaa.Base Go.Proofs.Ytffkgdaookidbaa.Form Go.Proofs.YtffkgdaookidbaaW.PrintWords Go.Proofs.YtffkgdaookidbaaW.PrintLast Go.Proofs.YtffkgdaookidbaaW.PrintMore

theorem NodeEncodes (a0 f0 f1 : Int) (l : List S32) (w0 : (Lit.int .i64 a0).wf = true) (w1 : (Lit.int .i64 f0).wf = true) (w2 : (Lit.int .i64 f1).wf = true) (hl : l.length ≤ 9223372036854775807) :
    ∃ k, dasdlaw20_NodeEncodes.f k a0 f0 f1 l = some true := by
  apply Ev.rounds
  unfold dasdlaw20_NodeEncodes.f
  refine Ev.bind awake_ev ?_
  refine Ev.congr (fun k => if_pos rfl) ?_
  obtain ⟨r, e, _⟩ := few_ev f0 f1 l hl
  refine Ev.bind e ?_
  cases r with
  | false => exact Ev.congr (fun k => if_neg (by simp)) (Ev.now _)
  | true =>
    refine Ev.congr (fun k => if_pos rfl) ?_
    refine Ev.bind (enc_ev a0 f0 f1 l hl) ?_
    refine Ev.bind (renc_ev a0 f0 f1 l hl) ?_
    refine Ev.congr (fun k => (if_pos rfl).trans (if_pos rfl)) ?_
    refine Ev.bind (size_ev f0 f1 l hl) ?_
    refine Ev.bind (rsize_ev f0 f1 l hl) ?_
    refine Ev.congr (fun k => if_pos rfl) ?_
    refine Ev.bind (valid_ev a0 f0 f1 l hl) ?_
    refine Ev.bind (rvalid_ev a0 f0 f1 l hl) ?_
    rw [show (vfit a0 f0 f1 l == vfit a0 f0 f1 l) = true from beq_self_eq_true _]
    exact Ev.now _
end Go.Proofs.Ytffkgdaookidbaa.Pure
