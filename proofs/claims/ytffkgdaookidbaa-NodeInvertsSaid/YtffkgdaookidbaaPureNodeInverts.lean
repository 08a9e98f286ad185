/-
The plain law NodeInverts: a node that is valid and fits is encoded and decoded as itself; what is decoded is encoded as the same bytes.
-/
import Derived.Test.YtffkgdaookidbaaXNx31
import Derived.Test.YtffkgdaookidbaaForm4
import Derived.Test.YtffkgdaookidbaaAwake
import Derived.Test.YtffkgdaookidbaaFewL
set_option linter.unusedVariables false
namespace Go.Proofs.Ytffkgdaookidbaa.Pure
open Go.RowKit Go.Proofs.Ytffkgdaookidbaa.XNx Go.Proofs.Ytffkgdaookidbaa.Base Go.Proofs.Ytffkgdaookidbaa.Form Go.Proofs.YtffkgdaookidbaaW.PrintWords Go.Proofs.YtffkgdaookidbaaW.PrintLast Go.Proofs.YtffkgdaookidbaaW.PrintMore

theorem inverts_j1 (a0 : Int) (d : ByteArray) : Ev (fun k => dasdlaw20_NodeInverts.j1 k a0 d) true := by
  refine Ev.step (fun k => by rw [dasdlaw20_NodeInverts.j1]) ?_
  refine Ev.bind (dec_ev a0 d) ?_
  rcases decP_cases a0 d with ⟨a, b, l, h, he, hl⟩ | ⟨c, hc, h⟩
  · rw [h]
    refine Ev.congr (fun k => if_pos rfl) ?_
    refine Ev.bind (enc_ev a0 a b l (Nat.le_trans hl (by decide))) ?_
    rw [he]
    refine Ev.congr (fun k => if_pos rfl) ?_
    rw [beq_self_eq_true]
    exact Ev.now _
  · rw [h]
    exact Ev.congr (fun k => if_neg (show ¬ c = 0 by omega)) (Ev.now _)
theorem inverts_j0 (a0 a b : Int) (l : List S32) (d : ByteArray) (hl : l.length ≤ 9223372036854775807) (x : Bool) : Ev (fun k => dasdlaw20_NodeInverts.j0 k a0 d x a b l) true := by
  cases x with
  | true => exact Ev.step (f := fun _ => some true) (fun k => by rw [dasdlaw20_NodeInverts.j0, if_pos rfl]) (Ev.now _)
  | false =>
    refine Ev.step (fun k => by rw [dasdlaw20_NodeInverts.j0, if_neg (show ¬ false = true by simp)]) ?_
    refine Ev.bind (enc_ev a0 a b l hl) ?_
    refine Ev.bind (valid_ev a0 a b l hl) ?_
    refine Ev.congr (fun k => if_neg (by rw [enc_code]; simp)) ?_
    by_cases h : (enc a0 a b l).2 = 0
    · refine Ev.congr (fun k => if_pos h) ?_
      have he : enc a0 a b l = ((enc a0 a b l).1, 0) := Prod.ext rfl h
      obtain ⟨h1, h2, h3, h4⟩ := enc_some he
      refine Ev.bind (dec_ev a0 _) ?_
      rw [decP_enc he]
      refine Ev.congr (fun k => (if_pos rfl).trans (if_pos (enc_size he))) ?_
      refine Ev.bind (same_ev a b l hl) ?_
      refine Ev.congr (fun k => if_pos rfl) ?_
      have hs := size_ev a b l hl
      rw [if_pos h2] at hs
      refine Ev.bind hs ?_
      exact Ev.congr (fun k => if_neg (show ¬ ((frm a b l).length : Int) > a0 by omega)) (inverts_j1 a0 d)
    · exact Ev.congr (fun k => if_neg h) (inverts_j1 a0 d)
theorem NodeInverts (a0 f0 f1 : Int) (l : List S32) (key : ByteArray) (w0 : (Lit.int .i64 a0).wf = true) (w1 : (Lit.int .i64 f0).wf = true) (w2 : (Lit.int .i64 f1).wf = true) (hl : l.length ≤ 9223372036854775807) (hk : key.size ≤ 140737488351232) :
    ∃ k, dasdlaw20_NodeInverts.f k a0 f0 f1 l key = some true := by
  apply Ev.rounds
  unfold dasdlaw20_NodeInverts.f
  refine Ev.bind awake_ev ?_
  refine Ev.congr (fun k => if_pos rfl) ?_
  obtain ⟨r, e, _⟩ := few_ev f0 f1 l hl
  refine Ev.bind e ?_
  cases r with
  | false => exact Ev.congr (fun k => if_neg (by simp)) (inverts_j0 a0 f0 f1 l key hl true)
  | true => exact Ev.congr (fun k => if_pos rfl) (inverts_j0 a0 f0 f1 l key hl _)
end Go.Proofs.Ytffkgdaookidbaa.Pure
