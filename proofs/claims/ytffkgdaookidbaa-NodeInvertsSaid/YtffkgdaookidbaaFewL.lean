/-
What the reference's Few answers: a bool; where it is true, there are at most two hundred entries.
-/
import Derived.Test.YtffkgdaookidbaaXNx17
import Derived.Test.YtffkgdaookidbaaBase
set_option linter.unusedVariables false
namespace Go.Proofs.Ytffkgdaookidbaa.Pure
open Go.RowKit Go.Proofs.Ytffkgdaookidbaa.XNx Go.Proofs.Ytffkgdaookidbaa.Base Go.Proofs.YtffkgdaookidbaaW.PrintWords Go.Proofs.YtffkgdaookidbaaW.PrintLast Go.Proofs.YtffkgdaookidbaaW.PrintMore

theorem few_l0 (a b : Int) (l : List S32) (hl : l.length ≤ 9223372036854775807) (d : Nat) : ∀ i : Nat, l.length = i + d → ∃ r, Ev (fun k => dasdref20_Few.l0 k (i : Int) a b l) r ∧ (r = true → l.length ≤ 200) := by
  induction d with
  | zero =>
    intro i h
    refine ⟨decide ((l.length : Int) ≤ 200), Ev.step (f := fun _ => some _) (fun k => ?_) (Ev.now _), fun h => by have := of_decide_eq_true h; omega⟩
    rw [dasdref20_Few.l0, if_neg (by omega)]
  | succ d ih =>
    intro i h
    by_cases hb : ((rd_T32 l (i : Int)).f0.size : Int) > 100
    · refine ⟨false, Ev.step (f := fun _ => some _) (fun k => ?_) (Ev.now _), fun h => by cases h⟩
      rw [dasdref20_Few.l0, if_pos (by omega), if_pos (by omega), if_pos hb]
    · obtain ⟨r, e, p⟩ := ih (i + 1) (by omega)
      refine ⟨r, Ev.step (fun k => ?_) e, p⟩
      show dasdref20_Few.l0 (k + 1) (i : Int) a b l = dasdref20_Few.l0 k ((i + 1 : Nat) : Int) a b l
      rw [dasdref20_Few.l0, if_pos (by omega), if_pos (by omega), if_neg hb, w64 (by omega) (by omega)]
      rfl
theorem few_ev (a b : Int) (l : List S32) (hl : l.length ≤ 9223372036854775807) : ∃ r, Ev (fun k => dasdref20_Few.f k a b l) r ∧ (r = true → l.length ≤ 200) :=
  few_l0 a b l hl l.length 0 (by omega)
end Go.Proofs.Ytffkgdaookidbaa.Pure
