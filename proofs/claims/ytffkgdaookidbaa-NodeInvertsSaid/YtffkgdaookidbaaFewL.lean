/-
What the reference's Few answers: a bool; where it is true, there are at most two hundred entries. What the reference's Size and both Valids answer.
-/
import Derived.Test.YtffkgdaookidbaaXNx17
import Derived.Test.YtffkgdaookidbaaForm2
set_option linter.unusedVariables false
namespace Go.Proofs.Ytffkgdaookidbaa.Pure
open Go.RowKit Go.Proofs.Ytffkgdaookidbaa.XNx Go.Proofs.Ytffkgdaookidbaa.Base Go.Proofs.YtffkgdaookidbaaW.PrintWords Go.Proofs.YtffkgdaookidbaaW.PrintLast Go.Proofs.YtffkgdaookidbaaW.PrintMore

theorem few_l0 (a b : Int) (l : List S32) (hl : l.length ≤ 9223372036854775807) (d : Nat) : ∀ i : Nat, l.length = i + d → ∃ r, Ev (fun k => dasdref20_Few.l0 k (i : Int) a b l) r ∧ (r = true → l.length ≤ 200) := by
  induction d with
  | zero =>
    intro i h
    refine ⟨decide ((l.length : Int) ≤ 200), Ev.step (f := fun _ => some _) (fun k => ?_) (Ev.now _), fun h => by have := of_decide_eq_true h; omega⟩
    rw [dasdref20_Few.l0, if_neg (by omega)]
  | succ d ih =>
    intro i h
    by_cases hb : ((rd_T32 l (i : Int)).f0.size : Int) > 100
    · refine ⟨false, Ev.step (f := fun _ => some _) (fun k => ?_) (Ev.now _), fun h => by cases h⟩
      rw [dasdref20_Few.l0, if_pos (by omega), if_pos (by omega), if_pos hb]
    · obtain ⟨r, e, p⟩ := ih (i + 1) (by omega)
      refine ⟨r, Ev.step (fun k => ?_) e, p⟩
      show dasdref20_Few.l0 (k + 1) (i : Int) a b l = dasdref20_Few.l0 k ((i + 1 : Nat) : Int) a b l
      rw [dasdref20_Few.l0, if_pos (by omega), if_pos (by omega), if_neg hb, w64 (by omega) (by omega)]
      rfl
theorem few_ev (a b : Int) (l : List S32) (hl : l.length ≤ 9223372036854775807) : ∃ r, Ev (fun k => dasdref20_Few.f k a b l) r ∧ (r = true → l.length ≤ 200) :=
  few_l0 a b l hl l.length 0 (by omega)
end Go.Proofs.Ytffkgdaookidbaa.Pure
namespace Go.Proofs.Ytffkgdaookidbaa.Form
open Go.RowKit Go.Proofs.Ytffkgdaookidbaa.XNx Go.Proofs.Ytffkgdaookidbaa.Base Go.Proofs.YtffkgdaookidbaaW.PrintWords Go.Proofs.YtffkgdaookidbaaW.PrintLast Go.Proofs.YtffkgdaookidbaaW.PrintMore

theorem rsize_ev (a b : Int) (l : List S32) (hl : l.length ≤ 9223372036854775807) : Ev (fun k => dasdref20_Size.f k a b l) (if valid a b l = true then ((frm a b l).length : Int) else 0) := by
  unfold dasdref20_Size.f
  refine Ev.bind (isnode_ev a b l hl) ?_
  cases hv : valid a b l with
  | false => exact Ev.congr (fun k => if_neg (by simp)) (Ev.now _)
  | true =>
    refine Ev.congr (fun k => if_pos rfl) ?_
    refine Ev.bind (form_ev a b l hv) ?_
    rw [mk_size, if_pos rfl]
    exact Ev.now _
def vfit (sz a b : Int) (l : List S32) : Bool := okS sz && valid a b l && decide (((frm a b l).length : Int) ≤ sz)
theorem valid_ev (sz a b : Int) (l : List S32) (hl : l.length ≤ 9223372036854775807) : Ev (fun k => node_Valid.f k sz a b l) (vfit sz a b l) := by
  unfold node_Valid.f vfit
  rw [isSize_f]
  refine Ev.bind (f := fun k t417 => (if t417 = true then ((node_plain.f k a b l).bind fun t418 => (if t418 = true then ((node_Size.f k a b l).bind fun t419 => (some (decide (t419 ≤ sz)))) else (some false))) else (some false))) (Ev.now _) ?_
  cases hz : okS sz with
  | false => exact Ev.congr (fun k => if_neg (by simp)) (Ev.now _)
  | true =>
    refine Ev.congr (fun k => if_pos rfl) ?_
    refine Ev.bind (plain_ev a b l hl) ?_
    have hs := size_ev a b l hl
    cases hv : valid a b l with
    | false => exact Ev.congr (fun k => if_neg (by simp)) (Ev.now _)
    | true =>
      rw [if_pos hv] at hs
      refine Ev.congr (fun k => if_pos rfl) ?_
      refine Ev.bind hs ?_
      exact Ev.now _
theorem rvalid_ev (sz a b : Int) (l : List S32) (hl : l.length ≤ 9223372036854775807) : Ev (fun k => dasdref20_Valid.f k sz a b l) (vfit sz a b l) := by
  unfold dasdref20_Valid.f vfit
  rw [risSize_f]
  refine Ev.bind (f := fun k t417 => (if t417 = true then ((dasdref20_IsNode.f k a b l).bind fun t418 => (if t418 = true then ((dasdref20_Size.f k a b l).bind fun t419 => (some (decide (t419 ≤ sz)))) else (some false))) else (some false))) (Ev.now _) ?_
  cases hz : okS sz with
  | false => exact Ev.congr (fun k => if_neg (by simp)) (Ev.now _)
  | true =>
    refine Ev.congr (fun k => if_pos rfl) ?_
    refine Ev.bind (isnode_ev a b l hl) ?_
    have hs := rsize_ev a b l hl
    cases hv : valid a b l with
    | false => exact Ev.congr (fun k => if_neg (by simp)) (Ev.now _)
    | true =>
      rw [if_pos hv] at hs
      refine Ev.congr (fun k => if_pos rfl) ?_
      refine Ev.bind hs ?_
      exact Ev.now _
theorem enc_code (sz a b : Int) (l : List S32) : ((enc sz a b l).2 == 0) = vfit sz a b l := by
  unfold enc vfit
  by_cases h1 : okS sz = true ∧ valid a b l = true
  · rw [if_pos h1, h1.1, h1.2]
    by_cases h2 : ((frm a b l).length : Int) > sz
    · rw [if_pos h2, decide_eq_false (by omega)]
      rfl
    · rw [if_neg h2, decide_eq_true (by omega)]
      rfl
  · rw [if_neg h1]
    have : (okS sz && valid a b l) = false := by
      rw [Bool.and_eq_false_iff]
      cases hz : okS sz with
      | false => exact .inl rfl
      | true =>
        cases hv : valid a b l with
        | false => exact .inr rfl
        | true => exact absurd ⟨hz, hv⟩ h1
    rw [this]
    rfl
end Go.Proofs.Ytffkgdaookidbaa.Form
