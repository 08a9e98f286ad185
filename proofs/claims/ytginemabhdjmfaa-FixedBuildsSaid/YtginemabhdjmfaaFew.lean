/-
Plain law on the guard Few of chapter 10's statements: few records, each short.
-/
import Derived.Test.YtginemabhdjmfaaBase
set_option linter.unusedVariables false
namespace Go.Proofs.Ytginemabhdjmfaa.Base
open Go.RowKit Go.Proofs.Ytginemabhdjmfaa.XFx Go.Proofs.YtginemabhdjmfaaW.PrintWords Go.Proofs.YtginemabhdjmfaaW.PrintLast Go.Proofs.YtginemabhdjmfaaW.PrintMore

theorem few_l0 (l : List ByteArray) (c m : Int) (hl : l.length ≤ 9223372036854775807) (d : Nat) : ∀ i : Nat, l.length = i + d →
    ∃ r, Ev (fun k => dasdref10_Few.l0 k l c m (i : Int)) r ∧ (r = true → (∀ x ∈ l.drop i, (x.size : Int) ≤ m) ∧ (l.length : Int) ≤ c) := by
  induction d with
  | zero =>
    intro i hi
    refine ⟨decide ((l.length : Int) ≤ c), Ev.step (f := fun _ => some (decide ((l.length : Int) ≤ c))) (fun k => ?_) (Ev.now _), fun h => ⟨?_, of_decide_eq_true h⟩⟩
    · simp only [dasdref10_Few.l0]
      rw [if_neg (by omega)]
    · rw [List.drop_of_length_le (by omega)]
      intro x hx
      cases hx
  | succ d ih =>
    intro i hi
    by_cases hs : ((l[i]'(by omega)).size : Int) > m
    · refine ⟨false, Ev.step (f := fun _ => some false) (fun k => ?_) (Ev.now _), fun h => by cases h⟩
      simp only [dasdref10_Few.l0]
      rw [if_pos (by omega), if_pos (by omega), rd_at l i (by omega), if_pos hs]
    · obtain ⟨r, hr, h⟩ := ih (i + 1) (by omega)
      refine ⟨r, Ev.step (fun k => ?_) hr, fun e => ?_⟩
      · simp only [dasdref10_Few.l0]
        rw [if_pos (by omega), if_pos (by omega), rd_at l i (by omega), if_neg hs, w64 (by omega) (by omega)]
        rfl
      · obtain ⟨h1, h2⟩ := h e
        refine ⟨fun x hx => ?_, h2⟩
        rw [List.drop_eq_getElem_cons (by omega)] at hx
        rcases List.mem_cons.mp hx with rfl | hx
        · omega
        · exact h1 x hx
theorem few_ev (l : List ByteArray) (c m : Int) (hl : l.length ≤ 9223372036854775807) : ∃ r, Ev (fun k => dasdref10_Few.f k l c m) r ∧ (r = true → (∀ x ∈ l, (x.size : Int) ≤ m) ∧ (l.length : Int) ≤ c) :=
  few_l0 l c m hl l.length 0 (by omega)
end Go.Proofs.Ytginemabhdjmfaa.Base
