/-
A padded record has the length, begins like the record, and ends with blanks: the law FixedPads answers true, for any number and any bytes.
-/
import Derived.Test.YtginemabhdjmfaaXFx13
import Derived.Test.YtginemabhdjmfaaPad
set_option linter.unusedVariables false
namespace Go.Proofs.Ytginemabhdjmfaa.Pure
open Go.RowKit Go.Proofs.Ytginemabhdjmfaa.XFx Go.Proofs.Ytginemabhdjmfaa.Base Go.Proofs.YtginemabhdjmfaaW.PrintWords Go.Proofs.YtginemabhdjmfaaW.PrintLast Go.Proofs.YtginemabhdjmfaaW.PrintMore

theorem pads_l0 (n : Nat) (hn : n ≤ 1000) (r : ByteArray) (q : Nat) (hq : q ≤ n) (hq2 : q ≤ r.size) (d : Nat) : ∀ i : Nat, n = i + d → (r.size ≤ i ∨ d = 0) → Ev (fun k => dasdlaw10_FixedPads.l0 k r (pad n r) (n : Int) (q : Int) (i : Int)) true := by
  induction d with
  | zero =>
    intro i hi _
    refine Ev.step (f := fun _ => some true) (fun k => ?_) (Ev.now _)
    simp only [dasdlaw10_FixedPads.l0]
    rw [if_neg (by omega), if_pos (by omega), pad_size, if_pos (by omega), if_pos (by omega), Int.toNat_natCast, pad_head n r q hq hq2, beq_self_eq_true]
  | succ d ih =>
    intro i hi h
    refine Ev.step (f := fun k => dasdlaw10_FixedPads.l0 k r (pad n r) (n : Int) (q : Int) ((i + 1 : Nat) : Int)) (fun k => ?_) (ih (i + 1) (by omega) (by omega))
    simp only [dasdlaw10_FixedPads.l0]
    rw [if_pos (by omega), if_pos (by omega), pad_size, if_pos (by omega), pad_blank n r i (by omega) (by omega), if_pos rfl, w64 (by omega) (by omega)]
    rfl

theorem FixedPads : dasdlaw10_FixedPads.Pure := by
  intro a r _ hr
  apply Ev.rounds
  unfold dasdlaw10_FixedPads.f
  refine Ev.bind awake_ev ?_
  simp only [if_true]
  by_cases c : (r.size : Int) > 1100
  · rw [decide_eq_true c]
    refine Ev.step (f := fun k => (dasdlaw10_awake.f k).bind fun t => some t) (fun k => ?_) (Ev.bind awake_ev (Ev.now _))
    simp only [dasdlaw10_FixedPads.j0, if_true]
  rw [decide_eq_false c]
  have hp := padn_le a
  obtain ⟨q, hq, hq1, hq2, hq3⟩ : ∃ q : Nat, mn (padn a : Int) (r.size : Int) = q ∧ q ≤ padn a ∧ q ≤ r.size ∧ (r.size ≤ q ∨ padn a = q) := by
    unfold mn
    by_cases h : (r.size : Int) < (padn a : Int)
    · exact ⟨r.size, by rw [if_pos h], by omega, by omega, by omega⟩
    · exact ⟨padn a, by rw [if_neg h], by omega, by omega, by omega⟩
  refine Ev.step (f := fun k => dasdlaw10_FixedPads.l0 k r (pad (padn a) r) (padn a : Int) (q : Int) (q : Int)) (fun k => ?_) (pads_l0 (padn a) hp r q hq1 hq2 (padn a - q) q (by omega) (by omega))
  simp only [dasdlaw10_FixedPads.j0, Bool.false_eq_true, if_false]
  rw [pad_f a r hr]
  simp only [Option.bind_some]
  rw [pad_size, (padn_eq a).2, if_pos rfl, hq]

end Go.Proofs.Ytginemabhdjmfaa.Pure
