/-
Add returns what the specification says: the law FixedAdds answers true, for any two numbers and any bytes.
-/
import Derived.Test.YtginemabhdjmfaaXFx12
import Derived.Test.YtginemabhdjmfaaAdd
set_option linter.unusedVariables false
namespace Go.Proofs.Ytginemabhdjmfaa.Pure
open Go.RowKit Go.Proofs.Ytginemabhdjmfaa.XFx Go.Proofs.Ytginemabhdjmfaa.Base Go.Proofs.YtginemabhdjmfaaW.PrintWords Go.Proofs.YtginemabhdjmfaaW.PrintLast

theorem radd_ev (a b : Int) (d r : ByteArray) (hd : d.size ≤ 140737488351232) (hr : r.size ≤ 140737488351232) : Ev (fun k => dasdref10_Add.f k a b d r) (addp a b d r) := by
  unfold dasdref10_Add.f
  refine Ev.bind (runpack_ev a b d hd) ?_
  refine Ev.congr (fun k => ?_) (Ev.now _)
  rw [rvalid_f, rmost_f]
  simp only [Option.bind_some]
  unfold addp
  by_cases hv : vld a b = true
  · rw [if_pos hv]
    by_cases hs : (r.size : Int) = a
    · rw [if_pos hs, if_pos (show vld a b = true ∧ (r.size : Int) = a from ⟨hv, hs⟩)]
      by_cases h0 : d.size = 0
      · have hm := mst_pos hv
        rw [if_pos ((empty_iff d).mpr h0), if_pos h0, unp_empty a b hv d h0, if_neg (by simp; omega), if_pos (by omega)]
      · rw [if_neg (fun h => h0 ((empty_iff d).mp h)), if_neg h0]
        by_cases c1 : (unp a b d).2 = 0
        · rw [if_pos c1, if_pos c1]
          by_cases c2 : ((unp a b d).1.length : Int) = mst a b
          · rw [if_pos c2, if_pos c2]
          · rw [if_neg c2, if_neg c2, if_pos (by omega)]
        · rw [if_neg c1, if_neg c1]
    · rw [if_neg hs, if_neg (show ¬ (vld a b = true ∧ (r.size : Int) = a) from fun h => hs h.2)]
  · rw [if_neg hv, if_neg (show ¬ (vld a b = true ∧ (r.size : Int) = a) from fun h => hv h.1)]

theorem FixedAdds : dasdlaw10_FixedAdds.Pure := by
  intro a b d r _ _ hd hr
  apply Ev.rounds
  have yes : Ev (fun k => dasdlaw10_FixedAdds.j0 k a b d r true) true := by
    refine Ev.step (f := fun k => (dasdlaw10_awake.f k).bind fun t => some t) (fun k => ?_) (Ev.bind awake_ev (Ev.now _))
    simp only [dasdlaw10_FixedAdds.j0, if_true]
  unfold dasdlaw10_FixedAdds.f
  refine Ev.bind awake_ev ?_
  simp only [if_true]
  by_cases c1 : (d.size : Int) > 1100
  · refine Ev.congr (fun k => if_pos c1) yes
  refine Ev.congr (fun k => if_neg c1) ?_
  by_cases c2 : (r.size : Int) > 1100
  · rw [decide_eq_true c2]
    exact yes
  rw [decide_eq_false c2]
  refine Ev.step (f := fun k => (fixed_Add.f k a b d r).bind fun bt210 => ((dasdref10_Add.f k a b d r).bind fun bt212 => (if bt210.1.toList = bt212.1.toList then (some (bt210.2 == bt212.2)) else (some false)))) (fun k => ?_) ?_
  · simp only [dasdlaw10_FixedAdds.j0, Bool.false_eq_true, if_false]
  refine Ev.bind (add_ev a b d r hd hr) ?_
  refine Ev.bind (radd_ev a b d r hd hr) ?_
  refine Ev.congr (fun k => ?_) (Ev.now _)
  rw [if_pos rfl, beq_self_eq_true]

end Go.Proofs.Ytginemabhdjmfaa.Pure
