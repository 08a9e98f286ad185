/-
Plain laws on adding a record to a block: what the printed functions Add of chapter 10 (the program's and the reference's) answer.
-/
import Derived.Test.YtginemabhdjmfaaCut
import Derived.Test.YtginemabhdjmfaaXFx9
set_option linter.unusedVariables false
namespace Go.Proofs.Ytginemabhdjmfaa.Base
open Go.RowKit Go.Proofs.Ytginemabhdjmfaa.XFx Go.Proofs.YtginemabhdjmfaaW.PrintWords Go.Proofs.YtginemabhdjmfaaW.PrintLast Go.Proofs.YtginemabhdjmfaaW.PrintMore

theorem empty_iff (d : ByteArray) : d.toList = ([] : List UInt8) ↔ d.size = 0 := by
  rw [ByteArray.toList_eq, size_list, List.length_eq_zero_iff]
/-- What Add answers. -/
def addp (a b : Int) (d r : ByteArray) : ByteArray × Bool :=
  if vld a b = true ∧ (r.size : Int) = a then (if d.size = 0 then (d ++ r, true) else if (unp a b d).2 = 0 then (if ((unp a b d).1.length : Int) = mst a b then (⟨#[]⟩, false) else (d ++ r, true)) else (⟨#[]⟩, false)) else (⟨#[]⟩, false)
theorem add_ev (a b : Int) (d r : ByteArray) (hd : d.size ≤ 140737488351232) (hr : r.size ≤ 140737488351232) : Ev (fun k => fixed_Add.f k a b d r) (addp a b d r) := by
  have no : Ev (fun k => fixed_Add.j0 k a b d r true) (⟨#[]⟩, false) := by
    refine Ev.step (f := fun _ => some (⟨#[]⟩, false)) (fun k => ?_) (Ev.now _)
    simp only [fixed_Add.j0, if_true]
  unfold addp
  by_cases hv : vld a b = true
  · have start : ∀ q, Ev (fun k => fixed_Add.j0 k a b d r ((r.size : Int) != a)) q → Ev (fun k => fixed_Add.f k a b d r) q := by
      intro q h
      refine Ev.congr (fun k => ?_) h
      unfold fixed_Add.f
      rw [valid_f, hv]
      rfl
    apply start
    by_cases hs : (r.size : Int) = a
    · rw [if_pos ⟨hv, hs⟩]
      have e : ((r.size : Int) != a) = false := by rw [hs]; simp
      rw [e]
      refine Ev.step (f := fun k => if d.toList = ([] : List UInt8) then (if d.size + r.size ≤ 9223372036854775807 then (some (d ++ r, true)) else (none)) else ((fixed_Unpack.f k a b d).bind fun bt188 => (if bt188.2 = 0 then ((fixed_Most.f a b).bind fun t192 => (if (bt188.1.length : Int) = t192 then (some ((⟨#[]⟩ : ByteArray), false)) else (if d.size + r.size ≤ 9223372036854775807 then (some (d ++ r, true)) else (none)))) else (some ((⟨#[]⟩ : ByteArray), false))))) (fun k => ?_) ?_
      · simp only [fixed_Add.j0, Bool.false_eq_true, if_false]
      by_cases h0 : d.size = 0
      · rw [if_pos h0]
        refine Ev.congr (fun k => ?_) (Ev.now _)
        rw [if_pos ((empty_iff d).mpr h0), if_pos (by omega)]
      · rw [if_neg h0]
        refine Ev.congr (fun k => if_neg (fun h => h0 ((empty_iff d).mp h))) ?_
        refine Ev.bind (unpack_ev a b d hd) ?_
        refine Ev.congr (fun k => ?_) (Ev.now _)
        by_cases c1 : (unp a b d).2 = 0
        · rw [if_pos c1, if_pos c1, most_f]
          simp only [Option.bind_some]
          by_cases c2 : ((unp a b d).1.length : Int) = mst a b
          · rw [if_pos c2, if_pos c2]
          · rw [if_neg c2, if_neg c2, if_pos (by omega)]
        · rw [if_neg c1, if_neg c1]
    · rw [if_neg (fun h => hs h.2)]
      have e : ((r.size : Int) != a) = true := by rw [bne_iff_ne]; exact hs
      rw [e]
      exact no
  · rw [if_neg (fun h => hv h.1)]
    refine Ev.congr (fun k => ?_) no
    unfold fixed_Add.f
    rw [valid_f]
    simp only [Option.bind_some]
    rw [if_neg hv]
theorem unp_empty (a b : Int) (hv : vld a b = true) (d : ByteArray) (h : d.size = 0) : unp a b d = ([], 11) := by
  unfold unp
  rw [if_pos hv, if_neg (fun hh => by have := hh.1; rw [h, Nat.zero_div] at this; omega)]
end Go.Proofs.Ytginemabhdjmfaa.Base
