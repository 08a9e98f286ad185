/-
A slice of strings among the arguments, as the printed contracts read it; for any slice, nil too.
-/
import Derived.Test.YtginemabhdjmfaaWWords
import Derived.SliceStrings
set_option linter.unusedVariables false
namespace Go.Proofs.Ytginemabhdjmfaa.Opens
open Go.RowKit Go.ChangeShapes Go.WideShapes Go.Proofs.YtginemabhdjmfaaW.PrintWords

theorem open_row {H : Type} {enc : TypeId × Value → H} {P : Program} {W : World} {base : Nat} {spare : Nat → Bool} {held : Bool} {t e : TypeId} {A : Option Addr} {len cap : Nat} {d : DataW H} {ps : List MemPlace}
    (hu : P.underlying t = some (.slice e)) (he : P.underlying e = some .string) (hc : P.cellsOf e = 1) (h : DataW.Trod enc P W base spare held t (.slice A len cap) d ps) :
    ∃ l : List ByteArray, l.length = len ∧ len ≤ cap ∧ len ≤ 9223372036854775807 ∧ Kd.C Kd.string W A l.length l := by
  obtain ⟨fuel, hf⟩ := h
  rcases open_strings hu he hc hf with ⟨hcs, _⟩ | ⟨a, len', cap', ss, hcs, _, hl, hm, hz, _, hcell, _⟩
  · simp [Value.cells] at hcs
    obtain ⟨rfl, rfl, rfl⟩ := hcs
    exact ⟨[], rfl, Nat.le_refl _, by omega, rfl, by simp, fun h => absurd h (by simp)⟩
  · simp [Value.cells] at hcs
    obtain ⟨rfl, rfl, rfl⟩ := hcs
    unfold maxLen at hm
    have hss : len ≤ ss.length := by
      rw [hz]
      split
      · exact hl
      · exact Nat.le_refl _
    have hlen : (ss.take len).length = len := by rw [List.length_take]; omega
    refine ⟨ss.take len, hlen, hl, by omega, rfl, by omega, fun _ => ⟨a, rfl, fun j p hj => ⟨[Value.string p], rfl, rfl, fun i u hi => ?_⟩⟩⟩
    have hjl : j < (ss.take len).length := (List.getElem?_eq_some_iff.1 hj).1
    have hp : ss[j]? = some p := by rw [← hj, List.getElem?_take_of_lt (by omega)]
    have h0 : i = 0 := by
      have := (List.getElem?_eq_some_iff.1 hi).1
      simp at this
      exact this
    subst h0
    simp at hi
    subst hi
    have := hcell j (by omega)
    rw [List.getD_eq_getElem?_getD, hp] at this
    simpa [Kd.string, Kd.scalar] using this
end Go.Proofs.Ytginemabhdjmfaa.Opens
