/-
The plain law NodeLeads: on a valid node Find answers an entry, and the keys about it lie as they should.
-/
import Derived.Test.YtffkgdaookidbaaXNx28
import Derived.Test.YtffkgdaookidbaaBase
set_option linter.unusedVariables false
namespace Go.Proofs.Ytffkgdaookidbaa.Pure
open Go.RowKit Go.Proofs.Ytffkgdaookidbaa.XNx Go.Proofs.Ytffkgdaookidbaa.Base Go.Proofs.YtffkgdaookidbaaW.PrintWords Go.Proofs.YtffkgdaookidbaaW.PrintLast Go.Proofs.YtffkgdaookidbaaW.PrintMore

set_option maxRecDepth 100000 in
theorem awake_ev : Ev (fun k => dasdlaw20_awake.f k) true :=
  Ev.of dasdlaw20_awake.mono (k := 60) (by decide +kernel)
theorem idx_some {key : ByteArray} {l : List S32} {i : Nat} (h : idx key l = some i) : i < l.length ∧ less key (en l i).f0 = true ∧ ∀ j, j < i → less key (en l j).f0 = false := by
  obtain ⟨hi, hp, hn⟩ := List.findIdx?_eq_some_iff_getElem.mp h
  refine ⟨hi, by rw [en_get l i hi]; exact hp, fun j hj => ?_⟩
  rw [en_get l j (by omega)]
  have := hn j hj
  simpa [less] using this
theorem idx_none' {key : ByteArray} {l : List S32} (h : idx key l = none) (j : Nat) (hj : j < l.length) : less key (en l j).f0 = false := by
  have := List.findIdx?_eq_none_iff.mp h l[j] (List.getElem_mem hj)
  rw [en_get l j hj]
  exact this
/-- Find on a node with entries: an index, with the keys about it. -/
theorem fnd_law {key : ByteArray} {l : List S32} (hl : 1 ≤ l.length) : ∃ i : Nat, fnd l key = (i : Int) ∧ i < l.length ∧ (i + 1 < l.length → less key (en l i).f0 = true) ∧ ∀ j, j < i → less key (en l j).f0 = false := by
  cases hx : idx key l with
  | some i =>
    obtain ⟨h1, h2, h3⟩ := idx_some hx
    exact ⟨i, by unfold fnd; rw [hx], h1, fun _ => h2, h3⟩
  | none =>
    refine ⟨l.length - 1, by unfold fnd; rw [hx]; show (l.length : Int) - 1 = _; omega, by omega, fun h => by omega, fun j hj => idx_none' hx j (by omega)⟩
theorem NodeLeads (f0 f1 : Int) (l : List S32) (key : ByteArray) (w0 : (Lit.int .i64 f0).wf = true) (w1 : (Lit.int .i64 f1).wf = true) (hl : l.length ≤ 9223372036854775807) (hk : key.size ≤ 140737488351232) :
    ∃ k, dasdlaw20_NodeLeads.f k f0 f1 l key = some true := by
  apply Ev.rounds
  unfold dasdlaw20_NodeLeads.f
  refine Ev.bind awake_ev ?_
  refine Ev.congr (fun k => if_pos rfl) ?_
  refine Ev.bind (isnode_ev f0 f1 l hl) ?_
  have out : Ev (fun k => dasdlaw20_NodeLeads.j0 k key true f0 f1 l) true := Ev.step (fun k => by rw [dasdlaw20_NodeLeads.j0, if_pos rfl]) (Ev.now true)
  cases hv : valid f0 f1 l with
  | false => exact Ev.congr (fun k => if_neg (by simp)) out
  | true =>
    refine Ev.congr (fun k => if_pos rfl) ?_
    by_cases hs : (key.size : Int) > 100
    · rw [decide_eq_true hs]
      exact out
    · rw [decide_eq_false hs]
      have hh := of_decide_eq_true ((valid_iff f0 f1 l).mp hv).1
      obtain ⟨i, hf, hi, h1, h2⟩ := fnd_law (key := key) hh.1
      refine Ev.step (f := fun _ => some true) (fun k => ?_) (Ev.now _)
      rw [dasdlaw20_NodeLeads.j0]
      rw [if_neg (by simp)]
      show (some (fnd l key)).bind _ = _
      rw [Option.bind_some, hf, if_neg (by omega), if_neg (by omega), w64 (x := (l.length : Int) - 1) (by omega) (by omega)]
      have tail : (if (i : Int) = 0 then (some true) else (if 0 ≤ (wrap64 ((i : Int) - 1)) then (if (wrap64 ((i : Int) - 1)) < (l.length : Int) then (some (!(Op.bytesLess key.toList (((rd_T32 l (wrap64 ((i : Int) - 1))).f0).toList)))) else (none)) else (none))) = some true := by
        by_cases h0 : i = 0
        · rw [if_pos (by omega)]
        · rw [if_neg (by omega), w64 (by omega) (by omega), if_pos (by omega), if_pos (by omega), show (i : Int) - 1 = ((i - 1 : Nat) : Int) by omega]
          have := h2 (i - 1) (by omega)
          unfold less en at this
          rw [this]
          rfl
      by_cases hlast : (i : Int) = (l.length : Int) - 1
      · rw [if_pos hlast]
        exact tail
      · rw [if_neg hlast, if_pos (by omega), if_pos (by omega), if_pos (by have := h1 (by omega); unfold less en at this; exact this)]
        exact tail
end Go.Proofs.Ytffkgdaookidbaa.Pure
