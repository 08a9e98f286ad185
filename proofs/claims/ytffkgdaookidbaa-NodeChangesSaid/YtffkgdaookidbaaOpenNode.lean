/-
A node among the arguments, as the printed contracts read it: two whole numbers and a row of entries; for any node, one without entries too.
-/
import Derived.Test.YtffkgdaookidbaaXNx0
import Derived.Lib.SmallJoins
set_option linter.unusedVariables false
namespace Go.Proofs.Ytffkgdaookidbaa.Opens
open Go.RowKit Go.ChangeShapes Go.WideShapes Go.Deep Go.Joins Go.Proofs.Ytffkgdaookidbaa.XNx Go.Proofs.YtffkgdaookidbaaW.PrintWords

section
variable {H : Type} {enc : TypeId × Value → H} {W : World} {base : Nat} {spare : Nat → Bool} {held : Bool}
theorem open_entries {fuel : Nat} {cs : List Value} {x : DataW H × List MemPlace} (h : DataW.trod enc Try.prog W base spare held fuel 22 cs = some x) :
    ∃ (A : Option Addr) (cap : Nat) (l : List S32), cs = [.slice A l.length cap] ∧ l.length ≤ cap ∧ l.length ≤ 9223372036854775807 ∧ Kd.C k32 W A l.length l := by
  rcases open_slice Try.underlying22 h with ⟨rfl, _⟩ | ⟨a, len, cap, m, n, D, Pl, rfl, _, hl, hm, hmm, _, hc⟩
  · exact ⟨none, 0, [], rfl, Nat.le_refl _, by simp, rfl, by simp, fun h => absurd h (by simp)⟩
  · unfold maxLen at hm
    have hlm : len ≤ m := by
      rw [hmm]
      split
      · exact hl
      · exact Nat.le_refl _
    have hcells : Try.prog.cellsOf 32 = 2 := by kernel_rfl
    have each : ∀ i : Nat, i < len → ∃ y : S32, W.cell? (a.add (i * 2 + 0)) = some (.string y.f0) ∧ W.cell? (a.add (i * 2 + 1)) = some (.int .i64 y.f1) := by
      intro i hi
      obtain ⟨cs', hcs, hd⟩ := hc i (by omega)
      rw [hcells] at hcs
      obtain ⟨_, hlen, hcell⟩ := World.cells?_some hcs
      obtain ⟨y0, y1, q, _, _, h0, h1⟩ := trod_struct2 Try.underlying32 hd
      have hc9 : Try.prog.cellsOf 9 = 1 := by kernel_rfl
      have hc3 : Try.prog.cellsOf 3 = 1 := by kernel_rfl
      simp only [hc9] at h0
      simp only [hc3] at h1
      obtain ⟨s, hs, _, _⟩ := DataW.trod_string Try.underlying9 h0
      obtain ⟨k, hk, _, _⟩ := DataW.trod_int Try.underlying3 h1
      match cs', hlen with
      | [u, v], _ =>
        simp at hs hk
        subst hs
        subst hk
        exact ⟨⟨s, k⟩, by have := hcell 0 (by omega); simpa [Addr.add_add] using this, by have := hcell 1 (by omega); simpa [Addr.add_add] using this⟩
    have each' : ∀ i : Nat, ∃ y : S32, i < len → W.cell? (a.add (i * 2 + 0)) = some (.string y.f0) ∧ W.cell? (a.add (i * 2 + 1)) = some (.int .i64 y.f1) := by
      intro i
      by_cases hi : i < len
      · obtain ⟨y, hy⟩ := each i hi
        exact ⟨y, fun _ => hy⟩
      · exact ⟨z32, fun h => absurd h hi⟩
    obtain ⟨f, hf⟩ := Classical.axiomOfChoice each'
    have hlen : ((List.range len).map f).length = len := by simp
    refine ⟨some a, cap, (List.range len).map f, by rw [hlen], by rw [hlen]; exact hl, by rw [hlen]; omega, ?_⟩
    rw [hlen]
    refine ⟨hlen, by omega, fun _ => ⟨a, rfl, fun j p hj => ⟨[.string p.f0, .int .i64 p.f1], rfl, k32_mk W p, fun i u hi => ?_⟩⟩⟩
    have hjl : j < len := by
      have := (List.getElem?_eq_some_iff.1 hj).1
      rw [hlen] at this
      exact this
    have hp : p = f j := by
      simp [List.getElem?_map, List.getElem?_range hjl] at hj
      exact hj.symm
    subst hp
    obtain ⟨h0, h1⟩ := hf j hjl
    match i with
    | 0 =>
      simp at hi
      subst hi
      exact h0
    | 1 =>
      simp at hi
      subst hi
      exact h1
    | i + 2 => simp at hi
theorem open_node {r : Reach} {b0 : Nat} {v : Value} {d : DataW H} {p : List MemPlace} (hv : Value.okWide Try.prog W r b0 24 v) (h : DataW.Trod enc Try.prog W base spare held 24 v d p) :
    ∃ (x y : Int) (A : Option Addr) (cap : Nat) (l : List S32), v = .agg #[.int .i64 x, .int .i64 y, .slice A l.length cap] ∧ (Lit.int .i64 x).wf = true ∧ (Lit.int .i64 y).wf = true ∧ l.length ≤ cap ∧ l.length ≤ 9223372036854775807 ∧ Kd.C k32 W A l.length l := by
  obtain ⟨v0, v1, v2, y0, y1, y2, n, rfl, _, _, h0, h1, h2⟩ := open_agg3 Try.underlying24 (by kernel_rfl) (by kernel_rfl) hv h
  obtain ⟨x, hx, _, wx⟩ := DataW.trod_int Try.underlying3 h0
  obtain ⟨y, hy, _, wy⟩ := DataW.trod_int Try.underlying3 h1
  obtain ⟨A, cap, l, hl, hc, hm, hr⟩ := open_entries h2
  simp only [List.cons.injEq, and_true] at hx hy hl
  subst hx
  subst hy
  subst hl
  exact ⟨x, y, A, cap, l, rfl, wx, wy, hc, hm, hr⟩
end
end Go.Proofs.Ytffkgdaookidbaa.Opens
