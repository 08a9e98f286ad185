/-
The contract of fixed.Pack with its records as a row that is only read: out of the printed one, for any memory.
-/
import Derived.Test.YtginemabhdjmfaaXFx2
set_option linter.unusedVariables false
namespace Go.Proofs.Ytginemabhdjmfaa.XFb
open Go.RowKit Go.Proofs.YtginemabhdjmfaaW.PrintWords Go.Proofs.YtginemabhdjmfaaW.PrintLast Go.Proofs.YtginemabhdjmfaaW.PrintMore

def fixed_Pack.f (k : Nat) (a0 : Int) (a1 : Int) (l2 : List ByteArray) : Option (List ByteArray × Int) := XFx.fixed_Pack.f k a0 a1 l2
theorem fixed_Pack.mono : ∀ a0 a1 a2 k, LeO (fixed_Pack.f k a0 a1 a2) (fixed_Pack.f (k + 1) a0 a1 a2) := XFx.fixed_Pack.mono
theorem fixed_Pack.calls (k : Nat) (a0 : Int) (a1 : Int) (A2 : Option Addr) (c2 : Nat) (l2 : List ByteArray) (r1 : List ByteArray) (r2 : Int) (w : World) (hr2 : Kd.C Kd.string w A2 l2.length l2) (hc2 : l2.length ≤ c2) (h : fixed_Pack.f k a0 a1 l2 = some (r1, r2)) :
    Calls Try.prog 12 #[.int .i64 a0, .int .i64 a1, .slice A2 l2.length c2] w fun e w' => ∃ v0_ : Value, e = .returned (.tuple #[v0_, .int .i64 r2]) ∧ Kd.R Kd.string 9 w' w.heap.size (fun _ => True) v0_ r1 ∧ Below w.heap.size w w' := by
  refine (XFx.fixed_Pack.calls k a0 a1 (fun k => k < w.heap.size) A2 c2 l2 r1 r2 w ⟨A2, c2, rfl, hc2, Kd.C_F Kd.heap_string hr2⟩ h).mono ?_
  rintro e w' ⟨v, he, hR, hB⟩
  exact ⟨v, he, Kd.R_mono hR (fun _ _ => trivial), hB⟩
end Go.Proofs.Ytginemabhdjmfaa.XFb
