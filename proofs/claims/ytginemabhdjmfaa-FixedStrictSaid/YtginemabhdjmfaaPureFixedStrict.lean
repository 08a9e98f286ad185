/-
What Unpack accepts is the block of its records: the law FixedStrict answers true, for any two numbers and any bytes.
-/
import Derived.Test.YtginemabhdjmfaaXFx8
import Derived.Test.YtginemabhdjmfaaCut
set_option linter.unusedVariables false
namespace Go.Proofs.Ytginemabhdjmfaa.Pure
open Go.RowKit Go.Proofs.Ytginemabhdjmfaa.XFx Go.Proofs.Ytginemabhdjmfaa.Base Go.Proofs.YtginemabhdjmfaaW.PrintWords Go.Proofs.YtginemabhdjmfaaW.PrintLast

theorem strict_j0 (a b : Int) (d : ByteArray) (hd : d.size ≤ 1100) : Ev (fun k => dasdlaw10_FixedStrict.j0 k a b d false) true := by
  refine Ev.step (f := fun k => (fixed_Unpack.f k a b d).bind fun bt174 => if bt174.2 = 0 then (fixed_Pack.f k a b bt174.1).bind fun bt178 => (if bt178.2 = 0 then ((dasdref10_Same.f k bt178.1 (([d] : List ByteArray))).bind fun t185 => (some t185)) else (some false)) else if (bt174.1.length : Int) = 0 then ((fixed_Valid.f a b).bind fun t186 => (some ((bt174.2 == 1) == (!t186)))) else (some false)) (fun k => ?_) ?_
  · simp only [dasdlaw10_FixedStrict.j0, Bool.false_eq_true, if_false]
  refine Ev.bind (unpack_ev a b d (by omega)) ?_
  by_cases hv : vld a b = true
  · by_cases hc : 1 ≤ d.size / a.toNat ∧ ((d.size / a.toNat : Nat) : Int) ≤ mst a b ∧ d.size % a.toNat = 0
    · have hu : unp a b d = (pcs a.toNat d (d.size / a.toNat), 0) := by
        unfold unp
        rw [if_pos hv, if_pos hc]
      have hm := mst_pos hv
      have hb := vld_true hv
      rw [hu]
      obtain ⟨A, rfl⟩ := Int.eq_ofNat_of_zero_le (show 0 ≤ a by omega)
      rw [Int.toNat_natCast] at hc ⊢
      have hN : d.size / A * A = d.size := Nat.div_mul_cancel (Nat.dvd_of_mod_eq_zero hc.2.2)
      generalize d.size / A = q at hc hN ⊢
      have hl := pcs_length A d q
      have hp := pack_ev A b hv (pcs A d q) (by omega) (fun x hx => by rw [pcs_size A d q (by omega) x hx])
      rw [blk_small (mst A b).toNat (by omega) _ (fun e => by rw [e] at hl; simp at hl; omega) (by omega), pcs_whole A q d hN] at hp
      simp only [if_true]
      refine Ev.bind hp ?_
      simp only [if_true]
      exact Ev.bind (same_ev [d] (by simp)) (Ev.now _)
    · have hu : unp a b d = ([], 11) := by
        unfold unp
        rw [if_pos hv, if_neg hc]
      rw [hu]
      refine Ev.congr (fun k => ?_) (Ev.now _)
      rw [valid_f, hv]
      rfl
  · have hu : unp a b d = ([], 1) := by
      unfold unp
      rw [if_neg hv]
    rw [Bool.not_eq_true] at hv
    rw [hu]
    refine Ev.congr (fun k => ?_) (Ev.now _)
    rw [valid_f, hv]
    rfl

theorem FixedStrict : dasdlaw10_FixedStrict.Pure := by
  intro a b d _ _ _
  apply Ev.rounds
  have h : Ev (fun k => dasdlaw10_FixedStrict.j0 k a b d (decide ((d.size : Int) > 1100))) true := by
    by_cases hd : (d.size : Int) > 1100
    · rw [decide_eq_true hd]
      refine Ev.step (f := fun k => (dasdlaw10_awake.f k).bind fun t => some t) (fun k => ?_) (Ev.bind awake_ev (Ev.now _))
      simp only [dasdlaw10_FixedStrict.j0, if_true]
    · rw [decide_eq_false hd]
      exact strict_j0 a b d (by omega)
  unfold dasdlaw10_FixedStrict.f
  refine Ev.bind awake_ev ?_
  simp only [if_true]
  exact h

end Go.Proofs.Ytginemabhdjmfaa.Pure
