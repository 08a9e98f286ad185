/-
Unpack and Pad return what the specification says: the law FixedUnpacks answers true, for any two numbers and any bytes.
-/
import Derived.Test.YtginemabhdjmfaaXFx15
import Derived.Test.YtginemabhdjmfaaPad
set_option linter.unusedVariables false
namespace Go.Proofs.Ytginemabhdjmfaa.Pure
open Go.RowKit Go.Proofs.Ytginemabhdjmfaa.XFx Go.Proofs.Ytginemabhdjmfaa.Base Go.Proofs.YtginemabhdjmfaaW.PrintWords Go.Proofs.YtginemabhdjmfaaW.PrintLast Go.Proofs.YtginemabhdjmfaaW.PrintMore

theorem blanks_snoc (m : Nat) : blanks (m + 1) = (⟨#[32]⟩ : ByteArray) ++ blanks m := by
  apply ba_ext
  rw [app_data, blanks_data, blanks_data, List.replicate_succ]
  rfl
theorem ext_all (s : ByteArray) (n : Nat) (h : s.size = n) : s.extract 0 n = s := by
  apply ba_ext
  rw [ext_data, List.drop_zero, Nat.sub_zero, ← h, size_list, List.take_length]
theorem rpad_l0 (n : Nat) (hn : n ≤ 1000) (d : Nat) : ∀ r : ByteArray, r.size ≤ 140737488351232 → (n ≤ r.size ∨ r.size + d = n) → Ev (fun k => dasdref10_Pad.l0 k (n : Int) r) (pad n r) := by
  induction d with
  | zero =>
    intro r hr h
    refine Ev.step (f := fun _ => some (pad n r)) (fun k => ?_) (Ev.now _)
    simp only [dasdref10_Pad.l0]
    rw [if_neg (by omega), if_pos (by omega), if_pos (by omega), Int.toNat_natCast]
    unfold pad
    rw [if_pos (by omega)]
  | succ d ih =>
    intro r hr h
    by_cases hle : n ≤ r.size
    · exact ih r hr (.inl hle)
    · have e : (⟨#[32]⟩ : ByteArray).size = 1 := rfl
      have := ih (r ++ (⟨#[32]⟩ : ByteArray)) (by rw [app_size, e]; omega) (.inr (by rw [app_size, e]; omega))
      have ep : pad n (r ++ (⟨#[32]⟩ : ByteArray)) = pad n r := by
        unfold pad
        rw [app_size, e, if_neg hle]
        by_cases h1 : n ≤ r.size + 1
        · rw [if_pos h1, ext_all _ n (by rw [app_size, e]; omega), show n - r.size = 1 by omega]
          rfl
        · rw [if_neg h1, show n - r.size = (n - (r.size + 1)) + 1 by omega, blanks_snoc]
          apply ba_ext
          simp only [app_data, List.append_assoc]
      rw [ep] at this
      refine Ev.step (f := fun k => dasdref10_Pad.l0 k (n : Int) (r ++ (⟨#[32]⟩ : ByteArray))) (fun k => ?_) this
      simp only [dasdref10_Pad.l0]
      rw [if_pos (by omega), if_pos (by omega)]
theorem rpad_ev (a : Int) (r : ByteArray) (hr : r.size ≤ 140737488351232) : Ev (fun k => dasdref10_Pad.f k a r) (pad (padn a) r) := by
  refine Ev.congr (fun k => ?_) (rpad_l0 (padn a) (padn_le a) (padn a - r.size) r hr (by omega))
  unfold dasdref10_Pad.f
  rw [(padn_eq a).2]
theorem unp_len (a b : Int) (d : ByteArray) : (unp a b d).1.length ≤ 1024 := by
  unfold unp
  by_cases hv : vld a b = true
  · have hm := mst_pos hv
    rw [if_pos hv]
    by_cases hc : 1 ≤ d.size / a.toNat ∧ ((d.size / a.toNat : Nat) : Int) ≤ mst a b ∧ d.size % a.toNat = 0
    · rw [if_pos hc]
      generalize d.size / a.toNat = q at hc ⊢
      have := hc.2.1
      rw [pcs_length]
      omega
    · rw [if_neg hc]
      simp
  · rw [if_neg hv]
    simp

theorem FixedUnpacks : dasdlaw10_FixedUnpacks.Pure := by
  intro a b d _ _ hd
  apply Ev.rounds
  unfold dasdlaw10_FixedUnpacks.f
  refine Ev.bind awake_ev ?_
  simp only [if_true]
  by_cases c : (d.size : Int) > 1100
  · rw [decide_eq_true c]
    refine Ev.step (f := fun k => (dasdlaw10_awake.f k).bind fun t => some t) (fun k => ?_) (Ev.bind awake_ev (Ev.now _))
    simp only [dasdlaw10_FixedUnpacks.j0, if_true]
  rw [decide_eq_false c]
  refine Ev.step (f := fun k => (fixed_Unpack.f k a b d).bind fun bt220 => ((dasdref10_Unpack.f k a b d).bind fun bt224 => (if bt220.2 = bt224.2 then ((dasdref10_Same.f k bt220.1 bt224.1).bind fun t228 => (if t228 = true then ((fixed_Pad.f a d).bind fun t229 => ((dasdref10_Pad.f k a d).bind fun t230 => (some (t229.toList == t230.toList)))) else (some false))) else (some false)))) (fun k => ?_) ?_
  · simp only [dasdlaw10_FixedUnpacks.j0, Bool.false_eq_true, if_false]
  refine Ev.bind (unpack_ev a b d hd) ?_
  refine Ev.bind (runpack_ev a b d hd) ?_
  simp only [if_true]
  have hl := unp_len a b d
  refine Ev.bind (same_ev _ (by omega)) ?_
  simp only [if_true]
  rw [pad_f a d hd]
  simp only [Option.bind_some]
  refine Ev.bind (rpad_ev a d hd) ?_
  refine Ev.congr (fun k => ?_) (Ev.now _)
  rw [beq_self_eq_true]

end Go.Proofs.Ytginemabhdjmfaa.Pure
