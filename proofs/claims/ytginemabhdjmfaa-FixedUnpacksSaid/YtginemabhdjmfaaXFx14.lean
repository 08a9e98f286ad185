/- Written by xprint.py, a program of this session: what functions of the program answer, each by a walk of its code; no condition beside those in the statements. -/
import Derived.Test.YtginemabhdjmfaaXFx0
namespace Go.Proofs.Ytginemabhdjmfaa.XFx
open Go.RowKit Go.Proofs.YtginemabhdjmfaaW.PrintWords Go.Proofs.YtginemabhdjmfaaW.PrintLast Go.Proofs.YtginemabhdjmfaaW.PrintMore
attribute [local go_sem] max2_int min2_int max_two min_two max_three min_three max_four min_four   -- for this text's walks alone
set_option linter.unusedVariables false
set_option linter.unusedSimpArgs false

/-! ### dasdref10_Pad: function 24 -/
def dasdref10_Pad.l0 : Nat → Int → ByteArray → Option (ByteArray)
  | 0, _, _ => none
  | k + 1, x0, x1 => if (x1.size : Int) < x0 then (if x1.size + 1 ≤ 9223372036854775807 then (dasdref10_Pad.l0 k x0 (x1 ++ (⟨#[32]⟩ : ByteArray))) else (none)) else (if 0 ≤ x0 then (if x0 ≤ (x1.size : Int) then (some (x1.extract 0 (x0 : Int).toNat)) else (none)) else (none))
def dasdref10_Pad.f (k : Nat) (a0 : Int) (a1 : ByteArray) : Option (ByteArray) := dasdref10_Pad.l0 k (mx 0 (mn a0 1000)) a1
theorem dasdref10_Pad.mono_l : ∀ k, (∀ y0 y1, LeO (dasdref10_Pad.l0 k y0 y1) (dasdref10_Pad.l0 (k + 1) y0 y1))
  | 0 => fun _ _ r h => by simp [dasdref10_Pad.l0] at h
  | k + 1 => by
    have ih0 := dasdref10_Pad.mono_l k
    · intro y0 y1
      unfold dasdref10_Pad.l0
      repeat' first
      | (with_reducible exact ih0 _ _)
      | (with_reducible exact LeO.refl _)
      | (with_reducible exact LeO.none _)
      | (with_reducible refine LeO.ite ?_ ?_)
      | (with_reducible refine LeO.bind ?_ (fun _ => ?_))
      | exact ih0 _ _
      | exact LeO.none _
      | refine LeO.ite ?_ ?_
      | refine LeO.bind ?_ (fun _ => ?_)
theorem dasdref10_Pad.mono : ∀ a0 a1 k, LeO (dasdref10_Pad.f k a0 a1) (dasdref10_Pad.f (k + 1) a0 a1) := by
  intro a0 a1 k
  have ih0 := dasdref10_Pad.mono_l k
  unfold dasdref10_Pad.f
  repeat' first
      | (with_reducible exact ih0 _ _)
      | (with_reducible exact LeO.refl _)
      | (with_reducible exact LeO.none _)
      | (with_reducible refine LeO.ite ?_ ?_)
      | (with_reducible refine LeO.bind ?_ (fun _ => ?_))
      | exact ih0 _ _
      | exact LeO.none _
      | refine LeO.ite ?_ ?_
      | refine LeO.bind ?_ (fun _ => ?_)
set_option maxHeartbeats 8000000 in
set_option maxRecDepth 100000 in
theorem dasdref10_Pad.calls (k : Nat) (a0 : Int) (a1 : ByteArray) (r : ByteArray) (w : World) (h : dasdref10_Pad.f k a0 a1 = some r) :
    Calls Try.prog 24 #[.int .i64 a0, .string a1] w fun e w' => e = .returned (.string r) ∧ Below w.heap.size w w' := by
  have HB := Aside0.mk (Below.refl w.heap.size w)
  have H : (dasdref10_Pad.l0 k (mx 0 (mn a0 1000)) a1) = some r := h
  clear h
  obtain ⟨ji3, hji3⟩ : ∃ j_ : Int, (mn a0 1000) = j_ := ⟨_, rfl⟩
  replace H : (dasdref10_Pad.l0 k (mx 0 (ji3)) a1) = some r := by first | (rw [hji3] at H; exact H) | (simp only [hji3] at H ⊢; exact H)
  (try (have hji3h : ji3 ≤ 1000 := by (rw [← hji3]; unfold mn; (repeat' split) <;> omega)))
  (try (have hji3g : ji3 ≤ 64 := by omega))
  have hji3_ : (if 1000 < a0 then 1000 else a0) = ji3 := hji3
  obtain ⟨ji4, hji4⟩ : ∃ j_ : Int, (mx 0 (ji3)) = j_ := ⟨_, rfl⟩
  replace H : (dasdref10_Pad.l0 k ji4 a1) = some r := by first | (rw [hji4] at H; exact H) | (simp only [hji4] at H ⊢; exact H)
  have hji4_ : (if 0 < (ji3) then (ji3) else 0) = ji4 := hji4
  have H' := Aside0.mk H
  clear H
  go_enter Try.func24, Try.ntmps24
  go_wp2
  go_loopg [1] k (fun kq v1 w' => ∃ (x1_1 : ByteArray), v1 = .string x1_1 ∧ Aside0 (dasdref10_Pad.l0 kq ji4 x1_1 = some r) ∧ Aside0 (kq ≤ k) ∧ Aside0 (Below w.heap.size w w'))
  case atStart => exact ⟨(a1), (by first | rfl | (simp; done) | (simp [*]; done)), H', ⟨Nat.le_refl _⟩, ⟨by repeat (first | (with_reducible first | exact HB.out | apply below_alloc | apply pw_below_drewN | apply below_drew1) | exact HB.out)⟩⟩
  case round =>
    clear H'
    try clear c2
    try clear p2
    obtain ⟨x1_1, rfl, HA, HK1, HB⟩ := hrel
    cases gk with
    | zero => exact absurd HA.out (by simp [dasdref10_Pad.l0])
    | succ k1 =>
      have H := HA.out
      clear HA
      simp only [dasdref10_Pad.l0] at H
      by_cases c5 : (x1_1.size : Int) < ji4
      · rw [if_pos c5] at H
        have c5b0 : decide ((x1_1.size : Int) < ji4) = true := decide_eq_true c5
        clear c5
        by_cases c6 : x1_1.size + 1 ≤ 9223372036854775807
        · rw [if_pos c6] at H
          have c6b0 := eq_true c6
          have c6b1 : decide (x1_1.size + 1 ≤ 9223372036854775807) = true := decide_eq_true c6
          try have c6b2 : (9223372036854775807 < x1_1.size + 1) = False := eq_false (Nat.not_lt.2 c6)
          have H' := Aside0.mk H
          clear H
          go_wp2
          go_roundg k1
          case measure => have := HK1.out; omega
          case rel => exact ⟨(x1_1 ++ (⟨#[32]⟩ : ByteArray)), (by first | rfl | (simp; done) | (simp [*]; done)), H', ⟨by have := HK1.out; omega⟩, ⟨by repeat (first | (with_reducible first | exact HB.out | apply below_alloc | apply pw_below_drewN | apply below_drew1) | exact HB.out)⟩⟩
        · rw [if_neg c6] at H
          exact absurd H (by simp)
      · rw [if_neg c5] at H
        have c5b0 : decide ((x1_1.size : Int) < ji4) = false := decide_eq_false c5
        clear c5
        by_cases c7 : 0 ≤ ji4
        · rw [if_pos c7] at H
          have c7b0 := eq_true c7
          have c7b1 : decide (0 ≤ ji4) = true := decide_eq_true c7
          clear c7
          by_cases c8 : ji4 ≤ (x1_1.size : Int)
          · rw [if_pos c8] at H
            have c8b0 := eq_true c8
            have c8b1 : decide (ji4 ≤ (x1_1.size : Int)) = true := decide_eq_true c8
            clear c8
            obtain rfl := Option.some.inj H
            go_wp2
            go_ret
            exact ⟨by first | rfl | (simp [errW_none, errW_some] <;> rfl) | (simp only [← hji3, ← hji4]; first | rfl | (simp [errW_none, errW_some] <;> rfl)) | (simp [*, errW_none, errW_some] <;> rfl), by repeat (first | (with_reducible first | exact HB.out | apply below_alloc | apply pw_below_drewN | apply below_drew1) | exact HB.out)⟩
          · rw [if_neg c8] at H
            exact absurd H (by simp)
        · rw [if_neg c7] at H
          exact absurd H (by simp)

end Go.Proofs.Ytginemabhdjmfaa.XFx
