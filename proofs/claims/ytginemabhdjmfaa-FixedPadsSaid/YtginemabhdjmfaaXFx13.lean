/- Written by xprint.py, a program of this session: what functions of the program answer, each by a walk of its code; no condition beside those in the statements. -/
import Derived.Test.YtginemabhdjmfaaXFx0
import Derived.Test.YtginemabhdjmfaaXFx3
import Derived.Test.YtginemabhdjmfaaXFx12
namespace Go.Proofs.Ytginemabhdjmfaa.XFx
open Go.RowKit Go.Proofs.YtginemabhdjmfaaW.PrintWords Go.Proofs.YtginemabhdjmfaaW.PrintLast Go.Proofs.YtginemabhdjmfaaW.PrintMore
attribute [local go_sem] max2_int min2_int max_two min_two max_three min_three max_four min_four   -- for this text's walks alone
set_option linter.unusedVariables false
set_option linter.unusedSimpArgs false

/-! ### dasdlaw10_FixedPads: function 6 -/
mutual
def dasdlaw10_FixedPads.j0 : Nat → Int → ByteArray → Bool → Option (Bool)
  | 0, _, _, _ => none
  | k + 1, x0, x1, x15 => if x15 = true then ((dasdlaw10_awake.f k).bind fun t216 => (some t216)) else ((fixed_Pad.f x0 x1).bind fun t217 => (if (t217.size : Int) = (mx 0 (mn x0 1000)) then (dasdlaw10_FixedPads.l0 k x1 t217 (mx 0 (mn x0 1000)) (mn (mx 0 (mn x0 1000)) (x1.size : Int)) (mn (mx 0 (mn x0 1000)) (x1.size : Int))) else (some false)))
def dasdlaw10_FixedPads.l0 : Nat → ByteArray → ByteArray → Int → Int → Int → Option (Bool)
  | 0, _, _, _, _, _ => none
  | k + 1, x1, x5, x6, x7, x8 => if x8 < x6 then (if 0 ≤ x8 then (if x8 < (x5.size : Int) then (if (bt x5 x8) = 32 then (dasdlaw10_FixedPads.l0 k x1 x5 x6 x7 (wrap64 (x8 + 1))) else (some false)) else (none)) else (none)) else (if 0 ≤ x7 then (if x7 ≤ (x5.size : Int) then (if x7 ≤ (x1.size : Int) then (some ((x5.extract 0 (x7 : Int).toNat).toList == (x1.extract 0 (x7 : Int).toNat).toList)) else (none)) else (none)) else (none))
end
def dasdlaw10_FixedPads.f (k : Nat) (a0 : Int) (a1 : ByteArray) : Option (Bool) := (dasdlaw10_awake.f k).bind fun t215 => (if t215 = true then (dasdlaw10_FixedPads.j0 k a0 a1 (decide ((a1.size : Int) > 1100))) else (dasdlaw10_FixedPads.j0 k a0 a1 true))
theorem dasdlaw10_FixedPads.mono_l : ∀ k, (∀ y0 y1 y2, LeO (dasdlaw10_FixedPads.j0 k y0 y1 y2) (dasdlaw10_FixedPads.j0 (k + 1) y0 y1 y2)) ∧ (∀ y0 y1 y2 y3 y4, LeO (dasdlaw10_FixedPads.l0 k y0 y1 y2 y3 y4) (dasdlaw10_FixedPads.l0 (k + 1) y0 y1 y2 y3 y4))
  | 0 => ⟨fun _ _ _ r h => by simp [dasdlaw10_FixedPads.j0] at h, fun _ _ _ _ _ r h => by simp [dasdlaw10_FixedPads.l0] at h⟩
  | k + 1 => by
    obtain ⟨ih0, ih1⟩ := dasdlaw10_FixedPads.mono_l k
    refine ⟨?_, ?_⟩
    · intro y0 y1 y2
      unfold dasdlaw10_FixedPads.j0
      repeat' first
      | (with_reducible exact ih0 _ _ _)
      | (with_reducible exact ih1 _ _ _ _ _)
      | (with_reducible exact dasdlaw10_awake.mono _)
      | (with_reducible exact LeO.refl _)
      | (with_reducible exact LeO.none _)
      | (with_reducible refine LeO.ite ?_ ?_)
      | (with_reducible refine LeO.bind ?_ (fun _ => ?_))
      | exact ih0 _ _ _
      | exact ih1 _ _ _ _ _
      | exact dasdlaw10_awake.mono _
      | exact LeO.none _
      | refine LeO.ite ?_ ?_
      | refine LeO.bind ?_ (fun _ => ?_)
    · intro y0 y1 y2 y3 y4
      unfold dasdlaw10_FixedPads.l0
      repeat' first
      | (with_reducible exact ih0 _ _ _)
      | (with_reducible exact ih1 _ _ _ _ _)
      | (with_reducible exact dasdlaw10_awake.mono _)
      | (with_reducible exact LeO.refl _)
      | (with_reducible exact LeO.none _)
      | (with_reducible refine LeO.ite ?_ ?_)
      | (with_reducible refine LeO.bind ?_ (fun _ => ?_))
      | exact ih0 _ _ _
      | exact ih1 _ _ _ _ _
      | exact dasdlaw10_awake.mono _
      | exact LeO.none _
      | refine LeO.ite ?_ ?_
      | refine LeO.bind ?_ (fun _ => ?_)
theorem dasdlaw10_FixedPads.mono : ∀ a0 a1 k, LeO (dasdlaw10_FixedPads.f k a0 a1) (dasdlaw10_FixedPads.f (k + 1) a0 a1) := by
  intro a0 a1 k
  obtain ⟨ih0, ih1⟩ := dasdlaw10_FixedPads.mono_l k
  unfold dasdlaw10_FixedPads.f
  repeat' first
      | (with_reducible exact ih0 _ _ _)
      | (with_reducible exact ih1 _ _ _ _ _)
      | (with_reducible exact dasdlaw10_awake.mono _)
      | (with_reducible exact LeO.refl _)
      | (with_reducible exact LeO.none _)
      | (with_reducible refine LeO.ite ?_ ?_)
      | (with_reducible refine LeO.bind ?_ (fun _ => ?_))
      | exact ih0 _ _ _
      | exact ih1 _ _ _ _ _
      | exact dasdlaw10_awake.mono _
      | exact LeO.none _
      | refine LeO.ite ?_ ?_
      | refine LeO.bind ?_ (fun _ => ?_)
set_option maxHeartbeats 8000000 in
set_option maxRecDepth 100000 in
theorem dasdlaw10_FixedPads.calls (k : Nat) (a0 : Int) (a1 : ByteArray) (r : Bool) (w : World) (h : dasdlaw10_FixedPads.f k a0 a1 = some r) :
    Calls Try.prog 6 #[.int .i64 a0, .string a1] w fun e w' => e = .returned (.bool r) ∧ Below w.heap.size w w' := by
  have HB := Aside0.mk (Below.refl w.heap.size w)
  have H : ((dasdlaw10_awake.f k).bind fun t215 => (if t215 = true then (dasdlaw10_FixedPads.j0 k a0 a1 (decide ((a1.size : Int) > 1100))) else (dasdlaw10_FixedPads.j0 k a0 a1 true))) = some r := h
  clear h
  have HC3 := Aside0.mk H
  clear H
  go_enter Try.func6, Try.ntmps6
  go_upto_region 1 with (fail)
  repeat (go_quiet (fail); go_upto_region 1 with (fail))
  go_cut [15] (fun v15 wc => ∃ (kq : Nat) (x15_2 : Bool), v15 = .bool x15_2 ∧ Aside0 (dasdlaw10_FixedPads.j0 kq a0 a1 x15_2 = some r) ∧ Aside0 (kq ≤ k) ∧ Aside0 (Below w.heap.size w wc))
  case first =>
    have H := HC3.out
    clear HC3
    replace H := Option.bind_eq_some_iff.mp H
    obtain ⟨t215, A40, H⟩ := H
    replace H : (if t215 = true then (dasdlaw10_FixedPads.j0 k a0 a1 (decide ((a1.size : Int) > 1100))) else (dasdlaw10_FixedPads.j0 k a0 a1 true)) = some r := H
    have A4 := Aside0.mk A40
    clear A40
    by_cases c5 : t215 = true
    · subst c5
      have H1 : (dasdlaw10_FixedPads.j0 k a0 a1 (decide ((a1.size : Int) > 1100))) = some r := by rw [if_pos rfl] at H; exact H
      clear H
      have H := H1
      clear H1
      have H' := Aside0.mk H
      clear H
      go_wp2_with (first | (go_at_call 10; (with_reducible refine (dasdlaw10_awake.calls k  true _ A4.out).mono ?_); rintro e w6 ⟨rfl, hb⟩; have n0_ := Aside0.mk (below_step (by repeat (first | (with_reducible first | exact HB.out | apply below_alloc | apply pw_below_drewN | apply below_drew1) | exact HB.out)) hb); clear HB; have HB := n0_; clear n0_; (try clear hb); (try clear hb2); (try clear hk); (try clear hi)))
      repeat (go_quiet (first | (go_at_call 10; (with_reducible refine (dasdlaw10_awake.calls k  true _ A4.out).mono ?_); rintro e w6 ⟨rfl, hb⟩; have n0_ := Aside0.mk (below_step (by repeat (first | (with_reducible first | exact HB.out | apply below_alloc | apply pw_below_drewN | apply below_drew1) | exact HB.out)) hb); clear HB; have HB := n0_; clear n0_; (try clear hb); (try clear hb2); (try clear hk); (try clear hi))); try go_wp2_with (first | (go_at_call 10; (with_reducible refine (dasdlaw10_awake.calls k  true _ A4.out).mono ?_); rintro e w6 ⟨rfl, hb⟩; have n0_ := Aside0.mk (below_step (by repeat (first | (with_reducible first | exact HB.out | apply below_alloc | apply pw_below_drewN | apply below_drew1) | exact HB.out)) hb); clear HB; have HB := n0_; clear n0_; (try clear hb); (try clear hb2); (try clear hk); (try clear hi))))
      go_meet
      case rel => exact ⟨_, (decide ((a1.size : Int) > 1100)), (by first | rfl | (simp; done) | (simp [*]; done)), H', ⟨by first | omega | exact Nat.le_refl _⟩, ⟨by repeat (first | (with_reducible first | exact HB.out | apply below_alloc | apply pw_below_drewN | apply below_drew1) | exact HB.out)⟩⟩
    · replace c5 := Bool.eq_false_iff.mpr c5
      subst c5
      have H1 : (dasdlaw10_FixedPads.j0 k a0 a1 true) = some r := by rw [if_neg (show ¬ (false = true) by decide)] at H; exact H
      clear H
      have H := H1
      clear H1
      have H' := Aside0.mk H
      clear H
      go_wp2_with (first | (go_at_call 10; (with_reducible refine (dasdlaw10_awake.calls k  false _ A4.out).mono ?_); rintro e w7 ⟨rfl, hb⟩; have n0_ := Aside0.mk (below_step (by repeat (first | (with_reducible first | exact HB.out | apply below_alloc | apply pw_below_drewN | apply below_drew1) | exact HB.out)) hb); clear HB; have HB := n0_; clear n0_; (try clear hb); (try clear hb2); (try clear hk); (try clear hi)))
      repeat (go_quiet (first | (go_at_call 10; (with_reducible refine (dasdlaw10_awake.calls k  false _ A4.out).mono ?_); rintro e w7 ⟨rfl, hb⟩; have n0_ := Aside0.mk (below_step (by repeat (first | (with_reducible first | exact HB.out | apply below_alloc | apply pw_below_drewN | apply below_drew1) | exact HB.out)) hb); clear HB; have HB := n0_; clear n0_; (try clear hb); (try clear hb2); (try clear hk); (try clear hi))); try go_wp2_with (first | (go_at_call 10; (with_reducible refine (dasdlaw10_awake.calls k  false _ A4.out).mono ?_); rintro e w7 ⟨rfl, hb⟩; have n0_ := Aside0.mk (below_step (by repeat (first | (with_reducible first | exact HB.out | apply below_alloc | apply pw_below_drewN | apply below_drew1) | exact HB.out)) hb); clear HB; have HB := n0_; clear n0_; (try clear hb); (try clear hb2); (try clear hk); (try clear hi))))
      go_meet
      case rel => exact ⟨_, (true), (by first | rfl | (simp; done) | (simp [*]; done)), H', ⟨by first | omega | exact Nat.le_refl _⟩, ⟨by repeat (first | (with_reducible first | exact HB.out | apply below_alloc | apply pw_below_drewN | apply below_drew1) | exact HB.out)⟩⟩
  case rest =>
    clear HC3
    try clear p2
    try clear c5
    try clear c6
    obtain ⟨kq, x15_2, rfl, HA, HJ2, HB⟩ := hcut
    cases kq with
    | zero => exact absurd HA.out (by simp [dasdlaw10_FixedPads.j0])
    | succ kj2 =>
      have H := HA.out
      clear HA
      simp only [dasdlaw10_FixedPads.j0] at H
      by_cases c8 : x15_2 = true
      · subst c8
        have H1 : ((dasdlaw10_awake.f kj2).bind fun t216 => (some t216)) = some r := by rw [if_pos rfl] at H; exact H
        clear H
        have H := H1
        clear H1
        replace H := Option.bind_eq_some_iff.mp H
        obtain ⟨t216, A90, H⟩ := H
        replace H : (some t216) = some r := H
        have A9 := Aside0.mk A90
        clear A90
        obtain rfl := Option.some.inj H
        go_wp2_with (first | (go_at_call 10; (with_reducible refine (dasdlaw10_awake.calls kj2  t216 _ A9.out).mono ?_); rintro e w10 ⟨rfl, hb⟩; have n0_ := Aside0.mk (below_step (by repeat (first | (with_reducible first | exact HB.out | apply below_alloc | apply pw_below_drewN | apply below_drew1) | exact HB.out)) hb); clear HB; have HB := n0_; clear n0_; (try clear hb); (try clear hb2); (try clear hk); (try clear hi)))
        repeat (go_quiet (first | (go_at_call 10; (with_reducible refine (dasdlaw10_awake.calls kj2  t216 _ A9.out).mono ?_); rintro e w10 ⟨rfl, hb⟩; have n0_ := Aside0.mk (below_step (by repeat (first | (with_reducible first | exact HB.out | apply below_alloc | apply pw_below_drewN | apply below_drew1) | exact HB.out)) hb); clear HB; have HB := n0_; clear n0_; (try clear hb); (try clear hb2); (try clear hk); (try clear hi))); try go_wp2_with (first | (go_at_call 10; (with_reducible refine (dasdlaw10_awake.calls kj2  t216 _ A9.out).mono ?_); rintro e w10 ⟨rfl, hb⟩; have n0_ := Aside0.mk (below_step (by repeat (first | (with_reducible first | exact HB.out | apply below_alloc | apply pw_below_drewN | apply below_drew1) | exact HB.out)) hb); clear HB; have HB := n0_; clear n0_; (try clear hb); (try clear hb2); (try clear hk); (try clear hi))))
        go_ret
        exact ⟨by first | rfl | (simp [errW_none, errW_some] <;> rfl) | (simp [*, errW_none, errW_some] <;> rfl), by repeat (first | (with_reducible first | exact HB.out | apply below_alloc | apply pw_below_drewN | apply below_drew1) | exact HB.out)⟩
      · replace c8 := Bool.eq_false_iff.mpr c8
        subst c8
        have H1 : ((fixed_Pad.f a0 a1).bind fun t217 => (if (t217.size : Int) = (mx 0 (mn a0 1000)) then (dasdlaw10_FixedPads.l0 kj2 a1 t217 (mx 0 (mn a0 1000)) (mn (mx 0 (mn a0 1000)) (a1.size : Int)) (mn (mx 0 (mn a0 1000)) (a1.size : Int))) else (some false))) = some r := by rw [if_neg (show ¬ (false = true) by decide)] at H; exact H
        clear H
        have H := H1
        clear H1
        replace H := Option.bind_eq_some_iff.mp H
        obtain ⟨t217, A110, H⟩ := H
        replace H : (if (t217.size : Int) = (mx 0 (mn a0 1000)) then (dasdlaw10_FixedPads.l0 kj2 a1 t217 (mx 0 (mn a0 1000)) (mn (mx 0 (mn a0 1000)) (a1.size : Int)) (mn (mx 0 (mn a0 1000)) (a1.size : Int))) else (some false)) = some r := H
        have A11 := Aside0.mk A110
        clear A110
        obtain ⟨ji12, hji12⟩ : ∃ j_ : Int, (mn a0 1000) = j_ := ⟨_, rfl⟩
        replace H : (if (t217.size : Int) = (mx 0 (ji12)) then (dasdlaw10_FixedPads.l0 kj2 a1 t217 (mx 0 (ji12)) (mn (mx 0 (ji12)) (a1.size : Int)) (mn (mx 0 (ji12)) (a1.size : Int))) else (some false)) = some r := by first | (rw [hji12] at H; exact H) | (simp only [hji12] at H ⊢; exact H)
        (try rw [hji12] at A11)
        have hji12_ : (if 1000 < a0 then 1000 else a0) = ji12 := hji12
        obtain ⟨ji13, hji13⟩ : ∃ j_ : Int, (mx 0 (ji12)) = j_ := ⟨_, rfl⟩
        replace H : (if (t217.size : Int) = (ji13) then (dasdlaw10_FixedPads.l0 kj2 a1 t217 ji13 (mn (ji13) (a1.size : Int)) (mn (ji13) (a1.size : Int))) else (some false)) = some r := by first | (rw [hji13] at H; exact H) | (simp only [hji13] at H ⊢; exact H)
        (try rw [hji13] at A11)
        have hji13_ : (if 0 < (ji12) then (ji12) else 0) = ji13 := hji13
        by_cases c14 : (t217.size : Int) = (ji13)
        · rw [if_pos c14] at H
          have c14b0 : ((t217.size : Int) == (ji13)) = true := beq_iff_eq.mpr c14
          have c14b1 : ((t217.size : Int) != (ji13)) = false := bne_eq_false_iff_eq.mpr c14
          clear c14
          obtain ⟨ji15, hji15⟩ : ∃ j_ : Int, (mn (ji13) (a1.size : Int)) = j_ := ⟨_, rfl⟩
          replace H : (dasdlaw10_FixedPads.l0 kj2 a1 t217 ji13 ji15 ji15) = some r := by first | (rw [hji15] at H; exact H) | (simp only [hji15] at H ⊢; exact H)
          (try rw [hji15] at A11)
          have hji15_ : (if (a1.size : Int) < (ji13) then (a1.size : Int) else (ji13)) = ji15 := hji15
          have H' := Aside0.mk H
          clear H
          go_wp2_with (first | (go_at_call 22; (with_reducible refine (fixed_Pad.calls a0 a1 t217 _ A11.out).mono ?_); rintro e w16 ⟨rfl, hb⟩; have n0_ := Aside0.mk (below_step (by repeat (first | (with_reducible first | exact HB.out | apply below_alloc | apply pw_below_drewN | apply below_drew1) | exact HB.out)) hb); clear HB; have HB := n0_; clear n0_; (try clear hb); (try clear hb2); (try clear hk); (try clear hi)))
          repeat (go_quiet (first | (go_at_call 22; (with_reducible refine (fixed_Pad.calls a0 a1 t217 _ A11.out).mono ?_); rintro e w16 ⟨rfl, hb⟩; have n0_ := Aside0.mk (below_step (by repeat (first | (with_reducible first | exact HB.out | apply below_alloc | apply pw_below_drewN | apply below_drew1) | exact HB.out)) hb); clear HB; have HB := n0_; clear n0_; (try clear hb); (try clear hb2); (try clear hk); (try clear hi))); try go_wp2_with (first | (go_at_call 22; (with_reducible refine (fixed_Pad.calls a0 a1 t217 _ A11.out).mono ?_); rintro e w16 ⟨rfl, hb⟩; have n0_ := Aside0.mk (below_step (by repeat (first | (with_reducible first | exact HB.out | apply below_alloc | apply pw_below_drewN | apply below_drew1) | exact HB.out)) hb); clear HB; have HB := n0_; clear n0_; (try clear hb); (try clear hb2); (try clear hk); (try clear hi))))
          go_loopg [8] kj2 (fun kq v8 w' => ∃ (x8_2 : Int), v8 = .int .i64 x8_2 ∧ Aside0 (dasdlaw10_FixedPads.l0 kq a1 t217 ji13 ji15 x8_2 = some r) ∧ Aside0 (kq ≤ kj2) ∧ Aside0 (Below w.heap.size w w'))
          case atStart => exact ⟨(ji15), (by first | rfl | (simp; done) | (simp only [← hji15] <;> (first | rfl | simp)) | (simp [*]; done)), H', ⟨Nat.le_refl _⟩, ⟨by repeat (first | (with_reducible first | exact HB.out | apply below_alloc | apply pw_below_drewN | apply below_drew1) | exact HB.out)⟩⟩
          case round =>
            clear H'
            try clear c1
            try clear p2
            try clear c5
            try clear c6
            try clear c8
            try clear c14
            try clear c14b0
            try clear c14b1
            try clear p2
            obtain ⟨x8_2, rfl, HA, HK2, HB⟩ := hrel
            cases gk with
            | zero => exact absurd HA.out (by simp [dasdlaw10_FixedPads.l0])
            | succ k2 =>
              have H := HA.out
              clear HA
              simp only [dasdlaw10_FixedPads.l0] at H
              by_cases c17 : x8_2 < ji13
              · rw [if_pos c17] at H
                have c17b0 : decide (x8_2 < ji13) = true := decide_eq_true c17
                clear c17
                by_cases c18 : 0 ≤ x8_2
                · rw [if_pos c18] at H
                  have c18b0 : decide (0 ≤ x8_2) = true := decide_eq_true c18
                  clear c18
                  by_cases c19 : x8_2 < (t217.size : Int)
                  · rw [if_pos c19] at H
                    have c19b0 : decide (x8_2 < (t217.size : Int)) = true := decide_eq_true c19
                    clear c19
                    by_cases c21 : (bt t217 x8_2) = 32
                    · rw [if_pos c21] at H
                      have c21b0 : ((bt t217 x8_2) == 32) = true := beq_iff_eq.mpr c21
                      have c21b1 : ((bt t217 x8_2) != 32) = false := bne_eq_false_iff_eq.mpr c21
                      clear c21
                      have H' := Aside0.mk H
                      clear H
                      have p20 : 0 ≤ (x8_2 : Int) := of_decide_eq_true (by first | (with_reducible assumption) | assumption)
                      have q20 : x8_2 < (t217.size : Int) := of_decide_eq_true (by first | (with_reducible assumption) | assumption)
                      have hx20 := bt_at t217 x8_2
                      replace p20 := eq_true p20
                      replace q20 := eq_true q20
                      go_wp2
                      repeat (go_quiet (fail); try go_wp2)
                      go_roundg k2
                      case measure => have := HJ2.out; have := HK2.out; omega
                      case rel => exact ⟨(wrap64 (x8_2 + 1)), (by first | rfl | (simp; done) | (simp [*]; done)), H', ⟨by have := HJ2.out; have := HK2.out; omega⟩, ⟨by repeat (first | (with_reducible first | exact HB.out | apply below_alloc | apply pw_below_drewN | apply below_drew1) | exact HB.out)⟩⟩
                    · rw [if_neg c21] at H
                      have c21b0 : ((bt t217 x8_2) == 32) = false := beq_eq_false_iff_ne.mpr c21
                      have c21b1 : ((bt t217 x8_2) != 32) = true := bne_iff_ne.mpr c21
                      obtain rfl := Option.some.inj H
                      have p20 : 0 ≤ (x8_2 : Int) := of_decide_eq_true (by first | (with_reducible assumption) | assumption)
                      have q20 : x8_2 < (t217.size : Int) := of_decide_eq_true (by first | (with_reducible assumption) | assumption)
                      have hx20 := bt_at t217 x8_2
                      replace p20 := eq_true p20
                      replace q20 := eq_true q20
                      go_wp2
                      repeat (go_quiet (fail); try go_wp2)
                      go_ret
                      exact ⟨by first | rfl | (simp [errW_none, errW_some] <;> rfl) | (simp only [← hji12, ← hji13, ← hji15]; first | rfl | (simp [errW_none, errW_some] <;> rfl)) | (simp [*, errW_none, errW_some] <;> rfl), by repeat (first | (with_reducible first | exact HB.out | apply below_alloc | apply pw_below_drewN | apply below_drew1) | exact HB.out)⟩
                  · rw [if_neg c19] at H
                    exact absurd H (by simp)
                · rw [if_neg c18] at H
                  exact absurd H (by simp)
              · rw [if_neg c17] at H
                have c17b0 : decide (x8_2 < ji13) = false := decide_eq_false c17
                clear c17
                by_cases c22 : 0 ≤ ji15
                · rw [if_pos c22] at H
                  have c22b0 := eq_true c22
                  have c22b1 : decide (0 ≤ ji15) = true := decide_eq_true c22
                  clear c22
                  by_cases c23 : ji15 ≤ (t217.size : Int)
                  · rw [if_pos c23] at H
                    have c23b0 := eq_true c23
                    have c23b1 : decide (ji15 ≤ (t217.size : Int)) = true := decide_eq_true c23
                    clear c23
                    have c24b0 := eq_true (of_decide_eq_true (by first | (with_reducible assumption) | assumption) : 0 ≤ ji15)
                    by_cases c25 : ji15 ≤ (a1.size : Int)
                    · rw [if_pos c25] at H
                      have c25b0 := eq_true c25
                      have c25b1 : decide (ji15 ≤ (a1.size : Int)) = true := decide_eq_true c25
                      clear c25
                      obtain rfl := Option.some.inj H
                      go_wp2
                      repeat (go_quiet (fail); try go_wp2)
                      go_ret
                      exact ⟨by first | rfl | (simp [errW_none, errW_some] <;> rfl) | (simp only [← hji12, ← hji13, ← hji15]; first | rfl | (simp [errW_none, errW_some] <;> rfl)) | (simp [*, errW_none, errW_some] <;> rfl), by repeat (first | (with_reducible first | exact HB.out | apply below_alloc | apply pw_below_drewN | apply below_drew1) | exact HB.out)⟩
                    · rw [if_neg c25] at H
                      exact absurd H (by simp)
                  · rw [if_neg c23] at H
                    exact absurd H (by simp)
                · rw [if_neg c22] at H
                  exact absurd H (by simp)
        · rw [if_neg c14] at H
          have c14b0 : ((t217.size : Int) == (ji13)) = false := beq_eq_false_iff_ne.mpr c14
          have c14b1 : ((t217.size : Int) != (ji13)) = true := bne_iff_ne.mpr c14
          obtain rfl := Option.some.inj H
          go_wp2_with (first | (go_at_call 22; (with_reducible refine (fixed_Pad.calls a0 a1 t217 _ A11.out).mono ?_); rintro e w26 ⟨rfl, hb⟩; have n0_ := Aside0.mk (below_step (by repeat (first | (with_reducible first | exact HB.out | apply below_alloc | apply pw_below_drewN | apply below_drew1) | exact HB.out)) hb); clear HB; have HB := n0_; clear n0_; (try clear hb); (try clear hb2); (try clear hk); (try clear hi)))
          repeat (go_quiet (first | (go_at_call 22; (with_reducible refine (fixed_Pad.calls a0 a1 t217 _ A11.out).mono ?_); rintro e w26 ⟨rfl, hb⟩; have n0_ := Aside0.mk (below_step (by repeat (first | (with_reducible first | exact HB.out | apply below_alloc | apply pw_below_drewN | apply below_drew1) | exact HB.out)) hb); clear HB; have HB := n0_; clear n0_; (try clear hb); (try clear hb2); (try clear hk); (try clear hi))); try go_wp2_with (first | (go_at_call 22; (with_reducible refine (fixed_Pad.calls a0 a1 t217 _ A11.out).mono ?_); rintro e w26 ⟨rfl, hb⟩; have n0_ := Aside0.mk (below_step (by repeat (first | (with_reducible first | exact HB.out | apply below_alloc | apply pw_below_drewN | apply below_drew1) | exact HB.out)) hb); clear HB; have HB := n0_; clear n0_; (try clear hb); (try clear hb2); (try clear hk); (try clear hi))))
          go_ret
          exact ⟨by first | rfl | (simp [errW_none, errW_some] <;> rfl) | (simp only [← hji12, ← hji13]; first | rfl | (simp [errW_none, errW_some] <;> rfl)) | (simp [*, errW_none, errW_some] <;> rfl), by repeat (first | (with_reducible first | exact HB.out | apply below_alloc | apply pw_below_drewN | apply below_drew1) | exact HB.out)⟩

/-- THE ONE PURE STATEMENT of dasdlaw10_FixedPads: yours. -/
def dasdlaw10_FixedPads.Pure : Prop := ∀ (a0 : Int) (a1 : ByteArray), (Lit.int .i64 a0).wf = true → a1.size ≤ 140737488351232 → ∃ k, dasdlaw10_FixedPads.f k a0 a1 = some true
theorem dasdlaw10_FixedPads.walk (P : dasdlaw10_FixedPads.Pure) (a0 : Int) (a1 : ByteArray) (w : World) (w0 : (Lit.int .i64 a0).wf = true) (w1 : a1.size ≤ 140737488351232) :
    Calls Try.prog 6 #[.int .i64 a0, .string a1] w fun e w' => e = .returned (.bool true) ∧ Below w.heap.size w w' := by
  obtain ⟨k, h⟩ := P a0 a1 w0 w1
  refine (dasdlaw10_FixedPads.calls k a0 a1 true w h).mono ?_
  rintro e w' ⟨rfl, hd⟩
  exact ⟨rfl, hd⟩

end Go.Proofs.Ytginemabhdjmfaa.XFx
