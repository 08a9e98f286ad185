/- Written by xprint.py, a program of this session: what functions of the program answer, each by a walk of its code; no condition beside those in the statements. -/
import Derived.Test.YtginemabhdjmfaaXFx0
import Derived.Test.YtginemabhdjmfaaXFx1
namespace Go.Proofs.Ytginemabhdjmfaa.XFx
open Go.RowKit Go.Proofs.YtginemabhdjmfaaW.PrintWords Go.Proofs.YtginemabhdjmfaaW.PrintLast Go.Proofs.YtginemabhdjmfaaW.PrintMore
attribute [local go_sem] max2_int min2_int max_two min_two max_three min_three max_four min_four   -- for this text's walks alone
set_option linter.unusedVariables false
set_option linter.unusedSimpArgs false

/-! ### fixed_Unpack: function 19 -/
mutual
def fixed_Unpack.j0 : Nat → Int → ByteArray → Int → Bool → Option (List ByteArray × Int)
  | 0, _, _, _, _ => none
  | k + 1, x0, x2, x8, x34 => if x34 = true then (some (([] : List ByteArray), 11)) else (if 0 ≤ x8 then (if (x8 : Int).toNat ≤ 17592186044416 then (fixed_Unpack.l0 k x0 x2 (List.replicate (x8 : Int).toNat (⟨#[]⟩ : ByteArray)) x8 0) else (none)) else (none))
def fixed_Unpack.l0 : Nat → Int → ByteArray → List ByteArray → Int → Int → Option (List ByteArray × Int)
  | 0, _, _, _, _, _ => none
  | k + 1, x0, x2, x9, x37, x38 => if x38 < x37 then (if 0 ≤ (wrap64 (x38 * x0)) then (if (wrap64 (x38 * x0)) ≤ (wrap64 ((wrap64 (x38 + 1)) * x0)) then (if (wrap64 ((wrap64 (x38 + 1)) * x0)) ≤ (x2.size : Int) then (if 0 ≤ x38 then (if x38 < (x9.length : Int) then (fixed_Unpack.l0 k x0 x2 (x9.set (x38 : Int).toNat (x2.extract ((wrap64 (x38 * x0)) : Int).toNat ((wrap64 ((wrap64 (x38 + 1)) * x0)) : Int).toNat)) x37 (wrap64 (x38 + 1))) else (none)) else (none)) else (none)) else (none)) else (none)) else (some (x9, 0))
end
def fixed_Unpack.f (k : Nat) (a0 : Int) (a1 : Int) (a2 : ByteArray) : Option (List ByteArray × Int) := (fixed_Valid.f a0 a1).bind fun t166 => (if t166 = true then (if a0 = 0 then (none) else (if (wrap64 ((a2.size : Int) / a0)) < 1 then (fixed_Unpack.j0 k a0 a2 (wrap64 ((a2.size : Int) / a0)) true) else ((fixed_Most.f a0 a1).bind fun t167 => (if (wrap64 ((a2.size : Int) / a0)) > t167 then (fixed_Unpack.j0 k a0 a2 (wrap64 ((a2.size : Int) / a0)) true) else (fixed_Unpack.j0 k a0 a2 (wrap64 ((a2.size : Int) / a0)) (((a2.size : Int) % a0) != 0)))))) else (some (([] : List ByteArray), 1)))
theorem fixed_Unpack.mono_l : ∀ k, (∀ y0 y1 y2 y3, LeO (fixed_Unpack.j0 k y0 y1 y2 y3) (fixed_Unpack.j0 (k + 1) y0 y1 y2 y3)) ∧ (∀ y0 y1 y2 y3 y4, LeO (fixed_Unpack.l0 k y0 y1 y2 y3 y4) (fixed_Unpack.l0 (k + 1) y0 y1 y2 y3 y4))
  | 0 => ⟨fun _ _ _ _ r h => by simp [fixed_Unpack.j0] at h, fun _ _ _ _ _ r h => by simp [fixed_Unpack.l0] at h⟩
  | k + 1 => by
    obtain ⟨ih0, ih1⟩ := fixed_Unpack.mono_l k
    refine ⟨?_, ?_⟩
    · intro y0 y1 y2 y3
      unfold fixed_Unpack.j0
      repeat' first
      | (with_reducible exact ih0 _ _ _ _)
      | (with_reducible exact ih1 _ _ _ _ _)
      | (with_reducible exact LeO.refl _)
      | (with_reducible exact LeO.none _)
      | (with_reducible refine LeO.ite ?_ ?_)
      | (with_reducible refine LeO.bind ?_ (fun _ => ?_))
      | exact ih0 _ _ _ _
      | exact ih1 _ _ _ _ _
      | exact LeO.none _
      | refine LeO.ite ?_ ?_
      | refine LeO.bind ?_ (fun _ => ?_)
    · intro y0 y1 y2 y3 y4
      unfold fixed_Unpack.l0
      repeat' first
      | (with_reducible exact ih0 _ _ _ _)
      | (with_reducible exact ih1 _ _ _ _ _)
      | (with_reducible exact LeO.refl _)
      | (with_reducible exact LeO.none _)
      | (with_reducible refine LeO.ite ?_ ?_)
      | (with_reducible refine LeO.bind ?_ (fun _ => ?_))
      | exact ih0 _ _ _ _
      | exact ih1 _ _ _ _ _
      | exact LeO.none _
      | refine LeO.ite ?_ ?_
      | refine LeO.bind ?_ (fun _ => ?_)
theorem fixed_Unpack.mono : ∀ a0 a1 a2 k, LeO (fixed_Unpack.f k a0 a1 a2) (fixed_Unpack.f (k + 1) a0 a1 a2) := by
  intro a0 a1 a2 k
  obtain ⟨ih0, ih1⟩ := fixed_Unpack.mono_l k
  unfold fixed_Unpack.f
  repeat' first
      | (with_reducible exact ih0 _ _ _ _)
      | (with_reducible exact ih1 _ _ _ _ _)
      | (with_reducible exact LeO.refl _)
      | (with_reducible exact LeO.none _)
      | (with_reducible refine LeO.ite ?_ ?_)
      | (with_reducible refine LeO.bind ?_ (fun _ => ?_))
      | exact ih0 _ _ _ _
      | exact ih1 _ _ _ _ _
      | exact LeO.none _
      | refine LeO.ite ?_ ?_
      | refine LeO.bind ?_ (fun _ => ?_)
set_option maxHeartbeats 8000000 in
set_option maxRecDepth 100000 in
theorem fixed_Unpack.calls (k : Nat) (a0 : Int) (a1 : Int) (a2 : ByteArray) (r1 : List ByteArray) (r2 : Int) (w : World) (h : fixed_Unpack.f k a0 a1 a2 = some (r1, r2)) :
    Calls Try.prog 19 #[.int .i64 a0, .int .i64 a1, .string a2] w fun e w' => ∃ v0_ : Value, e = .returned (.tuple #[v0_, .int .i64 r2]) ∧ Kd.R Kd.string 9 w' w.heap.size (fun _ => True) v0_ r1 ∧ Below w.heap.size w w' := by
  have HB := Aside0.mk (Below.refl w.heap.size w)
  have H : ((fixed_Valid.f a0 a1).bind fun t166 => (if t166 = true then (if a0 = 0 then (none) else (if (wrap64 ((a2.size : Int) / a0)) < 1 then (fixed_Unpack.j0 k a0 a2 (wrap64 ((a2.size : Int) / a0)) true) else ((fixed_Most.f a0 a1).bind fun t167 => (if (wrap64 ((a2.size : Int) / a0)) > t167 then (fixed_Unpack.j0 k a0 a2 (wrap64 ((a2.size : Int) / a0)) true) else (fixed_Unpack.j0 k a0 a2 (wrap64 ((a2.size : Int) / a0)) (((a2.size : Int) % a0) != 0)))))) else (some (([] : List ByteArray), 1)))) = some (r1, r2) := h
  clear h
  replace H := Option.bind_eq_some_iff.mp H
  obtain ⟨t166, A40, H⟩ := H
  replace H : (if t166 = true then (if a0 = 0 then (none) else (if (wrap64 ((a2.size : Int) / a0)) < 1 then (fixed_Unpack.j0 k a0 a2 (wrap64 ((a2.size : Int) / a0)) true) else ((fixed_Most.f a0 a1).bind fun t167 => (if (wrap64 ((a2.size : Int) / a0)) > t167 then (fixed_Unpack.j0 k a0 a2 (wrap64 ((a2.size : Int) / a0)) true) else (fixed_Unpack.j0 k a0 a2 (wrap64 ((a2.size : Int) / a0)) (((a2.size : Int) % a0) != 0)))))) else (some (([] : List ByteArray), 1))) = some (r1, r2) := H
  have A4 := Aside0.mk A40
  clear A40
  by_cases c5 : t166 = true
  · subst c5
    have H1 : (if a0 = 0 then (none) else (if (wrap64 ((a2.size : Int) / a0)) < 1 then (fixed_Unpack.j0 k a0 a2 (wrap64 ((a2.size : Int) / a0)) true) else ((fixed_Most.f a0 a1).bind fun t167 => (if (wrap64 ((a2.size : Int) / a0)) > t167 then (fixed_Unpack.j0 k a0 a2 (wrap64 ((a2.size : Int) / a0)) true) else (fixed_Unpack.j0 k a0 a2 (wrap64 ((a2.size : Int) / a0)) (((a2.size : Int) % a0) != 0)))))) = some (r1, r2) := by rw [if_pos rfl] at H; exact H
    clear H
    have H := H1
    clear H1
    by_cases c6 : a0 = 0
    · rw [if_pos c6] at H
      exact absurd H (by simp)
    · rw [if_neg c6] at H
      have c6b0 : (a0 == 0) = false := beq_eq_false_iff_ne.mpr c6
      have c6b1 : (a0 != 0) = true := bne_iff_ne.mpr c6
      have HC7 := Aside0.mk H
      clear H
      go_enter Try.func19, Try.ntmps19
      go_upto_region 4 with (first | ((with_reducible refine gate_callee (f := 14) rfl ?_); refine goesL_ (some 13) rfl rfl Try.func14 (by kernel_rfl) rfl #[.int .i64 a0, .int .i64 a1] rfl (by (try simp only [List.map_toArray, List.map_cons, List.map_nil]); first | done | rfl | (simp only [List.length_drop, List.length_take]; rfl)) ?_; (with_reducible refine (fixed_Valid.calls a0 a1 true _ A4.out).mono ?_); rintro e w' ⟨rfl, ⟨nd, rfl⟩⟩; refine ⟨_, rfl, ?_⟩))
      (try simp only [Act.put, List.setIfInBounds_toArray, List.set_cons_zero, List.set_cons_succ])
      go_cut [34] (fun v34 wc => ∃ (kq : Nat) (x34_6 : Bool), v34 = .bool x34_6 ∧ Aside0 (fixed_Unpack.j0 kq a0 a2 (wrap64 ((a2.size : Int) / a0)) x34_6 = some (r1, r2)) ∧ Aside0 (kq ≤ k) ∧ Aside0 (Below w.heap.size w wc))
      case first =>
        have H := HC7.out
        clear HC7
        by_cases c8 : (wrap64 ((a2.size : Int) / a0)) < 1
        · rw [if_pos c8] at H
          have c8b0 : decide ((wrap64 ((a2.size : Int) / a0)) < 1) = true := decide_eq_true c8
          clear c8
          (first | rw [c8b0] | (simp only [i64_w, i32_w]; rw [c8b0]) | skip)
          have H' := Aside0.mk H
          clear H
          go_wp2
          go_meet
          case rel => exact ⟨_, (true), (by first | rfl | (simp; done) | (simp [*]; done)), H', ⟨by first | omega | exact Nat.le_refl _⟩, ⟨by repeat (first | (with_reducible first | exact HB.out | apply below_alloc | apply pw_below_drewN | apply below_drew1) | exact HB.out)⟩⟩
        · rw [if_neg c8] at H
          have c8b0 : decide ((wrap64 ((a2.size : Int) / a0)) < 1) = false := decide_eq_false c8
          clear c8
          (first | rw [c8b0] | (simp only [i64_w, i32_w]; rw [c8b0]) | skip)
          replace H := Option.bind_eq_some_iff.mp H
          obtain ⟨t167, A90, H⟩ := H
          replace H : (if (wrap64 ((a2.size : Int) / a0)) > t167 then (fixed_Unpack.j0 k a0 a2 (wrap64 ((a2.size : Int) / a0)) true) else (fixed_Unpack.j0 k a0 a2 (wrap64 ((a2.size : Int) / a0)) (((a2.size : Int) % a0) != 0))) = some (r1, r2) := H
          have A9 := Aside0.mk A90
          clear A90
          by_cases c10 : (wrap64 ((a2.size : Int) / a0)) > t167
          · rw [if_pos c10] at H
            have c10b0 : decide (t167 < (wrap64 ((a2.size : Int) / a0))) = true := decide_eq_true c10
            clear c10
            have H' := Aside0.mk H
            clear H
            go_wp2_with (first | (go_at_call 16; (with_reducible refine (fixed_Most.calls a0 a1 t167 _ A9.out).mono ?_); rintro e w' ⟨rfl, ⟨nd, rfl⟩⟩))
            go_meet
            case rel => exact ⟨_, (true), (by first | rfl | (simp; done) | (simp [*]; done)), H', ⟨by first | omega | exact Nat.le_refl _⟩, ⟨by repeat (first | (with_reducible first | exact HB.out | apply below_alloc | apply pw_below_drewN | apply below_drew1) | exact HB.out)⟩⟩
          · rw [if_neg c10] at H
            have c10b0 : decide (t167 < (wrap64 ((a2.size : Int) / a0))) = false := decide_eq_false c10
            clear c10
            have H' := Aside0.mk H
            clear H
            go_wp2_with (first | (go_at_call 16; (with_reducible refine (fixed_Most.calls a0 a1 t167 _ A9.out).mono ?_); rintro e w' ⟨rfl, ⟨nd, rfl⟩⟩))
            go_meet
            case rel => exact ⟨_, ((((a2.size : Int) % a0) != 0)), (by first | rfl | (simp; done) | (simp [*]; done)), H', ⟨by first | omega | exact Nat.le_refl _⟩, ⟨by repeat (first | (with_reducible first | exact HB.out | apply below_alloc | apply pw_below_drewN | apply below_drew1) | exact HB.out)⟩⟩
      case rest =>
        clear HC7
        try clear c1
        try clear p2
        try clear c5
        try clear c6
        try clear c6b0
        try clear c6b1
        try clear p6
        try clear c8
        try clear c8b0
        try clear c10
        try clear c10b0
        obtain ⟨kq, x34_6, rfl, HA, HJ6, HB⟩ := hcut
        cases kq with
        | zero => exact absurd HA.out (by simp [fixed_Unpack.j0])
        | succ kj6 =>
          have H := HA.out
          clear HA
          simp only [fixed_Unpack.j0] at H
          by_cases c11 : x34_6 = true
          · subst c11
            have H1 : (some (([] : List ByteArray), 11)) = some (r1, r2) := by rw [if_pos rfl] at H; exact H
            clear H
            have H := H1
            clear H1
            simp only [Option.some.injEq, Prod.mk.injEq] at H
            obtain ⟨rfl, rfl⟩ := H
            go_wp2
            go_ret2
            exact ⟨_, by first | rfl | (simp [errW_none, errW_some] <;> rfl) | (simp [*, errW_none, errW_some] <;> rfl), by first | exact Kd.R_nil _ _ _ _ _ | exact Kd.N_nil _ _ _ _ _ | exact Kd.V_nil _ _ _ _ _ | exact Kd.Q_nil _ _ _ _ _ | exact Kd.S_nil _ _ _ _ _, by repeat (first | (with_reducible first | exact HB.out | apply below_alloc | apply pw_below_drewN | apply below_drew1) | exact HB.out)⟩
          · replace c11 := Bool.eq_false_iff.mpr c11
            subst c11
            have H1 : (if 0 ≤ (wrap64 ((a2.size : Int) / a0)) then (if ((wrap64 ((a2.size : Int) / a0)) : Int).toNat ≤ 17592186044416 then (fixed_Unpack.l0 kj6 a0 a2 (List.replicate ((wrap64 ((a2.size : Int) / a0)) : Int).toNat (⟨#[]⟩ : ByteArray)) (wrap64 ((a2.size : Int) / a0)) 0) else (none)) else (none)) = some (r1, r2) := by rw [if_neg (show ¬ (false = true) by decide)] at H; exact H
            clear H
            have H := H1
            clear H1
            obtain ⟨ji12, hji12⟩ : ∃ j_ : Int, (wrap64 ((a2.size : Int) / a0)) = j_ := ⟨_, rfl⟩
            replace H : (if 0 ≤ (ji12) then (if ((ji12) : Int).toNat ≤ 17592186044416 then (fixed_Unpack.l0 kj6 a0 a2 (List.replicate ((ji12) : Int).toNat (⟨#[]⟩ : ByteArray)) (ji12) 0) else (none)) else (none)) = some (r1, r2) := by first | (rw [hji12] at H; exact H) | (simp only [hji12] at H ⊢; exact H)
            have hji12w : (IntKind.i64.wrap ((a2.size : Int) / a0)) = ji12 := (i64_w _).trans hji12
            (try simp only [hji12])
            by_cases c13 : 0 ≤ (ji12)
            · rw [if_pos c13] at H
              have c13b0 := eq_true c13
              have c13b1 : decide (0 ≤ (ji12)) = true := decide_eq_true c13
              clear c13
              by_cases c14 : ((ji12) : Int).toNat ≤ 17592186044416
              · rw [if_pos c14] at H
                have c14b0 := eq_true c14
                have c14b1 : decide (((ji12) : Int).toNat ≤ 17592186044416) = true := decide_eq_true c14
                clear c14
                obtain ⟨y168, hy168⟩ : ∃ y_ : List ByteArray, y_ = (List.replicate ((ji12) : Int).toNat (⟨#[]⟩ : ByteArray)) := ⟨_, rfl⟩
                replace H : (fixed_Unpack.l0 kj6 a0 a2 y168 (ji12) 0) = some (r1, r2) := by first | (rw [hy168]; with_reducible exact H) | (have H2_ := (Option.bind_some _ _).symm.trans H; rw [hy168]; with_reducible exact H2_) | (have H2_ := (Option.bind_some _ _).symm.trans H; with_reducible exact H2_) | with_reducible exact H | (rw [hy168]; exact H) | exact H
                have Ny168 := Aside0.mk hy168
                clear hy168
                have H' := Aside0.mk H
                clear H
                go_wp2_with (first | ((with_reducible refine gate_dst (N := 36) rfl ?_); (try (refine gate_guard (by rfl) ?_; dsimp only)); refine Kd.R_make Kd.string _ 9 rfl (N := 36) rfl 22 _ _ rfl (ji12) rfl rfl Try.underlying22 (.string ⟨#[]⟩) 16 info9 rfl (by decide) (by omega) (⟨#[]⟩ : ByteArray) (ok := fun _ => True) (okp := fun _ => True) rfl (fun _ hk => hk) trivial (of_decide_eq_true (by first | (with_reducible assumption) | assumption)) (Nat.le_trans (Nat.mul_le_mul_right _ (of_decide_eq_true (by first | (with_reducible assumption) | assumption) : (ji12).toNat ≤ 17592186044416)) (by omega)) (Below.refl _ _) (Nat.le_refl _) ?_; intro v169 w15 ho16 hb hg_ hnew_; clear hg_ hnew_; (first | rw [← Ny168.out] at ho16 | (simp only [Int.reduceToNat] at ho16; rw [← Ny168.out] at ho16)); have n0_ := Aside0.mk (Kd.R_lower ho16 (below_size (by repeat (first | (with_reducible first | exact HB.out | apply below_alloc | apply pw_below_drewN | apply below_drew1) | exact HB.out)))); have n1_ := Aside0.mk (below_step (by repeat (first | (with_reducible first | exact HB.out | apply below_alloc | apply pw_below_drewN | apply below_drew1) | exact HB.out)) hb); clear HB; have HO170 := n0_; have HB := n1_; clear n0_ n1_; clear hb ho16))
                go_loopg [38] kj6 (fun kq v38 w' => ∃ (x9_2 : List ByteArray) (x38_2 : Int), v38 = .int .i64 x38_2 ∧ Aside0 (fixed_Unpack.l0 kq a0 a2 x9_2 (ji12) x38_2 = some (r1, r2)) ∧ Aside0 (kq ≤ kj6) ∧ Aside0 (Kd.R Kd.string 9 w' w.heap.size (fun _ => True) v169 x9_2) ∧ Aside0 (Below w.heap.size w w'))
                case atStart => exact ⟨(y168), (0), (by first | rfl | (simp; done) | (simp [*]; done)), H', ⟨Nat.le_refl _⟩, ⟨by (with_reducible repeat (first | apply Kd.R_alloc | apply Kd.R_drewN | apply Kd.R_drew)); exact HO170.out⟩, ⟨by repeat (first | (with_reducible first | exact HB.out | apply below_alloc | apply pw_below_drewN | apply below_drew1) | exact HB.out)⟩⟩
                case round =>
                  clear H'
                  try clear c1
                  try clear p2
                  try clear c5
                  try clear c6
                  try clear c6b0
                  try clear c6b1
                  try clear p6
                  try clear c8
                  try clear c8b0
                  try clear c10
                  try clear c10b0
                  try clear c11
                  try clear c13
                  try clear c13b0
                  try clear c13b1
                  try clear c14
                  try clear c14b0
                  try clear c14b1
                  try clear p2
                  try clear p6
                  obtain ⟨x9_2, x38_2, rfl, HA, HK2, HO_9, HB⟩ := hrel
                  cases gk with
                  | zero => exact absurd HA.out (by simp [fixed_Unpack.l0])
                  | succ k2 =>
                    have H := HA.out
                    clear HA
                    simp only [fixed_Unpack.l0] at H
                    by_cases c17 : x38_2 < (ji12)
                    · rw [if_pos c17] at H
                      have c17b0 : decide (x38_2 < (ji12)) = true := decide_eq_true c17
                      clear c17
                      obtain ⟨ji18, hji18⟩ : ∃ j_ : Int, (wrap64 (x38_2 * a0)) = j_ := ⟨_, rfl⟩
                      replace H : (if 0 ≤ (ji18) then (if (ji18) ≤ (wrap64 ((wrap64 (x38_2 + 1)) * a0)) then (if (wrap64 ((wrap64 (x38_2 + 1)) * a0)) ≤ (a2.size : Int) then (if 0 ≤ x38_2 then (if x38_2 < (x9_2.length : Int) then (fixed_Unpack.l0 k2 a0 a2 (x9_2.set (x38_2 : Int).toNat (a2.extract ((ji18) : Int).toNat ((wrap64 ((wrap64 (x38_2 + 1)) * a0)) : Int).toNat)) (ji12) (wrap64 (x38_2 + 1))) else (none)) else (none)) else (none)) else (none)) else (none)) = some (r1, r2) := by first | (rw [hji18] at H; exact H) | (simp only [hji18] at H ⊢; exact H)
                      have hji18w : (IntKind.i64.wrap (x38_2 * a0)) = ji18 := (i64_w _).trans hji18
                      (try simp only [hji18])
                      by_cases c19 : 0 ≤ (ji18)
                      · rw [if_pos c19] at H
                        have c19b0 := eq_true c19
                        have c19b1 : decide (0 ≤ (ji18)) = true := decide_eq_true c19
                        clear c19
                        by_cases c20 : (ji18) ≤ (wrap64 ((wrap64 (x38_2 + 1)) * a0))
                        · rw [if_pos c20] at H
                          have c20b0 := eq_true c20
                          have c20b1 : decide ((ji18) ≤ (wrap64 ((wrap64 (x38_2 + 1)) * a0))) = true := decide_eq_true c20
                          by_cases c21 : (wrap64 ((wrap64 (x38_2 + 1)) * a0)) ≤ (a2.size : Int)
                          · rw [if_pos c21] at H
                            have c21b0 := eq_true c21
                            have c21b1 : decide ((wrap64 ((wrap64 (x38_2 + 1)) * a0)) ≤ (a2.size : Int)) = true := decide_eq_true c21
                            by_cases c22 : 0 ≤ x38_2
                            · rw [if_pos c22] at H
                              have c22b0 : decide (0 ≤ x38_2) = true := decide_eq_true c22
                              clear c22
                              by_cases c23 : x38_2 < (x9_2.length : Int)
                              · rw [if_pos c23] at H
                                have c23b0 : decide (x38_2 < (x9_2.length : Int)) = true := decide_eq_true c23
                                clear c23
                                obtain ⟨y171, hy171⟩ : ∃ y_ : List ByteArray, y_ = (x9_2.set (x38_2 : Int).toNat (a2.extract ((ji18) : Int).toNat ((wrap64 ((wrap64 (x38_2 + 1)) * a0)) : Int).toNat)) := ⟨_, rfl⟩
                                replace H : (fixed_Unpack.l0 k2 a0 a2 y171 (ji12) (wrap64 (x38_2 + 1))) = some (r1, r2) := by first | (rw [hy171]; with_reducible exact H) | (have H2_ := (Option.bind_some _ _).symm.trans H; rw [hy171]; with_reducible exact H2_) | (have H2_ := (Option.bind_some _ _).symm.trans H; with_reducible exact H2_) | with_reducible exact H | (rw [hy171]; exact H) | exact H
                                have Ny171 := Aside0.mk hy171
                                clear hy171
                                have H' := Aside0.mk H
                                clear H
                                have p24 : 0 ≤ (x38_2 : Int) := of_decide_eq_true (by first | (with_reducible assumption) | assumption)
                                have q24 : (x38_2 : Int) < ((x9_2.length : Int) : Int) := of_decide_eq_true (by first | (with_reducible assumption) | assumption)
                                obtain ⟨go24, co24, eo24, gb24, gl24, cl24, HG24⟩ := Kd.R_form HO_9.out (by omega)
                                (first | cases eo24 | (injection eo24 with ea_ en_ ec_; (first | subst ea_ | (injection ea_ with ea_; subst ea_)); subst ec_; clear en_))
                                have GB24 := Aside0.mk gb24
                                have GG24 := Aside0.mk HG24
                                clear gb24 gl24 HG24
                                obtain ⟨hx24_0, hf24_0⟩ := Kd.R_celln (⟨#[]⟩ : ByteArray) HO_9.out (x38_2 : Int) p24 q24
                                replace p24 := eq_true p24
                                replace q24 := eq_true q24
                                have HP25 := Kd.R_putg HO_9.out (x38_2 : Int) (a2.extract ((ji18) : Int).toNat ((wrap64 ((wrap64 (x38_2 + 1)) * a0)) : Int).toNat)
                                go_wp2_with (first | ((with_reducible refine gate_store (t := 9) (p := 52) rfl ?_); refine store_event (t := 9) (p := 52) (v := ?vo_w26) (w1 := (wr.setCell ⟨go24, (x38_2 : Int).toNat, none⟩ (.string (a2.extract ((ji18) : Int).toNat ((wrap64 ((wrap64 (x38_2 + 1)) * a0)) : Int).toNat)))) ?hg ?ho ?hn ?hr ?_; (case ho => rfl); (case hg => rfl); (case hn => rfl); (case hr => first | (go_simp; done) | (go_simp; rfl)); intro w26 hw; have hg : wr.grownBy w26 (some go24) := (by rw [hw]; exact HP25.2); have hp_ : Kd.R Kd.string 9 w26 w.heap.size (fun _ => True) (.slice (some ⟨go24, 0, none⟩) x9_2.length co24) y171 := (by rw [hw, Ny171.out]; exact HP25.1); clear HP25; have n0_ := Aside0.mk (hp_); have n1_ := Aside0.mk ((by rw [hw]; exact below_set (HB.out) GB24.out : Below w.heap.size w w26)); clear HO_9; clear HB; have HO_9 := n0_; have HB := n1_; clear n0_ n1_; clear hg hw hp_))
                                go_roundg k2
                                case measure => have := HJ6.out; have := HK2.out; omega
                                case rel => exact ⟨(y171), (wrap64 (x38_2 + 1)), (by first | rfl | (simp; done) | (simp [*]; done)), H', ⟨by have := HJ6.out; have := HK2.out; omega⟩, ⟨by (with_reducible repeat (first | apply Kd.R_alloc | apply Kd.R_drewN | apply Kd.R_drew)); exact HO_9.out⟩, ⟨by repeat (first | (with_reducible first | exact HB.out | apply below_alloc | apply pw_below_drewN | apply below_drew1) | exact HB.out)⟩⟩
                              · rw [if_neg c23] at H
                                exact absurd H (by simp)
                            · rw [if_neg c22] at H
                              exact absurd H (by simp)
                          · rw [if_neg c21] at H
                            exact absurd H (by simp)
                        · rw [if_neg c20] at H
                          exact absurd H (by simp)
                      · rw [if_neg c19] at H
                        exact absurd H (by simp)
                    · rw [if_neg c17] at H
                      have c17b0 : decide (x38_2 < (ji12)) = false := decide_eq_false c17
                      clear c17
                      simp only [Option.some.injEq, Prod.mk.injEq] at H
                      obtain ⟨rfl, rfl⟩ := H
                      go_wp2
                      go_ret2
                      exact ⟨_, by first | rfl | (simp [errW_none, errW_some] <;> rfl) | (simp only [← hji12]; first | rfl | (simp [errW_none, errW_some] <;> rfl)) | (simp [*, errW_none, errW_some] <;> rfl), by (with_reducible repeat (first | apply Kd.R_alloc | apply Kd.R_drewN | apply Kd.R_drew)); exact HO_9.out, by repeat (first | (with_reducible first | exact HB.out | apply below_alloc | apply pw_below_drewN | apply below_drew1) | exact HB.out)⟩
              · rw [if_neg c14] at H
                exact absurd H (by simp)
            · rw [if_neg c13] at H
              exact absurd H (by simp)
  · replace c5 := Bool.eq_false_iff.mpr c5
    subst c5
    have H1 : (some (([] : List ByteArray), 1)) = some (r1, r2) := by rw [if_neg (show ¬ (false = true) by decide)] at H; exact H
    clear H
    have H := H1
    clear H1
    simp only [Option.some.injEq, Prod.mk.injEq] at H
    obtain ⟨rfl, rfl⟩ := H
    go_enter Try.func19, Try.ntmps19
    go_wp2_with (first | ((with_reducible refine gate_callee (f := 14) rfl ?_); refine goesL_ (some 13) rfl rfl Try.func14 (by kernel_rfl) rfl #[.int .i64 a0, .int .i64 a1] rfl (by (try simp only [List.map_toArray, List.map_cons, List.map_nil]); first | done | rfl | (simp only [List.length_drop, List.length_take]; rfl)) ?_; (with_reducible refine (fixed_Valid.calls a0 a1 false _ A4.out).mono ?_); rintro e w' ⟨rfl, ⟨nd, rfl⟩⟩; refine ⟨_, rfl, ?_⟩))
    go_ret2
    exact ⟨_, by first | rfl | (simp [errW_none, errW_some] <;> rfl) | (simp [*, errW_none, errW_some] <;> rfl), by first | exact Kd.R_nil _ _ _ _ _ | exact Kd.N_nil _ _ _ _ _ | exact Kd.V_nil _ _ _ _ _ | exact Kd.Q_nil _ _ _ _ _ | exact Kd.S_nil _ _ _ _ _, by repeat (first | (with_reducible first | exact HB.out | apply below_alloc | apply pw_below_drewN | apply below_drew1) | exact HB.out)⟩

end Go.Proofs.Ytginemabhdjmfaa.XFx
